/- The walks, joined. -/
import Derived.Shelf.Sort.Plain
import Derived.Ground.NamesProg
import Derived.Test.YtijgbppkdaiikaaGreatCw2
set_option linter.unusedSimpArgs false
set_option linter.unusedVariables false
namespace Go.Proofs.YtijgbppkdaiikaaGreat
open Go.Proofs.Tryz Go.Tk

structure Dk where
 size : Nat
 pages : Int → Option (List UInt8)
 cache : Int → Option (List UInt8)
 fuse : Int
 dead : Bool
 done : Int

def zero256 : List UInt8 := List.replicate 256 0
theorem zero256_len : zero256.length = 256 := List.length_replicate
theorem zero256_cells : zero256.map bv = List.replicate 256 (.int .u8 0) := by unfold zero256; rw [List.map_replicate]; rfl
def upd {β : Type} (f : Int → β) (k : Int) (v : β) : Int → β := fun j => if j = k then v else f j
namespace Dk
def chk (s : Dk) (i : Int) : Int := if s.dead then 10 else if i < 0 ∨ (s.size : Int) ≤ i then 2 else 0
def stored (s : Dk) (i : Int) : List UInt8 := (s.pages i).getD zero256
def get (s : Dk) (i : Int) : List UInt8 := (s.cache i).getD (s.stored i)
def burn (s : Dk) : Dk := { s with done := IntKind.i64.wrap (s.done + 1), fuse := if 0 < s.fuse then s.fuse - 1 else s.fuse, dead := (if 0 < s.fuse then s.fuse - 1 else s.fuse) == 0 }
def write (s : Dk) (i : Int) (b : List UInt8) : Dk := { s with cache := upd s.cache i (some b) }.burn
def sync (s : Dk) : Dk := { s with pages := fun j => (s.cache j).or (s.pages j), cache := fun _ => none }.burn
structure Ok (s : Dk) : Prop where
 s0 : 8 ≤ s.size
 s1 : s.size ≤ 1024
 fuse0 : -1 ≤ s.fuse
 fuse1 : s.fuse ≤ 9223372036854775807
 pages : ∀ i b, s.pages i = some b → b.length = 256
 cache : ∀ i b, s.cache i = some b → b.length = 256
theorem Ok.stored {s : Dk} (h : s.Ok) (i : Int) : (s.stored i).length = 256 := by
 unfold Dk.stored
 cases hp : s.pages i with
 | none => exact List.length_replicate
 | some b => exact h.pages i b hp
theorem Ok.get {s : Dk} (h : s.Ok) (i : Int) : (s.get i).length = 256 := by
 unfold Dk.get
 cases hp : s.cache i with
 | none => exact h.stored i
 | some b => exact h.cache i b hp
theorem Ok.burn {s : Dk} (h : s.Ok) : s.burn.Ok := by
 have h0 := h.fuse0
 have h1 := h.fuse1
 refine ⟨h.s0, h.s1, ?_, ?_, h.pages, h.cache⟩
 ·show -1 ≤ if 0 < s.fuse then s.fuse - 1 else s.fuse; split <;> omega
 ·show (if 0 < s.fuse then s.fuse - 1 else s.fuse) ≤ _; split <;> omega
theorem Ok.write {s : Dk} (h : s.Ok) (i : Int) {b : List UInt8} (hb : b.length = 256) : (s.write i b).Ok := by
 refine Ok.burn ⟨h.s0, h.s1, h.fuse0, h.fuse1, h.pages, fun j x hx => ?_⟩
 simp only [upd] at hx
 split at hx
 ·rw [← Option.some.inj hx]; exact hb
 ·exact h.cache j x hx
theorem Ok.sync {s : Dk} (h : s.Ok) : s.sync.Ok := by
 refine Ok.burn ⟨h.s0, h.s1, h.fuse0, h.fuse1, fun j x hx => ?_, fun j x hx => by cases hx⟩
 simp only at hx
 cases hc : s.cache j with
 | none => rw [hc] at hx; exact h.pages j x (by simpa using hx)
 | some y => rw [hc] at hx; simp at hx; subst hx; exact h.cache j y hc
end Dk

/-- A map of bytes. -/
structure MapB (S : Store) (l : List Ent) (ck : Nat) (m : Int → Option (List UInt8)) : Prop where
 ok : MapOk l ck
 all : ∀ j, OptR (Bs S []) (mfind l j) (m j)
theorem MapB.mono {S S' : Store} {l : List Ent} {ck : Nat} {m : Int → Option (List UInt8)} (h : MapB S l ck m) (s : S.le S') : MapB S' l ck m := ⟨h.ok, fun j => (h.all j).mono fun a b q => q.mono (Sees.le s _)⟩
theorem MapB.nil (S : Store) (ck : Nat) : MapB S [] ck (fun _ => none) := ⟨MapOk.nil ck, fun _ => trivial⟩
theorem MapB.put {S : Store} {l : List Ent} {ck : Nat} {m : Int → Option (List UInt8)} (h : MapB S l ck m) (i : Int) {v : Value} {b : List UInt8} (hb : Bs S [] v b) : MapB S (mput l i v ck) (mck l i ck) (upd m i (some b)) := by
 refine ⟨h.ok.put i v, fun j => ?_⟩
 rw [mfind_put]
 unfold upd
 by_cases hj : j = i
 ·rw [if_pos hj, if_pos hj]; exact hb
 ·rw [if_neg hj, if_neg hj]; exact h.all j

def dkObj (s : Dk) (pm cm : Nat) : Obj := .cells #[.int .i64 (s.size : Int), .map (some pm), .map (some cm), .int .i64 s.fuse, .bool s.dead, .int .i64 s.done] 165 (0, 0)
/-- A disk in memory. -/
structure DkC (S : Store) (b : Nat) (s : Dk) (pm cm : Nat) (pl cl : List Ent) (pc cc : Nat) (fp : Heap) : Prop where
 ok : s.Ok
 pages : MapB S pl pc s.pages
 cache : MapB S cl cc s.cache
 fp : fp = [(b, dkObj s pm cm), (pm, mobj pl pc), (cm, mobj cl cc)]
/-- The disk, with what is inside hidden. -/
def DkR (S : Store) (b : Nat) (s : Dk) (fp : Heap) : Prop := ∃ pm cm pl cl pc cc, DkC S b s pm cm pl cl pc cc fp
theorem DkR.mono {S S' : Store} {b : Nat} {s : Dk} {fp : Heap} (h : DkR S b s fp) (le : S.le S') : DkR S' b s fp := by
 obtain ⟨pm, cm, pl, cl, pc, cc, h⟩ := h
 exact ⟨pm, cm, pl, cl, pc, cc, h.ok, h.pages.mono le, h.cache.mono le, h.fp⟩
theorem DkR.ok {S : Store} {b : Nat} {s : Dk} {fp : Heap} (h : DkR S b s fp) : s.Ok := by
 obtain ⟨pm, cm, pl, cl, pc, cc, h⟩ := h; exact h.ok

section
variable {w0 : World} {F : Nat → Prop} {S : Store} {Hr : Heap} {w : World}

theorem diskSize_ok {b : Nat} {s : Dk} {fp : Heap} (hd : DkR S b s fp) (hw : Hp w0 F S (fp ++ Hr) w) :
 Calls Tryz.prog 87 #[.pointer (some ⟨b, 0, none⟩)] w fun e w' => e = .returned (.int .i64 (s.size : Int)) ∧ Hp w0 F S (fp ++ Hr) w' := by
 obtain ⟨pm, cm, pl, cl, pc, cc, hok, hp, hc, rfl⟩ := hd
 unfold dkObj at *
 refine enterA hw func87 rfl ntmps87 rfl rfl ?_
 refine sD (sA rfl (sN (sC (sD (sM rfl ?_)))))
 refine L.w rfl (V.eqlPtr rfl rfl underlying26) ?_
 refine sN (sP rfl (sK (sD (sM rfl (sW rfl ?_)))))
 refine L.w rfl (V.fa rfl underlying165 rfl rfl sizeOf3) ?_
 refine L.w rfl (V.load rfl isAgg3 zAt (by rfl)) ?_
 refine sA rfl (sN ?_)
 refine R.ret1 results87 rfl (fun w hw => ?_)
 exact ⟨rfl, hw⟩

theorem diskCheck_ok {b : Nat} {s : Dk} {fp : Heap} (hd : DkR S b s fp) (i : Int) (hw : Hp w0 F S (fp ++ Hr) w) :
 Calls Tryz.prog 82 #[.pointer (some ⟨b, 0, none⟩), .int .i64 i] w fun e w' => e = .returned (.int .i64 (s.chk i)) ∧ Hp w0 F S (fp ++ Hr) w' := by
 obtain ⟨pm, cm, pl, cl, pc, cc, hok, hp, hc, rfl⟩ := hd
 unfold dkObj at *
 refine enterA hw func82 rfl ntmps82 rfl rfl ?_
 refine sD (sA rfl (sN (sC (sB (sD (sM rfl ?_))))))
 refine L.w rfl (V.eqlPtr rfl rfl underlying26) ?_
 refine sA rfl (sN (sP rfl (sD (sM rfl (sW rfl ?_)))))
 refine L.w rfl (V.fa rfl underlying165 rfl rfl sizeOf4) ?_
 refine L.w rfl (V.load rfl isAgg4 zAt (by rfl)) ?_
 refine sA rfl (sN ?_)
 refine C.cond rfl (fun h8 => ?_) (fun h8 => ?_)
 ·try simp only [sq] at h8
  refine sD (sA rfl (sN ?_))
  refine R.ret1 results82 rfl (fun w hw => ?_)
  exact ⟨by unfold Dk.chk; rw [if_pos h8], hw⟩
 ·try simp only [sq] at h8
  refine sD (sM rfl (sQc rfl (sM rfl ?_)))
  refine L.fork (d := 16) rfl (fun h16 => ?_) (fun h16 => ?_)
  ·try simp only [sq] at h16
   refine sS rfl (sS rfl (sS rfl (sS rfl (sS rfl (sS rfl (sT rfl (sA rfl (sN (sO rfl (sD (sA rfl (sN ?_))))))))))))
   refine R.ret1 results82 rfl (fun w hw => ?_)
   refine ⟨by unfold Dk.chk; rw [if_neg (by rw [h8]; exact Bool.false_ne_true), if_pos (by omega)], hw⟩
  ·try simp only [sq] at h16
   refine sM rfl (sM rfl (sW rfl ?_))
   refine L.w rfl (V.fa rfl underlying165 rfl rfl sizeOf3) ?_
   refine L.w rfl (V.load rfl isAgg3 zAt (by rfl)) ?_
   refine sQf rfl (sU rfl (sA rfl (sN ?_)))
   refine C.cond rfl (fun h13 => ?_) (fun h13 => ?_)
   ·try simp only [sq] at h13
    refine sD (sA rfl (sN ?_))
    refine R.ret1 results82 rfl (fun w hw => ?_)
    refine ⟨by unfold Dk.chk; rw [if_neg (by rw [h8]; exact Bool.false_ne_true), if_pos (by omega)], hw⟩
   ·try simp only [sq] at h13
    refine C.skip (N.blk (N.seq ?_))
    refine sD (sA rfl (sN ?_))
    refine R.ret1 results82 rfl (fun w hw => ?_)
    refine ⟨by unfold Dk.chk; rw [if_neg (by rw [h8]; exact Bool.false_ne_true), if_neg (by omega)], hw⟩

theorem MapB.get {S : Store} {l : List Ent} {ck : Nat} {m : Int → Option (List UInt8)} (h : MapB S l ck m) (i : Int) : (∃ v b, mfind l i = some v ∧ m i = some b ∧ Bs S [] v b) ∨ (mfind l i = none ∧ m i = none) := by
 have := h.all i
 cases hv : mfind l i with
 | none => rw [hv] at this; exact .inr ⟨rfl, this.noneL⟩
 | some v => rw [hv] at this; obtain ⟨b, h1, h2⟩ := this.someL; exact .inl ⟨v, b, rfl, h1, h2⟩

/-- What a clone gives. -/
theorem diskStored_ok {b : Nat} {s : Dk} {fp : Heap} (hd : DkR S b s fp) (i : Int) (hw : Hp w0 F S (fp ++ Hr) w) :
 Calls Tryz.prog 94 #[.pointer (some ⟨b, 0, none⟩), .int .i64 i] w fun e w' => ∃ v fp', e = .returned v ∧ Bs S (fp' ++ (fp ++ Hr)) v (s.stored i) ∧ Hp w0 F S (fp' ++ (fp ++ Hr)) w' := by
 obtain ⟨pm, cm, pl, cl, pc, cc, hok, hp, hc, rfl⟩ := hd
 unfold dkObj at *
 refine enterA hw func94 rfl ntmps94 rfl rfl ?_
 refine sD (sA rfl (sN (sC (sD (sM rfl (sW rfl ?_))))))
 refine L.w rfl (V.fa rfl underlying165 rfl rfl sizeOf158) ?_
 refine L.w rfl (V.load rfl isAgg158 zAt (by rfl)) ?_
 refine sM rfl ?_
 obtain ⟨v, hv⟩ : ∃ v, v = (mfind pl i).getD (.slice none 0 0) := ⟨_, rfl⟩
 obtain ⟨t, ht⟩ : ∃ t, t = (mfind pl i).isSome := ⟨_, rfl⟩
 refine L.w rfl (V.lookup (v := .tuple #[v, .bool t]) rfl rfl underlying158 underlying3 zeroValue22 zAt (by rw [hv, ht]; rfl)) ?_
 refine sM rfl (sX rfl (sX rfl (sA rfl (sA rfl (sE (sM rfl (sN ?_)))))))
 refine C.cond rfl (fun h16 => ?_) (fun h16 => ?_)
 ·try simp only [sq] at h16
  refine sD (sM rfl (sA rfl (sN ?_)))
  refine R.ret1 results94 rfl (fun w hw => ?_)
  rcases hp.get i with ⟨v1, b1, e1, e2, hb⟩ | ⟨e1, e2⟩
  ·refine ⟨v, [], rfl, ?_, hw⟩
   rw [hv, e1]
   unfold Dk.stored
   rw [e2]; exact hb.lift _
  ·rw [ht, e1] at h16; cases h16
 ·try simp only [sq] at h16
  refine sK (sD ?_)
  refine L.make (m := 256) (c := 256) rfl rfl rfl rfl underlying22 info_u8 rfl rfl rfl (Nat.le_refl _) (by decide) (by decide) (fun b18 => ?_)
  refine sA rfl (sN ?_)
  refine R.ret1 results94 rfl (fun w hw => ?_)
  rcases hp.get i with ⟨v1, b1, e1, e2, hb⟩ | ⟨e1, e2⟩
  ·rw [ht, e1] at h16; cases h16
  ·refine ⟨_, [(b18, _)], rfl, ?_, hw⟩
   unfold Dk.stored
   rw [e2]
   show Bs _ _ _ zero256
   unfold Bs
   rw [zero256_len, zero256_cells]
   exact Own.rd (m := 256) (e := 5) (fp := [(b18, .cells (List.replicate 256 (Value.int .u8 0)).toArray 5 (0, 0))]) (Own.full (by rw [List.length_replicate]) (by omega)) (fun q hq => List.mem_append_left _ hq)

theorem diskRead_ok {b : Nat} {s : Dk} {fp : Heap} (hd : DkR S b s fp) (i : Int) (hw : Hp w0 F S (fp ++ Hr) w) :
 Calls Tryz.prog 85 #[.pointer (some ⟨b, 0, none⟩), .int .i64 i] w fun e w' => ∃ v fp', e = .returned (.tuple #[v, .int .i64 (s.chk i)]) ∧ ((s.chk i = 0 ∧ OwnB 5 v (s.get i) fp') ∨ (s.chk i ≠ 0 ∧ v = .slice none 0 0 ∧ fp' = [])) ∧ Hp w0 F S (fp' ++ (fp ++ Hr)) w' := by
 have hd0 := hd
 have hlen := hd.ok.get i
 obtain ⟨pm, cm, pl, cl, pc, cc, hok, hp, hc, rfl⟩ := hd
 refine enterA hw func85 rfl ntmps85 rfl rfl ?_
 refine sD (sA rfl (sA rfl (sN (sC (sD (sM rfl (sM rfl ?_)))))))
 refine L.call rfl rfl rfl call82 rfl (fun w hw => diskCheck_ok hd0 i hw) ?_
 rintro _ a w hst ⟨rfl, hw⟩
 refine hst.go rfl hw ?_
 clear hst hw w a
 refine sA rfl (sE (sM rfl (sQb rfl (sN ?_))))
 refine C.cond rfl (fun h13 => ?_) (fun h13 => ?_)
 ·try simp only [sq] at h13
  refine sD (sM rfl (sA rfl (sA rfl (sN ?_))))
  refine R.ret2 results85 rfl rfl (fun w hw => ?_)
  exact ⟨_, [], rfl, .inr ⟨h13, rfl, rfl⟩, hw⟩
 ·try simp only [sq] at h13
  have h13 : s.chk i = 0 := h13
  unfold dkObj
  refine sK (sC (sD (sM rfl (sW rfl ?_))))
  refine L.w rfl (V.fa rfl underlying165 rfl rfl sizeOf158) ?_
  refine L.w rfl (V.load rfl isAgg158 zAt (by rfl)) ?_
  refine sM rfl ?_
  obtain ⟨v, hv⟩ : ∃ v, v = (mfind cl i).getD (.slice none 0 0) := ⟨_, rfl⟩
  obtain ⟨t, ht⟩ : ∃ t, t = (mfind cl i).isSome := ⟨_, rfl⟩
  refine L.w rfl (V.lookup (v := .tuple #[v, .bool t]) rfl rfl underlying158 underlying3 zeroValue22 zAt (by rw [hv, ht]; rfl)) ?_
  refine sM rfl (sX rfl (sX rfl (sA rfl (sA rfl (sE (sM rfl (sN ?_)))))))
  refine C.cond rfl (fun h24 => ?_) (fun h24 => ?_)
  ·try simp only [sq] at h24
   refine sD (sM rfl ?_)
   obtain ⟨b1, e2, hb⟩ : ∃ b1, s.cache i = some b1 ∧ Bs S [] v b1 := by
    rcases hc.get i with ⟨v1, b1, e1, e2, hb⟩ | ⟨e1, e2⟩
    ·exact ⟨b1, e2, by rw [hv, e1]; exact hb⟩
    ·rw [ht, e1] at h24; cases h24
   have hg : s.get i = b1 := by unfold Dk.get; rw [e2]; rfl
   rw [hg] at hlen
   refine L.call rfl rfl rfl call83 rfl (fun w hw => clone_bytes (hb.lift _) (bv_one _) (by omega) hw) ?_
   rintro _ a w hst ⟨v26, fp26, rfl, ho26, hw⟩
   refine hst.go rfl hw ?_
   clear hst hw w a
   refine sA rfl (sA rfl (sN ?_))
   refine R.ret2 results85 rfl rfl (fun w hw => ?_)
   exact ⟨_, fp26, by rw [h13], .inl ⟨h13, by rw [hg]; exact ho26⟩, hw⟩
  ·try simp only [sq] at h24
   refine sK (sD (sM rfl (sM rfl ?_)))
   have hg : s.get i = s.stored i := by
    rcases hc.get i with ⟨v1, b1, e1, e2, hb⟩ | ⟨e1, e2⟩
    ·rw [ht, e1] at h24; cases h24
    ·unfold Dk.get; rw [e2]; rfl
   rw [hg] at hlen
   refine L.call rfl rfl rfl call94 rfl (fun w hw => diskStored_ok hd0 i hw) ?_
   rintro _ a w hst ⟨v29, fp29, rfl, hb29, hw⟩
   refine hst.go rfl hw ?_
   clear hst hw w a
   refine L.call rfl rfl rfl call83 rfl (fun w hw => clone_bytes hb29 (bv_one _) (by omega) hw) ?_
   rintro _ a w hst ⟨v30, fp30, rfl, ho30, hw⟩
   refine hst.go rfl hw ?_
   clear hst hw w a
   refine sA rfl (sA rfl (sN ?_))
   refine R.ret2 results85 rfl rfl (fun w hw => ?_)
   exact ⟨_, fp30, by rw [h13], .inl ⟨h13, by rw [hg]; exact ho30⟩, hw.sub zSub⟩

theorem add64_ok {b off : Nat} {l l' : List Value} {T : TypeId} {a : Int} {H H' : Heap} (hl : l[off]? = some (.int .i64 a)) (u : Upd b (.cells l.toArray T (0, 0)) (.cells l'.toArray T (0, 0)) H H') (hs : SetAt (.int .i64 (IntKind.i64.wrap (a + 1))) off l l') (hw : Hp w0 F S H w) :
 Calls Tryz.prog 132 #[.pointer (some ⟨b, off, none⟩), .int .i64 1] w fun e w' => e = .returned (.int .i64 (IntKind.i64.wrap (a + 1))) ∧ Hp w0 F S H' w' := by
 refine enterA hw func132 rfl ntmps132 rfl rfl ?_
 refine sD (sA rfl (sE (sM rfl (sW rfl ?_))))
 refine L.w rfl (V.fa rfl underlying163 rfl rfl sizeOf2) ?_
 refine sM rfl ?_
 refine L.extern (A' := Hp w0 F S H') (args := #[.pointer (some ⟨b, off, none⟩), .int .i64 1]) (v := .int .i64 (IntKind.i64.wrap (a + 1))) rfl rfl rfl rfl rfl (fun w hw => ?_) ?_
 ·obtain ⟨w', h1, h2⟩ := run_aadd64 (P := Tryz.prog) hw hl u hs
  refine ⟨w', ?_, h2⟩
  rw [run_callFunc_extern func173 (by kernel_rfl) (by kernel_rfl) (by kernel_rfl) (e := Extern.Atomic.update (Op.intArith .add) .i64 true) (by kernel_rfl), h1]
  rfl
 refine sA rfl (sN ?_)
 refine R.ret1 results132 rfl (fun w hw => ?_)
 exact ⟨rfl, hw⟩

theorem burn_ok {b : Nat} {s : Dk} {fp : Heap} (hd : DkR S b s fp) (hw : Hp w0 F S (fp ++ Hr) w) :
 Calls Tryz.prog 84 #[.pointer (some ⟨b, 0, none⟩)] w fun e w' => ∃ fp', e = .returned (.tuple #[]) ∧ DkR S b s.burn fp' ∧ Hp w0 F S (fp' ++ Hr) w' := by
 obtain ⟨pm, cm, pl, cl, pc, cc, hok, hp, hc, rfl⟩ := hd
 have k1 := hok.fuse0
 have k2 := hok.fuse1
 refine enterA hw func84 rfl ntmps84 rfl rfl ?_
 unfold dkObj
 refine sD (sM rfl (sW rfl ?_))
 refine L.w rfl (V.fa rfl underlying165 rfl rfl sizeOf163) ?_
 refine L.call rfl rfl rfl call132 rfl (fun w hw => add64_ok (off := 5) (a := s.done) (l := [.int .i64 (s.size : Int), .map (some pm), .map (some cm), .int .i64 s.fuse, .bool s.dead, .int .i64 s.done]) (l' := [.int .i64 (s.size : Int), .map (some pm), .map (some cm), .int .i64 s.fuse, .bool s.dead, .int .i64 (IntKind.i64.wrap (s.done + 1))]) rfl .head zSet hw) ?_
 rintro _ a w hst ⟨rfl, hw⟩
 refine hst.go rfl hw ?_
 clear hst hw w a
 refine sN (sC (sD (sM rfl (sW rfl ?_))))
 refine L.w rfl (V.fa rfl underlying165 rfl rfl sizeOf3) ?_
 refine L.w rfl (V.load rfl isAgg3 zAt (by rfl)) ?_
 refine sQe rfl (sN ?_)
 refine C.cond rfl (fun h10 => ?_) (fun h10 => ?_)
 ·try simp only [sq] at h10
  refine sR (sM rfl (sW rfl ?_))
  refine L.w rfl (V.fa rfl underlying165 rfl rfl sizeOf3) ?_
  refine L.w rfl (V.load rfl isAgg3 zAt (by rfl)) ?_
  refine L.w rfl (V.sub rfl rfl (w64 (by omega) (by omega))) ?_
  refine sW rfl ?_
  refine L.w rfl (V.fa rfl underlying165 rfl rfl sizeOf3) ?_
  refine L.store rfl rfl rfl sizeOf3 rfl zUp zSet ?_
  refine sN (sR (sM rfl (sM rfl (sW rfl ?_))))
  refine L.w rfl (V.fa rfl underlying165 rfl rfl sizeOf3) ?_
  refine L.w rfl (V.load rfl isAgg3 zAt (by rfl)) ?_
  refine sQa rfl (sW rfl ?_)
  refine L.w rfl (V.fa rfl underlying165 rfl rfl sizeOf4) ?_
  refine L.store rfl rfl rfl sizeOf4 rfl zUp zSet ?_
  refine L.nil ?_
  refine R.fall0 results84 (fun w hw => ?_)
  refine ⟨_, rfl, ⟨pm, cm, pl, cl, pc, cc, hok.burn, hp, hc, rfl⟩, ?_⟩
  unfold dkObj Dk.burn
  first
   | (rw [if_pos (by omega)]; exact hw)
   | (rw [if_neg (by omega)]; exact hw)
 ·try simp only [sq] at h10
  refine sK (sR (sM rfl (sM rfl (sW rfl ?_))))
  refine L.w rfl (V.fa rfl underlying165 rfl rfl sizeOf3) ?_
  refine L.w rfl (V.load rfl isAgg3 zAt (by rfl)) ?_
  refine sQa rfl (sW rfl ?_)
  refine L.w rfl (V.fa rfl underlying165 rfl rfl sizeOf4) ?_
  refine L.store rfl rfl rfl sizeOf4 rfl zUp zSet ?_
  refine L.nil ?_
  refine R.fall0 results84 (fun w hw => ?_)
  refine ⟨_, rfl, ⟨pm, cm, pl, cl, pc, cc, hok.burn, hp, hc, rfl⟩, ?_⟩
  unfold dkObj Dk.burn
  first
   | (rw [if_pos (by omega)]; exact hw)
   | (rw [if_neg (by omega)]; exact hw)

theorem diskWrite_ok {b : Nat} {s : Dk} {fp : Heap} (hd : DkR S b s fp) (i : Int) {v : Value} {l : List UInt8} (hb : Bs S Hr v l) (hl : l.length ≤ 1000000) (hw : Hp w0 F S (fp ++ Hr) w) :
 Calls Tryz.prog 22 #[.pointer (some ⟨b, 0, none⟩), .int .i64 i, v] w fun e w' => ∃ S' fp' s' err, e = .returned (.int .i64 err) ∧ S.le S' ∧ DkR S' b s' fp' ∧ ((err = 0 ∧ s.chk i = 0 ∧ l.length = 256 ∧ s' = s.write i l) ∨ (err ≠ 0 ∧ err = (if s.chk i ≠ 0 then s.chk i else 4) ∧ ¬ (s.chk i = 0 ∧ l.length = 256) ∧ s' = s)) ∧ Hp w0 F S' (fp' ++ Hr) w' := by
 have hd0 := hd
 obtain ⟨pm, cm, pl, cl, pc, cc, hok, hp, hc, rfl⟩ := hd
 obtain ⟨ad, c, rfl, _⟩ := hb.form
 refine enterA hw func22 rfl ntmps22 rfl rfl ?_
 refine sD (sA rfl (sN (sC (sD (sM rfl (sM rfl ?_))))))
 refine L.call rfl rfl rfl call82 rfl (fun w hw => diskCheck_ok hd0 i hw) ?_
 rintro _ a w hst ⟨rfl, hw⟩
 refine hst.go rfl hw ?_
 clear hst hw w a
 refine sA rfl (sE (sM rfl (sQb rfl (sN ?_))))
 refine C.cond rfl (fun h12 => ?_) (fun h12 => ?_)
 ·try simp only [sq] at h12
  refine sD (sM rfl (sA rfl (sN ?_)))
  refine R.ret1 results22 rfl (fun w hw => ?_)
  exact ⟨S, _, s, _, rfl, .refl S, hd0, .inr ⟨h12, by rw [if_pos h12], fun h => h12 h.1, rfl⟩, hw⟩
 ·try simp only [sq] at h12
  have h12 : s.chk i = 0 := h12
  refine sK (sC (sD (sM rfl ?_)))
  refine L.w rfl (V.len rfl underlying22) ?_
  refine sQb rfl (sN ?_)
  refine C.cond rfl (fun h16 => ?_) (fun h16 => ?_)
  ·try simp only [sq] at h16
   refine sD (sA rfl (sN ?_))
   refine R.ret1 results22 rfl (fun w hw => ?_)
   exact ⟨S, _, s, _, rfl, .refl S, hd0, .inr ⟨by decide, by rw [if_neg (by omega)], fun h => by omega, rfl⟩, hw⟩
  ·try simp only [sq] at h16
   unfold dkObj
   refine sK (sC ?_)
   refine C.drawC [7] (Hp w0 F S ((b, dkObj s pm cm) :: Hr)) (fun w h => h.sub zSub) (by kernel_rfl) rfl (fun w hw => hw.drawn _) ?_
   refine D.take 0 (listed' := #[true, false, false, false, false, false, false, false]) rfl (by kernel_rfl) rfl rfl rfl rfl (V.move rfl) (fun w h => h.sub zSub) ?_
   refine D.take 1 (listed' := #[true, true, false, false, false, false, false, false]) rfl (by kernel_rfl) rfl rfl rfl rfl (V.nilCheck rfl) (fun w h => h.sub zSub) ?_
   refine D.take 2 (listed' := #[true, true, true, false, false, false, false, false]) rfl (by kernel_rfl) rfl rfl rfl rfl (V.fa rfl underlying165 rfl rfl sizeOf158) (fun w h => h.sub zSub) ?_
   refine D.take 3 (listed' := #[true, true, true, true, false, false, false, false]) rfl (by kernel_rfl) rfl rfl rfl rfl (V.load rfl isAgg158 .head (by rfl)) (fun w h => h.sub zSub) ?_
   refine D.take 4 (listed' := #[true, true, true, true, true, false, false, false]) rfl (by kernel_rfl) rfl rfl rfl rfl (V.move rfl) (fun w h => h.sub zSub) ?_
   refine D.take 5 (listed' := #[true, true, true, true, true, true, false, false]) rfl (by kernel_rfl) rfl rfl rfl rfl (V.move rfl) (fun w h => h.sub zSub) ?_
   refine D.step 6 (listed' := #[true, true, true, true, true, true, true, false]) (by kernel_rfl) rfl rfl (.inr (fun w h => h.sub zSub)) ?_
   refine L.call rfl rfl rfl call83 rfl (fun w hw => clone_bytes (m := l.length) (hb.mono (Sees.app S Hr [_, _, _])) (bv_one _) (by omega) hw) ?_
   rintro _ a w hst ⟨v23, fp23, rfl, ho23, hw⟩
   refine hst.go rfl hw ?_
   clear hst hw w a
   refine D.back ?_
   refine D.step 7 (listed' := #[true, true, true, true, true, true, true, true]) (by kernel_rfl) rfl rfl (.inr (fun w h => h.sub zSub)) ?_
   refine L.shut ho23 .done (fun S1 le1 hb23 => ?_)
   refine L.mapUpdate rfl rfl rfl rfl underlying158 underlying3 zUp ?_
   refine D.back ?_
   refine D.done (by kernel_rfl) (.inl ⟨7, by simp, rfl⟩) (N.seq ?_)
   refine sD (sM rfl ?_)
   have hd1 : DkR S1 b { s with cache := upd s.cache i (some l) } [(b, dkObj s pm cm), (pm, mobj pl pc), (cm, mobj (mput cl i v23 cc) (mck cl i cc))] := ⟨pm, cm, pl, _, pc, _, ⟨hok.s0, hok.s1, hok.fuse0, hok.fuse1, hok.pages, fun j x hx => by
    simp only [upd] at hx
    split at hx
    ·rw [← Option.some.inj hx]; omega
    ·exact hok.cache j x hx⟩, hp.mono le1, (hc.mono le1).put i hb23, rfl⟩
   refine L.call rfl rfl rfl call84 rfl (fun w hw => burn_ok hd1 hw) ?_
   rintro _ a w hst ⟨fp25, rfl, hd25, hw⟩
   refine hst.go rfl hw ?_
   clear hst hw w a
   refine sE (sA rfl (sN ?_))
   refine R.ret1 results22 rfl (fun w hw => ?_)
   exact ⟨S1, fp25, _, 0, rfl, le1, hd25, .inl ⟨rfl, h12, by omega, rfl⟩, hw⟩
end
end Go.Proofs.YtijgbppkdaiikaaGreat

set_option linter.unusedSimpArgs false
set_option linter.unusedVariables false
namespace Go.Proofs.YtijgbppkdaiikaaGreat
open Go.Proofs.Tryz Go.Tk

section
variable {w0 : World} {F : Nat → Prop} {S : Store} {Hr : Heap} {w : World}

/-- Behind a part of the entries. -/
def Partly (cl pl pl' : List Ent) (seen : Array Nat) : Prop := ∀ j, ((∃ e ∈ cl, e.born ∈ seen.toList ∧ e.key = j) → mfind pl' j = mfind cl j) ∧ (¬ (∃ e ∈ cl, e.born ∈ seen.toList ∧ e.key = j) → mfind pl' j = mfind pl j)

theorem Partly.step {cl pl pl' : List Ent} {seen : Array Nat} {cc ck : Nat} (hk : MapOk cl cc) (h : Partly cl pl pl' seen) {e : Ent} (he : e ∈ cl) : Partly cl pl (mput pl' e.key e.val ck) (seen.push e.born) := by
 intro j
 rw [mfind_put]
 by_cases hj : j = e.key
 ·subst hj
  refine ⟨fun _ => by rw [if_pos rfl, mfind_of_mem hk.keys he], fun hn => absurd ⟨e, he, by simp, rfl⟩ hn⟩
 ·rw [if_neg hj]
  have hiff : (∃ x ∈ cl, x.born ∈ (seen.push e.born).toList ∧ x.key = j) ↔ ∃ x ∈ cl, x.born ∈ seen.toList ∧ x.key = j := by
   constructor
   ·rintro ⟨x, hx, hb, rfl⟩
    refine ⟨x, hx, ?_, rfl⟩
    simp only [Array.toList_push, List.mem_append, List.mem_singleton] at hb
    rcases hb with hb | hb
    ·exact hb
    ·exact absurd (by rw [eborn_inj hk.borns hx he hb]) hj
   ·rintro ⟨x, hx, hb, rfl⟩
    exact ⟨x, hx, by simp; exact .inl (by simpa using hb), rfl⟩
  rw [hiff]; exact h j

theorem mapsCopy_ok {pm cm pc cc : Nat} {pl cl : List Ent} (hp : MapOk pl pc) (hc : MapOk cl cc) (hw : Hp w0 F S ((pm, mobj pl pc) :: (cm, mobj cl cc) :: Hr) w) :
 Calls Tryz.prog 130 #[.map (some pm), .map (some cm)] w fun e w' => ∃ pl' pc', e = .returned (.tuple #[]) ∧ MapOk pl' pc' ∧ (∀ j, mfind pl' j = (mfind cl j).or (mfind pl j)) ∧ Hp w0 F S ((pm, mobj pl' pc') :: (cm, mobj cl cc) :: Hr) w' := by
 refine enterA hw func130 rfl ntmps130 rfl rfl ?_
 refine sD (sM rfl ?_)
 refine L.range rfl rfl rfl underlying158 zAt (fun b7 => ?_)
 refine sN (sB ?_)
 refine C.loop (α := Array Nat × List Ent × Nat) (fun z => [(0, .map (some pm)), (7, .pointer (some ⟨b7, 0, none⟩))]) (fun z w => (MapOk z.2.1 z.2.2 ∧ Partly cl pl z.2.1 z.1) ∧ Hp w0 F S ((b7, itObj cm cc z.1) :: (pm, mobj z.2.1 z.2.2) :: (cm, mobj cl cc) :: Hr) w) (fun z => unseen cl z.1) (#[], pl, pc) ⟨rfl, rfl, trivial⟩ (fun w hw => ⟨⟨hp, fun j => ⟨fun ⟨e, he, hb, _⟩ => by simp at hb, fun _ => rfl⟩⟩, hw⟩) (fun z => C.pure (fun hz => ?_))
 obtain ⟨seen, pl', pc'⟩ := z
 obtain ⟨hz1, hz2⟩ := hz
 dsimp only at hz1 hz2 ⊢
 refine sD ?_
 refine L.next rfl rfl rfl hc zAt (fun e => .head) (fun e he hns => ?_) (fun hall => ?_)
 ·skip
  refine sX rfl (sN (sC (sO rfl (sK (sB (sD ?_))))))
  refine L.w rfl (V.entry (e := e) (seen := seen) (r := cm) (ck := cc) rfl hc zAt zAt he) ?_
  refine sX rfl (sX rfl (sA rfl (sA rfl (sN (sR (sM rfl (sM rfl (sM rfl ?_))))))))
  refine L.mapUpdate rfl rfl rfl rfl underlying158 underlying3 zUp ?_
  refine L.nil (N.blk ?_)
  exact N.round (seen.push e.born, mput pl' e.key e.val pc', mck pl' e.key pc') (unseen_lt he hns) ⟨rfl, rfl, trivial⟩ (fun w hw => ⟨⟨hz1.put _ _, hz2.step hc he⟩, hw⟩)
 ·skip
  refine sX rfl (sN (sC (sP rfl ?_)))
  refine C.exit rfl ?_
  refine R.fall0 results130 (fun w hw => ?_)
  refine ⟨pl', pc', rfl, hz1, fun j => ?_, hw.drop⟩
  cases hf : mfind cl j with
  | none =>
    rw [(hz2 j).2 (fun ⟨e, he, _, hk⟩ => mfind_none.1 hf e he hk)]; rfl
  | some v =>
    obtain ⟨e, he, hk, _⟩ := mfind_mem hf
    rw [(hz2 j).1 ⟨e, he, hall e he, hk⟩, hf]; rfl

theorem diskSync_ok {b : Nat} {s : Dk} {fp : Heap} (hd : DkR S b s fp) (hw : Hp w0 F S (fp ++ Hr) w) :
 Calls Tryz.prog 80 #[.pointer (some ⟨b, 0, none⟩)] w fun e w' => ∃ fp' s', e = .returned (.int .i64 (s.chk 0)) ∧ DkR S b s' fp' ∧ ((s.chk 0 = 0 ∧ s' = s.sync) ∨ (s.chk 0 ≠ 0 ∧ s' = s)) ∧ Hp w0 F S (fp' ++ Hr) w' := by
 have hd0 := hd
 obtain ⟨pm, cm, pl, cl, pc, cc, hok, hp, hc, rfl⟩ := hd
 refine enterA hw func80 rfl ntmps80 rfl rfl ?_
 refine sD (sA rfl (sN (sC (sD (sM rfl ?_)))))
 refine L.call rfl rfl rfl call82 rfl (fun w hw => diskCheck_ok hd0 0 hw) ?_
 rintro _ a w hst ⟨rfl, hw⟩
 refine hst.go rfl hw ?_
 clear hst hw w a
 refine sA rfl (sE (sM rfl (sQb rfl (sN ?_))))
 refine C.cond rfl (fun h7 => ?_) (fun h7 => ?_)
 ·try simp only [sq] at h7
  refine sD (sM rfl (sA rfl (sN ?_)))
  refine R.ret1 results80 rfl (fun w hw => ?_)
  exact ⟨_, s, rfl, hd0, .inr ⟨h7, rfl⟩, hw⟩
 ·try simp only [sq] at h7
  have h7 : s.chk 0 = 0 := h7
  refine sK (sC ?_)
  refine C.drawC [] (Hp w0 F S ((b, dkObj s pm cm) :: Hr)) (fun w h => h.sub zSub) (by kernel_rfl) rfl (fun w hw => hw.drawn _) ?_
  refine D.take 0 (listed' := #[true, false, false, false, false, false, false, false, false]) rfl (by kernel_rfl) rfl rfl rfl rfl (V.move rfl) (fun w h => h.sub zSub) ?_
  refine D.take 1 (listed' := #[true, true, false, false, false, false, false, false, false]) rfl (by kernel_rfl) rfl rfl rfl rfl (V.nilCheck rfl) (fun w h => h.sub zSub) ?_
  refine D.take 2 (listed' := #[true, true, true, false, false, false, false, false, false]) rfl (by kernel_rfl) rfl rfl rfl rfl (V.fa rfl underlying165 rfl rfl sizeOf158) (fun w h => h.sub zSub) ?_
  refine D.take 3 (listed' := #[true, true, true, true, false, false, false, false, false]) rfl (by kernel_rfl) rfl rfl rfl rfl (V.load rfl isAgg158 .head (by rfl)) (fun w h => h.sub zSub) ?_
  refine D.take 4 (listed' := #[true, true, true, true, true, false, false, false, false]) rfl (by kernel_rfl) rfl rfl rfl rfl (V.move rfl) (fun w h => h.sub zSub) ?_
  refine D.take 5 (listed' := #[true, true, true, true, true, true, false, false, false]) rfl (by kernel_rfl) rfl rfl rfl rfl (V.nilCheck rfl) (fun w h => h.sub zSub) ?_
  refine D.take 6 (listed' := #[true, true, true, true, true, true, true, false, false]) rfl (by kernel_rfl) rfl rfl rfl rfl (V.fa rfl underlying165 rfl rfl sizeOf158) (fun w h => h.sub zSub) ?_
  refine D.take 7 (listed' := #[true, true, true, true, true, true, true, true, false]) rfl (by kernel_rfl) rfl rfl rfl rfl (V.load rfl isAgg158 .head (by rfl)) (fun w h => h.sub zSub) ?_
  refine D.step 8 (listed' := #[true, true, true, true, true, true, true, true, true]) (by kernel_rfl) rfl rfl (.inr (fun w h => h.sub zSub)) ?_
  refine L.call rfl rfl rfl call130 rfl (fun w hw => mapsCopy_ok hp.ok hc.ok (hw.take (fp := [_, _]) (Hr := (b, dkObj s pm cm) :: Hr) (.skip .done))) ?_
  rintro _ a w hst ⟨pl', pc', rfl, hp1, hp2, hw⟩
  refine hst.go rfl hw ?_
  clear hst hw w a
  have hp' : MapB S pl' pc' (fun j => (s.cache j).or (s.pages j)) := ⟨hp1, fun j => by
   rw [hp2]
   rcases hc.get j with ⟨v1, b1, e1, e2, hb⟩ | ⟨e1, e2⟩
   ·rw [e1, e2]; exact hb
   ·rw [e1, e2]; exact hp.all j⟩
  refine D.back ?_
  refine D.done (by kernel_rfl) (.inr (fun w h => h.sub zSub)) (N.seq ?_)
  refine sD (sM rfl (sW rfl ?_))
  refine L.w rfl (V.fa rfl underlying165 rfl rfl sizeOf158) ?_
  refine L.w rfl (V.load rfl isAgg158 (.tail (.tail .head)) (by rfl)) ?_
  refine L.clear rfl rfl underlying158 zUp ?_
  refine sE (sM rfl ?_)
  have hd1 : DkR S b { s with pages := fun j => (s.cache j).or (s.pages j), cache := fun _ => none } [(b, dkObj s pm cm), (pm, mobj pl' pc'), (cm, mobj [] cc)] := ⟨pm, cm, pl', [], pc', cc, ⟨hok.s0, hok.s1, hok.fuse0, hok.fuse1, fun j x hx => by
   simp only at hx
   cases hcj : s.cache j with
   | none => rw [hcj] at hx; exact hok.pages j x (by simpa using hx)
   | some y => rw [hcj] at hx; simp at hx; subst hx; exact hok.cache j y hcj, fun j x hx => by cases hx⟩, hp', MapB.nil S cc, rfl⟩
  refine L.call rfl rfl rfl call84 rfl (fun w hw => burn_ok hd1 (Hr := Hr) (hw.re zRe)) ?_
  rintro _ a w hst ⟨fp25, rfl, hd25, hw⟩
  refine hst.go rfl hw ?_
  clear hst hw w a
  refine sE (sA rfl (sN ?_))
  refine R.ret1 results80 rfl (fun w hw => ?_)
  exact ⟨fp25, _, by rw [h7], hd25, .inl ⟨h7, rfl⟩, hw⟩

theorem diskNew_ok (n : Int) (hw : Hp w0 F S Hr w) :
 Calls Tryz.prog 51 #[.int .i64 n] w fun e w' => (¬ (8 ≤ n ∧ n ≤ 1024) ∧ e = .returned (.pointer none) ∧ Hp w0 F S Hr w') ∨ (8 ≤ n ∧ n ≤ 1024 ∧ ∃ b fp, e = .returned (.pointer (some ⟨b, 0, none⟩)) ∧ DkR S b ⟨n.toNat, fun _ => none, fun _ => none, -1, false, 0⟩ fp ∧ Hp w0 F S (fp ++ Hr) w') := by
 refine enterA hw func51 rfl ntmps51 rfl rfl ?_
 refine sD (sA rfl (sN (sC (sD (sM rfl (sQc rfl (sM rfl ?_)))))))
 refine L.fork (d := 5) rfl (fun h5 => ?_) (fun h5 => ?_)
 ·try simp only [sq] at h5
  refine sS rfl (sS rfl (sT rfl (sN (sO rfl (sD (sA rfl (sN ?_)))))))
  refine R.ret1 results51 rfl (fun w hw => ?_)
  refine .inl ⟨by omega, rfl, hw⟩
 ·try simp only [sq] at h5
  refine sM rfl (sQe rfl (sU rfl (sN ?_)))
  refine C.cond rfl (fun h8 => ?_) (fun h8 => ?_)
  ·try simp only [sq] at h8
   refine sD (sA rfl (sN ?_))
   refine R.ret1 results51 rfl (fun w hw => ?_)
   refine .inl ⟨by omega, rfl, hw⟩
  ·try simp only [sq] at h8
   refine sK (sD (sM rfl ?_))
   refine L.makeMap rfl rfl (fun b10 => ?_)
   refine L.makeMap rfl rfl (fun b11 => ?_)
   refine L.w rfl (V.build rfl underlying165 zeroValue165 (pl := [(0, 1), (1, 1), (2, 1), (3, 1), (4, 1), (5, 1)]) (fun w => by kernel_rfl) (Fills.cons rfl rfl rfl zPut (Fills.cons rfl rfl rfl zPut (Fills.cons rfl rfl rfl zPut (Fills.cons rfl rfl rfl zPut Fills.nil))))) ?_
   refine L.boxA rfl rfl rfl (fun b13 => ?_)
   refine sA rfl (sN ?_)
   refine R.ret1 results51 rfl (fun w hw => ?_)
   refine .inr ⟨by omega, by omega, b13, _, rfl, ⟨b10, b11, [], [], 0, 0, ⟨(by show 8 ≤ n.toNat; omega), (by show n.toNat ≤ 1024; omega), (by show (-1 : Int) ≤ -1; omega), (by show (-1 : Int) ≤ 9223372036854775807; omega), fun i b h => (by cases h), fun i b h => (by cases h)⟩, MapB.nil S 0, MapB.nil S 0, rfl⟩, ?_⟩
   unfold dkObj
   rw [Int.toNat_of_nonneg (by omega)]
   exact hw.re zRe
end
end Go.Proofs.YtijgbppkdaiikaaGreat

set_option linter.unusedSimpArgs false
set_option linter.unusedVariables false
namespace Go.Proofs.YtijgbppkdaiikaaGreat
open Go.Proofs.Tryz Go.Tk

section
variable {w0 : World} {F : Nat → Prop} {S : Store} {Hr : Heap} {w : World}

theorem ins_rising_end {v : Value} {n i vb : Nat} {xs ys : List Value} {fp : Heap} (ho : Own 3 1 v n xs fp) (hi : i = n) (hn : n ≤ 1000000) (hy : ys.length = 1) (hy1 : ∀ u ∈ ys, u.oneCell' = true) (hw : Hp w0 F S (fp ++ ((vb, .cells ys.toArray 3 (0, 0)) :: Hr)) w) :
 Calls Tryz.prog 166 #[v, .int .i64 (i : Int), .slice (some ⟨vb, 0, none⟩) 1 1] w fun e w' => ∃ v' fp', e = .returned v' ∧ Own 3 1 v' (n + 1) (xs ++ ys) fp' ∧ Hp w0 F S (fp' ++ Hr) w' := by
 subst hi
 have hyr : ∀ H, Rd S (fp ++ ((vb, .cells ys.toArray 3 (0, 0)) :: H)) 1 (.slice (some ⟨vb, 0, none⟩) 1 1) 1 ys := fun H => ⟨by rw [hy], .inr ⟨vb, 0, 1, _, _, _, rfl, ⟨Nat.le_refl _, by omega⟩, .apr .head, fun j hj => by simp⟩⟩
 obtain ⟨ad, c, rfl, hc⟩ : ∃ ad c, v = .slice ad i c ∧ i ≤ c := by
  rcases ho with ⟨rfl, rfl, _, _⟩ | ⟨b, c, js, rfl, _, _, _, h, _⟩
  ·exact ⟨_, _, rfl, Nat.le_refl _⟩
  ·exact ⟨_, _, rfl, h⟩
 refine enterA hw func166 rfl ntmps166 rfl rfl ?_
 refine sD (sA rfl (sE (sM rfl (sM rfl ?_))))
 refine L.w rfl (V.slice (l := i) (u := i) rfl underlying224 sizeOf3 ⟨_, rfl⟩ rfl (Nat.le_refl _) hc rfl) ?_
 refine sE (sM rfl ?_)
 refine L.w rfl (V.len rfl underlying37) ?_
 refine sA rfl (sN (sC (sD (sM rfl (sQa rfl (sN (sP rfl (sK (sD (sM rfl ?_))))))))))
 refine L.w rfl (V.len rfl underlying224) ?_
 refine sA rfl (sN (sC (sD (sM rfl (sM rfl (sQa rfl (sN ?_)))))))
 refine C.condT rfl (by simp) ?_
 refine sD (sM rfl (sM rfl ?_))
 refine L.append' (by' := 8) (sz := 1) (l := 1) (ys := ys) rfl rfl rfl rfl underlying224 underlying37 info_int rfl rfl rfl rfl ho .done (hyr Hr) hy1 (by omega) (by omega) (fun v25 fp25 ho25 => ?_)
 refine sA rfl (sN ?_)
 refine R.ret1 results166 rfl (fun w hw => ?_)
 exact ⟨_, _, rfl, ho25, hw.sub zSub⟩

theorem ins_rising_mid {v : Value} {n i vb : Nat} {xs ys : List Value} {fp : Heap} (ho : Own 3 1 v n xs fp) (hi : i < n) (hn : n ≤ 1000000) (hx1 : ∀ u ∈ xs, u.oneCell' = true) (hy : ys.length = 1) (hy1 : ∀ u ∈ ys, u.oneCell' = true) (hw : Hp w0 F S (fp ++ ((vb, .cells ys.toArray 3 (0, 0)) :: Hr)) w) :
 Calls Tryz.prog 166 #[v, .int .i64 (i : Int), .slice (some ⟨vb, 0, none⟩) 1 1] w fun e w' => ∃ v' fp', e = .returned v' ∧ Own 3 1 v' (n + 1) (xs.take (i * 1) ++ ys ++ xs.drop (i * 1)) fp' ∧ Hp w0 F S (fp' ++ Hr) w' := by
 obtain ⟨b, c, js, rfl, rfl, hxl, hcl, hnc, hc63⟩ : ∃ b c js, v = .slice (some ⟨b, 0, none⟩) n c ∧ fp = [(b, .cells (xs ++ js).toArray 3 (0, 0))] ∧ xs.length = n * 1 ∧ (xs ++ js).length = c * 1 ∧ n ≤ c ∧ c ≤ 9223372036854775807 := by
  rcases ho with ⟨rfl, rfl, _, _⟩ | h
  ·omega
  ·exact h
 clear ho
 obtain ⟨xa, xb, rfl, hxa, hxb⟩ : ∃ xa xb, xs = xa ++ xb ∧ xa.length = i * 1 ∧ xb.length = (n - i) * 1 := ⟨xs.take (i * 1), xs.drop (i * 1), by simp, by rw [List.length_take]; omega, by rw [List.length_drop]; omega⟩
 rw [List.take_left' hxa, List.drop_left' hxa]
 have hvb : vb ≠ b := fun e => by
  have := hw.nd
  rw [List.cons_append, List.pairwise_cons] at this
  exact this.1 (vb, .cells ys.toArray 3 (0, 0)) (List.mem_append_right _ (List.mem_cons_self ..)) e.symm
 have h1b : ∀ u ∈ xb, u.oneCell' = true := fun u hu => hx1 u (List.mem_append_right _ hu)
 rw [List.length_append] at hxl hcl
 rw [List.length_append] at hcl
 refine enterA hw func166 rfl ntmps166 rfl rfl ?_
 refine sD (sA rfl (sE (sM rfl (sM rfl ?_))))
 refine L.w rfl (V.slice (l := i) (u := n) rfl underlying224 sizeOf3 ⟨_, rfl⟩ rfl (by omega) hnc rfl) ?_
 refine sE (sM rfl ?_)
 refine L.w rfl (V.len rfl underlying37) ?_
 refine sA rfl (sN (sC (sD (sM rfl (sQa rfl (sN (sP rfl (sK (sD (sM rfl ?_))))))))))
 refine L.w rfl (V.len rfl underlying224) ?_
 refine sA rfl (sN (sC (sD (sM rfl (sM rfl (sQa rfl (sN ?_)))))))
 refine C.condF rfl (by simp; omega) ?_
 refine sK (sC (sD (sM rfl (sM rfl ?_))))
 refine L.w rfl (V.add (c := ((n + 1 : Nat) : Int)) rfl rfl (by rw [w64 (by omega) (by omega)]; omega)) ?_
 refine sM rfl ?_
 refine L.w rfl (V.cap rfl underlying224) ?_
 refine sQe rfl (sN ?_)
 refine C.cond rfl (fun h31 => ?_) (fun h31 => ?_)
 ·try simp only [sq] at h31
  refine sD (sM rfl (sM rfl ?_))
  refine L.w rfl (V.slice (l := 0) (u := i) rfl underlying224 sizeOf3 rfl ⟨_, rfl⟩ (by omega) (by omega) (ad' := some ⟨b, 0, none⟩) (by rw [if_neg (by omega)]; simp [add_at])) ?_
  refine sM rfl (sM rfl ?_)
  refine L.w rfl (V.add (c := ((n + 1 : Nat) : Int)) rfl rfl (by rw [w64 (by omega) (by omega)]; omega)) ?_
  refine sM rfl ?_
  refine L.w rfl (V.sub (c := ((n + 1 - i : Nat) : Int)) rfl rfl (by rw [w64 (by omega) (by omega)]; omega)) ?_
  refine L.appendZ (ad := some ⟨b, 0, none⟩) (m := i) (c := c) (q := n + 1 - i) (by' := 8) (sz := 1) (olds := xa) rfl rfl rfl rfl underlying224 underlying3 info_int rfl rfl rfl rfl ⟨hxa, .inr ⟨b, 0, _, _, _, _, rfl, ⟨by omega, by omega⟩, .head, fun j hj => by simp [List.getElem?_append_left hj, hj]⟩⟩ (by omega) (by decide) (by omega) (by omega) (by decide) (fun b40 c40 zl js40 hzl hol htot hle40 h6340 => ?_)
  rw [List.length_append, List.length_append] at htot
  obtain ⟨z1, z2, rfl, hz1, hz2⟩ : ∃ z1 z2, zl = z1 ++ z2 ∧ z1.length = 1 * 1 ∧ z2.length = (n - i) * 1 := ⟨zl.take 1, zl.drop 1, (List.take_append_drop _ _).symm, by rw [List.length_take]; omega, by rw [List.length_drop]; omega⟩
  rw [show xa ++ (z1 ++ z2) ++ js40 = xa ++ z1 ++ (z2 ++ js40) from by simp]
  refine sA rfl (sE (sM rfl (sM rfl ?_)))
  refine L.w rfl (V.slice (l := i) (u := i + (n + 1 - i)) rfl underlying224 sizeOf3 ⟨_, rfl⟩ rfl (by omega) (by omega) (ad' := some ⟨b40, i * 1, none⟩) (by rw [if_neg (by omega)]; simp [add_at])) ?_
  refine sM rfl ?_
  refine L.copyM (o := i * 1) (b := b40) (sz := 1) (m := 1) (l := 1) (ys := ys) rfl rfl rfl rfl underlying224 sizeOf3 ⟨by rw [hy], .inr ⟨vb, 0, 1, _, _, _, rfl, ⟨Nat.le_refl _, by omega⟩, .tail (.tail .head), fun j hj => by simp⟩⟩ (by omega) hxa.symm hz1 (by rw [show 1 * 1 = ys.length from by rw [hy], List.take_length]) hy1 .head ?_
  rw [← List.append_assoc (xa ++ ys) z2 js40]
  refine sN (sC ?_)
  refine C.drawC [] (Hp w0 F S Hr) (fun w h => h.sub zSub) (by kernel_rfl) rfl (fun w hw => hw.drawn _) ?_
  refine D.take 0 (listed' := #[true, false, false, false, false, false, false, false, false]) rfl (by kernel_rfl) rfl rfl rfl rfl (V.move rfl) (fun w h => h.sub zSub) ?_
  refine D.take 1 (listed' := #[true, true, false, false, false, false, false, false, false]) rfl (by kernel_rfl) rfl rfl rfl rfl (V.move rfl) (fun w h => h.sub zSub) ?_
  refine D.take 2 (listed' := #[true, true, true, false, false, false, false, false, false]) rfl (by kernel_rfl) rfl rfl rfl rfl (V.move rfl) (fun w h => h.sub zSub) ?_
  refine D.take 3 (listed' := #[true, true, true, true, false, false, false, false, false]) rfl (by kernel_rfl) rfl rfl rfl rfl (V.add (c := ((i + 1 : Nat) : Int)) rfl rfl (by rw [w64 (by omega) (by omega)]; omega)) (fun w h => h.sub zSub) ?_
  refine D.take 4 (listed' := #[true, true, true, true, true, false, false, false, false]) rfl (by kernel_rfl) rfl rfl rfl rfl (V.slice (l := i + 1) (u := i + (n + 1 - i)) rfl underlying224 sizeOf3 ⟨_, rfl⟩ rfl (by omega) (by omega) (ad' := some ⟨b40, (i + 1) * 1, none⟩) (by rw [if_neg (by omega)]; simp [add_at])) (fun w h => h.sub zSub) ?_
  refine D.take 5 (listed' := #[true, true, true, true, true, true, false, false, false]) rfl (by kernel_rfl) rfl rfl rfl rfl (V.move rfl) (fun w h => h.sub zSub) ?_
  refine D.take 6 (listed' := #[true, true, true, true, true, true, true, false, false]) rfl (by kernel_rfl) rfl rfl rfl rfl (V.move rfl) (fun w h => h.sub zSub) ?_
  refine D.take 7 (listed' := #[true, true, true, true, true, true, true, true, false]) rfl (by kernel_rfl) rfl rfl rfl rfl (V.slice (l := i) (u := n) rfl underlying224 sizeOf3 ⟨_, rfl⟩ rfl (by omega) hnc (ad' := some ⟨b, i * 1, none⟩) (by rw [if_neg (by omega)]; simp [add_at])) (fun w h => h.sub zSub) ?_
  refine D.step 8 (listed' := #[true, true, true, true, true, true, true, true, true]) (by kernel_rfl) rfl rfl (.inr (fun w h => h.sub zSub)) ?_
  refine L.copyM (o := (i + 1) * 1) (b := b40) (sz := 1) (m := n - i) (l := n - i) (ys := xb) rfl rfl rfl rfl underlying224 sizeOf3 ⟨hxb, .inr ⟨b, i * 1, _, _, _, _, rfl, ⟨by omega, by omega⟩, .tail .head, fun j hj => ?_⟩⟩ (by omega) (by rw [List.length_append]; omega) hz2 (by rw [← hxb, List.take_length]) h1b .head ?_
  ·simp only [List.getElem?_toArray]
   rw [List.append_assoc, List.getElem?_append_right (by omega), hxa, Nat.add_sub_cancel_left, List.getElem?_append_left hj]
  refine D.back ?_
  refine D.done (by kernel_rfl) (.inr (fun w h => h.sub zSub)) (N.seq ?_)
  refine sD (sM rfl (sA rfl (sN ?_)))
  refine R.ret1 results166 rfl (fun w hw => ?_)
  refine ⟨_, _, rfl, ?_, hw.sub (H' := [(b40, .cells (xa ++ ys ++ xb ++ js40).toArray 3 (0, 0))] ++ Hr) zSub⟩
  rw [show i + (n + 1 - i) = n + 1 from by omega]
  exact Own.mk (by simp only [List.length_append]; omega) (by simp only [List.length_append]; omega) (by omega) h6340
 ·try simp only [sq] at h31
  refine sK (sD (sM rfl (sM rfl (sM rfl ?_))))
  refine L.w rfl (V.add (c := ((n + 1 : Nat) : Int)) rfl rfl (by rw [w64 (by omega) (by omega)]; omega)) ?_
  obtain ⟨j1, j2, rfl, hj1⟩ : ∃ j1 j2, js = j1 ++ j2 ∧ j1.length = 1 * 1 := ⟨js.take 1, js.drop 1, (List.take_append_drop _ _).symm, by rw [List.length_take]; omega⟩
  obtain ⟨m1, m0, hmm, hm1, hm0⟩ : ∃ m1 m0, xb ++ j1 = m1 ++ m0 ∧ m1.length = 1 * 1 ∧ m0.length = (n - i) * 1 := ⟨(xb ++ j1).take 1, (xb ++ j1).drop 1, (List.take_append_drop _ _).symm, by rw [List.length_take, List.length_append]; omega, by rw [List.length_drop, List.length_append]; omega⟩
  rw [show xa ++ xb ++ (j1 ++ j2) = (xa ++ m1) ++ m0 ++ j2 from by rw [List.append_assoc, ← List.append_assoc xb, hmm]; simp only [List.append_assoc]]
  rw [List.length_append] at hcl
  refine L.w rfl (V.slice (l := 0) (u := n + 1) rfl underlying224 sizeOf3 rfl ⟨_, rfl⟩ (by omega) (by omega) (ad' := some ⟨b, 0, none⟩) (by rw [if_neg (by omega)]; simp [add_at])) ?_
  refine sA rfl (sN (sC (sD (sM rfl (sM rfl (sM rfl (sM rfl ?_)))))))
  refine L.w rfl (V.add (c := ((i + 1 : Nat) : Int)) rfl rfl (by rw [w64 (by omega) (by omega)]; omega)) ?_
  refine L.w rfl (V.slice (l := i + 1) (u := n + 1 - 0) rfl underlying224 sizeOf3 ⟨_, rfl⟩ rfl (by omega) (by omega) (ad' := some ⟨b, (i + 1) * 1, none⟩) (by rw [if_neg (by omega)]; simp [add_at])) ?_
  refine L.w rfl (V.extern (v := .bool false) rfl rfl rfl (fun w hw => by
   rw [run_callFunc_extern func201 (by kernel_rfl) (by kernel_rfl) (by kernel_rfl) (e := Extern.SlicesOverlaps.overlaps #[37, 37] #[4]) (by kernel_rfl)]
   have := run_overlaps (P := Tryz.prog) (tR := 4) (va := vb) (b := b) (la := 1) (ca := 1) (off := (i + 1) * 1) (lb := n + 1 - 0 - (i + 1)) (cb := c - 0 - (i + 1)) underlying37 sizeOf3 hvb (.tail .head) .head (by simp only [List.size_toArray, List.length_append]; omega) hw
   simp only [List.append_nil, Array.append_empty, Array.empty_append] at this ⊢
   rw [this]
   rfl)) ?_
  refine sV rfl (sN (sO rfl (sC ?_)))
  refine C.drawC [] (Hp w0 F S Hr) (fun w h => h.sub zSub) (by kernel_rfl) rfl (fun w hw => hw.drawn _) ?_
  refine D.take 0 (listed' := #[true, false, false, false, false, false, false, false, false]) rfl (by kernel_rfl) rfl rfl rfl rfl (V.move rfl) (fun w h => h.sub zSub) ?_
  refine D.take 1 (listed' := #[true, true, false, false, false, false, false, false, false]) rfl (by kernel_rfl) rfl rfl rfl rfl (V.move rfl) (fun w h => h.sub zSub) ?_
  refine D.take 2 (listed' := #[true, true, true, false, false, false, false, false, false]) rfl (by kernel_rfl) rfl rfl rfl rfl (V.move rfl) (fun w h => h.sub zSub) ?_
  refine D.take 3 (listed' := #[true, true, true, true, false, false, false, false, false]) rfl (by kernel_rfl) rfl rfl rfl rfl (V.add (c := ((i + 1 : Nat) : Int)) rfl rfl (by rw [w64 (by omega) (by omega)]; omega)) (fun w h => h.sub zSub) ?_
  refine D.take 4 (listed' := #[true, true, true, true, true, false, false, false, false]) rfl (by kernel_rfl) rfl rfl rfl rfl (V.slice (l := i + 1) (u := n + 1 - 0) rfl underlying224 sizeOf3 ⟨_, rfl⟩ rfl (by omega) (by omega) (ad' := some ⟨b, (i + 1) * 1, none⟩) (by rw [if_neg (by omega)]; simp [add_at])) (fun w h => h.sub zSub) ?_
  refine D.take 5 (listed' := #[true, true, true, true, true, true, false, false, false]) rfl (by kernel_rfl) rfl rfl rfl rfl (V.move rfl) (fun w h => h.sub zSub) ?_
  refine D.take 6 (listed' := #[true, true, true, true, true, true, true, false, false]) rfl (by kernel_rfl) rfl rfl rfl rfl (V.move rfl) (fun w h => h.sub zSub) ?_
  refine D.take 7 (listed' := #[true, true, true, true, true, true, true, true, false]) rfl (by kernel_rfl) rfl rfl rfl rfl (V.slice (l := i) (u := n + 1 - 0) rfl underlying224 sizeOf3 ⟨_, rfl⟩ rfl (by omega) (by omega) (ad' := some ⟨b, i * 1, none⟩) (by rw [if_neg (by omega)]; simp [add_at])) (fun w h => h.sub zSub) ?_
  refine D.step 8 (listed' := #[true, true, true, true, true, true, true, true, true]) (by kernel_rfl) rfl rfl (.inr (fun w h => h.sub zSub)) ?_
  refine L.copyM (o := (i + 1) * 1) (b := b) (sz := 1) (m := n - i) (l := n + 1 - 0 - i) (ys := m1 ++ m0) rfl rfl rfl rfl underlying224 sizeOf3 ⟨by rw [List.length_append]; omega, .inr ⟨b, i * 1, _, _, _, _, rfl, ⟨by omega, by omega⟩, .head, fun j hj => ?_⟩⟩ (by omega) (by rw [List.length_append]; omega) hm0 (by rw [← hmm, List.take_left' hxb]) h1b .head ?_
  ·simp only [List.getElem?_toArray]
   rw [show xa ++ m1 ++ m0 ++ j2 = xa ++ ((m1 ++ m0) ++ j2) from by simp only [List.append_assoc], List.getElem?_append_right (by omega), hxa, Nat.add_sub_cancel_left, List.getElem?_append_left hj]
  rw [show xa ++ m1 ++ xb ++ j2 = xa ++ m1 ++ (xb ++ j2) from by simp only [List.append_assoc]]
  refine D.back ?_
  refine D.done (by kernel_rfl) (.inr (fun w h => h.sub zSub)) (N.seq ?_)
  refine sD (sM rfl (sM rfl ?_))
  refine L.w rfl (V.slice (l := i) (u := n + 1 - 0) rfl underlying224 sizeOf3 ⟨_, rfl⟩ rfl (by omega) (by omega) (ad' := some ⟨b, i * 1, none⟩) (by rw [if_neg (by omega)]; simp [add_at])) ?_
  refine sM rfl ?_
  refine L.copyM (o := i * 1) (b := b) (sz := 1) (m := 1) (l := 1) (ys := ys) rfl rfl rfl rfl underlying224 sizeOf3 ⟨by rw [hy], .inr ⟨vb, 0, 1, _, _, _, rfl, ⟨Nat.le_refl _, by omega⟩, .tail .head, fun j hj => by simp⟩⟩ (by omega) hxa.symm hm1 (by rw [show 1 * 1 = ys.length from by rw [hy], List.take_length]) hy1 .head ?_
  rw [← List.append_assoc (xa ++ ys) xb j2]
  refine sE (sM rfl (sA rfl (sN ?_)))
  refine R.ret1 results166 rfl (fun w hw => ?_)
  refine ⟨_, _, rfl, ?_, hw.sub (H' := [(b, .cells (xa ++ ys ++ xb ++ j2).toArray 3 (0, 0))] ++ Hr) zSub⟩
  exact Own.mk (by simp only [List.length_append]; omega) (by simp only [List.length_append]; omega) (by omega) (by omega)
theorem ins_items_end {v : Value} {n i vb : Nat} {xs ys : List Value} {fp : Heap} (ho : Own 112 4 v n xs fp) (hi : i = n) (hn : n ≤ 1000000) (hy : ys.length = 4) (hy1 : ∀ u ∈ ys, u.oneCell' = true) (hw : Hp w0 F S (fp ++ ((vb, .cells ys.toArray 112 (0, 0)) :: Hr)) w) :
 Calls Tryz.prog 147 #[v, .int .i64 (i : Int), .slice (some ⟨vb, 0, none⟩) 1 1] w fun e w' => ∃ v' fp', e = .returned v' ∧ Own 112 4 v' (n + 1) (xs ++ ys) fp' ∧ Hp w0 F S (fp' ++ Hr) w' := by
 subst hi
 have hyr : ∀ H, Rd S (fp ++ ((vb, .cells ys.toArray 112 (0, 0)) :: H)) 4 (.slice (some ⟨vb, 0, none⟩) 1 1) 1 ys := fun H => ⟨by rw [hy], .inr ⟨vb, 0, 1, _, _, _, rfl, ⟨Nat.le_refl _, by omega⟩, .apr .head, fun j hj => by simp⟩⟩
 obtain ⟨ad, c, rfl, hc⟩ : ∃ ad c, v = .slice ad i c ∧ i ≤ c := by
  rcases ho with ⟨rfl, rfl, _, _⟩ | ⟨b, c, js, rfl, _, _, _, h, _⟩
  ·exact ⟨_, _, rfl, Nat.le_refl _⟩
  ·exact ⟨_, _, rfl, h⟩
 refine enterA hw func147 rfl ntmps147 rfl rfl ?_
 refine sD (sA rfl (sE (sM rfl (sM rfl ?_))))
 refine L.w rfl (V.slice (l := i) (u := i) rfl underlying118 sizeOf112 ⟨_, rfl⟩ rfl (Nat.le_refl _) hc rfl) ?_
 refine sE (sM rfl ?_)
 refine L.w rfl (V.len rfl underlying118) ?_
 refine sA rfl (sN (sC (sD (sM rfl (sQa rfl (sN (sP rfl (sK (sD (sM rfl ?_))))))))))
 refine L.w rfl (V.len rfl underlying118) ?_
 refine sA rfl (sN (sC (sD (sM rfl (sM rfl (sQa rfl (sN ?_)))))))
 refine C.condT rfl (by simp) ?_
 refine sD (sM rfl (sM rfl ?_))
 refine L.append' (by' := 64) (sz := 4) (l := 1) (ys := ys) rfl rfl rfl rfl underlying118 underlying118 info_item rfl rfl rfl rfl ho .done (hyr Hr) hy1 (by omega) (by omega) (fun v25 fp25 ho25 => ?_)
 refine sA rfl (sN ?_)
 refine R.ret1 results147 rfl (fun w hw => ?_)
 exact ⟨_, _, rfl, ho25, hw.sub zSub⟩

theorem ins_items_mid {v : Value} {n i vb : Nat} {xs ys : List Value} {fp : Heap} (ho : Own 112 4 v n xs fp) (hi : i < n) (hn : n ≤ 1000000) (hx1 : ∀ u ∈ xs, u.oneCell' = true) (hy : ys.length = 4) (hy1 : ∀ u ∈ ys, u.oneCell' = true) (hw : Hp w0 F S (fp ++ ((vb, .cells ys.toArray 112 (0, 0)) :: Hr)) w) :
 Calls Tryz.prog 147 #[v, .int .i64 (i : Int), .slice (some ⟨vb, 0, none⟩) 1 1] w fun e w' => ∃ v' fp', e = .returned v' ∧ Own 112 4 v' (n + 1) (xs.take (i * 4) ++ ys ++ xs.drop (i * 4)) fp' ∧ Hp w0 F S (fp' ++ Hr) w' := by
 obtain ⟨b, c, js, rfl, rfl, hxl, hcl, hnc, hc63⟩ : ∃ b c js, v = .slice (some ⟨b, 0, none⟩) n c ∧ fp = [(b, .cells (xs ++ js).toArray 112 (0, 0))] ∧ xs.length = n * 4 ∧ (xs ++ js).length = c * 4 ∧ n ≤ c ∧ c ≤ 9223372036854775807 := by
  rcases ho with ⟨rfl, rfl, _, _⟩ | h
  ·omega
  ·exact h
 clear ho
 obtain ⟨xa, xb, rfl, hxa, hxb⟩ : ∃ xa xb, xs = xa ++ xb ∧ xa.length = i * 4 ∧ xb.length = (n - i) * 4 := ⟨xs.take (i * 4), xs.drop (i * 4), by simp, by rw [List.length_take]; omega, by rw [List.length_drop]; omega⟩
 rw [List.take_left' hxa, List.drop_left' hxa]
 have hvb : vb ≠ b := fun e => by
  have := hw.nd
  rw [List.cons_append, List.pairwise_cons] at this
  exact this.1 (vb, .cells ys.toArray 112 (0, 0)) (List.mem_append_right _ (List.mem_cons_self ..)) e.symm
 have h1b : ∀ u ∈ xb, u.oneCell' = true := fun u hu => hx1 u (List.mem_append_right _ hu)
 rw [List.length_append] at hxl hcl
 rw [List.length_append] at hcl
 refine enterA hw func147 rfl ntmps147 rfl rfl ?_
 refine sD (sA rfl (sE (sM rfl (sM rfl ?_))))
 refine L.w rfl (V.slice (l := i) (u := n) rfl underlying118 sizeOf112 ⟨_, rfl⟩ rfl (by omega) hnc rfl) ?_
 refine sE (sM rfl ?_)
 refine L.w rfl (V.len rfl underlying118) ?_
 refine sA rfl (sN (sC (sD (sM rfl (sQa rfl (sN (sP rfl (sK (sD (sM rfl ?_))))))))))
 refine L.w rfl (V.len rfl underlying118) ?_
 refine sA rfl (sN (sC (sD (sM rfl (sM rfl (sQa rfl (sN ?_)))))))
 refine C.condF rfl (by simp; omega) ?_
 refine sK (sC (sD (sM rfl (sM rfl ?_))))
 refine L.w rfl (V.add (c := ((n + 1 : Nat) : Int)) rfl rfl (by rw [w64 (by omega) (by omega)]; omega)) ?_
 refine sM rfl ?_
 refine L.w rfl (V.cap rfl underlying118) ?_
 refine sQe rfl (sN ?_)
 refine C.cond rfl (fun h31 => ?_) (fun h31 => ?_)
 ·try simp only [sq] at h31
  refine sD (sM rfl (sM rfl ?_))
  refine L.w rfl (V.slice (l := 0) (u := i) rfl underlying118 sizeOf112 rfl ⟨_, rfl⟩ (by omega) (by omega) (ad' := some ⟨b, 0, none⟩) (by rw [if_neg (by omega)]; simp [add_at])) ?_
  refine sM rfl (sM rfl ?_)
  refine L.w rfl (V.add (c := ((n + 1 : Nat) : Int)) rfl rfl (by rw [w64 (by omega) (by omega)]; omega)) ?_
  refine sM rfl ?_
  refine L.w rfl (V.sub (c := ((n + 1 - i : Nat) : Int)) rfl rfl (by rw [w64 (by omega) (by omega)]; omega)) ?_
  refine L.appendZ (ad := some ⟨b, 0, none⟩) (m := i) (c := c) (q := n + 1 - i) (by' := 64) (sz := 4) (olds := xa) rfl rfl rfl rfl underlying118 underlying3 info_item rfl rfl rfl rfl ⟨hxa, .inr ⟨b, 0, _, _, _, _, rfl, ⟨by omega, by omega⟩, .head, fun j hj => by simp [List.getElem?_append_left hj, hj]⟩⟩ (by omega) (by decide) (by omega) (by omega) (by decide) (fun b40 c40 zl js40 hzl hol htot hle40 h6340 => ?_)
  rw [List.length_append, List.length_append] at htot
  obtain ⟨z1, z2, rfl, hz1, hz2⟩ : ∃ z1 z2, zl = z1 ++ z2 ∧ z1.length = 1 * 4 ∧ z2.length = (n - i) * 4 := ⟨zl.take 4, zl.drop 4, (List.take_append_drop _ _).symm, by rw [List.length_take]; omega, by rw [List.length_drop]; omega⟩
  rw [show xa ++ (z1 ++ z2) ++ js40 = xa ++ z1 ++ (z2 ++ js40) from by simp]
  refine sA rfl (sE (sM rfl (sM rfl ?_)))
  refine L.w rfl (V.slice (l := i) (u := i + (n + 1 - i)) rfl underlying118 sizeOf112 ⟨_, rfl⟩ rfl (by omega) (by omega) (ad' := some ⟨b40, i * 4, none⟩) (by rw [if_neg (by omega)]; simp [add_at])) ?_
  refine sM rfl ?_
  refine L.copyM (o := i * 4) (b := b40) (sz := 4) (m := 1) (l := 1) (ys := ys) rfl rfl rfl rfl underlying118 sizeOf112 ⟨by rw [hy], .inr ⟨vb, 0, 1, _, _, _, rfl, ⟨Nat.le_refl _, by omega⟩, .tail (.tail .head), fun j hj => by simp⟩⟩ (by omega) hxa.symm hz1 (by rw [show 1 * 4 = ys.length from by rw [hy], List.take_length]) hy1 .head ?_
  rw [← List.append_assoc (xa ++ ys) z2 js40]
  refine sN (sC ?_)
  refine C.drawC [] (Hp w0 F S Hr) (fun w h => h.sub zSub) (by kernel_rfl) rfl (fun w hw => hw.drawn _) ?_
  refine D.take 0 (listed' := #[true, false, false, false, false, false, false, false, false]) rfl (by kernel_rfl) rfl rfl rfl rfl (V.move rfl) (fun w h => h.sub zSub) ?_
  refine D.take 1 (listed' := #[true, true, false, false, false, false, false, false, false]) rfl (by kernel_rfl) rfl rfl rfl rfl (V.move rfl) (fun w h => h.sub zSub) ?_
  refine D.take 2 (listed' := #[true, true, true, false, false, false, false, false, false]) rfl (by kernel_rfl) rfl rfl rfl rfl (V.move rfl) (fun w h => h.sub zSub) ?_
  refine D.take 3 (listed' := #[true, true, true, true, false, false, false, false, false]) rfl (by kernel_rfl) rfl rfl rfl rfl (V.add (c := ((i + 1 : Nat) : Int)) rfl rfl (by rw [w64 (by omega) (by omega)]; omega)) (fun w h => h.sub zSub) ?_
  refine D.take 4 (listed' := #[true, true, true, true, true, false, false, false, false]) rfl (by kernel_rfl) rfl rfl rfl rfl (V.slice (l := i + 1) (u := i + (n + 1 - i)) rfl underlying118 sizeOf112 ⟨_, rfl⟩ rfl (by omega) (by omega) (ad' := some ⟨b40, (i + 1) * 4, none⟩) (by rw [if_neg (by omega)]; simp [add_at])) (fun w h => h.sub zSub) ?_
  refine D.take 5 (listed' := #[true, true, true, true, true, true, false, false, false]) rfl (by kernel_rfl) rfl rfl rfl rfl (V.move rfl) (fun w h => h.sub zSub) ?_
  refine D.take 6 (listed' := #[true, true, true, true, true, true, true, false, false]) rfl (by kernel_rfl) rfl rfl rfl rfl (V.move rfl) (fun w h => h.sub zSub) ?_
  refine D.take 7 (listed' := #[true, true, true, true, true, true, true, true, false]) rfl (by kernel_rfl) rfl rfl rfl rfl (V.slice (l := i) (u := n) rfl underlying118 sizeOf112 ⟨_, rfl⟩ rfl (by omega) hnc (ad' := some ⟨b, i * 4, none⟩) (by rw [if_neg (by omega)]; simp [add_at])) (fun w h => h.sub zSub) ?_
  refine D.step 8 (listed' := #[true, true, true, true, true, true, true, true, true]) (by kernel_rfl) rfl rfl (.inr (fun w h => h.sub zSub)) ?_
  refine L.copyM (o := (i + 1) * 4) (b := b40) (sz := 4) (m := n - i) (l := n - i) (ys := xb) rfl rfl rfl rfl underlying118 sizeOf112 ⟨hxb, .inr ⟨b, i * 4, _, _, _, _, rfl, ⟨by omega, by omega⟩, .tail .head, fun j hj => ?_⟩⟩ (by omega) (by rw [List.length_append]; omega) hz2 (by rw [← hxb, List.take_length]) h1b .head ?_
  ·simp only [List.getElem?_toArray]
   rw [List.append_assoc, List.getElem?_append_right (by omega), hxa, Nat.add_sub_cancel_left, List.getElem?_append_left hj]
  refine D.back ?_
  refine D.done (by kernel_rfl) (.inr (fun w h => h.sub zSub)) (N.seq ?_)
  refine sD (sM rfl (sA rfl (sN ?_)))
  refine R.ret1 results147 rfl (fun w hw => ?_)
  refine ⟨_, _, rfl, ?_, hw.sub (H' := [(b40, .cells (xa ++ ys ++ xb ++ js40).toArray 112 (0, 0))] ++ Hr) zSub⟩
  rw [show i + (n + 1 - i) = n + 1 from by omega]
  exact Own.mk (by simp only [List.length_append]; omega) (by simp only [List.length_append]; omega) (by omega) h6340
 ·try simp only [sq] at h31
  refine sK (sD (sM rfl (sM rfl (sM rfl ?_))))
  refine L.w rfl (V.add (c := ((n + 1 : Nat) : Int)) rfl rfl (by rw [w64 (by omega) (by omega)]; omega)) ?_
  obtain ⟨j1, j2, rfl, hj1⟩ : ∃ j1 j2, js = j1 ++ j2 ∧ j1.length = 1 * 4 := ⟨js.take 4, js.drop 4, (List.take_append_drop _ _).symm, by rw [List.length_take]; omega⟩
  obtain ⟨m1, m0, hmm, hm1, hm0⟩ : ∃ m1 m0, xb ++ j1 = m1 ++ m0 ∧ m1.length = 1 * 4 ∧ m0.length = (n - i) * 4 := ⟨(xb ++ j1).take 4, (xb ++ j1).drop 4, (List.take_append_drop _ _).symm, by rw [List.length_take, List.length_append]; omega, by rw [List.length_drop, List.length_append]; omega⟩
  rw [show xa ++ xb ++ (j1 ++ j2) = (xa ++ m1) ++ m0 ++ j2 from by rw [List.append_assoc, ← List.append_assoc xb, hmm]; simp only [List.append_assoc]]
  rw [List.length_append] at hcl
  refine L.w rfl (V.slice (l := 0) (u := n + 1) rfl underlying118 sizeOf112 rfl ⟨_, rfl⟩ (by omega) (by omega) (ad' := some ⟨b, 0, none⟩) (by rw [if_neg (by omega)]; simp [add_at])) ?_
  refine sA rfl (sN (sC (sD (sM rfl (sM rfl (sM rfl (sM rfl ?_)))))))
  refine L.w rfl (V.add (c := ((i + 1 : Nat) : Int)) rfl rfl (by rw [w64 (by omega) (by omega)]; omega)) ?_
  refine L.w rfl (V.slice (l := i + 1) (u := n + 1 - 0) rfl underlying118 sizeOf112 ⟨_, rfl⟩ rfl (by omega) (by omega) (ad' := some ⟨b, (i + 1) * 4, none⟩) (by rw [if_neg (by omega)]; simp [add_at])) ?_
  refine L.w rfl (V.extern (v := .bool false) rfl rfl rfl (fun w hw => by
   rw [run_callFunc_extern func188 (by kernel_rfl) (by kernel_rfl) (by kernel_rfl) (e := Extern.SlicesOverlaps.overlaps #[118, 118] #[4]) (by kernel_rfl)]
   have := run_overlaps (P := Tryz.prog) (tR := 4) (va := vb) (b := b) (la := 1) (ca := 1) (off := (i + 1) * 4) (lb := n + 1 - 0 - (i + 1)) (cb := c - 0 - (i + 1)) underlying118 sizeOf112 hvb (.tail .head) .head (by simp only [List.size_toArray, List.length_append]; omega) hw
   simp only [List.append_nil, Array.append_empty, Array.empty_append] at this ⊢
   rw [this]
   rfl)) ?_
  refine sV rfl (sN (sO rfl (sC ?_)))
  refine C.drawC [] (Hp w0 F S Hr) (fun w h => h.sub zSub) (by kernel_rfl) rfl (fun w hw => hw.drawn _) ?_
  refine D.take 0 (listed' := #[true, false, false, false, false, false, false, false, false]) rfl (by kernel_rfl) rfl rfl rfl rfl (V.move rfl) (fun w h => h.sub zSub) ?_
  refine D.take 1 (listed' := #[true, true, false, false, false, false, false, false, false]) rfl (by kernel_rfl) rfl rfl rfl rfl (V.move rfl) (fun w h => h.sub zSub) ?_
  refine D.take 2 (listed' := #[true, true, true, false, false, false, false, false, false]) rfl (by kernel_rfl) rfl rfl rfl rfl (V.move rfl) (fun w h => h.sub zSub) ?_
  refine D.take 3 (listed' := #[true, true, true, true, false, false, false, false, false]) rfl (by kernel_rfl) rfl rfl rfl rfl (V.add (c := ((i + 1 : Nat) : Int)) rfl rfl (by rw [w64 (by omega) (by omega)]; omega)) (fun w h => h.sub zSub) ?_
  refine D.take 4 (listed' := #[true, true, true, true, true, false, false, false, false]) rfl (by kernel_rfl) rfl rfl rfl rfl (V.slice (l := i + 1) (u := n + 1 - 0) rfl underlying118 sizeOf112 ⟨_, rfl⟩ rfl (by omega) (by omega) (ad' := some ⟨b, (i + 1) * 4, none⟩) (by rw [if_neg (by omega)]; simp [add_at])) (fun w h => h.sub zSub) ?_
  refine D.take 5 (listed' := #[true, true, true, true, true, true, false, false, false]) rfl (by kernel_rfl) rfl rfl rfl rfl (V.move rfl) (fun w h => h.sub zSub) ?_
  refine D.take 6 (listed' := #[true, true, true, true, true, true, true, false, false]) rfl (by kernel_rfl) rfl rfl rfl rfl (V.move rfl) (fun w h => h.sub zSub) ?_
  refine D.take 7 (listed' := #[true, true, true, true, true, true, true, true, false]) rfl (by kernel_rfl) rfl rfl rfl rfl (V.slice (l := i) (u := n + 1 - 0) rfl underlying118 sizeOf112 ⟨_, rfl⟩ rfl (by omega) (by omega) (ad' := some ⟨b, i * 4, none⟩) (by rw [if_neg (by omega)]; simp [add_at])) (fun w h => h.sub zSub) ?_
  refine D.step 8 (listed' := #[true, true, true, true, true, true, true, true, true]) (by kernel_rfl) rfl rfl (.inr (fun w h => h.sub zSub)) ?_
  refine L.copyM (o := (i + 1) * 4) (b := b) (sz := 4) (m := n - i) (l := n + 1 - 0 - i) (ys := m1 ++ m0) rfl rfl rfl rfl underlying118 sizeOf112 ⟨by rw [List.length_append]; omega, .inr ⟨b, i * 4, _, _, _, _, rfl, ⟨by omega, by omega⟩, .head, fun j hj => ?_⟩⟩ (by omega) (by rw [List.length_append]; omega) hm0 (by rw [← hmm, List.take_left' hxb]) h1b .head ?_
  ·simp only [List.getElem?_toArray]
   rw [show xa ++ m1 ++ m0 ++ j2 = xa ++ ((m1 ++ m0) ++ j2) from by simp only [List.append_assoc], List.getElem?_append_right (by omega), hxa, Nat.add_sub_cancel_left, List.getElem?_append_left hj]
  rw [show xa ++ m1 ++ xb ++ j2 = xa ++ m1 ++ (xb ++ j2) from by simp only [List.append_assoc]]
  refine D.back ?_
  refine D.done (by kernel_rfl) (.inr (fun w h => h.sub zSub)) (N.seq ?_)
  refine sD (sM rfl (sM rfl ?_))
  refine L.w rfl (V.slice (l := i) (u := n + 1 - 0) rfl underlying118 sizeOf112 ⟨_, rfl⟩ rfl (by omega) (by omega) (ad' := some ⟨b, i * 4, none⟩) (by rw [if_neg (by omega)]; simp [add_at])) ?_
  refine sM rfl ?_
  refine L.copyM (o := i * 4) (b := b) (sz := 4) (m := 1) (l := 1) (ys := ys) rfl rfl rfl rfl underlying118 sizeOf112 ⟨by rw [hy], .inr ⟨vb, 0, 1, _, _, _, rfl, ⟨Nat.le_refl _, by omega⟩, .tail .head, fun j hj => by simp⟩⟩ (by omega) hxa.symm hm1 (by rw [show 1 * 4 = ys.length from by rw [hy], List.take_length]) hy1 .head ?_
  rw [← List.append_assoc (xa ++ ys) xb j2]
  refine sE (sM rfl (sA rfl (sN ?_)))
  refine R.ret1 results147 rfl (fun w hw => ?_)
  refine ⟨_, _, rfl, ?_, hw.sub (H' := [(b, .cells (xa ++ ys ++ xb ++ j2).toArray 112 (0, 0))] ++ Hr) zSub⟩
  exact Own.mk (by simp only [List.length_append]; omega) (by simp only [List.length_append]; omega) (by omega) (by omega)
theorem ins_kids_end {v : Value} {n i vb : Nat} {xs ys : List Value} {fp : Heap} (ho : Own 129 2 v n xs fp) (hi : i = n) (hn : n ≤ 1000000) (hy : ys.length = 2) (hy1 : ∀ u ∈ ys, u.oneCell' = true) (hw : Hp w0 F S (fp ++ ((vb, .cells ys.toArray 129 (0, 0)) :: Hr)) w) :
 Calls Tryz.prog 190 #[v, .int .i64 (i : Int), .slice (some ⟨vb, 0, none⟩) 1 1] w fun e w' => ∃ v' fp', e = .returned v' ∧ Own 129 2 v' (n + 1) (xs ++ ys) fp' ∧ Hp w0 F S (fp' ++ Hr) w' := by
 subst hi
 have hyr : ∀ H, Rd S (fp ++ ((vb, .cells ys.toArray 129 (0, 0)) :: H)) 2 (.slice (some ⟨vb, 0, none⟩) 1 1) 1 ys := fun H => ⟨by rw [hy], .inr ⟨vb, 0, 1, _, _, _, rfl, ⟨Nat.le_refl _, by omega⟩, .apr .head, fun j hj => by simp⟩⟩
 obtain ⟨ad, c, rfl, hc⟩ : ∃ ad c, v = .slice ad i c ∧ i ≤ c := by
  rcases ho with ⟨rfl, rfl, _, _⟩ | ⟨b, c, js, rfl, _, _, _, h, _⟩
  ·exact ⟨_, _, rfl, Nat.le_refl _⟩
  ·exact ⟨_, _, rfl, h⟩
 refine enterA hw func190 rfl ntmps190 rfl rfl ?_
 refine sD (sA rfl (sE (sM rfl (sM rfl ?_))))
 refine L.w rfl (V.slice (l := i) (u := i) rfl underlying115 sizeOf129 ⟨_, rfl⟩ rfl (Nat.le_refl _) hc rfl) ?_
 refine sE (sM rfl ?_)
 refine L.w rfl (V.len rfl underlying115) ?_
 refine sA rfl (sN (sC (sD (sM rfl (sQa rfl (sN (sP rfl (sK (sD (sM rfl ?_))))))))))
 refine L.w rfl (V.len rfl underlying115) ?_
 refine sA rfl (sN (sC (sD (sM rfl (sM rfl (sQa rfl (sN ?_)))))))
 refine C.condT rfl (by simp) ?_
 refine sD (sM rfl (sM rfl ?_))
 refine L.append' (by' := 32) (sz := 2) (l := 1) (ys := ys) rfl rfl rfl rfl underlying115 underlying115 info_kid rfl rfl rfl rfl ho .done (hyr Hr) hy1 (by omega) (by omega) (fun v25 fp25 ho25 => ?_)
 refine sA rfl (sN ?_)
 refine R.ret1 results190 rfl (fun w hw => ?_)
 exact ⟨_, _, rfl, ho25, hw.sub zSub⟩

theorem ins_kids_mid {v : Value} {n i vb : Nat} {xs ys : List Value} {fp : Heap} (ho : Own 129 2 v n xs fp) (hi : i < n) (hn : n ≤ 1000000) (hx1 : ∀ u ∈ xs, u.oneCell' = true) (hy : ys.length = 2) (hy1 : ∀ u ∈ ys, u.oneCell' = true) (hw : Hp w0 F S (fp ++ ((vb, .cells ys.toArray 129 (0, 0)) :: Hr)) w) :
 Calls Tryz.prog 190 #[v, .int .i64 (i : Int), .slice (some ⟨vb, 0, none⟩) 1 1] w fun e w' => ∃ v' fp', e = .returned v' ∧ Own 129 2 v' (n + 1) (xs.take (i * 2) ++ ys ++ xs.drop (i * 2)) fp' ∧ Hp w0 F S (fp' ++ Hr) w' := by
 obtain ⟨b, c, js, rfl, rfl, hxl, hcl, hnc, hc63⟩ : ∃ b c js, v = .slice (some ⟨b, 0, none⟩) n c ∧ fp = [(b, .cells (xs ++ js).toArray 129 (0, 0))] ∧ xs.length = n * 2 ∧ (xs ++ js).length = c * 2 ∧ n ≤ c ∧ c ≤ 9223372036854775807 := by
  rcases ho with ⟨rfl, rfl, _, _⟩ | h
  ·omega
  ·exact h
 clear ho
 obtain ⟨xa, xb, rfl, hxa, hxb⟩ : ∃ xa xb, xs = xa ++ xb ∧ xa.length = i * 2 ∧ xb.length = (n - i) * 2 := ⟨xs.take (i * 2), xs.drop (i * 2), by simp, by rw [List.length_take]; omega, by rw [List.length_drop]; omega⟩
 rw [List.take_left' hxa, List.drop_left' hxa]
 have hvb : vb ≠ b := fun e => by
  have := hw.nd
  rw [List.cons_append, List.pairwise_cons] at this
  exact this.1 (vb, .cells ys.toArray 129 (0, 0)) (List.mem_append_right _ (List.mem_cons_self ..)) e.symm
 have h1b : ∀ u ∈ xb, u.oneCell' = true := fun u hu => hx1 u (List.mem_append_right _ hu)
 rw [List.length_append] at hxl hcl
 rw [List.length_append] at hcl
 refine enterA hw func190 rfl ntmps190 rfl rfl ?_
 refine sD (sA rfl (sE (sM rfl (sM rfl ?_))))
 refine L.w rfl (V.slice (l := i) (u := n) rfl underlying115 sizeOf129 ⟨_, rfl⟩ rfl (by omega) hnc rfl) ?_
 refine sE (sM rfl ?_)
 refine L.w rfl (V.len rfl underlying115) ?_
 refine sA rfl (sN (sC (sD (sM rfl (sQa rfl (sN (sP rfl (sK (sD (sM rfl ?_))))))))))
 refine L.w rfl (V.len rfl underlying115) ?_
 refine sA rfl (sN (sC (sD (sM rfl (sM rfl (sQa rfl (sN ?_)))))))
 refine C.condF rfl (by simp; omega) ?_
 refine sK (sC (sD (sM rfl (sM rfl ?_))))
 refine L.w rfl (V.add (c := ((n + 1 : Nat) : Int)) rfl rfl (by rw [w64 (by omega) (by omega)]; omega)) ?_
 refine sM rfl ?_
 refine L.w rfl (V.cap rfl underlying115) ?_
 refine sQe rfl (sN ?_)
 refine C.cond rfl (fun h31 => ?_) (fun h31 => ?_)
 ·try simp only [sq] at h31
  refine sD (sM rfl (sM rfl ?_))
  refine L.w rfl (V.slice (l := 0) (u := i) rfl underlying115 sizeOf129 rfl ⟨_, rfl⟩ (by omega) (by omega) (ad' := some ⟨b, 0, none⟩) (by rw [if_neg (by omega)]; simp [add_at])) ?_
  refine sM rfl (sM rfl ?_)
  refine L.w rfl (V.add (c := ((n + 1 : Nat) : Int)) rfl rfl (by rw [w64 (by omega) (by omega)]; omega)) ?_
  refine sM rfl ?_
  refine L.w rfl (V.sub (c := ((n + 1 - i : Nat) : Int)) rfl rfl (by rw [w64 (by omega) (by omega)]; omega)) ?_
  refine L.appendZ (ad := some ⟨b, 0, none⟩) (m := i) (c := c) (q := n + 1 - i) (by' := 32) (sz := 2) (olds := xa) rfl rfl rfl rfl underlying115 underlying3 info_kid rfl rfl rfl rfl ⟨hxa, .inr ⟨b, 0, _, _, _, _, rfl, ⟨by omega, by omega⟩, .head, fun j hj => by simp [List.getElem?_append_left hj, hj]⟩⟩ (by omega) (by decide) (by omega) (by omega) (by decide) (fun b40 c40 zl js40 hzl hol htot hle40 h6340 => ?_)
  rw [List.length_append, List.length_append] at htot
  obtain ⟨z1, z2, rfl, hz1, hz2⟩ : ∃ z1 z2, zl = z1 ++ z2 ∧ z1.length = 1 * 2 ∧ z2.length = (n - i) * 2 := ⟨zl.take 2, zl.drop 2, (List.take_append_drop _ _).symm, by rw [List.length_take]; omega, by rw [List.length_drop]; omega⟩
  rw [show xa ++ (z1 ++ z2) ++ js40 = xa ++ z1 ++ (z2 ++ js40) from by simp]
  refine sA rfl (sE (sM rfl (sM rfl ?_)))
  refine L.w rfl (V.slice (l := i) (u := i + (n + 1 - i)) rfl underlying115 sizeOf129 ⟨_, rfl⟩ rfl (by omega) (by omega) (ad' := some ⟨b40, i * 2, none⟩) (by rw [if_neg (by omega)]; simp [add_at])) ?_
  refine sM rfl ?_
  refine L.copyM (o := i * 2) (b := b40) (sz := 2) (m := 1) (l := 1) (ys := ys) rfl rfl rfl rfl underlying115 sizeOf129 ⟨by rw [hy], .inr ⟨vb, 0, 1, _, _, _, rfl, ⟨Nat.le_refl _, by omega⟩, .tail (.tail .head), fun j hj => by simp⟩⟩ (by omega) hxa.symm hz1 (by rw [show 1 * 2 = ys.length from by rw [hy], List.take_length]) hy1 .head ?_
  rw [← List.append_assoc (xa ++ ys) z2 js40]
  refine sN (sC ?_)
  refine C.drawC [] (Hp w0 F S Hr) (fun w h => h.sub zSub) (by kernel_rfl) rfl (fun w hw => hw.drawn _) ?_
  refine D.take 0 (listed' := #[true, false, false, false, false, false, false, false, false]) rfl (by kernel_rfl) rfl rfl rfl rfl (V.move rfl) (fun w h => h.sub zSub) ?_
  refine D.take 1 (listed' := #[true, true, false, false, false, false, false, false, false]) rfl (by kernel_rfl) rfl rfl rfl rfl (V.move rfl) (fun w h => h.sub zSub) ?_
  refine D.take 2 (listed' := #[true, true, true, false, false, false, false, false, false]) rfl (by kernel_rfl) rfl rfl rfl rfl (V.move rfl) (fun w h => h.sub zSub) ?_
  refine D.take 3 (listed' := #[true, true, true, true, false, false, false, false, false]) rfl (by kernel_rfl) rfl rfl rfl rfl (V.add (c := ((i + 1 : Nat) : Int)) rfl rfl (by rw [w64 (by omega) (by omega)]; omega)) (fun w h => h.sub zSub) ?_
  refine D.take 4 (listed' := #[true, true, true, true, true, false, false, false, false]) rfl (by kernel_rfl) rfl rfl rfl rfl (V.slice (l := i + 1) (u := i + (n + 1 - i)) rfl underlying115 sizeOf129 ⟨_, rfl⟩ rfl (by omega) (by omega) (ad' := some ⟨b40, (i + 1) * 2, none⟩) (by rw [if_neg (by omega)]; simp [add_at])) (fun w h => h.sub zSub) ?_
  refine D.take 5 (listed' := #[true, true, true, true, true, true, false, false, false]) rfl (by kernel_rfl) rfl rfl rfl rfl (V.move rfl) (fun w h => h.sub zSub) ?_
  refine D.take 6 (listed' := #[true, true, true, true, true, true, true, false, false]) rfl (by kernel_rfl) rfl rfl rfl rfl (V.move rfl) (fun w h => h.sub zSub) ?_
  refine D.take 7 (listed' := #[true, true, true, true, true, true, true, true, false]) rfl (by kernel_rfl) rfl rfl rfl rfl (V.slice (l := i) (u := n) rfl underlying115 sizeOf129 ⟨_, rfl⟩ rfl (by omega) hnc (ad' := some ⟨b, i * 2, none⟩) (by rw [if_neg (by omega)]; simp [add_at])) (fun w h => h.sub zSub) ?_
  refine D.step 8 (listed' := #[true, true, true, true, true, true, true, true, true]) (by kernel_rfl) rfl rfl (.inr (fun w h => h.sub zSub)) ?_
  refine L.copyM (o := (i + 1) * 2) (b := b40) (sz := 2) (m := n - i) (l := n - i) (ys := xb) rfl rfl rfl rfl underlying115 sizeOf129 ⟨hxb, .inr ⟨b, i * 2, _, _, _, _, rfl, ⟨by omega, by omega⟩, .tail .head, fun j hj => ?_⟩⟩ (by omega) (by rw [List.length_append]; omega) hz2 (by rw [← hxb, List.take_length]) h1b .head ?_
  ·simp only [List.getElem?_toArray]
   rw [List.append_assoc, List.getElem?_append_right (by omega), hxa, Nat.add_sub_cancel_left, List.getElem?_append_left hj]
  refine D.back ?_
  refine D.done (by kernel_rfl) (.inr (fun w h => h.sub zSub)) (N.seq ?_)
  refine sD (sM rfl (sA rfl (sN ?_)))
  refine R.ret1 results190 rfl (fun w hw => ?_)
  refine ⟨_, _, rfl, ?_, hw.sub (H' := [(b40, .cells (xa ++ ys ++ xb ++ js40).toArray 129 (0, 0))] ++ Hr) zSub⟩
  rw [show i + (n + 1 - i) = n + 1 from by omega]
  exact Own.mk (by simp only [List.length_append]; omega) (by simp only [List.length_append]; omega) (by omega) h6340
 ·try simp only [sq] at h31
  refine sK (sD (sM rfl (sM rfl (sM rfl ?_))))
  refine L.w rfl (V.add (c := ((n + 1 : Nat) : Int)) rfl rfl (by rw [w64 (by omega) (by omega)]; omega)) ?_
  obtain ⟨j1, j2, rfl, hj1⟩ : ∃ j1 j2, js = j1 ++ j2 ∧ j1.length = 1 * 2 := ⟨js.take 2, js.drop 2, (List.take_append_drop _ _).symm, by rw [List.length_take]; omega⟩
  obtain ⟨m1, m0, hmm, hm1, hm0⟩ : ∃ m1 m0, xb ++ j1 = m1 ++ m0 ∧ m1.length = 1 * 2 ∧ m0.length = (n - i) * 2 := ⟨(xb ++ j1).take 2, (xb ++ j1).drop 2, (List.take_append_drop _ _).symm, by rw [List.length_take, List.length_append]; omega, by rw [List.length_drop, List.length_append]; omega⟩
  rw [show xa ++ xb ++ (j1 ++ j2) = (xa ++ m1) ++ m0 ++ j2 from by rw [List.append_assoc, ← List.append_assoc xb, hmm]; simp only [List.append_assoc]]
  rw [List.length_append] at hcl
  refine L.w rfl (V.slice (l := 0) (u := n + 1) rfl underlying115 sizeOf129 rfl ⟨_, rfl⟩ (by omega) (by omega) (ad' := some ⟨b, 0, none⟩) (by rw [if_neg (by omega)]; simp [add_at])) ?_
  refine sA rfl (sN (sC (sD (sM rfl (sM rfl (sM rfl (sM rfl ?_)))))))
  refine L.w rfl (V.add (c := ((i + 1 : Nat) : Int)) rfl rfl (by rw [w64 (by omega) (by omega)]; omega)) ?_
  refine L.w rfl (V.slice (l := i + 1) (u := n + 1 - 0) rfl underlying115 sizeOf129 ⟨_, rfl⟩ rfl (by omega) (by omega) (ad' := some ⟨b, (i + 1) * 2, none⟩) (by rw [if_neg (by omega)]; simp [add_at])) ?_
  refine L.w rfl (V.extern (v := .bool false) rfl rfl rfl (fun w hw => by
   rw [run_callFunc_extern func191 (by kernel_rfl) (by kernel_rfl) (by kernel_rfl) (e := Extern.SlicesOverlaps.overlaps #[115, 115] #[4]) (by kernel_rfl)]
   have := run_overlaps (P := Tryz.prog) (tR := 4) (va := vb) (b := b) (la := 1) (ca := 1) (off := (i + 1) * 2) (lb := n + 1 - 0 - (i + 1)) (cb := c - 0 - (i + 1)) underlying115 sizeOf129 hvb (.tail .head) .head (by simp only [List.size_toArray, List.length_append]; omega) hw
   simp only [List.append_nil, Array.append_empty, Array.empty_append] at this ⊢
   rw [this]
   rfl)) ?_
  refine sV rfl (sN (sO rfl (sC ?_)))
  refine C.drawC [] (Hp w0 F S Hr) (fun w h => h.sub zSub) (by kernel_rfl) rfl (fun w hw => hw.drawn _) ?_
  refine D.take 0 (listed' := #[true, false, false, false, false, false, false, false, false]) rfl (by kernel_rfl) rfl rfl rfl rfl (V.move rfl) (fun w h => h.sub zSub) ?_
  refine D.take 1 (listed' := #[true, true, false, false, false, false, false, false, false]) rfl (by kernel_rfl) rfl rfl rfl rfl (V.move rfl) (fun w h => h.sub zSub) ?_
  refine D.take 2 (listed' := #[true, true, true, false, false, false, false, false, false]) rfl (by kernel_rfl) rfl rfl rfl rfl (V.move rfl) (fun w h => h.sub zSub) ?_
  refine D.take 3 (listed' := #[true, true, true, true, false, false, false, false, false]) rfl (by kernel_rfl) rfl rfl rfl rfl (V.add (c := ((i + 1 : Nat) : Int)) rfl rfl (by rw [w64 (by omega) (by omega)]; omega)) (fun w h => h.sub zSub) ?_
  refine D.take 4 (listed' := #[true, true, true, true, true, false, false, false, false]) rfl (by kernel_rfl) rfl rfl rfl rfl (V.slice (l := i + 1) (u := n + 1 - 0) rfl underlying115 sizeOf129 ⟨_, rfl⟩ rfl (by omega) (by omega) (ad' := some ⟨b, (i + 1) * 2, none⟩) (by rw [if_neg (by omega)]; simp [add_at])) (fun w h => h.sub zSub) ?_
  refine D.take 5 (listed' := #[true, true, true, true, true, true, false, false, false]) rfl (by kernel_rfl) rfl rfl rfl rfl (V.move rfl) (fun w h => h.sub zSub) ?_
  refine D.take 6 (listed' := #[true, true, true, true, true, true, true, false, false]) rfl (by kernel_rfl) rfl rfl rfl rfl (V.move rfl) (fun w h => h.sub zSub) ?_
  refine D.take 7 (listed' := #[true, true, true, true, true, true, true, true, false]) rfl (by kernel_rfl) rfl rfl rfl rfl (V.slice (l := i) (u := n + 1 - 0) rfl underlying115 sizeOf129 ⟨_, rfl⟩ rfl (by omega) (by omega) (ad' := some ⟨b, i * 2, none⟩) (by rw [if_neg (by omega)]; simp [add_at])) (fun w h => h.sub zSub) ?_
  refine D.step 8 (listed' := #[true, true, true, true, true, true, true, true, true]) (by kernel_rfl) rfl rfl (.inr (fun w h => h.sub zSub)) ?_
  refine L.copyM (o := (i + 1) * 2) (b := b) (sz := 2) (m := n - i) (l := n + 1 - 0 - i) (ys := m1 ++ m0) rfl rfl rfl rfl underlying115 sizeOf129 ⟨by rw [List.length_append]; omega, .inr ⟨b, i * 2, _, _, _, _, rfl, ⟨by omega, by omega⟩, .head, fun j hj => ?_⟩⟩ (by omega) (by rw [List.length_append]; omega) hm0 (by rw [← hmm, List.take_left' hxb]) h1b .head ?_
  ·simp only [List.getElem?_toArray]
   rw [show xa ++ m1 ++ m0 ++ j2 = xa ++ ((m1 ++ m0) ++ j2) from by simp only [List.append_assoc], List.getElem?_append_right (by omega), hxa, Nat.add_sub_cancel_left, List.getElem?_append_left hj]
  rw [show xa ++ m1 ++ xb ++ j2 = xa ++ m1 ++ (xb ++ j2) from by simp only [List.append_assoc]]
  refine D.back ?_
  refine D.done (by kernel_rfl) (.inr (fun w h => h.sub zSub)) (N.seq ?_)
  refine sD (sM rfl (sM rfl ?_))
  refine L.w rfl (V.slice (l := i) (u := n + 1 - 0) rfl underlying115 sizeOf129 ⟨_, rfl⟩ rfl (by omega) (by omega) (ad' := some ⟨b, i * 2, none⟩) (by rw [if_neg (by omega)]; simp [add_at])) ?_
  refine sM rfl ?_
  refine L.copyM (o := i * 2) (b := b) (sz := 2) (m := 1) (l := 1) (ys := ys) rfl rfl rfl rfl underlying115 sizeOf129 ⟨by rw [hy], .inr ⟨vb, 0, 1, _, _, _, rfl, ⟨Nat.le_refl _, by omega⟩, .tail .head, fun j hj => by simp⟩⟩ (by omega) hxa.symm hm1 (by rw [show 1 * 2 = ys.length from by rw [hy], List.take_length]) hy1 .head ?_
  rw [← List.append_assoc (xa ++ ys) xb j2]
  refine sE (sM rfl (sA rfl (sN ?_)))
  refine R.ret1 results190 rfl (fun w hw => ?_)
  refine ⟨_, _, rfl, ?_, hw.sub (H' := [(b, .cells (xa ++ ys ++ xb ++ j2).toArray 129 (0, 0))] ++ Hr) zSub⟩
  exact Own.mk (by simp only [List.length_append]; omega) (by simp only [List.length_append]; omega) (by omega) (by omega)
end
end Go.Proofs.YtijgbppkdaiikaaGreat

set_option linter.unusedSimpArgs false
set_option linter.unusedVariables false
namespace Go.Proofs
open Go.RowKit Go.Shelf
def Tryz.lays189_ren : Go.Shelf.Ren := ⟨fun | 189 => 63 | 125 => 121 | 257 => 120 | 128 => 162 | 129 => 163 | 294 => 153 | 295 => 154 | 296 => 155 | 297 => 156 | 298 => 157 | 299 => 158 | 216 => 159 | 300 => 160 | 301 => 161 | 328 => 194 | 329 => 195 | 330 => 196 | 331 => 197 | 332 => 198 | 215 => 199 | 343 => 211 | n => n, fun | 28 => 37 | 3 => 3 | 46 => 30 | 0 => 0 | 51 => 196 | 53 => 123 | 4 => 4 | 183 => 259 | 182 => 258 | 131 => 131 | 5 => 5 | 9 => 9 | 218 => 294 | 222 => 175 | 228 => 309 | 229 => 310 | n => n, fun | n => n⟩
theorem Tryz.lays189 : Lays.n189 Tryz.prog Tryz.lays189_ren where
 mixed := by kernel_rfl
 f125 := func121.trans (congrArg some (by kernel_rfl))
 f128 := func162.trans (congrArg some (by kernel_rfl))
 f129 := func163.trans (congrArg some (by kernel_rfl))
 f189 := func63.trans (congrArg some (by kernel_rfl))
 f215 := func199.trans (congrArg some (by kernel_rfl))
 f216 := func159.trans (congrArg some (by kernel_rfl))
 f257 := func120.trans (congrArg some (by kernel_rfl))
 f294 := func153.trans (congrArg some (by kernel_rfl))
 f295 := func154.trans (congrArg some (by kernel_rfl))
 f296 := func155.trans (congrArg some (by kernel_rfl))
 f297 := func156.trans (congrArg some (by kernel_rfl))
 f298 := func157.trans (congrArg some (by kernel_rfl))
 f299 := func158.trans (congrArg some (by kernel_rfl))
 f300 := func160.trans (congrArg some (by kernel_rfl))
 f301 := func161.trans (congrArg some (by kernel_rfl))
 f328 := func194.trans (congrArg some (by kernel_rfl))
 f329 := func195.trans (congrArg some (by kernel_rfl))
 f330 := func196.trans (congrArg some (by kernel_rfl))
 f331 := func197.trans (congrArg some (by kernel_rfl))
 f332 := func198.trans (congrArg some (by kernel_rfl))
 f343 := func211.trans (congrArg some (by kernel_rfl))
 t0 := underlying0
 a0 := isAgg0
 z0 := sizeOf0
 v0 := zeroValue0
 t3 := underlying3
 a3 := isAgg3
 z3 := sizeOf3
 v3 := zeroValue3
 t4 := underlying4
 a4 := isAgg4
 z4 := sizeOf4
 v4 := zeroValue4
 t5 := underlying5
 a5 := isAgg5
 z5 := sizeOf5
 v5 := zeroValue5
 t9 := underlying9
 a9 := isAgg9
 z9 := sizeOf9
 v9 := zeroValue9
 t28 := underlying37
 a28 := isAgg37
 z28 := sizeOf37
 v28 := zeroValue37
 t46 := underlying30
 a46 := isAgg30
 z46 := sizeOf30
 v46 := zeroValue30
 t51 := underlying196
 a51 := isAgg196
 z51 := sizeOf196
 v51 := zeroValue196
 t53 := underlying123
 a53 := isAgg123
 z53 := sizeOf123
 v53 := zeroValue123
 t131 := underlying131
 a131 := isAgg131
 z131 := sizeOf131
 v131 := zeroValue131
 t182 := underlying258
 a182 := isAgg258
 z182 := sizeOf258
 v182 := zeroValue258
 t183 := underlying259
 a183 := isAgg259
 z183 := sizeOf259
 v183 := zeroValue259
 t218 := underlying294
 a218 := isAgg294
 z218 := sizeOf294
 v218 := zeroValue294
 t222 := underlying175
 a222 := isAgg175
 z222 := sizeOf175
 v222 := zeroValue175
 t228 := underlying309
 a228 := isAgg309
 z228 := sizeOf309
 v228 := zeroValue309
 t229 := underlying310
 a229 := isAgg310
 z229 := sizeOf310
 v229 := zeroValue310
end Go.Proofs
namespace Go.Proofs.YtijgbppkdaiikaaGreat
open Go.Proofs.Tryz Go.Tk

section
variable {w0 : World} {F : Nat → Prop} {S : Store} {Hr : Heap} {w : World}

theorem cmpNaN_ok (x : Int) (hw : Hp w0 F S Hr w) :
 Calls Tryz.prog 199 #[.int .i64 x] w fun e w' => e = .returned (.bool false) ∧ Hp w0 F S Hr w' := by
 refine enterA hw func199 rfl ntmps199 rfl rfl ?_
 refine sD (sA rfl (sE (sM rfl (sM rfl (sQb rfl (sA rfl (sN ?_)))))))
 refine R.ret1 results199 rfl (fun w hw => ?_)
 exact ⟨ret_bool (by simp), hw⟩
theorem slNaN_ok (x : Int) (hw : Hp w0 F S Hr w) :
 Calls Tryz.prog 200 #[.int .i64 x] w fun e w' => e = .returned (.bool false) ∧ Hp w0 F S Hr w' := by
 refine enterA hw func200 rfl ntmps200 rfl rfl ?_
 refine sD (sA rfl (sE (sM rfl (sM rfl (sQb rfl (sA rfl (sN ?_)))))))
 refine R.ret1 results200 rfl (fun w hw => ?_)
 exact ⟨ret_bool (by simp), hw⟩
theorem less_ok (x y : Int) (hw : Hp w0 F S Hr w) :
 Calls Tryz.prog 159 #[.int .i64 x, .int .i64 y] w fun e w' => e = .returned (.bool (decide (x < y))) ∧ Hp w0 F S Hr w' := by
 refine enterA hw func159 rfl ntmps159 rfl rfl ?_
 refine sD (sA rfl (sE (sM rfl ?_)))
 refine L.call rfl rfl rfl call199 rfl (fun w hw => cmpNaN_ok x hw) ?_
 rintro _ a w hst ⟨rfl, hw⟩
 refine hst.go rfl hw ?_
 clear hst hw w a
 refine sM rfl ?_
 refine L.know (d := 7) (u := .bool false) rfl (congrArg Value.bool rfl) ?_
 refine sS rfl (sS rfl (sS rfl (sU rfl (sM rfl (sM rfl (sM rfl (sQc rfl (sU rfl (sA rfl (sN ?_))))))))))
 refine R.ret1 results159 rfl (fun w hw => ?_)
 exact ⟨rfl, hw⟩

/-- The numbers rise. -/
def Asc (l : List Int) : Prop := l.Pairwise (· < ·)
theorem Asc.lt {l : List Int} (h : Asc l) {i j : Nat} (hj : j < l.length) (hij : i < j) : l[i] < l[j] := (List.pairwise_iff_getElem.1 h) i j (by omega) hj hij

theorem bsearch_ok {v : Value} {l : List Int} (hr : Is S Hr v l) (ha : Asc l) (hl : l.length ≤ 1000000) (x : Int) (hw : Hp w0 F S Hr w) :
 Calls Tryz.prog 165 #[v, .int .i64 x] w fun e w' => ∃ i : Nat, i ≤ l.length ∧ (∀ j (h : j < l.length), j < i → l[j] < x) ∧ (∀ j (h : j < l.length), i ≤ j → x ≤ l[j]) ∧ e = .returned (.tuple #[.int .i64 (i : Int), .bool (decide (x ∈ l))]) ∧ Hp w0 F S Hr w' := by
 obtain ⟨ad, c, rfl, _⟩ := hr.form
 refine enterA hw func165 rfl ntmps165 rfl rfl ?_
 refine sD (sA rfl (sA rfl (sE (sM rfl ?_))))
 refine L.w rfl (V.len rfl underlying224) ?_
 refine sA rfl (sE (sM rfl (sA rfl (sA rfl (sN (sC (sB ?_)))))))
 refine C.loop (α := Nat × Nat) (fun z => [(0, .slice ad l.length c), (1, .int .i64 x), (6, .int .i64 (l.length : Int)), (7, .int .i64 (z.1 : Int)), (8, .int .i64 (z.2 : Int))]) (fun z w => (z.1 ≤ z.2 ∧ z.2 ≤ l.length ∧ (∀ j (h : j < l.length), j < z.1 → l[j] < x) ∧ (∀ j (h : j < l.length), z.2 ≤ j → x ≤ l[j])) ∧ Hp w0 F S Hr w) (fun z => z.2 - z.1) (0, l.length) ⟨rfl, rfl, rfl, rfl, rfl, trivial⟩ (fun w hw => ⟨⟨Nat.zero_le _, Nat.le_refl _, fun j h h0 => by omega, fun j h h0 => by omega⟩, hw⟩) (fun z => C.pure (fun hz => ?_))
 obtain ⟨lo, hi⟩ := z
 obtain ⟨hz1, hz2, hz3, hz4⟩ := hz
 dsimp only at hz1 hz2 hz3 hz4 ⊢
 refine sC (sD (sM rfl (sM rfl (sQc rfl (sN ?_)))))
 refine C.cond rfl (fun h15 => ?_) (fun h15 => ?_)
 ·try simp only [sq] at h15
  obtain ⟨q, hqe⟩ : ∃ q, q = (lo + hi) / 2 := ⟨_, rfl⟩
  have hq : q < l.length := by omega
  obtain ⟨b, off, cs, T, fz, rfl, h1, h2⟩ := hr.at hq
  obtain ⟨y, hy⟩ : ∃ y, l[q] = y := ⟨_, rfl⟩
  rw [hy] at h2
  refine sK (sB (sD (sM rfl (sM rfl ?_))))
  refine L.w rfl (V.add (c := ((lo + hi : Nat) : Int)) rfl rfl (by rw [w64 (by omega) (by omega)]; omega)) ?_
  refine L.w rfl (V.conv (c := ((lo + hi : Nat) : Int)) rfl underlying3 underlying30 (by rw [IntKind.wrap_u64]; omega)) ?_
  refine L.w rfl (V.shr (c := (q : Int)) rfl rfl (by decide) (by rw [Int.fdiv_eq_ediv_of_nonneg _ (by decide)]; show ((lo + hi : Nat) : Int) / 2 = _; omega)) ?_
  refine L.w rfl (V.conv (c := (q : Int)) rfl underlying30 underlying3 (by rw [IntKind.wrap_i64]; omega)) ?_
  refine sA rfl (sE (sM rfl (sM rfl ?_)))
  refine L.w rfl (V.indexAddr rfl rfl underlying224 sizeOf3 rfl (by omega)) ?_
  refine L.w rfl (V.load rfl isAgg3 h1 h2) ?_
  refine sM rfl ?_
  refine L.call rfl rfl rfl call159 rfl (fun w hw => less_ok y x hw) ?_
  rintro _ a w hst ⟨rfl, hw⟩
  refine hst.go rfl hw ?_
  clear hst hw w a
  refine sN ?_
  refine C.cond rfl (fun h27 => ?_) (fun h27 => ?_)
  ·try simp only [sq] at h27
   refine sR (sM rfl ?_)
   refine L.w rfl (V.add (c := ((q + 1 : Nat) : Int)) rfl rfl (by rw [w64 (by omega) (by omega)]; omega)) ?_
   refine sA rfl ?_
   refine L.nil (N.blk ?_)
   first
    | exact N.round (q + 1, hi) (by show hi - (q + 1) < hi - lo; omega) ⟨rfl, rfl, rfl, rfl, rfl, trivial⟩ (fun w hw => ⟨⟨by show q + 1 ≤ hi; omega, hz2, fun j h h0 => (by
       rcases (by omega : j < q ∨ j = q) with h1 | rfl
       ·exact Int.lt_trans (ha.lt hq h1) (by rw [hy]; exact h27)
       ·rw [hy]; exact h27), hz4⟩, hw⟩)
    | exact N.round (lo, q) (by show q - lo < hi - lo; omega) ⟨rfl, rfl, rfl, rfl, rfl, trivial⟩ (fun w hw => ⟨⟨by show lo ≤ q; omega, by show q ≤ l.length; omega, hz3, fun j h h0 => (by
       rcases (by omega : q < j ∨ j = q) with h1 | rfl
       ·exact Int.le_trans (by rw [hy]; exact h27) (Int.le_of_lt (ha.lt h h1))
       ·rw [hy]; exact h27)⟩, hw⟩)
  ·try simp only [sq] at h27
   refine sR (sM rfl (sA rfl ?_))
   refine L.nil (N.blk ?_)
   first
    | exact N.round (q + 1, hi) (by show hi - (q + 1) < hi - lo; omega) ⟨rfl, rfl, rfl, rfl, rfl, trivial⟩ (fun w hw => ⟨⟨by show q + 1 ≤ hi; omega, hz2, fun j h h0 => (by
       rcases (by omega : j < q ∨ j = q) with h1 | rfl
       ·exact Int.lt_trans (ha.lt hq h1) (by rw [hy]; exact h27)
       ·rw [hy]; exact h27), hz4⟩, hw⟩)
    | exact N.round (lo, q) (by show q - lo < hi - lo; omega) ⟨rfl, rfl, rfl, rfl, rfl, trivial⟩ (fun w hw => ⟨⟨by show lo ≤ q; omega, by show q ≤ l.length; omega, hz3, fun j h h0 => (by
       rcases (by omega : q < j ∨ j = q) with h1 | rfl
       ·exact Int.le_trans (by rw [hy]; exact h27) (Int.le_of_lt (ha.lt h h1))
       ·rw [hy]; exact h27)⟩, hw⟩)
 ·try simp only [sq] at h15
  have hlh : hi = lo := by omega
  subst hlh
  refine sZ rfl (sD (sM rfl (sM rfl (sM rfl (sQc rfl (sM rfl ?_))))))
  refine L.fork (d := 35) rfl (fun h35 => ?_) (fun h35 => ?_)
  ·try simp only [sq] at h35
   obtain ⟨b, off, cs, T, fz, rfl, h1, h2⟩ := hr.at (j := hi) (by omega)
   refine sM rfl (sM rfl ?_)
   refine L.w rfl (V.indexAddr rfl rfl underlying224 sizeOf3 rfl (by omega)) ?_
   refine L.w rfl (V.load rfl isAgg3 h1 h2) ?_
   refine sM rfl (sQa rfl (sM rfl ?_))
   refine L.fork (d := 42) rfl (fun h42 => ?_) (fun h42 => ?_)
   ·try simp only [sq] at h42
    refine sS rfl (sS rfl (sS rfl (sS rfl (sS rfl (sS rfl (sS rfl (sS rfl (sS rfl (sT rfl (sT rfl (sA rfl (sA rfl (sN ?_)))))))))))))
    refine R.ret2 results165 rfl rfl (fun w hw => ?_)
    refine ⟨hi, hz2, hz3, hz4, ?_, hw⟩
    refine congrArg (fun q : Bool => Ending.returned (.tuple #[.int .i64 (hi : Int), .bool q])) ?_
    rw [Bool.eq_iff_iff, decide_eq_true_eq]
    first
     | (refine ⟨fun _ => ?_, fun _ => rfl⟩
        rw [← h42]; exact List.getElem_mem _)
     | (refine ⟨fun h => by simp at h, fun h => ?_⟩
        obtain ⟨j, hj, rfl⟩ := List.getElem_of_mem h
        exfalso
        rcases Nat.lt_trichotomy j hi with h0 | rfl | h0
        ·have := hz3 j hj h0; omega
        ·first | omega | exact h42 rfl
        ·have := hz4 hi (by omega) (Nat.le_refl _); have := ha.lt hj h0; omega)
   ·try simp only [sq] at h42
    refine sM rfl (sM rfl ?_)
    refine L.w rfl (V.indexAddr rfl rfl underlying224 sizeOf3 rfl (by omega)) ?_
    refine L.w rfl (V.load rfl isAgg3 h1 h2) ?_
    refine L.call rfl rfl rfl call200 rfl (fun w hw => slNaN_ok _ hw) ?_
    rintro _ a w hst ⟨rfl, hw⟩
    refine hst.go rfl hw ?_
    clear hst hw w a
    refine sM rfl ?_
    refine L.know (d := 48) (u := .bool false) rfl (congrArg Value.bool rfl) ?_
    refine sS rfl (sS rfl (sU rfl (sU rfl (sT rfl (sA rfl (sA rfl (sN ?_)))))))
    refine R.ret2 results165 rfl rfl (fun w hw => ?_)
    refine ⟨hi, hz2, hz3, hz4, ?_, hw⟩
    refine congrArg (fun q : Bool => Ending.returned (.tuple #[.int .i64 (hi : Int), .bool q])) ?_
    rw [Bool.eq_iff_iff, decide_eq_true_eq]
    first
     | (refine ⟨fun _ => ?_, fun _ => rfl⟩
        rw [← h42]; exact List.getElem_mem _)
     | (refine ⟨fun h => by simp at h, fun h => ?_⟩
        obtain ⟨j, hj, rfl⟩ := List.getElem_of_mem h
        exfalso
        rcases Nat.lt_trichotomy j hi with h0 | rfl | h0
        ·have := hz3 j hj h0; omega
        ·first | omega | exact h42 rfl
        ·have := hz4 hi (by omega) (Nat.le_refl _); have := ha.lt hj h0; omega)
  ·try simp only [sq] at h35
   refine sS rfl (sS rfl (sS rfl (sS rfl (sS rfl (sS rfl (sS rfl (sS rfl (sS rfl (sS rfl (sS rfl (sS rfl (sS rfl (sS rfl ?_)))))))))))))
   refine sS rfl (sS rfl (sS rfl (sU rfl (sA rfl (sA rfl (sN ?_))))))
   refine R.ret2 results165 rfl rfl (fun w hw => ?_)
   refine ⟨hi, hz2, hz3, hz4, ?_, hw⟩
   refine congrArg (fun q : Bool => Ending.returned (.tuple #[.int .i64 (hi : Int), .bool q])) ?_
   rw [Bool.eq_iff_iff, decide_eq_true_eq]
   first
    | (refine ⟨fun _ => ?_, fun _ => rfl⟩
       rw [← h42]; exact List.getElem_mem _)
    | (refine ⟨fun h => by simp at h, fun h => ?_⟩
       obtain ⟨j, hj, rfl⟩ := List.getElem_of_mem h
       exfalso
       rcases Nat.lt_trichotomy j hi with h0 | rfl | h0
       ·have := hz3 j hj h0; omega
       ·first | omega | exact h42 rfl
       ·have := hz4 hi (by omega) (Nat.le_refl _); have := ha.lt hj h0; omega)

theorem index_ok {v : Value} {l : List Int} (hr : Is S Hr v l) (hl : l.length ≤ 1000000) (x : Int) (hw : Hp w0 F S Hr w) :
 Calls Tryz.prog 134 #[v, .int .i64 x] w fun e w' => ∃ i : Int, e = .returned (.int .i64 i) ∧ (0 ≤ i ↔ x ∈ l) ∧ Hp w0 F S Hr w' := by
 obtain ⟨ad, c, rfl, _⟩ := hr.form
 refine enterA hw func134 rfl ntmps134 rfl rfl ?_
 refine sD (sA rfl (sN (sC (sD (sM rfl ?_)))))
 refine L.w rfl (V.len rfl underlying37) ?_
 refine sM rfl (sN (sB ?_))
 refine C.loop (α := Nat) (fun z => [(0, .slice ad l.length c), (1, .int .i64 x), (7, .int .i64 (l.length : Int)), (8, .int .i64 (z : Int))]) (fun z w => (z ≤ l.length ∧ ∀ j (h : j < l.length), j < z → l[j] ≠ x) ∧ Hp w0 F S Hr w) (fun z => l.length - z) 0 ⟨rfl, rfl, rfl, rfl, trivial⟩ (fun w hw => ⟨⟨Nat.zero_le _, fun j h h0 => by omega⟩, hw⟩) (fun z => C.pure (fun hz => ?_))
 refine sD (sQc rfl (sN (sC ?_)))
 refine C.cond rfl (fun h9 => ?_) (fun h9 => ?_)
 ·try simp only [sq] at h9
  have hj : z < l.length := by omega
  obtain ⟨b, off, cs, T, fz, rfl, h1, h2⟩ := hr.at hj
  refine sK (sC (sB (sD (sM rfl (sA rfl (sE (sM rfl (sM rfl (sM rfl ?_)))))))))
  refine L.w rfl (V.indexAddr rfl rfl underlying37 sizeOf3 rfl (by omega)) ?_
  refine L.w rfl (V.load rfl isAgg3 h1 h2) ?_
  refine sQa rfl (sN ?_)
  refine C.cond rfl (fun h16 => ?_) (fun h16 => ?_)
  ·try simp only [sq] at h16
   refine sD (sM rfl (sA rfl (sN ?_)))
   refine R.ret1 results134 rfl (fun w hw => ?_)
   exact ⟨_, rfl, ⟨fun _ => by rw [h16]; exact List.getElem_mem _, fun _ => by omega⟩, hw⟩
  ·try simp only [sq] at h16
   refine C.skip (N.blk (N.seq ?_))
   refine sR ?_
   refine L.w rfl (V.add rfl rfl (w64 (by omega) (by omega))) ?_
   refine sM rfl ?_
   refine L.nil ?_
   exact N.round (z + 1) (by omega) ⟨rfl, rfl, rfl, rfl, trivial⟩ (fun w hw => ⟨⟨by omega, fun j h h0 => (by
    rcases (by omega : j < z ∨ j = z) with h1 | rfl
    ·exact hz.2 j h h1
    ·exact fun e => h16 e.symm)⟩, hw⟩)
 ·try simp only [sq] at h9
  refine sZ rfl (sD (sA rfl (sN ?_)))
  refine R.ret1 results134 rfl (fun w hw => ?_)
  refine ⟨_, rfl, ⟨fun h => by omega, fun h => ?_⟩, hw⟩
  obtain ⟨j, hj, e⟩ := List.getElem_of_mem h
  exact absurd e (hz.2 j hj (by omega))
theorem contains_ok {v : Value} {l : List Int} (hr : Is S Hr v l) (hl : l.length ≤ 1000000) (x : Int) (hw : Hp w0 F S Hr w) :
 Calls Tryz.prog 88 #[v, .int .i64 x] w fun e w' => e = .returned (.bool (decide (x ∈ l))) ∧ Hp w0 F S Hr w' := by
 refine enterA hw func88 rfl ntmps88 rfl rfl ?_
 refine sD (sA rfl (sE (sM rfl (sM rfl ?_))))
 refine L.call rfl rfl rfl call134 rfl (fun w hw => index_ok hr hl x hw) ?_
 rintro _ a w hst ⟨i, rfl, hi, hw⟩
 refine hst.go rfl hw ?_
 clear hst hw w a
 refine sQf rfl (sA rfl (sN ?_))
 refine R.ret1 results88 rfl (fun w hw => ?_)
 refine ⟨ret_bool ?_, hw⟩
 rw [decide_eq_true_eq, decide_eq_true_eq]; exact hi
end
end Go.Proofs.YtijgbppkdaiikaaGreat

set_option linter.unusedSimpArgs false
set_option linter.unusedVariables false
namespace Go.Proofs.YtijgbppkdaiikaaGreat
open Go.Proofs.Tryz Go.Tk

def sortL (l : List Int) : List Int := l.mergeSort fun x y => decide (x ≤ y)
theorem sortL_len (l : List Int) : (sortL l).length = l.length := List.length_mergeSort _
theorem sortL_perm (l : List Int) : (sortL l).Perm l := List.mergeSort_perm _ _
theorem sortL_le (l : List Int) : (sortL l).Pairwise (· ≤ ·) := by
 have := List.pairwise_mergeSort (le := fun x y : Int => decide (x ≤ y)) (fun a b c h1 h2 => by simp at *; omega) (fun a b => by simp; omega) l
 exact this.imp (fun h => by simpa using h)
theorem sortL_asc {l : List Int} (h : l.Nodup) : Asc (sortL l) := by
 have h1 := sortL_le l
 have h2 : (sortL l).Nodup := (sortL_perm l).nodup_iff.2 h
 exact h1.imp₂ (fun a b h3 h4 => by omega) h2

section
variable {w0 : World} {F : Nat → Prop} {S : Store} {Hr : Heap} {w : World}

theorem bitsLen_ok (n : Nat) (hn : n < 4611686018427387904) (hw : Hp w0 F S Hr w) :
 Calls Tryz.prog 121 #[.int .u64 (n : Int)] w fun e w' => e = .returned (.int .i64 (Sort.bitsLen n : Nat)) ∧ Hp w0 F S Hr w' :=
 (calls_of_every_depth fun D => Any.lenWalkInAll { Tryz.lays189 with } D n w hn).mono fun e w' h => ⟨h.1, by rw [h.2]; exact hw⟩

theorem pdq_ok {b cap : Nat} {zs : List Int} {js : List Value} {T : TypeId} (hsz : zs.length < 1000000) (hw : Hp w0 F S ((b, .cells (zs.map iv ++ js).toArray T (0, 0)) :: Hr) w) :
 Calls Tryz.prog 120 #[.slice (some ⟨b, 0, none⟩) zs.length cap, .int .i64 0, .int .i64 (zs.length : Int), .int .i64 (Sort.bitsLen zs.length : Nat)] w fun e w' => e = .returned (.tuple #[]) ∧ Hp w0 F S ((b, .cells ((sortL zs).map iv ++ js).toArray T (0, 0)) :: Hr) w' := by
 have hk : Sort.bitsLen zs.length ≤ 62 := (Sort.bitsLen_le_iff zs.length 62).2 (by omega)
 have h := calls_of_every_depth fun D => Any.pdqWalkInInt { Tryz.lays189 with } D _ b 0 cap 0 zs.length (Sort.bitsLen zs.length) zs.toArray w (Nat.le_refl _) (holds_own hw) (lt_of_heap (hw.own (b, _) (List.mem_cons_self ..))) (Nat.zero_le _) (by simp) (by simp; omega) (by omega) (.inl rfl)
 refine h.mono fun e w' h => ?_
 obtain ⟨h1, n, os, rfl⟩ := h
 refine ⟨h1, ?_⟩
 have e1 : Sort.pdq Sort.ltInt zs.toArray 0 zs.length (Sort.bitsLen zs.length) true true = (sortL zs).toArray := by
  rw [show sortL zs = zs.mergeSort (fun x y => decide (x ≤ y)) from rfl, ← Any.sort_int_eqD]; rfl
 rw [e1]
 exact hw.sorted (sortL_len zs) n os

theorem insort0_ok {v : Value} (hw : Hp w0 F S Hr w) :
 Calls Tryz.prog 153 #[v, .int .i64 0, .int .i64 0] w fun e w' => e = .returned (.tuple #[]) ∧ Hp w0 F S Hr w' := by
 refine enterA hw func153 rfl ntmps153 rfl rfl ?_
 refine sD (sM rfl ?_)
 refine L.w rfl (V.add rfl rfl (w64 (by omega) (by omega))) ?_
 refine sA rfl (sN (sB ?_))
 refine C.loop (α := Unit) (fun z => [(0, v), (1, .int .i64 0), (2, .int .i64 0), (6, .int .i64 1)]) (fun z w => Hp w0 F S Hr w) (fun z => 0) () ⟨rfl, rfl, rfl, rfl, trivial⟩ (fun w hw => hw) (fun z => ?_)
 refine sC (sD (sM rfl (sM rfl (sQc rfl (sN (sP rfl ?_))))))
 refine C.exit rfl ?_
 refine R.fall0 results153 (fun w hw => ?_)
 exact ⟨rfl, hw⟩
theorem pdq0_ok {v : Value} {lim : Int} (hw : Hp w0 F S Hr w) :
 Calls Tryz.prog 120 #[v, .int .i64 0, .int .i64 0, .int .i64 lim] w fun e w' => e = .returned (.tuple #[]) ∧ Hp w0 F S Hr w' := by
 refine enterA hw func120 rfl ntmps120 rfl rfl ?_
 refine sD (sA rfl (sE (sA rfl (sN (sB ?_)))))
 refine C.loop (α := Unit) (fun z => [(0, v), (1, .int .i64 0), (2, .int .i64 0), (3, .int .i64 lim)]) (fun z w => Hp w0 F S Hr w) (fun z => 0) () ⟨rfl, rfl, rfl, rfl, trivial⟩ (fun w hw => hw) (fun z => ?_)
 refine sB (sD (sM rfl (sM rfl ?_)))
 refine L.w rfl (V.sub rfl rfl (w64 (by omega) (by omega))) ?_
 refine sA rfl (sN (sC (sD (sM rfl (sQd rfl (sN (sO rfl (sD (sM rfl (sM rfl (sM rfl ?_)))))))))))
 refine L.call rfl rfl rfl call153 rfl (fun w hw => insort0_ok hw) ?_
 rintro _ a w hst ⟨rfl, hw⟩
 refine hst.go rfl hw ?_
 clear hst hw w a
 refine sN ?_
 refine R.ret0 results120 (fun w hw => ?_)
 exact ⟨rfl, hw⟩

theorem sortInts_ok {v : Value} {zs : List Int} {fp : Heap} (ho : Own 3 1 v zs.length (zs.map iv) fp) (hsz : zs.length < 1000000) (hw : Hp w0 F S (fp ++ Hr) w) :
 Calls Tryz.prog 63 #[v] w fun e w' => ∃ fp', e = .returned (.tuple #[]) ∧ Own 3 1 v (sortL zs).length ((sortL zs).map iv) fp' ∧ Hp w0 F S (fp' ++ Hr) w' := by
 rcases ho with ⟨rfl, h0, h1, rfl⟩ | ⟨b, c, js, rfl, rfl, h1, h2, h3, h4⟩
 ·have hz : zs = [] := List.eq_nil_of_length_eq_zero h0
  subst hz
  refine enterA hw func63 rfl ntmps63 rfl rfl ?_
  refine sD (sM rfl ?_)
  refine L.w rfl (V.len rfl underlying37) ?_
  refine sA rfl (sN (sR (sM rfl (sM rfl (sM rfl ?_)))))
  refine L.w rfl (V.conv (c := ((0 : Nat) : Int)) rfl underlying3 underlying30 (by rw [IntKind.wrap_u64]; rfl)) ?_
  refine L.call rfl rfl rfl call121 rfl (fun w hw => bitsLen_ok 0 (by decide) hw) ?_
  rintro _ a w hst ⟨rfl, hw⟩
  refine hst.go rfl hw ?_
  clear hst hw w a
  refine L.call rfl rfl rfl call120 rfl (fun w hw => pdq0_ok hw) ?_
  rintro _ a w hst ⟨rfl, hw⟩
  refine hst.go rfl hw ?_
  clear hst hw w a
  refine L.nil ?_
  refine R.fall0 results63 (fun w hw => ?_)
  refine ⟨[], rfl, ?_, hw⟩
  have : sortL [] = [] := List.eq_nil_of_length_eq_zero (by rw [sortL_len]; rfl)
  rw [this]; exact Own.nil _ _
 ·refine enterA hw func63 rfl ntmps63 rfl rfl ?_
  refine sD (sM rfl ?_)
  refine L.w rfl (V.len rfl underlying37) ?_
  refine sA rfl (sN (sR (sM rfl (sM rfl (sM rfl ?_)))))
  refine L.w rfl (V.conv (c := (zs.length : Int)) rfl underlying3 underlying30 (by rw [IntKind.wrap_u64]; omega)) ?_
  refine L.call rfl rfl rfl call121 rfl (fun w hw => bitsLen_ok zs.length (by omega) hw) ?_
  rintro _ a w hst ⟨rfl, hw⟩
  refine hst.go rfl hw ?_
  clear hst hw w a
  refine L.call rfl rfl rfl call120 rfl (fun w hw => pdq_ok hsz hw) ?_
  rintro _ a w hst ⟨rfl, hw⟩
  refine hst.go rfl hw ?_
  clear hst hw w a
  refine L.nil ?_
  refine R.fall0 results63 (fun w hw => ?_)
  refine ⟨[(b, _)], rfl, ?_, hw⟩
  rw [sortL_len]
  exact Own.mk (by rw [List.length_map, sortL_len, Nat.mul_one]) (by rw [List.length_append, List.length_map, sortL_len]; rw [List.length_append, List.length_map] at h2; exact h2) h3 h4
theorem sortRising_ok {v : Value} {zs : List Int} {fp : Heap} (ho : Own 3 1 v zs.length (zs.map iv) fp) (hsz : zs.length < 1000000) (hw : Hp w0 F S (fp ++ Hr) w) :
 Calls Tryz.prog 124 #[v] w fun e w' => ∃ fp', e = .returned (.tuple #[]) ∧ Own 3 1 v (sortL zs).length ((sortL zs).map iv) fp' ∧ Hp w0 F S (fp' ++ Hr) w' := by
 rcases ho with ⟨rfl, h0, h1, rfl⟩ | ⟨b, c, js, rfl, rfl, h1, h2, h3, h4⟩
 ·have hz : zs = [] := List.eq_nil_of_length_eq_zero h0
  subst hz
  refine enterA hw func124 rfl ntmps124 rfl rfl ?_
  refine sD (sM rfl ?_)
  refine L.w rfl (V.len rfl underlying224) ?_
  refine sA rfl (sN (sR (sM rfl (sM rfl (sM rfl ?_)))))
  refine L.w rfl (V.conv (c := ((0 : Nat) : Int)) rfl underlying3 underlying30 (by rw [IntKind.wrap_u64]; rfl)) ?_
  refine L.call rfl rfl rfl call121 rfl (fun w hw => bitsLen_ok 0 (by decide) hw) ?_
  rintro _ a w hst ⟨rfl, hw⟩
  refine hst.go rfl hw ?_
  clear hst hw w a
  refine L.call rfl rfl rfl call120 rfl (fun w hw => pdq0_ok hw) ?_
  rintro _ a w hst ⟨rfl, hw⟩
  refine hst.go rfl hw ?_
  clear hst hw w a
  refine L.nil ?_
  refine R.fall0 results124 (fun w hw => ?_)
  refine ⟨[], rfl, ?_, hw⟩
  have : sortL [] = [] := List.eq_nil_of_length_eq_zero (by rw [sortL_len]; rfl)
  rw [this]; exact Own.nil _ _
 ·refine enterA hw func124 rfl ntmps124 rfl rfl ?_
  refine sD (sM rfl ?_)
  refine L.w rfl (V.len rfl underlying224) ?_
  refine sA rfl (sN (sR (sM rfl (sM rfl (sM rfl ?_)))))
  refine L.w rfl (V.conv (c := (zs.length : Int)) rfl underlying3 underlying30 (by rw [IntKind.wrap_u64]; omega)) ?_
  refine L.call rfl rfl rfl call121 rfl (fun w hw => bitsLen_ok zs.length (by omega) hw) ?_
  rintro _ a w hst ⟨rfl, hw⟩
  refine hst.go rfl hw ?_
  clear hst hw w a
  refine L.call rfl rfl rfl call120 rfl (fun w hw => pdq_ok hsz hw) ?_
  rintro _ a w hst ⟨rfl, hw⟩
  refine hst.go rfl hw ?_
  clear hst hw w a
  refine L.nil ?_
  refine R.fall0 results124 (fun w hw => ?_)
  refine ⟨[(b, _)], rfl, ?_, hw⟩
  rw [sortL_len]
  exact Own.mk (by rw [List.length_map, sortL_len, Nat.mul_one]) (by rw [List.length_append, List.length_map, sortL_len]; rw [List.length_append, List.length_map] at h2; exact h2) h3 h4
end
end Go.Proofs.YtijgbppkdaiikaaGreat

set_option linter.unusedSimpArgs false
set_option linter.unusedVariables false
namespace Go.Proofs.YtijgbppkdaiikaaGreat
open Go.Proofs.Tryz Go.Tk

structure Fl where
 size : Nat
 spare : List Int
 held : List Int

namespace Fl
def inn (s : Fl) (i : Int) : Bool := decide (2 ≤ i ∧ i < (s.size : Int))
def chk (s : Fl) (i : Int) : Int := if ¬ (2 ≤ i ∧ i < (s.size : Int)) then 2 else if i ∈ s.spare ∨ i ∈ s.held then 8 else 0
/-- The numbers below i, i, those above. -/
def ins (l : List Int) (i : Int) : List Int := l.filter (· < i) ++ [i] ++ l.filter (fun x => ¬ x < i)
structure Ok (s : Fl) : Prop where
 s0 : 8 ≤ s.size
 s1 : s.size ≤ 1024
 spare : Asc s.spare
 held : Asc s.held
 in1 : ∀ i ∈ s.spare, 2 ≤ i ∧ i < (s.size : Int)
 in2 : ∀ i ∈ s.held, 2 ≤ i ∧ i < (s.size : Int)
 apart : ∀ i ∈ s.spare, i ∉ s.held
end Fl

theorem asc_len {l : List Int} (h : Asc l) {n : Nat} (hb : ∀ i ∈ l, 2 ≤ i ∧ i < (n : Int)) : l.length ≤ n := by
 have key : ∀ (l : List Int) (lo : Int), Asc l → (∀ i ∈ l, lo ≤ i ∧ i < (n : Int)) → (l.length : Int) ≤ max 0 ((n : Int) - lo) := by
  intro l
  induction l with
  | nil => intro lo _ _; simp; omega
  | cons x l ih =>
    intro lo ha hb
    have h1 := hb x (List.mem_cons_self ..)
    have ha2 := List.pairwise_cons.1 ha
    have := ih (x + 1) ha2.2 (fun i hi => ⟨by have := ha2.1 i hi; omega, (hb i (List.mem_cons_of_mem _ hi)).2⟩)
    simp only [List.length_cons]
    omega
 have := key l 2 h hb
 omega

theorem asc_split {l : List Int} (h : Asc l) {i : Nat} {x : Int} (hi : i ≤ l.length) (h1 : ∀ j (h : j < l.length), j < i → l[j] < x) (h2 : ∀ j (h : j < l.length), i ≤ j → x ≤ l[j]) :
 l.take i = l.filter (· < x) ∧ l.drop i = l.filter (fun y => ¬ y < x) := by
 have e : l = l.take i ++ l.drop i := (List.take_append_drop i l).symm
 have a1 : ∀ y ∈ l.take i, y < x := fun y hy => by
  obtain ⟨j, hj, rfl⟩ := List.getElem_of_mem hy
  rw [List.length_take] at hj
  rw [List.getElem_take]; exact h1 j (by omega) (by omega)
 have a2 : ∀ y ∈ l.drop i, ¬ y < x := fun y hy => by
  obtain ⟨j, hj, rfl⟩ := List.getElem_of_mem hy
  rw [List.length_drop] at hj
  rw [List.getElem_drop]; have := h2 (i + j) (by omega) (by omega); omega
 have f1 : (l.take i).filter (· < x) = l.take i := List.filter_eq_self.2 (fun y hy => by simpa using a1 y hy)
 have f2 : (l.drop i).filter (· < x) = [] := List.filter_eq_nil_iff.2 (fun y hy => by simpa using a2 y hy)
 have f3 : (l.take i).filter (fun y => ¬ y < x) = [] := List.filter_eq_nil_iff.2 (fun y hy => by simpa using a1 y hy)
 have f4 : (l.drop i).filter (fun y => ¬ y < x) = l.drop i := List.filter_eq_self.2 (fun y hy => by simpa using a2 y hy)
 constructor
 ·conv => rhs; rw [e]
  rw [List.filter_append, f1, f2, List.append_nil]
 ·conv => rhs; rw [e]
  rw [List.filter_append, f3, f4, List.nil_append]

theorem ins_asc {l : List Int} (h : Asc l) {x : Int} (hx : x ∉ l) : Asc (Fl.ins l x) := by
 unfold Fl.ins Asc
 rw [List.append_assoc, List.pairwise_append]
 refine ⟨List.Pairwise.filter _ h, ?_, fun a ha b hb => ?_⟩
 ·rw [List.singleton_append, List.pairwise_cons]
  refine ⟨fun b hb => ?_, List.Pairwise.filter _ h⟩
  have := List.mem_filter.1 hb
  have h2 : ¬ b < x := by simpa using this.2
  have : b ≠ x := fun e => hx (e ▸ this.1)
  omega
 ·have ha2 : a < x := by simpa using (List.mem_filter.1 ha).2
  rcases List.mem_append.1 hb with hb | hb
  ·rw [List.mem_singleton.1 hb]; exact ha2
  ·have h2 : ¬ b < x := by simpa using (List.mem_filter.1 hb).2
   omega
theorem ins_mem {l : List Int} {x y : Int} : y ∈ Fl.ins l x ↔ y = x ∨ y ∈ l := by
 unfold Fl.ins
 simp only [List.mem_append, List.mem_filter, List.mem_singleton, decide_eq_true_eq, Bool.not_eq_true']
 constructor
 ·rintro ((⟨h, _⟩ | h) | ⟨h, _⟩)
  ·exact .inr h
  ·exact .inl h
  ·exact .inr h
 ·rintro (h | h)
  ·exact .inl (.inr h)
  ·by_cases hlt : y < x
   ·exact .inl (.inl ⟨h, hlt⟩)
   ·exact .inr ⟨h, by simpa using hlt⟩
theorem ins_len (l : List Int) (x : Int) : (Fl.ins l x).length = l.length + 1 := by
 unfold Fl.ins
 have : ∀ l : List Int, (l.filter (· < x)).length + (l.filter (fun y => ¬ y < x)).length = l.length := by
  intro l
  induction l with
  | nil => rfl
  | cons y l ih =>
    by_cases h : y < x
    ·rw [List.filter_cons_of_pos (by simpa using h), List.filter_cons_of_neg (by simpa using h), List.length_cons, List.length_cons]; omega
    ·rw [List.filter_cons_of_neg (by simpa using h), List.filter_cons_of_pos (by simpa using h), List.length_cons, List.length_cons]; omega
 simp only [List.length_append, List.length_singleton]
 have := this l
 omega

/-- A list in memory. -/
structure FlR (S : Store) (b : Nat) (s : Fl) (fp : Heap) : Prop where
 ok : s.Ok
 r : ∃ sv hv, fp = [(b, .cells #[.int .i64 (s.size : Int), sv, hv] 227 (0, 0))] ∧ Is S [] sv s.spare ∧ Is S [] hv s.held
theorem FlR.mono {S S' : Store} {b : Nat} {s : Fl} {fp : Heap} (h : FlR S b s fp) (le : S.le S') : FlR S' b s fp := by
 obtain ⟨h0, sv, hv, h1, h2, h3⟩ := h
 exact ⟨h0, sv, hv, h1, h2.mono (Sees.le le _), h3.mono (Sees.le le _)⟩
theorem _root_.Go.Tk.Is.lift {S : Store} {v : Value} {l : List Int} (h : Is S [] v l) (H : Heap) : Is S H v l := h.mono (Sees.nil (.refl S) H)

section
variable {w0 : World} {F : Nat → Prop} {S : Store} {Hr : Heap} {w : World}

theorem has_ok {v : Value} {l : List Int} (hr : Is S Hr v l) (ha : Asc l) (hl : l.length ≤ 1000000) (x : Int) (hw : Hp w0 F S Hr w) :
 Calls Tryz.prog 164 #[v, .int .i64 x] w fun e w' => e = .returned (.bool (decide (x ∈ l))) ∧ Hp w0 F S Hr w' := by
 refine enterA hw func164 rfl ntmps164 rfl rfl ?_
 refine sD (sA rfl (sE (sM rfl (sM rfl ?_))))
 refine L.call rfl rfl rfl call165 rfl (fun w hw => bsearch_ok hr ha hl x hw) ?_
 rintro _ a w hst ⟨i, hi, h1, h2, rfl, hw⟩
 refine hst.go rfl hw ?_
 clear hst hw w a
 refine sM rfl (sX rfl (sX rfl (sA rfl (sA rfl (sE (sM rfl (sA rfl (sN ?_))))))))
 refine R.ret1 results164 rfl (fun w hw => ?_)
 exact ⟨rfl, hw⟩

theorem with_ok {v : Value} {l : List Int} (hr : Is S Hr v l) (ha : Asc l) (hl : l.length ≤ 100000) (x : Int) (hw : Hp w0 F S Hr w) :
 Calls Tryz.prog 126 #[v, .int .i64 x] w fun e w' => ∃ v' fp, e = .returned v' ∧ Own 3 1 v' (Fl.ins l x).length ((Fl.ins l x).map iv) fp ∧ Hp w0 F S (fp ++ Hr) w' := by
 refine enterA hw func126 rfl ntmps126 rfl rfl ?_
 refine sD (sA rfl (sE (sM rfl (sM rfl ?_))))
 refine L.call rfl rfl rfl call165 rfl (fun w hw => bsearch_ok hr ha (by omega) x hw) ?_
 rintro _ a w hst ⟨i, hi, h1, h2, rfl, hw⟩
 refine hst.go rfl hw ?_
 clear hst hw w a
 obtain ⟨s1, s2⟩ := asc_split ha hi h1 h2
 refine sM rfl (sX rfl (sX rfl (sA rfl (sA rfl (sE (sM rfl ?_))))))
 refine L.call rfl rfl rfl call122 rfl (fun w hw => clone_rising hr (iv_one l) (by omega) hw) ?_
 rintro _ a w hst ⟨v14, fp14, rfl, ho, hw⟩
 refine hst.go rfl hw ?_
 clear hst hw w a
 refine sM rfl (sM rfl ?_)
 refine L.slice1 rfl rfl rfl underlying37 sizeOf3 zeroValue3 rfl (by decide) (by decide) rfl rfl (fun b17 => ?_)
 refine L.call (Rr := fun e w' => ∃ v' fp', e = .returned v' ∧ Own 3 1 v' (l.length + 1) ((l.map iv).take (i * 1) ++ [.int .i64 x] ++ (l.map iv).drop (i * 1)) fp' ∧ Hp w0 F S (fp' ++ Hr) w') rfl rfl rfl call166 rfl (fun w hw => ?_) ?_
 ·by_cases hil : i = l.length
  ·have := ins_rising_end ho hil (by omega) (ys := [.int .i64 x]) rfl (by intro u hu; rw [List.mem_singleton.1 hu]; rfl) (hw.take (.skip .done) (Hr := (b17, _) :: Hr))
   rw [List.take_of_length_le (by simp; omega), List.drop_of_length_le (by simp; omega), List.append_nil]
   exact this
  ·exact ins_rising_mid ho (by omega) (by omega) (iv_one l) (ys := [.int .i64 x]) rfl (by intro u hu; rw [List.mem_singleton.1 hu]; rfl) (hw.take (.skip .done) (Hr := (b17, _) :: Hr))
 rintro _ a w hst ⟨v18, fp18, rfl, ho18, hw⟩
 refine hst.go rfl hw ?_
 clear hst hw w a
 refine sA rfl (sN ?_)
 refine R.ret1 results126 rfl (fun w hw => ?_)
 refine ⟨_, fp18, rfl, ?_, hw⟩
 rw [ins_len]
 have : (l.map iv).take (i * 1) ++ [.int .i64 x] ++ (l.map iv).drop (i * 1) = (Fl.ins l x).map iv := by
  unfold Fl.ins
  rw [Nat.mul_one, ← List.map_take, ← List.map_drop, s1, s2, List.map_append, List.map_append]; rfl
 rw [← this]; exact ho18

theorem flIn_ok {b : Nat} {s : Fl} {fp : Heap} (hd : FlR S b s fp) (i : Int) (hw : Hp w0 F S (fp ++ Hr) w) :
 Calls Tryz.prog 137 #[.pointer (some ⟨b, 0, none⟩), .int .i64 i] w fun e w' => e = .returned (.bool (s.inn i)) ∧ Hp w0 F S (fp ++ Hr) w' := by
 obtain ⟨hok, sv, hv, rfl, h1, h2⟩ := hd
 refine enterA hw func137 rfl ntmps137 rfl rfl ?_
 refine sD (sA rfl (sE (sM rfl (sQf rfl (sM rfl ?_)))))
 refine L.fork (d := 7) rfl (fun h7 => ?_) (fun h7 => ?_)
 ·try simp only [sq] at h7
  refine sM rfl (sM rfl (sW rfl ?_))
  refine L.w rfl (V.fa rfl underlying227 rfl rfl sizeOf3) ?_
  refine L.w rfl (V.load rfl isAgg3 zAt (by rfl)) ?_
  refine sQc rfl (sT rfl (sA rfl (sN ?_)))
  refine R.ret1 results137 rfl (fun w hw => ?_)
  refine ⟨ret_bool ?_, hw⟩
  unfold Fl.inn
  rw [decide_eq_true_eq]
  first
   | (rw [decide_eq_true_eq]; omega)
   | (simp only [Bool.false_eq_true, false_iff]; omega)
 ·try simp only [sq] at h7
  refine sS rfl (sS rfl (sS rfl (sS rfl (sS rfl (sS rfl (sU rfl (sA rfl (sN ?_))))))))
  refine R.ret1 results137 rfl (fun w hw => ?_)
  refine ⟨ret_bool ?_, hw⟩
  unfold Fl.inn
  rw [decide_eq_true_eq]
  first
   | (rw [decide_eq_true_eq]; omega)
   | (simp only [Bool.false_eq_true, false_iff]; omega)

theorem flCheck_ok {b : Nat} {s : Fl} {fp : Heap} (hd : FlR S b s fp) (i : Int) (hw : Hp w0 F S (fp ++ Hr) w) :
 Calls Tryz.prog 125 #[.pointer (some ⟨b, 0, none⟩), .int .i64 i] w fun e w' => e = .returned (.int .i64 (s.chk i)) ∧ Hp w0 F S (fp ++ Hr) w' := by
 have hd0 := hd
 obtain ⟨hok, sv, hv, rfl, h1, h2⟩ := hd
 have l1 := asc_len hok.spare hok.in1
 have l2 := asc_len hok.held hok.in2
 have l3 := hok.s1
 refine enterA hw func125 rfl ntmps125 rfl rfl ?_
 refine sD (sA rfl (sN (sC (sB (sD (sM rfl ?_))))))
 refine L.w rfl (V.eqlPtr rfl rfl underlying62) ?_
 refine sA rfl (sN (sP rfl (sD (sM rfl (sM rfl ?_)))))
 refine L.call rfl rfl rfl call137 rfl (fun w hw => flIn_ok hd0 i hw) ?_
 rintro _ a w hst ⟨rfl, hw⟩
 refine hst.go rfl hw ?_
 clear hst hw w a
 refine sV rfl (sA rfl (sN ?_))
 refine C.cond rfl (fun h8 => ?_) (fun h8 => ?_)
 ·try simp only [sq] at h8
  have hin : ¬ (2 ≤ i ∧ i < (s.size : Int)) := by simpa [Fl.inn] using h8
  refine sD (sA rfl (sN ?_))
  refine R.ret1 results125 rfl (fun w hw => ?_)
  exact ⟨by unfold Fl.chk; rw [if_pos hin], hw⟩
 ·try simp only [sq] at h8
  have hin : 2 ≤ i ∧ i < (s.size : Int) := by simpa [Fl.inn] using h8
  refine C.skip (N.blk (N.seq ?_))
  refine sC (sD (sM rfl (sW rfl ?_)))
  refine L.w rfl (V.fa rfl underlying227 rfl rfl sizeOf224) ?_
  refine L.w rfl (V.load rfl isAgg224 zAt (by rfl)) ?_
  refine sM rfl ?_
  refine L.call rfl rfl rfl call164 rfl (fun w hw => has_ok (h1.lift _) hok.spare (by omega) i hw) ?_
  rintro _ a w hst ⟨rfl, hw⟩
  refine hst.go rfl hw ?_
  clear hst hw w a
  refine sM rfl ?_
  refine L.fork (d := 19) rfl (fun h19 => ?_) (fun h19 => ?_)
  ·try simp only [sq] at h19
   refine sS rfl (sS rfl (sS rfl (sS rfl (sS rfl (sS rfl (sT rfl (sN (sO rfl (sD (sA rfl (sN ?_)))))))))))
   refine R.ret1 results125 rfl (fun w hw => ?_)
   refine ⟨?_, hw⟩
   unfold Fl.chk
   rw [if_neg (fun h => h hin), if_pos (by first | exact .inl h19 | exact .inr h26)]
  ·try simp only [sq] at h19
   refine sM rfl (sW rfl ?_)
   refine L.w rfl (V.fa rfl underlying227 rfl rfl sizeOf224) ?_
   refine L.w rfl (V.load rfl isAgg224 zAt (by rfl)) ?_
   refine sM rfl ?_
   refine L.call rfl rfl rfl call164 rfl (fun w hw => has_ok (h2.lift _) hok.held (by omega) i hw) ?_
   rintro _ a w hst ⟨rfl, hw⟩
   refine hst.go rfl hw ?_
   clear hst hw w a
   refine sU rfl (sN ?_)
   refine C.cond rfl (fun h26 => ?_) (fun h26 => ?_)
   ·try simp only [sq] at h26
    refine sD (sA rfl (sN ?_))
    refine R.ret1 results125 rfl (fun w hw => ?_)
    refine ⟨?_, hw⟩
    unfold Fl.chk
    rw [if_neg (fun h => h hin), if_pos (by first | exact .inl h19 | exact .inr h26)]
   ·try simp only [sq] at h26
    refine sK (sD (sA rfl (sN ?_)))
    refine R.ret1 results125 rfl (fun w hw => ?_)
    refine ⟨?_, hw⟩
    unfold Fl.chk
    rw [if_neg (fun h => h hin), if_neg (fun h => h.elim h19 h26)]

theorem Fl.Ok.give {s : Fl} (h : s.Ok) {i : Int} (hc : s.chk i = 0) : ({ s with spare := Fl.ins s.spare i } : Fl).Ok := by
 unfold Fl.chk at hc
 split at hc
 ·omega
 rename_i h1
 split at hc
 ·omega
 rename_i h2
 refine ⟨h.s0, h.s1, ins_asc h.spare (fun q => h2 (.inl q)), h.held, fun j hj => ?_, h.in2, fun j hj => ?_⟩
 ·rcases ins_mem.1 hj with rfl | hj
  ·exact Classical.not_not.1 h1
  ·exact h.in1 j hj
 ·rcases ins_mem.1 hj with rfl | hj
  ·exact fun q => h2 (.inr q)
  ·exact h.apart j hj
theorem Fl.Ok.hold {s : Fl} (h : s.Ok) {i : Int} (hc : s.chk i = 0) : ({ s with held := Fl.ins s.held i } : Fl).Ok := by
 unfold Fl.chk at hc
 split at hc
 ·omega
 rename_i h1
 split at hc
 ·omega
 rename_i h2
 refine ⟨h.s0, h.s1, h.spare, ins_asc h.held (fun q => h2 (.inr q)), h.in1, fun j hj => ?_, fun j hj => ?_⟩
 ·rcases ins_mem.1 hj with rfl | hj
  ·exact Classical.not_not.1 h1
  ·exact h.in2 j hj
 ·intro q
  rcases ins_mem.1 q with rfl | q
  ·exact h2 (.inl hj)
  ·exact h.apart j hj q

theorem flGive_ok {b : Nat} {s : Fl} {fp : Heap} (hd : FlR S b s fp) (i : Int) (hw : Hp w0 F S (fp ++ Hr) w) :
 Calls Tryz.prog 75 #[.pointer (some ⟨b, 0, none⟩), .int .i64 i] w fun e w' => ∃ S' s' fp', e = .returned (.int .i64 (s.chk i)) ∧ S.le S' ∧ FlR S' b s' fp' ∧ ((s.chk i = 0 ∧ s' = ⟨s.size, Fl.ins s.spare i, s.held⟩) ∨ (s.chk i ≠ 0 ∧ s' = s)) ∧ Hp w0 F S' (fp' ++ Hr) w' := by
 have hd0 := hd
 obtain ⟨hok, sv, hv, rfl, h1, h2⟩ := hd
 have l1 := asc_len hok.spare hok.in1
 have l2 := asc_len hok.held hok.in2
 have l3 := hok.s1
 refine enterA hw func75 rfl ntmps75 rfl rfl ?_
 refine sD (sA rfl (sE (sM rfl (sM rfl ?_))))
 refine L.call rfl rfl rfl call125 rfl (fun w hw => flCheck_ok hd0 i hw) ?_
 rintro _ a w hst ⟨rfl, hw⟩
 refine hst.go rfl hw ?_
 clear hst hw w a
 refine sA rfl (sN (sC (sD (sM rfl (sQa rfl (sN ?_))))))
 refine C.cond rfl (fun h10 => ?_) (fun h10 => ?_)
 ·try simp only [sq] at h10
  refine sR (sM rfl (sM rfl (sW rfl ?_)))
  refine L.w rfl (V.fa rfl underlying227 rfl rfl sizeOf224) ?_
  refine L.w rfl (V.load rfl isAgg224 zAt (by rfl)) ?_
  refine sM rfl ?_
  refine L.call rfl rfl rfl call126 rfl (fun w hw => with_ok (h1.lift _) hok.spare (by omega) i hw) ?_
  rintro _ a w hst ⟨v17, fp17, rfl, ho17, hw⟩
  refine hst.go rfl hw ?_
  clear hst hw w a
  refine L.shut ho17 .done (fun S17 le17 hb17 => ?_)
  obtain ⟨a17, c17, rfl, _⟩ := hb17.form
  refine sW rfl ?_
  refine L.w rfl (V.fa rfl underlying227 rfl rfl sizeOf224) ?_
  refine L.store rfl rfl rfl sizeOf224 rfl zUp zSet ?_
  refine sE (sM rfl (sA rfl (sN ?_)))
  refine R.ret1 results75 rfl (fun w hw => ?_)
  first
   | exact ⟨S17, ⟨s.size, Fl.ins s.spare i, s.held⟩, _, rfl, le17, ⟨hok.give h10, ⟨_, _, rfl, hb17, h2.mono (Sees.le le17 _)⟩⟩, .inl ⟨h10, rfl⟩, hw⟩
   | exact ⟨S, s, _, rfl, .refl S, hd0, .inr ⟨h10, rfl⟩, hw⟩
 ·try simp only [sq] at h10
  refine sK (sD (sM rfl (sA rfl (sN ?_))))
  refine R.ret1 results75 rfl (fun w hw => ?_)
  first
   | exact ⟨S17, ⟨s.size, Fl.ins s.spare i, s.held⟩, _, rfl, le17, ⟨hok.give h10, ⟨_, _, rfl, hb17, h2.mono (Sees.le le17 _)⟩⟩, .inl ⟨h10, rfl⟩, hw⟩
   | exact ⟨S, s, _, rfl, .refl S, hd0, .inr ⟨h10, rfl⟩, hw⟩
theorem flHold_ok {b : Nat} {s : Fl} {fp : Heap} (hd : FlR S b s fp) (i : Int) (hw : Hp w0 F S (fp ++ Hr) w) :
 Calls Tryz.prog 149 #[.pointer (some ⟨b, 0, none⟩), .int .i64 i] w fun e w' => ∃ S' s' fp', e = .returned (.int .i64 (s.chk i)) ∧ S.le S' ∧ FlR S' b s' fp' ∧ ((s.chk i = 0 ∧ s' = ⟨s.size, s.spare, Fl.ins s.held i⟩) ∨ (s.chk i ≠ 0 ∧ s' = s)) ∧ Hp w0 F S' (fp' ++ Hr) w' := by
 have hd0 := hd
 obtain ⟨hok, sv, hv, rfl, h1, h2⟩ := hd
 have l1 := asc_len hok.spare hok.in1
 have l2 := asc_len hok.held hok.in2
 have l3 := hok.s1
 refine enterA hw func149 rfl ntmps149 rfl rfl ?_
 refine sD (sA rfl (sE (sM rfl (sM rfl ?_))))
 refine L.call rfl rfl rfl call125 rfl (fun w hw => flCheck_ok hd0 i hw) ?_
 rintro _ a w hst ⟨rfl, hw⟩
 refine hst.go rfl hw ?_
 clear hst hw w a
 refine sA rfl (sN (sC (sD (sM rfl (sQa rfl (sN ?_))))))
 refine C.cond rfl (fun h10 => ?_) (fun h10 => ?_)
 ·try simp only [sq] at h10
  refine sR (sM rfl (sM rfl (sW rfl ?_)))
  refine L.w rfl (V.fa rfl underlying227 rfl rfl sizeOf224) ?_
  refine L.w rfl (V.load rfl isAgg224 zAt (by rfl)) ?_
  refine sM rfl ?_
  refine L.call rfl rfl rfl call126 rfl (fun w hw => with_ok (h2.lift _) hok.held (by omega) i hw) ?_
  rintro _ a w hst ⟨v17, fp17, rfl, ho17, hw⟩
  refine hst.go rfl hw ?_
  clear hst hw w a
  refine L.shut ho17 .done (fun S17 le17 hb17 => ?_)
  obtain ⟨a17, c17, rfl, _⟩ := hb17.form
  refine sW rfl ?_
  refine L.w rfl (V.fa rfl underlying227 rfl rfl sizeOf224) ?_
  refine L.store rfl rfl rfl sizeOf224 rfl zUp zSet ?_
  refine sE (sM rfl (sA rfl (sN ?_)))
  refine R.ret1 results149 rfl (fun w hw => ?_)
  first
   | exact ⟨S17, ⟨s.size, s.spare, Fl.ins s.held i⟩, _, rfl, le17, ⟨hok.hold h10, ⟨_, _, rfl, h1.mono (Sees.le le17 _), hb17⟩⟩, .inl ⟨h10, rfl⟩, hw⟩
   | exact ⟨S, s, _, rfl, .refl S, hd0, .inr ⟨h10, rfl⟩, hw⟩
 ·try simp only [sq] at h10
  refine sK (sD (sM rfl (sA rfl (sN ?_))))
  refine R.ret1 results149 rfl (fun w hw => ?_)
  first
   | exact ⟨S17, ⟨s.size, s.spare, Fl.ins s.held i⟩, _, rfl, le17, ⟨hok.hold h10, ⟨_, _, rfl, h1.mono (Sees.le le17 _), hb17⟩⟩, .inl ⟨h10, rfl⟩, hw⟩
   | exact ⟨S, s, _, rfl, .refl S, hd0, .inr ⟨h10, rfl⟩, hw⟩

theorem flTake_ok {b : Nat} {s : Fl} {fp : Heap} (hd : FlR S b s fp) (hw : Hp w0 F S (fp ++ Hr) w) :
 Calls Tryz.prog 73 #[.pointer (some ⟨b, 0, none⟩)] w fun e w' => (s.spare = [] ∧ e = .returned (.tuple #[.int .i64 0, .int .i64 9]) ∧ Hp w0 F S (fp ++ Hr) w') ∨ (∃ i r fp', s.spare = i :: r ∧ e = .returned (.tuple #[.int .i64 i, .int .i64 0]) ∧ FlR S b ⟨s.size, r, s.held⟩ fp' ∧ Hp w0 F S (fp' ++ Hr) w') := by
 have hd0 := hd
 obtain ⟨hok, sv, hv, rfl, h1, h2⟩ := hd
 obtain ⟨ad, c, rfl, hcc⟩ := h1.form
 refine enterA hw func73 rfl ntmps73 rfl rfl ?_
 refine sD (sA rfl (sA rfl (sN (sC (sB (sD (sM rfl ?_)))))))
 refine L.w rfl (V.eqlPtr rfl rfl underlying62) ?_
 refine sA rfl (sN (sP rfl (sD (sM rfl (sW rfl ?_)))))
 refine L.w rfl (V.fa rfl underlying227 rfl rfl sizeOf224) ?_
 refine L.w rfl (V.load rfl isAgg224 zAt (by rfl)) ?_
 refine L.w rfl (V.len rfl underlying224) ?_
 refine sQa rfl (sA rfl (sN ?_))
 refine C.cond rfl (fun h8 => ?_) (fun h8 => ?_)
 ·try simp only [sq] at h8
  refine sD (sA rfl (sA rfl (sN ?_)))
  refine R.ret2 results73 rfl rfl (fun w hw => ?_)
  exact .inl ⟨List.eq_nil_of_length_eq_zero (by omega), rfl, hw⟩
 ·try simp only [sq] at h8
  obtain ⟨i, r, hir⟩ : ∃ i r, s.spare = i :: r := by
   cases hs : s.spare with
   | nil => rw [hs] at h8; exact absurd rfl h8
   | cons i r => exact ⟨i, r, rfl⟩
  have hpos : 0 < s.spare.length := by rw [hir]; simp
  obtain ⟨b2, off, cs, T, fz, rfl, g1, g2⟩ := h1.at hpos
  have h1' := h1
  have e0 : s.spare[0] = i := by simp [hir]
  rw [e0] at g2
  obtain ⟨ad2, had⟩ : ∃ ad2, (if c = 1 then (some ⟨b2, off, none⟩ : Option Addr) else (some (⟨b2, off, none⟩ : Addr)).map (·.add (1 * 1))) = ad2 := ⟨_, rfl⟩
  have hsub := h1.sub (lo := 1) (hi := s.spare.length) (by omega) (Nat.le_refl _) had
  have er : (s.spare.drop 1).take (s.spare.length - 1) = r := by rw [hir]; simp
  rw [er] at hsub
  refine C.skip (N.blk (N.seq ?_))
  refine sD (sM rfl (sW rfl ?_))
  refine L.w rfl (V.fa rfl underlying227 rfl rfl sizeOf224) ?_
  refine L.w rfl (V.load rfl isAgg224 zAt (by rfl)) ?_
  refine L.w rfl (V.indexAddr (j := 0) rfl rfl underlying224 sizeOf3 rfl hpos) ?_
  refine L.w rfl (V.load rfl isAgg3 (.tail (g1.lift _)) g2) ?_
  refine sA rfl (sE (sM rfl (sM rfl (sW rfl ?_))))
  refine L.w rfl (V.fa rfl underlying227 rfl rfl sizeOf224) ?_
  refine L.w rfl (V.load rfl isAgg224 zAt (by rfl)) ?_
  refine L.w rfl (V.slice (l := 1) (u := s.spare.length) rfl underlying224 sizeOf3 ⟨_, rfl⟩ rfl (by omega) (by omega) had) ?_
  refine sW rfl ?_
  refine L.w rfl (V.fa rfl underlying227 rfl rfl sizeOf224) ?_
  refine L.store rfl rfl rfl sizeOf224 rfl zUp zSet ?_
  refine sE (sM rfl (sA rfl (sA rfl (sN ?_))))
  refine R.ret2 results73 rfl rfl (fun w hw => ?_)
  have hasc := hok.spare
  rw [hir] at hasc
  refine .inr ⟨i, r, _, hir, rfl, ⟨⟨hok.s0, hok.s1, (List.pairwise_cons.1 hasc).2, hok.held, fun j hj => hok.in1 j (by rw [hir]; exact List.mem_cons_of_mem _ hj), hok.in2, fun j hj => hok.apart j (by rw [hir]; exact List.mem_cons_of_mem _ hj)⟩, _, _, rfl, hsub, h2⟩, hw⟩

theorem flRoom_ok {b : Nat} {s : Fl} {fp : Heap} (hd : FlR S b s fp) (hw : Hp w0 F S (fp ++ Hr) w) :
 Calls Tryz.prog 71 #[.pointer (some ⟨b, 0, none⟩)] w fun e w' => e = .returned (.int .i64 (s.spare.length : Int)) ∧ Hp w0 F S (fp ++ Hr) w' := by
 obtain ⟨hok, sv, hv, rfl, h1, h2⟩ := hd
 obtain ⟨ad, c, rfl, hcc⟩ := h1.form
 refine enterA hw func71 rfl ntmps71 rfl rfl ?_
 refine sD (sA rfl (sN (sC (sD (sM rfl ?_)))))
 refine L.w rfl (V.eqlPtr rfl rfl underlying62) ?_
 refine sN (sP rfl (sK (sD (sM rfl (sW rfl ?_)))))
 refine L.w rfl (V.fa rfl underlying227 rfl rfl sizeOf224) ?_
 refine L.w rfl (V.load rfl isAgg224 zAt (by rfl)) ?_
 refine L.w rfl (V.len rfl underlying224) ?_
 refine sA rfl (sN ?_)
 refine R.ret1 results71 rfl (fun w hw => ?_)
 exact ⟨rfl, hw⟩

theorem flSpare_ok {b : Nat} {s : Fl} {fp : Heap} (hd : FlR S b s fp) (hw : Hp w0 F S (fp ++ Hr) w) :
 Calls Tryz.prog 64 #[.pointer (some ⟨b, 0, none⟩)] w fun e w' => ∃ v fp', e = .returned v ∧ Own 3 1 v s.spare.length (s.spare.map iv) fp' ∧ Hp w0 F S (fp' ++ (fp ++ Hr)) w' := by
 obtain ⟨hok, sv, hv, rfl, h1, h2⟩ := hd
 have l1 := asc_len hok.spare hok.in1
 have l2 := asc_len hok.held hok.in2
 have l3 := hok.s1
 refine enterA hw func64 rfl ntmps64 rfl rfl ?_
 refine sD (sA rfl (sN (sC (sD (sM rfl ?_)))))
 refine L.w rfl (V.eqlPtr rfl rfl underlying62) ?_
 refine sN (sP rfl (sK (sD (sM rfl (sW rfl ?_)))))
 refine L.w rfl (V.fa rfl underlying227 rfl rfl sizeOf224) ?_
 refine L.w rfl (V.load rfl isAgg224 zAt (by rfl)) ?_
 refine L.call rfl rfl rfl call122 rfl (fun w hw => clone_rising (h1.lift _) (iv_one _) (by omega) hw) ?_
 rintro _ a w hst ⟨v9, fp9, rfl, ho, hw⟩
 refine hst.go rfl hw ?_
 clear hst hw w a
 refine sA rfl (sN ?_)
 refine R.ret1 results64 rfl (fun w hw => ?_)
 exact ⟨_, fp9, rfl, ho, hw⟩
theorem flHeld_ok {b : Nat} {s : Fl} {fp : Heap} (hd : FlR S b s fp) (hw : Hp w0 F S (fp ++ Hr) w) :
 Calls Tryz.prog 72 #[.pointer (some ⟨b, 0, none⟩)] w fun e w' => ∃ v fp', e = .returned v ∧ Own 3 1 v s.held.length (s.held.map iv) fp' ∧ Hp w0 F S (fp' ++ (fp ++ Hr)) w' := by
 obtain ⟨hok, sv, hv, rfl, h1, h2⟩ := hd
 have l1 := asc_len hok.spare hok.in1
 have l2 := asc_len hok.held hok.in2
 have l3 := hok.s1
 refine enterA hw func72 rfl ntmps72 rfl rfl ?_
 refine sD (sA rfl (sN (sC (sD (sM rfl ?_)))))
 refine L.w rfl (V.eqlPtr rfl rfl underlying62) ?_
 refine sN (sP rfl (sK (sD (sM rfl (sW rfl ?_)))))
 refine L.w rfl (V.fa rfl underlying227 rfl rfl sizeOf224) ?_
 refine L.w rfl (V.load rfl isAgg224 zAt (by rfl)) ?_
 refine L.call rfl rfl rfl call122 rfl (fun w hw => clone_rising (h2.lift _) (iv_one _) (by omega) hw) ?_
 rintro _ a w hst ⟨v9, fp9, rfl, ho, hw⟩
 refine hst.go rfl hw ?_
 clear hst hw w a
 refine sA rfl (sN ?_)
 refine R.ret1 results72 rfl (fun w hw => ?_)
 exact ⟨_, fp9, rfl, ho, hw⟩
end
end Go.Proofs.YtijgbppkdaiikaaGreat

set_option linter.unusedSimpArgs false
set_option linter.unusedVariables false
namespace Go.Proofs.YtijgbppkdaiikaaGreat
open Go.Proofs.Tryz Go.Tk
section
variable {w0 : World} {F : Nat → Prop} {S : Store} {Hr : Heap} {w : World}

theorem flCopy_ok {b : Nat} {s : Fl} {fp : Heap} (hd : FlR S b s fp) (hw : Hp w0 F S (fp ++ Hr) w) :
 Calls Tryz.prog 69 #[.pointer (some ⟨b, 0, none⟩)] w fun e w' => ∃ S' b' fp', e = .returned (.pointer (some ⟨b', 0, none⟩)) ∧ S.le S' ∧ FlR S' b' s fp' ∧ Hp w0 F S' (fp' ++ (fp ++ Hr)) w' := by
 obtain ⟨hok, sv, hv, rfl, h1, h2⟩ := hd
 have l1 := asc_len hok.spare hok.in1
 have l2 := asc_len hok.held hok.in2
 have l3 := hok.s1
 refine enterA hw func69 rfl ntmps69 rfl rfl ?_
 refine sD (sA rfl (sN (sC (sD (sM rfl ?_)))))
 refine L.w rfl (V.eqlPtr rfl rfl underlying62) ?_
 refine sN (sP rfl (sK (sC ?_)))
 refine C.drawC [] (Hp w0 F S ((b, .cells #[.int .i64 (s.size : Int), sv, hv] 227 (0, 0)) :: Hr)) (fun w h => h.sub zSub) (by kernel_rfl) rfl (fun w hw => hw.drawn _) ?_
 refine D.take 0 (listed' := #[true, false, false, false, false, false, false, false, false, false, false, false, false, false, false, false, false]) rfl (by kernel_rfl) rfl rfl rfl rfl (V.move rfl) (fun w h => h.sub zSub) ?_
 refine D.take 1 (listed' := #[true, true, false, false, false, false, false, false, false, false, false, false, false, false, false, false, false]) rfl (by kernel_rfl) rfl rfl rfl rfl (V.nilCheck rfl) (fun w h => h.sub zSub) ?_
 refine D.take 2 (listed' := #[true, true, true, false, false, false, false, false, false, false, false, false, false, false, false, false, false]) rfl (by kernel_rfl) rfl rfl rfl rfl (V.fa rfl underlying227 rfl rfl sizeOf3) (fun w h => h.sub zSub) ?_
 refine D.take 3 (listed' := #[true, true, true, true, false, false, false, false, false, false, false, false, false, false, false, false, false]) rfl (by kernel_rfl) rfl rfl rfl rfl (V.load rfl isAgg3 zAt (by rfl)) (fun w h => h.sub zSub) ?_
 refine D.take 4 (listed' := #[true, true, true, true, true, false, false, false, false, false, false, false, false, false, false, false, false]) rfl (by kernel_rfl) rfl rfl rfl rfl (V.move rfl) (fun w h => h.sub zSub) ?_
 refine D.take 5 (listed' := #[true, true, true, true, true, true, false, false, false, false, false, false, false, false, false, false, false]) rfl (by kernel_rfl) rfl rfl rfl rfl (V.nilCheck rfl) (fun w h => h.sub zSub) ?_
 refine D.take 6 (listed' := #[true, true, true, true, true, true, true, false, false, false, false, false, false, false, false, false, false]) rfl (by kernel_rfl) rfl rfl rfl rfl (V.fa rfl underlying227 rfl rfl sizeOf224) (fun w h => h.sub zSub) ?_
 refine D.take 7 (listed' := #[true, true, true, true, true, true, true, true, false, false, false, false, false, false, false, false, false]) rfl (by kernel_rfl) rfl rfl rfl rfl (V.load rfl isAgg224 zAt (by rfl)) (fun w h => h.sub zSub) ?_
 refine D.take 9 (listed' := #[true, true, true, true, true, true, true, true, false, true, false, false, false, false, false, false, false]) rfl (by kernel_rfl) rfl rfl rfl rfl (V.move rfl) (fun w h => h.sub zSub) ?_
 refine D.take 10 (listed' := #[true, true, true, true, true, true, true, true, false, true, true, false, false, false, false, false, false]) rfl (by kernel_rfl) rfl rfl rfl rfl (V.nilCheck rfl) (fun w h => h.sub zSub) ?_
 refine D.take 11 (listed' := #[true, true, true, true, true, true, true, true, false, true, true, true, false, false, false, false, false]) rfl (by kernel_rfl) rfl rfl rfl rfl (V.fa rfl underlying227 rfl rfl sizeOf224) (fun w h => h.sub zSub) ?_
 refine D.take 12 (listed' := #[true, true, true, true, true, true, true, true, false, true, true, true, true, false, false, false, false]) rfl (by kernel_rfl) rfl rfl rfl rfl (V.load rfl isAgg224 zAt (by rfl)) (fun w h => h.sub zSub) ?_
 refine D.step 8 (listed' := #[true, true, true, true, true, true, true, true, true, true, true, true, true, false, false, false, false]) (by kernel_rfl) rfl rfl (.inr (fun w h => h.sub zSub)) ?_
 refine L.call rfl rfl rfl call122 rfl (fun w hw => clone_rising (h1.lift _) (iv_one _) (by omega) hw) ?_
 rintro _ a w hst ⟨v13, fp13, rfl, ho13, hw⟩
 refine hst.go rfl hw ?_
 clear hst hw w a
 obtain ⟨a13, c13, rfl⟩ := ho13.form
 refine D.back ?_
 refine D.step 13 (listed' := #[true, true, true, true, true, true, true, true, true, true, true, true, true, true, false, false, false]) (by kernel_rfl) rfl rfl (.inr (fun w h => h.sub zSub)) ?_
 refine L.call rfl rfl rfl call122 rfl (fun w hw => clone_rising (h2.lift _) (iv_one _) (by omega) hw) ?_
 rintro _ a w hst ⟨v18, fp18, rfl, ho18, hw⟩
 refine hst.go rfl hw ?_
 clear hst hw w a
 obtain ⟨a18, c18, rfl⟩ := ho18.form
 refine D.back ?_
 refine D.step 14 (listed' := #[true, true, true, true, true, true, true, true, true, true, true, true, true, true, true, false, false]) (by kernel_rfl) rfl rfl (.inr (fun w h => h.sub zSub)) ?_
 refine L.w rfl (V.build rfl underlying227 zeroValue227 (pl := [(0, 1), (1, 1), (2, 1)]) (fun w => by kernel_rfl) (Fills.cons rfl rfl rfl zPut (Fills.cons rfl rfl rfl zPut (Fills.cons rfl rfl rfl zPut Fills.nil)))) ?_
 refine D.back ?_
 refine D.step 15 (listed' := #[true, true, true, true, true, true, true, true, true, true, true, true, true, true, true, true, false]) (by kernel_rfl) rfl rfl (.inr (fun w h => h.sub zSub)) ?_
 refine L.boxA rfl rfl rfl (fun b20 => ?_)
 refine D.back ?_
 refine D.step 16 (listed' := #[true, true, true, true, true, true, true, true, true, true, true, true, true, true, true, true, true]) (by kernel_rfl) rfl rfl (.inr (fun w h => h.sub zSub)) ?_
 refine sA rfl ?_
 refine D.back ?_
 refine D.done (by kernel_rfl) (.inr (fun w h => h.sub zSub)) (N.seq ?_)
 refine R.ret1 results69 rfl (fun w hw => ?_)
 obtain ⟨S1, le1, hb1, hw1⟩ := ho18.shut (hw.take (.skip .done))
 obtain ⟨S2, le2, hb2, hw2⟩ := ho13.shut (hw1.take (.skip .done))
 exact ⟨S2, b20, [(b20, _)], rfl, le1.trans le2, ⟨hok, _, _, rfl, hb2, Rd.mono hb1 (Sees.le le2 _)⟩, hw2⟩

def Fl.settle (s : Fl) : Fl := ⟨s.size, sortL (s.spare ++ s.held), []⟩
theorem Fl.Ok.settle {s : Fl} (h : s.Ok) : s.settle.Ok := by
 have hn : (s.spare ++ s.held).Nodup := by
  rw [List.nodup_append]
  exact ⟨h.spare.imp (fun h => Int.ne_of_lt h), h.held.imp (fun h => Int.ne_of_lt h), fun a ha b hb e => h.apart a ha (e ▸ hb)⟩
 refine ⟨h.s0, h.s1, sortL_asc hn, .nil, fun i hi => ?_, fun i hi => (by cases hi), fun i _ hi => (by cases hi)⟩
 have := (sortL_perm _).mem_iff.1 hi
 rcases List.mem_append.1 this with h2 | h2
 ·exact h.in1 i h2
 ·exact h.in2 i h2

theorem flSettle_ok {b : Nat} {s : Fl} {fp : Heap} (hd : FlR S b s fp) (hw : Hp w0 F S (fp ++ Hr) w) :
 Calls Tryz.prog 74 #[.pointer (some ⟨b, 0, none⟩)] w fun e w' => ∃ S' fp', e = .returned (.tuple #[]) ∧ S.le S' ∧ FlR S' b s.settle fp' ∧ Hp w0 F S' (fp' ++ Hr) w' := by
 obtain ⟨hok, sv, hv, rfl, h1, h2⟩ := hd
 have l1 := asc_len hok.spare hok.in1
 have l2 := asc_len hok.held hok.in2
 have l3 := hok.s1
 refine enterA hw func74 rfl ntmps74 rfl rfl ?_
 refine sC (sD (sM rfl ?_))
 refine L.w rfl (V.eqlPtr rfl rfl underlying62) ?_
 refine sN (sP rfl (sK (sC ?_)))
 refine C.drawC [13] (Hp w0 F S ((b, .cells #[.int .i64 (s.size : Int), sv, hv] 227 (0, 0)) :: Hr)) (fun w h => h.sub zSub) (by kernel_rfl) rfl (fun w hw => hw.drawn _) ?_
 refine D.take 0 (listed' := #[true, false, false, false, false, false, false, false, false, false, false, false, false, false]) rfl (by kernel_rfl) rfl rfl rfl rfl (V.move rfl) (fun w h => h.sub zSub) ?_
 refine D.take 1 (listed' := #[true, true, false, false, false, false, false, false, false, false, false, false, false, false]) rfl (by kernel_rfl) rfl rfl rfl rfl (V.move rfl) (fun w h => h.sub zSub) ?_
 refine D.take 2 (listed' := #[true, true, true, false, false, false, false, false, false, false, false, false, false, false]) rfl (by kernel_rfl) rfl rfl rfl rfl (V.nilCheck rfl) (fun w h => h.sub zSub) ?_
 refine D.take 3 (listed' := #[true, true, true, true, false, false, false, false, false, false, false, false, false, false]) rfl (by kernel_rfl) rfl rfl rfl rfl (V.fa rfl underlying227 rfl rfl sizeOf224) (fun w h => h.sub zSub) ?_
 refine D.take 4 (listed' := #[true, true, true, true, true, false, false, false, false, false, false, false, false, false]) rfl (by kernel_rfl) rfl rfl rfl rfl (V.load rfl isAgg224 zAt (by rfl)) (fun w h => h.sub zSub) ?_
 refine D.take 6 (listed' := #[true, true, true, true, true, false, true, false, false, false, false, false, false, false]) rfl (by kernel_rfl) rfl rfl rfl rfl (V.move rfl) (fun w h => h.sub zSub) ?_
 refine D.take 7 (listed' := #[true, true, true, true, true, false, true, true, false, false, false, false, false, false]) rfl (by kernel_rfl) rfl rfl rfl rfl (V.nilCheck rfl) (fun w h => h.sub zSub) ?_
 refine D.take 8 (listed' := #[true, true, true, true, true, false, true, true, true, false, false, false, false, false]) rfl (by kernel_rfl) rfl rfl rfl rfl (V.fa rfl underlying227 rfl rfl sizeOf224) (fun w h => h.sub zSub) ?_
 refine D.take 9 (listed' := #[true, true, true, true, true, false, true, true, true, true, false, false, false, false]) rfl (by kernel_rfl) rfl rfl rfl rfl (V.load rfl isAgg224 zAt (by rfl)) (fun w h => h.sub zSub) ?_
 refine D.step 5 (listed' := #[true, true, true, true, true, true, true, true, true, true, false, false, false, false]) (by kernel_rfl) rfl rfl (.inr (fun w h => h.sub zSub)) ?_
 refine L.call rfl rfl rfl call122 rfl (fun w hw => clone_rising (h1.lift _) (iv_one _) (by omega) hw) ?_
 rintro _ a w hst ⟨v9, fp9, rfl, ho9, hw⟩
 refine hst.go rfl hw ?_
 clear hst hw w a
 refine D.back ?_
 refine D.step 10 (listed' := #[true, true, true, true, true, true, true, true, true, true, true, false, false, false]) (by kernel_rfl) rfl rfl (.inr (fun w h => h.sub zSub)) ?_
 refine L.append (by' := 8) (sz := 1) (l := s.held.length) (ys := s.held.map iv) rfl rfl rfl rfl underlying224 info_int rfl rfl rfl rfl ho9 .done (h2.lift _) (iv_one _) (by omega) (by omega) (fun v14 fp14 ho14 => ?_)
 rw [← List.map_append, ← List.length_append] at ho14
 obtain ⟨a14, c14, rfl⟩ := ho14.form
 refine D.back ?_
 refine D.step 11 (listed' := #[true, true, true, true, true, true, true, true, true, true, true, true, false, false]) (by kernel_rfl) rfl rfl (.inr (fun w h => h.sub zSub)) ?_
 refine sW rfl ?_
 refine D.back ?_
 refine D.step 12 (listed' := #[true, true, true, true, true, true, true, true, true, true, true, true, true, false]) (by kernel_rfl) rfl rfl (.inr (fun w h => h.sub zSub)) ?_
 refine L.w rfl (V.fa rfl underlying227 rfl rfl sizeOf224) ?_
 refine D.back ?_
 refine D.step 13 (listed' := #[true, true, true, true, true, true, true, true, true, true, true, true, true, true]) (by kernel_rfl) rfl rfl (.inr (fun w h => h.sub zSub)) ?_
 refine L.store rfl rfl rfl sizeOf224 rfl zUp zSet ?_
 refine D.back ?_
 refine D.done (by kernel_rfl) (.inl ⟨13, by simp, rfl⟩) (N.seq ?_)
 refine sD (sM rfl (sW rfl ?_))
 refine L.w rfl (V.fa rfl underlying227 rfl rfl sizeOf224) ?_
 refine L.w rfl (V.load rfl isAgg224 zAt (by rfl)) ?_
 refine L.call rfl rfl rfl call124 rfl (fun w hw => sortRising_ok ho14 (by rw [List.length_append]; omega) hw) ?_
 rintro _ a w hst ⟨fp21, rfl, ho21, hw⟩
 refine hst.go rfl hw ?_
 clear hst hw w a
 refine sN (sR (sM rfl (sW rfl ?_)))
 refine L.w rfl (V.fa rfl underlying227 rfl rfl sizeOf224) ?_
 refine L.store rfl rfl rfl sizeOf224 rfl zUp zSet ?_
 refine L.nil ?_
 refine R.fall0 results74 (fun w hw => ?_)
 obtain ⟨S1, le1, hb1, hw1⟩ := ho21.shut hw
 exact ⟨S1, [(b, _)], rfl, le1, ⟨hok.settle, _, _, rfl, hb1, Rd.nil ..⟩, hw1⟩

def insAll (l : List Int) : List Int := l.foldl Fl.ins []
theorem insAll_snoc (l : List Int) (x : Int) : insAll (l ++ [x]) = Fl.ins (insAll l) x := by simp [insAll]
theorem insAll_mem (l : List Int) (y : Int) : y ∈ insAll l ↔ y ∈ l := by
 induction l using snoc_ind with
 | h0 => rfl
 | h1 l x ih => rw [insAll_snoc, ins_mem, ih, List.mem_append, List.mem_singleton]; exact Or.comm
theorem asc_unique {l m : List Int} (hl : Asc l) (hm : Asc m) (h : ∀ x, x ∈ l ↔ x ∈ m) : l = m := by
 have n1 : l.Nodup := hl.imp (fun h => Int.ne_of_lt h)
 have n2 : m.Nodup := hm.imp (fun h => Int.ne_of_lt h)
 have p : l.Perm m := (List.perm_ext_iff_of_nodup n1 n2).2 h
 exact p.eq_of_pairwise (le := (· < ·)) (fun a b _ _ h1 h2 => by omega) hl hm
theorem insAll_asc {l : List Int} (h : l.Nodup) : Asc (insAll l) := by
 induction l using snoc_ind with
 | h0 => exact List.Pairwise.nil
 | h1 l x ih =>
   rw [List.nodup_append] at h
   rw [insAll_snoc]
   refine ins_asc (ih h.1) (fun hx => ?_)
   exact h.2.2 x ((insAll_mem _ _).1 hx) x (by simp) rfl
theorem insAll_sort {l : List Int} (h : l.Nodup) : insAll l = sortL l := asc_unique (insAll_asc h) (sortL_asc h) (fun x => by rw [insAll_mem, (sortL_perm l).mem_iff])

/-- May these numbers be a list's? -/
structure NewOk (n : Int) (l : List Int) : Prop where
 s0 : 8 ≤ n
 s1 : n ≤ 1024
 inn : ∀ i ∈ l, 2 ≤ i ∧ i < n
 nodup : l.Nodup

theorem flNew_ok {v : Value} {l : List Int} (hr : Is S Hr v l) (hl : l.length ≤ 100000) (n : Int) (hw : Hp w0 F S Hr w) :
 Calls Tryz.prog 90 #[.int .i64 n, v] w fun e w' => ∃ S', S.le S' ∧ ((NewOk n l ∧ ∃ b fp, e = .returned (.tuple #[.pointer (some ⟨b, 0, none⟩), .int .i64 0]) ∧ FlR S' b ⟨n.toNat, sortL l, []⟩ fp ∧ Hp w0 F S' (fp ++ Hr) w') ∨ (¬ NewOk n l ∧ ∃ err : Int, err ≠ 0 ∧ e = .returned (.tuple #[.pointer none, .int .i64 err]) ∧ Hp w0 F S' Hr w')) := by
 obtain ⟨ad, c, rfl, _⟩ := hr.form
 refine enterA hw func90 rfl ntmps90 rfl rfl ?_
 refine sD (sA rfl (sA rfl (sN (sC (sD (sM rfl (sQc rfl (sM rfl ?_))))))))
 refine L.fork (d := 14) rfl (fun h14 => ?_) (fun h14 => ?_)
 ·try simp only [sq] at h14
  refine sS rfl (sS rfl (sT rfl (sN (sO rfl (sD (sA rfl (sA rfl (sN ?_))))))))
  refine R.ret2 results90 rfl rfl (fun w hw => ?_)
  exact ⟨S, .refl S, .inr ⟨fun h => by have := h.s0; have := h.s1; omega, _, by decide, rfl, hw⟩⟩
 ·try simp only [sq] at h14
  refine sM rfl (sQe rfl (sU rfl (sN ?_)))
  refine C.cond rfl (fun h17 => ?_) (fun h17 => ?_)
  ·try simp only [sq] at h17
   refine sD (sA rfl (sA rfl (sN ?_)))
   refine R.ret2 results90 rfl rfl (fun w hw => ?_)
   exact ⟨S, .refl S, .inr ⟨fun h => by have := h.s0; have := h.s1; omega, _, by decide, rfl, hw⟩⟩
  ·try simp only [sq] at h17
   refine sK (sD (sM rfl ?_))
   refine L.w rfl (V.build rfl underlying227 zeroValue227 (pl := [(0, 1), (1, 1), (2, 1)]) (fun w => by kernel_rfl) (Fills.cons rfl rfl rfl zPut Fills.nil)) ?_
   refine L.boxA rfl rfl rfl (fun b20 => ?_)
   refine sA rfl (sN (sC (sD (sM rfl ?_))))
   refine L.w rfl (V.len rfl underlying37) ?_
   refine sM rfl (sN (sB ?_))
   have hn : 8 ≤ n ∧ n ≤ 1024 := by omega
   have hn2 : ((n.toNat : Nat) : Int) = n := Int.toNat_of_nonneg (by omega)
   have hd0 : FlR S b20 ⟨n.toNat, [], []⟩ [(b20, .cells #[.int .i64 n, .slice none 0 0, .slice none 0 0] 227 (0, 0))] := ⟨⟨by show 8 ≤ n.toNat; omega, by show n.toNat ≤ 1024; omega, .nil, .nil, fun i hi => (by cases hi), fun i hi => (by cases hi), fun i hi => (by cases hi)⟩, _, _, by rw [hn2], Rd.nil .., Rd.nil ..⟩
   refine C.loop (α := Nat) (fun z => [(0, .int .i64 n), (1, .slice ad l.length c), (6, .pointer (some ⟨b20, 0, none⟩)), (21, .slice ad l.length c), (22, .int .i64 (l.length : Int)), (23, .int .i64 (z : Int))]) (fun z w => (z ≤ l.length ∧ ∀ j (h : j < l.length), j < z → 2 ≤ l[j] ∧ l[j] < n) ∧ Hp w0 F S ((b20, .cells #[.int .i64 n, .slice none 0 0, .slice none 0 0] 227 (0, 0)) :: Hr) w) (fun z => l.length - z) 0 ⟨rfl, rfl, rfl, rfl, rfl, rfl, trivial⟩ (fun w hw => ⟨⟨Nat.zero_le _, fun j h h0 => by omega⟩, hw⟩) (fun z => C.pure (fun hz => ?_))
   refine sD (sQc rfl (sN (sC ?_)))
   refine C.cond rfl (fun h24 => ?_) (fun h24 => ?_)
   ·try simp only [sq] at h24
    have hj : z < l.length := by omega
    obtain ⟨b, off, cs, T, fz, rfl, g1, g2⟩ := hr.at hj
    obtain ⟨y, hy⟩ : ∃ y, l[z] = y := ⟨_, rfl⟩
    rw [hy] at g2
    refine sK (sC (sB (sD ?_)))
    refine L.w rfl (V.indexAddr rfl rfl underlying37 sizeOf3 rfl (by omega)) ?_
    refine L.w rfl (V.load rfl isAgg3 (.tail g1) g2) ?_
    refine sA rfl (sE (sM rfl (sM rfl ?_)))
    refine L.call rfl rfl rfl call137 rfl (fun w hw => flIn_ok hd0 y hw) ?_
    rintro _ a w hst ⟨rfl, hw⟩
    refine hst.go rfl hw ?_
    clear hst hw w a
    refine sV rfl (sN ?_)
    refine C.cond rfl (fun h30 => ?_) (fun h30 => ?_)
    ·try simp only [sq] at h30
     refine sD (sA rfl (sA rfl (sN ?_)))
     refine R.ret2 results90 rfl rfl (fun w hw => ?_)
     refine ⟨S, .refl S, .inr ⟨fun h => ?_, _, by decide, rfl, hw.drop⟩⟩
     have := h.inn y (by rw [← hy]; exact List.getElem_mem _)
     have h30' : ¬ (2 ≤ y ∧ y < n) := by simpa [Fl.inn, hn2] using h30
     exact h30' this
    ·try simp only [sq] at h30
     have hyin : 2 ≤ y ∧ y < n := by simpa [Fl.inn, hn2] using h30
     refine C.skip (N.blk (N.seq ?_))
     refine sR ?_
     refine L.w rfl (V.add rfl rfl (w64 (by omega) (by omega))) ?_
     refine sM rfl ?_
     refine L.nil ?_
     exact N.round (z + 1) (by omega) ⟨rfl, rfl, rfl, rfl, rfl, rfl, trivial⟩ (fun w hw => ⟨⟨by omega, fun j h h0 => (by
      rcases (by omega : j < z ∨ j = z) with h1 | rfl
      ·exact hz.2 j h h1
      ·rw [hy]; exact hyin)⟩, hw⟩)
   ·try simp only [sq] at h24
    refine sZ rfl (sC (sD (sM rfl ?_)))
    refine L.w rfl (V.len rfl underlying37) ?_
    refine sM rfl (sN (sB ?_))
    have hin : ∀ j (h : j < l.length), 2 ≤ l[j] ∧ l[j] < n := fun j h => hz.2 j h (by omega)
    refine C.loop (α := Nat × Store × Heap) (fun z => [(6, .pointer (some ⟨b20, 0, none⟩)), (32, .slice ad l.length c), (33, .int .i64 (l.length : Int)), (34, .int .i64 (z.1 : Int))]) (fun z w => (z.1 ≤ l.length ∧ S.le z.2.1 ∧ (l.take z.1).Nodup ∧ FlR z.2.1 b20 ⟨n.toNat, insAll (l.take z.1), []⟩ z.2.2) ∧ Hp w0 F z.2.1 (z.2.2 ++ Hr) w) (fun z => l.length - z.1) (0, S, [(b20, .cells #[.int .i64 n, .slice none 0 0, .slice none 0 0] 227 (0, 0))]) ⟨rfl, rfl, rfl, rfl, trivial⟩ (fun w hw => ⟨⟨Nat.zero_le _, .refl S, by simp, hd0⟩, hw⟩) (fun zz => C.pure (fun hzz => ?_))
    clear hz h24 z
    obtain ⟨z, S1, fp1⟩ := zz
    obtain ⟨hz, le1, hnd, hd1⟩ := hzz
    dsimp only at hz le1 hnd hd1 ⊢
    refine sD (sQc rfl (sN (sC ?_)))
    refine C.cond rfl (fun h35 => ?_) (fun h35 => ?_)
    ·try simp only [sq] at h35
     have hj : z < l.length := by omega
     obtain ⟨b, off, cs, T, fz, rfl, g1, g2⟩ := (hr.mono (Sees.le le1 _)).at hj
     obtain ⟨y, hy⟩ : ∃ y, l[z] = y := ⟨_, rfl⟩
     rw [hy] at g2
     have ht : l.take (z + 1) = l.take z ++ [y] := by rw [List.take_succ_eq_append_getElem hj, hy]
     refine sK (sC (sB (sD ?_)))
     refine L.w rfl (V.indexAddr rfl rfl underlying37 sizeOf3 rfl (by omega)) ?_
     refine L.w rfl (V.load rfl isAgg3 (.apr g1) g2) ?_
     refine sA rfl (sE (sM rfl (sM rfl ?_)))
     refine L.call rfl rfl rfl call75 rfl (fun w hw => flGive_ok hd1 y hw) ?_
     rintro _ a w hst ⟨S2, s2, fp2, rfl, le2, hd2, hs2, hw⟩
     refine hst.go rfl hw ?_
     clear hst hw w a
     refine sA rfl (sE (sM rfl (sQb rfl (sN ?_))))
     refine C.cond rfl (fun h42 => ?_) (fun h42 => ?_)
     ·try simp only [sq] at h42
      have hdup : ¬ l.Nodup := fun hnl => by
       have h1 : (l.take (z + 1)).Nodup := hnl.sublist (List.take_sublist _ _)
       rw [ht, List.nodup_append] at h1
       apply h42
       unfold Fl.chk
       have := hin z hj
       rw [hy] at this
       rw [if_neg (fun h => h (by rw [hn2]; exact this)), if_neg (fun h => by
        rcases h with h | h
        ·exact h1.2.2 y ((insAll_mem _ _).1 h) y (by simp) rfl
        ·cases h)]
      refine sD (sM rfl (sA rfl (sA rfl (sN ?_))))
      refine R.ret2 results90 rfl rfl (fun w hw => ?_)
      exact ⟨S2, le1.trans le2, .inr ⟨fun h => hdup h.nodup, _, h42, rfl, hw.dropl⟩⟩
     ·try simp only [sq] at h42
      have h42' : Fl.chk ⟨n.toNat, insAll (l.take z), []⟩ y = 0 := h42
      have hdE : FlR S2 b20 ⟨n.toNat, insAll (l.take (z + 1)), []⟩ fp2 := by
       rcases hs2 with ⟨_, rfl⟩ | ⟨h, _⟩
       ·rw [ht, insAll_snoc]; exact hd2
       ·exact absurd h42' h
      have hndE : (l.take (z + 1)).Nodup := by
       have hasc := hdE.ok.spare
       rw [ht, List.nodup_append]
       refine ⟨hnd, by simp, fun a ha b hb e => ?_⟩
       rw [List.mem_singleton.1 hb] at e
       subst e
       unfold Fl.chk at h42'
       split at h42'
       ·omega
       ·split at h42'
        ·omega
        ·rename_i h; exact h (.inl ((insAll_mem _ _).2 ha))
      refine C.skip (N.blk (N.seq ?_))
      refine sR ?_
      refine L.w rfl (V.add rfl rfl (w64 (by omega) (by omega))) ?_
      refine sM rfl ?_
      refine L.nil ?_
      exact N.round (z + 1, S2, fp2) (by show _ - (z + 1) < _ - z; omega) ⟨rfl, rfl, rfl, rfl, trivial⟩ (fun w hw => ⟨⟨by show z + 1 ≤ _; omega, le1.trans le2, hndE, hdE⟩, hw⟩)
    ·try simp only [sq] at h35
     refine sZ rfl (sD (sM rfl (sA rfl (sA rfl (sN ?_)))))
     refine R.ret2 results90 rfl rfl (fun w hw => ?_)
     have hzl : z = l.length := by omega
     subst hzl
     rw [List.take_length] at hnd hd1
     rw [insAll_sort hnd] at hd1
     exact ⟨S1, le1, .inl ⟨⟨hn.1, hn.2, fun i hi => (by obtain ⟨j, hj, rfl⟩ := List.getElem_of_mem hi; exact hin j hj), hnd⟩, b20, fp1, rfl, hd1, hw⟩⟩
end
end Go.Proofs.YtijgbppkdaiikaaGreat

set_option linter.unusedSimpArgs false
set_option linter.unusedVariables false
namespace Go.Proofs.YtijgbppkdaiikaaGreat
open Go.Proofs.Tryz Go.Tk

structure Mt where
 txn : Nat
 root : Nat
 spare : Nat
 size : Nat

structure MRight (m : Mt) : Prop where
 root : m.root = 0 ∨ 2 ≤ m.root ∧ m.root < m.size
 spare : m.spare = 0 ∨ 2 ≤ m.spare ∧ m.spare < m.size
 s0 : 8 ≤ m.size
 s1 : m.size ≤ 1024

def mark5 : List UInt8 := [84, 69, 82, 82, 1]
def metaH (m : Mt) : List UInt8 := [9] ++ en m.txn 8 ++ mark5 ++ en m.root 4 ++ en m.spare 4 ++ en m.size 4
def metaW (m : Mt) : List UInt8 := metaH m ++ List.replicate 218 0 ++ en m.txn 8
/-- A meta's 256 bytes. -/
def metaB (m : Mt) : List UInt8 := en (sumN (metaW m)) 4 ++ metaW m
theorem metaH_len (m : Mt) : (metaH m).length = 26 := by simp [metaH, en_length, mark5]
theorem metaW_len (m : Mt) : (metaW m).length = 252 := by unfold metaW; rw [List.length_append, List.length_append, metaH_len, en_length, List.length_replicate]
theorem metaB_len (m : Mt) : (metaB m).length = 256 := by unfold metaB; rw [List.length_append, metaW_len, en_length]
def MtC (m : Mt) : List Value := [.int .u64 (m.txn : Int), .int .i64 (m.root : Int), .int .i64 (m.spare : Int), .int .i64 (m.size : Int)]
structure MSmall (m : Mt) : Prop where
 txn : m.txn < 2 ^ 64
 root : m.root < 2 ^ 32
 spare : m.spare < 2 ^ 32
 size : m.size < 2 ^ 32

section
variable {w0 : World} {F : Nat → Prop} {S : Store} {Hr : Heap} {w : World}

open Classical in
theorem mright_ok (m : Mt) (hs : MSmall m) (hw : Hp w0 F S Hr w) :
 Calls Tryz.prog 171 #[.agg (MtC m).toArray] w fun e w' => e = .returned (.bool (decide (MRight m))) ∧ Hp w0 F S Hr w' := by
 unfold MtC
 have q1 := hs.root
 have q2 := hs.spare
 have q3 := hs.size
 have bad : ∀ {H' : Heap} (w' : World), ¬ MRight m → Hp w0 F S H' w' → List.Sublist Hr H' → (Ending.returned (.bool false) = Ending.returned (.bool (decide (MRight m))) ∧ Hp w0 F S Hr w') := fun w' h hw hsb => by
  rw [decide_eq_false h]; exact ⟨rfl, hw.sub hsb⟩
 refine enterA hw func171 rfl ntmps171 rfl rfl ?_
 refine sD ?_
 refine L.boxA rfl rfl rfl (fun b1 => ?_)
 refine sA rfl (sN (sC (sD ?_)))
 refine L.w rfl (V.fa rfl underlying139 rfl rfl sizeOf3) ?_
 refine L.w rfl (V.load rfl isAgg3 zAt (by rfl)) ?_
 refine L.w rfl (V.fa rfl underlying139 rfl rfl sizeOf3) ?_
 refine L.w rfl (V.load rfl isAgg3 zAt (by rfl)) ?_
 refine L.sliceF1 rfl rfl rfl underlying37 sizeOf3 zeroValue3 rfl (by decide) (by decide) (Fills.cons (off := 0) rfl rfl rfl zPut (Fills.cons (off := 1) rfl rfl rfl zPut Fills.nil)) (fun b9 => ?_)
 refine L.w rfl (V.len rfl underlying37) ?_
 refine sM rfl (sN (sB ?_))
 refine C.loop (α := Nat) (fun z => [(1, .pointer (some ⟨b1, 0, none⟩)), (9, .slice (some ⟨b9, 0, none⟩) 2 2), (10, .int .i64 2), (11, .int .i64 (z : Int))]) (fun z w => (z ≤ 2 ∧ (1 ≤ z → (m.root = 0 ∨ 2 ≤ m.root ∧ m.root < m.size)) ∧ (2 ≤ z → (m.spare = 0 ∨ 2 ≤ m.spare ∧ m.spare < m.size))) ∧ Hp w0 F S ((b9, .cells #[.int .i64 (m.root : Int), .int .i64 (m.spare : Int)] 3 (0, 0)) :: (b1, .cells #[.int .u64 (m.txn : Int), .int .i64 (m.root : Int), .int .i64 (m.spare : Int), .int .i64 (m.size : Int)] 139 (0, 0)) :: Hr) w) (fun z => 2 - z) 0 ⟨rfl, rfl, rfl, rfl, trivial⟩ (fun w hw => ⟨⟨by omega, fun h => by omega, fun h => by omega⟩, hw⟩) (fun z => C.pure (fun hz => ?_))
 refine sD (sQc rfl (sN (sC ?_)))
 refine C.cond rfl (fun h12 => ?_) (fun h12 => ?_)
 ·try simp only [sq] at h12
  have hj : z < 2 := by omega
  obtain ⟨x, hx⟩ : ∃ x : Nat, x = if z = 0 then m.root else m.spare := ⟨_, rfl⟩
  have hcell : (#[Value.int .i64 (m.root : Int), .int .i64 (m.spare : Int)])[0 + z * 1]? = some (.int .i64 (x : Int)) := by
   rcases (by omega : z = 0 ∨ z = 1) with rfl | rfl
   ·rw [hx]; rfl
   ·rw [hx]; rfl
  refine sK (sC (sB (sD ?_)))
  refine L.w rfl (V.indexAddr rfl rfl underlying37 sizeOf3 rfl (by omega)) ?_
  refine L.w rfl (V.load rfl isAgg3 .head hcell) ?_
  refine sA rfl (sE (sM rfl (sQb rfl (sM rfl ?_))))
  refine L.fork (d := 17) rfl (fun h17 => ?_) (fun h17 => ?_)
  ·try simp only [sq] at h17
   refine sM rfl (sQc rfl (sM rfl ?_))
   refine L.fork (d := 20) rfl (fun h20 => ?_) (fun h20 => ?_)
   ·try simp only [sq] at h20
    refine sS rfl (sS rfl (sS rfl (sS rfl (sT rfl (sT rfl (sN (sO rfl (sD (sA rfl (sN ?_))))))))))
    refine R.ret1 results171 rfl (fun w hw => ?_)
    refine bad w (fun h => ?_) hw (by simp)
    have r1 := h.root
    have r2 := h.spare
    rcases (by omega : z = 0 ∨ z = 1) with rfl | rfl
    ·rw [if_pos rfl] at hx; omega
    ·rw [if_neg (by omega)] at hx; omega
   ·try simp only [sq] at h20
    refine sM rfl ?_
    refine L.w rfl (V.fa rfl underlying139 rfl rfl sizeOf3) ?_
    refine L.w rfl (V.load rfl isAgg3 zAt (by rfl)) ?_
    refine sQf rfl (sU rfl (sT rfl (sN ?_)))
    refine C.cond rfl (fun h26 => ?_) (fun h26 => ?_)
    ·try simp only [sq] at h26
     refine sD (sA rfl (sN ?_))
     refine R.ret1 results171 rfl (fun w hw => ?_)
     refine bad w (fun h => ?_) hw (by simp)
     have r1 := h.root
     have r2 := h.spare
     rcases (by omega : z = 0 ∨ z = 1) with rfl | rfl
     ·rw [if_pos rfl] at hx; omega
     ·rw [if_neg (by omega)] at hx; omega
    ·try simp only [sq] at h26
     refine C.skip (N.blk (N.seq ?_))
     refine sR ?_
     refine L.w rfl (V.add rfl rfl (w64 (by omega) (by omega))) ?_
     refine sM rfl ?_
     refine L.nil ?_
     refine N.round (z + 1) (by omega) ⟨rfl, rfl, rfl, rfl, trivial⟩ (fun w hw => ⟨⟨by omega, fun h => ?_, fun h => ?_⟩, hw⟩)
     ·rcases (by omega : z = 0 ∨ 1 ≤ z) with rfl | h1
      ·rw [if_pos rfl] at hx; omega
      ·exact hz.2.1 h1
     ·rcases (by omega : z = 1 ∨ 2 ≤ z) with rfl | h1
      ·rw [if_neg (by omega)] at hx; omega
      ·exact hz.2.2 h1
  ·try simp only [sq] at h17
   refine sS rfl (sS rfl (sS rfl (sS rfl (sS rfl (sS rfl (sS rfl (sS rfl (sU rfl (sN (sP rfl ?_))))))))))
   refine C.skip (N.blk (N.seq ?_))
   refine sR ?_
   refine L.w rfl (V.add rfl rfl (w64 (by omega) (by omega))) ?_
   refine sM rfl ?_
   refine L.nil ?_
   refine N.round (z + 1) (by omega) ⟨rfl, rfl, rfl, rfl, trivial⟩ (fun w hw => ⟨⟨by omega, fun h => ?_, fun h => ?_⟩, hw⟩)
   ·rcases (by omega : z = 0 ∨ 1 ≤ z) with rfl | h1
    ·rw [if_pos rfl] at hx; omega
    ·exact hz.2.1 h1
   ·rcases (by omega : z = 1 ∨ 2 ≤ z) with rfl | h1
    ·rw [if_neg (by omega)] at hx; omega
    ·exact hz.2.2 h1
 ·try simp only [sq] at h12
  refine sZ rfl (sD ?_)
  refine L.w rfl (V.fa rfl underlying139 rfl rfl sizeOf3) ?_
  refine L.w rfl (V.load rfl isAgg3 zAt (by rfl)) ?_
  refine sQf rfl (sM rfl ?_)
  refine L.fork (d := 31) rfl (fun h31 => ?_) (fun h31 => ?_)
  ·try simp only [sq] at h31
   refine L.w rfl (V.fa rfl underlying139 rfl rfl sizeOf3) ?_
   refine L.w rfl (V.load rfl isAgg3 zAt (by rfl)) ?_
   refine sQd rfl (sT rfl (sA rfl (sN ?_)))
   refine R.ret1 results171 rfl (fun w hw => ?_)
   have z2 : z = 2 := by omega
   subst z2
   have r1 := hz.2.1 (by omega)
   have r2 := hz.2.2 (by omega)
   refine ⟨ret_bool ?_, hw.sub (by simp)⟩
   rw [decide_eq_true_eq]
   first
    | (rw [decide_eq_true_eq]; exact ⟨fun h => ⟨r1, r2, by omega, by omega⟩, fun h => (by have := h.s1; omega)⟩)
    | (simp only [Bool.false_eq_true, false_iff]; exact fun h => (by have := h.s0; have := h.s1; omega))
  ·try simp only [sq] at h31
   refine sS rfl (sS rfl (sS rfl (sU rfl (sA rfl (sN ?_)))))
   refine R.ret1 results171 rfl (fun w hw => ?_)
   have z2 : z = 2 := by omega
   subst z2
   have r1 := hz.2.1 (by omega)
   have r2 := hz.2.2 (by omega)
   refine ⟨ret_bool ?_, hw.sub (by simp)⟩
   rw [decide_eq_true_eq]
   first
    | (rw [decide_eq_true_eq]; exact ⟨fun h => ⟨r1, r2, by omega, by omega⟩, fun h => (by have := h.s1; omega)⟩)
    | (simp only [Bool.false_eq_true, false_iff]; exact fun h => (by have := h.s0; have := h.s1; omega))

theorem mark5_len : mark5.length = 5 := rfl

theorem mput_ok {b4 : Nat} {v : Value} {l : List UInt8} {fp : Heap} (n size : Nat) (h1 : 1 ≤ size) (h8 : size ≤ 8) (hn : n < 256 ^ size) (ho : OwnB 5 v l fp) (hl : l.length ≤ 1000000) (hw : Hp w0 F S (fp ++ ((b4, .cells #[v] 22 (0, 0)) :: Hr)) w) :
 Calls Tryz.prog 172 #[.int .u64 n, .int .i64 size, .pointer (some ⟨b4, 0, none⟩)] w fun e w' => ∃ v' fp', e = .returned (.tuple #[]) ∧ OwnB 5 v' (l ++ en n size) fp' ∧ Hp w0 F S (fp' ++ ((b4, .cells #[v'] 22 (0, 0)) :: Hr)) w' := by
 refine enterA hw func172 rfl ntmps172 rfl rfl ?_
 refine sD (sM rfl (sM rfl ?_))
 refine L.call rfl rfl rfl call140 rfl (fun w hw => put_ok n size h1 h8 hn hw) ?_
 rintro _ a w hst ⟨b12, rfl, hw⟩
 refine hst.go rfl hw ?_
 clear hst hw w a
 refine sM rfl (sX rfl (sX rfl (sA rfl (sA rfl (sN (sR ?_))))))
 refine L.w rfl (V.load rfl isAgg22 (.tail (.apr .head)) (by rfl)) ?_
 refine sM rfl ?_
 refine L.append (by' := 1) (sz := 1) (l := size) (ys := (en n size).map bv) rfl rfl rfl rfl underlying22 info_u8 rfl rfl rfl rfl ho (.skip .done) ⟨by simp [en_length], .inr ⟨b12, 0, size, _, _, _, rfl, ⟨Nat.le_refl _, by omega⟩, .apr .head, fun j hj => by simp⟩⟩ (bv_one _) (by omega) (by omega) (fun v' fp' ho' => ?_)
 replace ho' : OwnB 5 v' (l ++ en n size) fp' := OwnB.app ho' rfl (en_length _ _).symm
 obtain ⟨a15, c15, rfl⟩ := ho'.form
 refine L.store rfl rfl rfl sizeOf22 rfl zUp zSet ?_
 refine L.nil ?_
 refine R.fall0 results172 (fun w hw => ?_)
 exact ⟨_, fp', rfl, ho', hw.sub zSub⟩

open Classical in
theorem mencode_ok (m : Mt) (hs : MSmall m) (hw : Hp w0 F S Hr w) :
 Calls Tryz.prog 131 #[.agg (MtC m).toArray] w fun e w' => ∃ v fp err, e = .returned (.tuple #[v, .int .i64 err]) ∧ ((MRight m ∧ err = 0 ∧ OwnB 5 v (metaB m) fp) ∨ (¬ MRight m ∧ err = 4 ∧ v = .slice none 0 0 ∧ fp = [])) ∧ Hp w0 F S (fp ++ Hr) w' := by
 have hs0 := hs
 have q0 := hs.txn
 have q1 := hs.root
 have q2 := hs.spare
 have q3 := hs.size
 refine enterA hw func131 rfl ntmps131 rfl rfl ?_
 unfold MtC
 refine sD ?_
 refine L.boxA rfl rfl rfl (fun b1 => ?_)
 refine sA rfl (sA rfl (sN (sC (sD ?_))))
 refine L.w rfl (V.loadBox rfl isAgg139 sizeOf139 zAt (by rfl)) ?_
 refine L.call rfl rfl rfl call171 rfl (fun w hw => mright_ok m hs0 hw) ?_
 rintro _ a w hst ⟨rfl, hw⟩
 refine hst.go rfl hw ?_
 clear hst hw w a
 refine sV rfl (sN ?_)
 refine C.cond rfl (fun h8 => ?_) (fun h8 => ?_)
 ·try simp only [sq] at h8
  refine sD (sA rfl (sA rfl (sN ?_)))
  refine R.ret2 results131 rfl rfl (fun w hw => ?_)
  exact ⟨_, [], _, rfl, .inr ⟨h8, rfl, rfl, rfl⟩, hw.drop⟩
 ·try simp only [sq] at h8
  have hR : MRight m := h8
  refine sK (sD ?_)
  refine L.slice1 rfl rfl rfl underlying22 sizeOf5 zeroValue5 rfl (by decide) (by decide) rfl rfl (fun b9 => ?_)
  refine L.alloc1 rfl rfl zeroValue22 rfl (fun b4 => ?_)
  refine L.store rfl rfl rfl sizeOf22 rfl zUp zSet ?_
  refine sE ?_
  refine L.w rfl (V.makeFunc rfl rfl) ?_
  refine sA rfl (sE ?_)
  have ho9 : OwnB 5 (.slice (some ⟨b9, 0, none⟩) 1 1) [9] [(b9, .cells #[.int .u8 9] 5 (0, 0))] := Own.full (xs := [.int .u8 9]) rfl (by omega)
  refine sM rfl ?_
  refine L.w rfl (V.fa rfl underlying139 rfl rfl sizeOf123) ?_
  refine L.w rfl (V.load rfl isAgg123 zAt (by rfl)) ?_
  refine L.call rfl rfl rfl call172 rfl (fun w hw => mput_ok m.txn 8 (by omega) (by omega) (by omega) ho9 (by simp only [List.length_append, en_length, List.length_replicate, List.length_singleton, mark5_len]; omega) (hw.re (H' := [(b9, .cells #[.int .u8 9] 5 (0, 0))] ++ ((b4, .cells #[(.slice (some ⟨b9, 0, none⟩) 1 1)] 22 (0, 0)) :: (b1, .cells #[.int .u64 (m.txn : Int), .int .i64 (m.root : Int), .int .i64 (m.spare : Int), .int .i64 (m.size : Int)] 139 (0, 0)) :: Hr)) zRe)) ?_
  rintro _ a w hst ⟨v14, fp14, rfl, ho14, hw⟩
  refine hst.go rfl hw ?_
  clear hst hw w a
  refine sE ?_
  refine L.w rfl (V.load rfl isAgg22 zAt (by rfl)) ?_
  refine L.appendStr (by' := 1) (l := mark5) rfl rfl rfl rfl underlying22 underlying9 info_u8 rfl rfl rfl rfl ho14 (by simp [en_length]) .done (by simp [en_length, mark5]) (by simp [en_length, mark5]) (fun v16 fp16 ho16 => ?_)
  replace ho16 : OwnB 5 v16 ([9] ++ en m.txn 8 ++ mark5) fp16 := OwnB.app ho16 rfl rfl
  obtain ⟨a16, c16, rfl⟩ := ho16.form
  refine L.store rfl rfl rfl sizeOf22 rfl zUp zSet ?_
  refine sE (sM rfl ?_)
  refine L.w rfl (V.fa rfl underlying139 rfl rfl sizeOf3) ?_
  refine L.w rfl (V.load rfl isAgg3 zAt (by rfl)) ?_
  refine L.w rfl (V.conv (c := (m.root : Int)) rfl underlying3 underlying123 (by rw [IntKind.wrap_u64]; omega)) ?_
  refine L.call rfl rfl rfl call172 rfl (fun w hw => mput_ok m.root 4 (by omega) (by omega) (by omega) ho16 (by simp only [List.length_append, en_length, List.length_replicate, List.length_singleton, mark5_len]; omega) (hw.re (H' := fp16 ++ ((b4, .cells #[(.slice a16 ([9] ++ en m.txn 8 ++ mark5).length c16)] 22 (0, 0)) :: (b1, .cells #[.int .u64 (m.txn : Int), .int .i64 (m.root : Int), .int .i64 (m.spare : Int), .int .i64 (m.size : Int)] 139 (0, 0)) :: Hr)) zRe)) ?_
  rintro _ a w hst ⟨v21, fp21, rfl, ho21, hw⟩
  refine hst.go rfl hw ?_
  clear hst hw w a
  refine sE (sM rfl ?_)
  refine L.w rfl (V.fa rfl underlying139 rfl rfl sizeOf3) ?_
  refine L.w rfl (V.load rfl isAgg3 zAt (by rfl)) ?_
  refine L.w rfl (V.conv (c := (m.spare : Int)) rfl underlying3 underlying123 (by rw [IntKind.wrap_u64]; omega)) ?_
  refine L.call rfl rfl rfl call172 rfl (fun w hw => mput_ok m.spare 4 (by omega) (by omega) (by omega) ho21 (by simp only [List.length_append, en_length, List.length_replicate, List.length_singleton, mark5_len]; omega) (hw.re (H' := fp21 ++ ((b4, .cells #[v21] 22 (0, 0)) :: (b1, .cells #[.int .u64 (m.txn : Int), .int .i64 (m.root : Int), .int .i64 (m.spare : Int), .int .i64 (m.size : Int)] 139 (0, 0)) :: Hr)) zRe)) ?_
  rintro _ a w hst ⟨v26, fp26, rfl, ho26, hw⟩
  refine hst.go rfl hw ?_
  clear hst hw w a
  refine sE (sM rfl ?_)
  refine L.w rfl (V.fa rfl underlying139 rfl rfl sizeOf3) ?_
  refine L.w rfl (V.load rfl isAgg3 zAt (by rfl)) ?_
  refine L.w rfl (V.conv (c := (m.size : Int)) rfl underlying3 underlying123 (by rw [IntKind.wrap_u64]; omega)) ?_
  refine L.call rfl rfl rfl call172 rfl (fun w hw => mput_ok m.size 4 (by omega) (by omega) (by omega) ho26 (by simp only [List.length_append, en_length, List.length_replicate, List.length_singleton, mark5_len]; omega) (hw.re (H' := fp26 ++ ((b4, .cells #[v26] 22 (0, 0)) :: (b1, .cells #[.int .u64 (m.txn : Int), .int .i64 (m.root : Int), .int .i64 (m.spare : Int), .int .i64 (m.size : Int)] 139 (0, 0)) :: Hr)) zRe)) ?_
  rintro _ a w hst ⟨v31, fp31, rfl, ho31, hw⟩
  refine hst.go rfl hw ?_
  clear hst hw w a
  refine sE ?_
  replace ho31 : OwnB 5 v31 (metaH m) fp31 := ho31
  obtain ⟨a31, c31, rfl⟩ := ho31.form
  refine L.w rfl (V.load rfl isAgg22 (.apr .head) (by rfl)) ?_
  refine L.w rfl (V.load rfl isAgg22 zAt (by rfl)) ?_
  refine L.w rfl (V.len rfl underlying22) ?_
  refine L.w rfl (V.sub (c := ((218 : Nat) : Int)) rfl rfl (by rw [metaH_len, w64 (by omega) (by omega)]; rfl)) ?_
  refine L.appendMk (by' := 1) (q := 218) (z := .int .u8 0) rfl rfl rfl rfl underlying22 underlying3 info_u8 rfl rfl rfl rfl rfl ho31 (by rw [metaH_len]; decide) (by decide) .done (by rw [metaH_len]; decide) (by decide) (fun v36 fp36 ho36 => ?_)
  replace ho36 : OwnB 5 v36 (metaH m ++ List.replicate 218 0) fp36 := OwnB.app (l' := List.replicate 218 0) (by rw [List.map_replicate]; exact ho36) rfl (by rw [List.length_replicate])
  obtain ⟨a36, c36, rfl⟩ := ho36.form
  refine L.store rfl rfl rfl sizeOf22 rfl zUp zSet ?_
  refine sE (sM rfl ?_)
  refine L.w rfl (V.fa rfl underlying139 rfl rfl sizeOf123) ?_
  refine L.w rfl (V.load rfl isAgg123 zAt (by rfl)) ?_
  refine L.call rfl rfl rfl call172 rfl (fun w hw => mput_ok m.txn 8 (by omega) (by omega) (by omega) ho36 (by rw [List.length_append, metaH_len, List.length_replicate]; omega) (hw.re (H' := fp36 ++ ((b4, .cells #[(.slice a36 (metaH m ++ List.replicate 218 0).length c36)] 22 (0, 0)) :: (b1, .cells #[.int .u64 (m.txn : Int), .int .i64 (m.root : Int), .int .i64 (m.spare : Int), .int .i64 (m.size : Int)] 139 (0, 0)) :: Hr)) zRe)) ?_
  rintro _ a w hst ⟨v40, fp40, rfl, ho40, hw⟩
  refine hst.go rfl hw ?_
  clear hst hw w a
  replace ho40 : OwnB 5 v40 (metaW m) fp40 := ho40
  refine sE ?_
  refine L.w rfl (V.load rfl isAgg22 zAt (by rfl)) ?_
  refine L.call rfl rfl rfl call170 rfl (fun w hw => seal_ok (l := metaW m) (ho40.bs (fun q hq => List.mem_append_left _ hq)) (by rw [metaW_len]; omega) hw) ?_
  rintro _ a w hst ⟨v42, fp42, rfl, ho42, hw⟩
  refine hst.go rfl hw ?_
  clear hst hw w a
  refine sA rfl (sA rfl (sN ?_))
  refine R.ret2 results131 rfl rfl (fun w hw => ?_)
  refine ⟨_, fp42, _, rfl, .inl ⟨hR, rfl, ?_⟩, hw.sub zSub⟩
  unfold OwnB metaB
  rw [List.length_append, en_length]; exact ho42
end
end Go.Proofs.YtijgbppkdaiikaaGreat

set_option linter.unusedSimpArgs false
set_option linter.unusedVariables false
namespace Go.Proofs.YtijgbppkdaiikaaGreat
open Go.Proofs.Tryz Go.Tk

theorem MRight.small {m : Mt} (h : MRight m) (ht : m.txn < 2 ^ 64) : MSmall m := by
 have h1 := h.root
 have h2 := h.spare
 have h3 := h.s1
 exact ⟨ht, by omega, by omega, by omega⟩
def IsMeta (l : List UInt8) (m : Mt) : Prop := MRight m ∧ m.txn < 2 ^ 64 ∧ metaB m = l
theorem metaW_split (m : Mt) : ∃ r, metaW m = [9] ++ (en m.txn 8 ++ (mark5 ++ (en m.root 4 ++ (en m.spare 4 ++ (en m.size 4 ++ r))))) := by
 unfold metaW metaH
 simp only [List.append_assoc]
 exact ⟨_, rfl⟩
theorem metaW_inj {m q : Mt} (hm : MRight m) (hq : MRight q) (tm : m.txn < 2 ^ 64) (tq : q.txn < 2 ^ 64) (h : metaW m = metaW q) : m = q := by
 obtain ⟨r, e1⟩ := metaW_split m
 obtain ⟨r', e2⟩ := metaW_split q
 rw [e1, e2] at h
 have s1 := hm.small tm
 have s2 := hq.small tq
 have a1 := s1.root
 have a2 := s1.spare
 have a3 := s1.size
 have b1 := s2.root
 have b2 := s2.spare
 have b3 := s2.size
 have ha := List.append_cancel_left h
 obtain ⟨c1, hb⟩ := en_inj ha (by omega) (by omega)
 have hc := List.append_cancel_left hb
 obtain ⟨c2, hd⟩ := en_inj hc (by omega) (by omega)
 obtain ⟨c3, he⟩ := en_inj hd (by omega) (by omega)
 obtain ⟨c4, _⟩ := en_inj he (by omega) (by omega)
 cases m; cases q; simp_all
theorem IsMeta.len {l : List UInt8} {p : Mt} (h : IsMeta l p) : l.length = 256 := by rw [← h.2.2]; exact metaB_len p
theorem IsMeta.drop {l : List UInt8} {p : Mt} (h : IsMeta l p) : l.drop 4 = metaW p := by rw [← h.2.2]; unfold metaB; rw [List.drop_left' (en_length _ _)]
theorem IsMeta.take {l : List UInt8} {p : Mt} (h : IsMeta l p) : be (l.take 4) = sumN (l.drop 4) := by
 rw [h.drop, ← h.2.2]; unfold metaB; rw [List.take_left' (en_length _ _), be_en _ _ (sumN_lt _)]
theorem IsMeta.eq {l : List UInt8} {p q : Mt} (h : IsMeta l p) (h' : IsMeta l q) : p = q := metaW_inj h.1 h'.1 h.2.1 h'.2.1 (by rw [← h.drop, ← h'.drop])
open Classical in
noncomputable def mdecP (l : List UInt8) : Option Mt := if h : ∃ p, IsMeta l p then some h.choose else none
theorem mdecP_of {l : List UInt8} {p : Mt} (h : IsMeta l p) : mdecP l = some p := by
 unfold mdecP
 rw [dif_pos ⟨p, h⟩]
 exact congrArg some ((Exists.choose_spec (⟨p, h⟩ : ∃ p, IsMeta l p)).eq h)
theorem mdecP_some {l : List UInt8} {p : Mt} (h : mdecP l = some p) : IsMeta l p := by
 unfold mdecP at h
 split at h
 ·rename_i hx; have := hx.choose_spec; rw [Option.some.inj h] at this; exact this
 ·cases h
theorem mdecP_none {l : List UInt8} (h : ∀ p, ¬ IsMeta l p) : mdecP l = none := by
 unfold mdecP
 rw [dif_neg (fun ⟨p, hp⟩ => h p hp)]

def zeroM : List Value := [.int .u64 0, .int .i64 0, .int .i64 0, .int .i64 0]

section
variable {w0 : World} {F : Nat → Prop} {S : Store} {Hr : Heap} {w : World}

theorem mdecode_ok {v : Value} {l : List UInt8} (hb : Bs S Hr v l) (hl : l.length ≤ 1000000) (hw : Hp w0 F S Hr w) :
 Calls Tryz.prog 133 #[v] w fun e w' => ∃ S' c err, e = .returned (.tuple #[.agg c.toArray, .int .i64 err]) ∧ S.le S' ∧ Hp w0 F S' Hr w' ∧ ((∃ m, mdecP l = some m ∧ err = 0 ∧ c = MtC m) ∨ (mdecP l = none ∧ err ≠ 0 ∧ c = zeroM)) := by
 have hb0 := hb
 obtain ⟨ad, c, rfl, _⟩ := hb.form
 refine enterA hw func133 rfl ntmps133 rfl rfl ?_
 refine sD ?_
 refine L.allocA rfl rfl zeroValue139 (fun b2 => ?_)
 refine sA rfl (sN (sC (sD (sM rfl ?_))))
 refine L.w rfl (V.len rfl underlying22) ?_
 refine sQb rfl (sN ?_)
 refine C.cond rfl (fun h12 => ?_) (fun h12 => ?_)
 ·try simp only [sq] at h12
  refine sD ?_
  refine L.w rfl (V.build rfl underlying139 zeroValue139 (pl := [(0, 1), (1, 1), (2, 1), (3, 1)]) (fun w => by kernel_rfl) Fills.nil) ?_
  refine L.storeBox rfl rfl rfl sizeOf139 rfl rfl (by rfl) zUp ?_
  refine sA rfl (sN ?_)
  refine R.retct results133 rfl rfl (fun w hw => run_box hw isAgg139 sizeOf139 zAt rfl) (fun w hw => ?_)
  exact ⟨S, zeroM, _, rfl, .refl S, hw.drop, .inr ⟨mdecP_none fun p hp => (by have := hp.len; omega), by decide, rfl⟩⟩
 ·try simp only [sq] at h12
  refine sK (sD (sM rfl ?_))
  have hlen : l.length = 256 := by omega
  refine L.call rfl rfl rfl call174 rfl (fun w hw => open_ok (hb.mono (Sees.cons _ _ _)) (by omega) hl hw) ?_
  rintro _ a w hst ⟨v4, fp4, err, rfl, hop, hw⟩
  refine hst.go rfl hw ?_
  clear hst hw w a
  refine sM rfl (sX rfl (sX rfl (sA rfl (sA rfl (sN (sC (sD (sM rfl (sQb rfl (sN ?_))))))))))
  refine C.cond rfl (fun h20 => ?_) (fun h20 => ?_)
  ·try simp only [sq] at h20
   refine sD ?_
   refine L.w rfl (V.build rfl underlying139 zeroValue139 (pl := [(0, 1), (1, 1), (2, 1), (3, 1)]) (fun w => by kernel_rfl) Fills.nil) ?_
   refine sM rfl ?_
   refine L.storeBox rfl rfl rfl sizeOf139 rfl rfl (by rfl) zUp ?_
   refine sA rfl (sN ?_)
   refine R.retct results133 rfl rfl (fun w hw => run_box hw isAgg139 sizeOf139 zAt rfl) (fun w hw => ?_)
   rcases hop with ⟨e1, _⟩ | ⟨rfl, ne, rfl, rfl⟩
   ·omega
   ·exact ⟨S, zeroM, _, rfl, .refl S, hw.drop, .inr ⟨mdecP_none fun p hp => ne hp.take, by decide, rfl⟩⟩
  ·try simp only [sq] at h20
   obtain ⟨e1, hsum, ho4⟩ : err = 0 ∧ be (l.take 4) = sumN (l.drop 4) ∧ OwnB 5 v4 (l.drop 4) fp4 := by
    rcases hop with ⟨e1, h2, h3⟩ | ⟨rfl, _⟩
    ·exact ⟨e1, h2, by unfold OwnB; rw [List.length_drop]; exact h3⟩
    ·omega
   subst e1
   clear hop
   obtain ⟨t, ht⟩ : ∃ t, l.drop 4 = t := ⟨_, rfl⟩
   have htl : t.length = 252 := by rw [← ht, List.length_drop]; omega
   rw [ht] at ho4
   refine C.sealB ho4 .done (fun S1 le1 hb4 => ?_)
   have hconv : ∀ q, IsMeta l q → metaW q = t := fun q hq => by rw [← ht, hq.drop]
   obtain ⟨a4, c4, rfl, hc4⟩ := hb4.form
   obtain ⟨ad2, had⟩ : ∃ ad2, (if c4 = 1 then a4 else a4.map (·.add (1 * 1))) = ad2 := ⟨_, rfl⟩
   have hbs := hb4.sub (lo := 1) (hi := t.length) (by omega) (Nat.le_refl _) had
   have htake : (t.drop 1).take (t.length - 1) = t.drop 1 := List.take_of_length_le (by rw [List.length_drop]; omega)
   rw [htake] at hbs
   obtain ⟨u, hu⟩ : ∃ u, t.drop 1 = u := ⟨_, rfl⟩
   have hul : u.length = 251 := by rw [← hu, List.length_drop]; omega
   rw [hu] at hbs
   refine sK (sD (sM rfl ?_))
   refine L.w rfl (V.slice (l := 1) (u := t.length) rfl underlying22 sizeOf5 ⟨_, rfl⟩ rfl (by omega) (by omega) had) ?_
   refine L.call rfl rfl rfl call175 rfl (fun w hw => newReader_ok (l := u) (hbs.lift _) (by omega) hw) ?_
   rintro _ a w hst ⟨b6, tv, S2, rfl, le2, hbt, hw⟩
   refine hst.go rfl hw ?_
   clear hst hw w a
   refine sA rfl (sE (sM rfl ?_))
   refine L.call rfl rfl rfl call176 rfl (fun w hw => num_ok2 (size := 8) (hbt.lift _) (by omega) (by omega) (by omega) (by omega) hw) ?_
   rintro _ a w hst ⟨txn, a1, e1, r1, ha1, hn1, rfl, hw⟩
   refine hst.go rfl hw ?_
   clear hst hw w a
   refine L.w rfl (V.build rfl underlying139 zeroValue139 (pl := [(0, 1), (1, 1), (2, 1), (3, 1)]) (fun w => by kernel_rfl) (Fills.cons rfl rfl rfl zPut Fills.nil)) ?_
   refine L.allocA rfl rfl zeroValue139 (fun b7 => ?_)
   refine L.storeBox rfl rfl rfl sizeOf139 rfl rfl (by rfl) zUp ?_
   refine sE (sM rfl ?_)
   refine L.call rfl rfl rfl call177 rfl (fun w hw => bytes_ok2 (n := 5) (hbt.lift _) (by omega) (by omega) ha1 (by omega) (hw.take (.skip .done) (fp := [_]))) ?_
   rintro _ a w hst ⟨mk, a2, e2, v30, fp30, r2, ha2, _, rfl, ho30, hw⟩
   refine hst.go rfl hw ?_
   clear hst hw w a
   refine sE (sM rfl ?_)
   refine L.call rfl rfl rfl call176 rfl (fun w hw => num_ok2 (size := 4) (hbt.lift _) (by omega) (by omega) ha2 (by omega) hw.dropl) ?_
   rintro _ a w hst ⟨root, a3, e3, r3, ha3, hn3, rfl, hw⟩
   refine hst.go rfl hw ?_
   clear hst hw w a
   refine L.w rfl (V.conv (c := (root : Int)) rfl underlying123 underlying3 (by rw [IntKind.wrap_i64]; omega)) ?_
   refine L.w rfl (V.fa rfl underlying139 rfl rfl sizeOf3) ?_
   refine L.store rfl rfl rfl sizeOf3 rfl zUp zSet ?_
   refine sE (sM rfl ?_)
   refine L.call rfl rfl rfl call176 rfl (fun w hw => num_ok2 (size := 4) (hbt.lift _) (by omega) (by omega) ha3 (by omega) hw) ?_
   rintro _ a w hst ⟨spare, a4', e4, r4, ha4, hn4, rfl, hw⟩
   refine hst.go rfl hw ?_
   clear hst hw w a
   refine L.w rfl (V.conv (c := (spare : Int)) rfl underlying123 underlying3 (by rw [IntKind.wrap_i64]; omega)) ?_
   refine L.w rfl (V.fa rfl underlying139 rfl rfl sizeOf3) ?_
   refine L.store rfl rfl rfl sizeOf3 rfl zUp zSet ?_
   refine sE (sM rfl ?_)
   refine L.call rfl rfl rfl call176 rfl (fun w hw => num_ok2 (size := 4) (hbt.lift _) (by omega) (by omega) ha4 (by omega) hw) ?_
   rintro _ a w hst ⟨size, a5, e5, r5, ha5, hn5, rfl, hw⟩
   refine hst.go rfl hw ?_
   clear hst hw w a
   refine L.w rfl (V.conv (c := (size : Int)) rfl underlying123 underlying3 (by rw [IntKind.wrap_i64]; omega)) ?_
   refine L.w rfl (V.fa rfl underlying139 rfl rfl sizeOf3) ?_
   refine L.store rfl rfl rfl sizeOf3 rfl zUp zSet ?_
   refine sN (sC (sD ?_))
   refine L.w rfl (V.loadBox rfl isAgg139 sizeOf139 zAt (by rfl)) ?_
   obtain ⟨m, hm⟩ : ∃ m : Mt, m = ⟨txn, root, spare, size⟩ := ⟨_, rfl⟩
   have hms : MSmall m := by subst hm; exact ⟨by show txn < _; omega, by show root < _; omega, by show spare < _; omega, by show size < _; omega⟩
   have hdone : ∀ q, IsMeta l q → m = q := fun q hq => by
    obtain ⟨r, hr⟩ := metaW_split q
    rw [hconv q hq] at hr
    have hd : u = en q.txn 8 ++ (mark5 ++ (en q.root 4 ++ (en q.spare 4 ++ (en q.size 4 ++ r)))) := by rw [← hu, hr]; rfl
    have s := hq.1.small hq.2.1
    have z1 := s.root
    have z2 := s.spare
    have z3 := s.size
    obtain ⟨x1, x2, x3, h1⟩ := num_step r1 rfl (by rw [List.drop_zero]; exact hd) (by have := hq.2.1; omega) (by omega) (by omega)
    obtain ⟨y1, y2, y3, h2⟩ := bytes_step r2 x3 rfl h1 ha1
    obtain ⟨k1, k2, k3, h3⟩ := num_step r3 y3 h2 (by omega) (by omega) (by omega)
    obtain ⟨g1, g2, g3, h4⟩ := num_step r4 k3 h3 (by omega) (by omega) (by omega)
    obtain ⟨f1, f2, f3, h5⟩ := num_step r5 g3 h4 (by omega) (by omega) (by omega)
    subst hm
    cases q
    simp_all
   rw [show (Value.int .u64 (txn : Int)) = .int .u64 (m.txn : Int) from by rw [hm], show (Value.int .i64 (root : Int)) = .int .i64 (m.root : Int) from by rw [hm], show (Value.int .i64 (spare : Int)) = .int .i64 (m.spare : Int) from by rw [hm], show (Value.int .i64 (size : Int)) = .int .i64 (m.size : Int) from by rw [hm]]
   refine L.call rfl rfl rfl call131 rfl (fun w hw => mencode_ok m hms hw) ?_
   rintro _ a w hst ⟨vE, fE, err, rfl, hE, hw⟩
   refine hst.go rfl hw ?_
   clear hst hw w a
   refine sM rfl (sX rfl (sX rfl (sA rfl (sA rfl (sE (sM rfl (sQb rfl (sM rfl ?_))))))))
   refine L.fork (d := 50) rfl (fun h50 => ?_) (fun h50 => ?_)
   ·try simp only [sq] at h50
    refine sS rfl (sS rfl (sS rfl (sS rfl (sT rfl (sN (sO rfl (sD ?_)))))))
    refine L.w rfl (V.build rfl underlying139 zeroValue139 (pl := [(0, 1), (1, 1), (2, 1), (3, 1)]) (fun w => by kernel_rfl) Fills.nil) ?_
    refine L.storeBox rfl rfl rfl sizeOf139 rfl rfl (by rfl) zUp ?_
    refine sA rfl (sN ?_)
    refine R.retct results133 rfl rfl (fun w hw => run_box hw isAgg139 sizeOf139 zAt rfl) (fun w hw => ?_)
    have hn : mdecP l = none := mdecP_none fun q hq => by
     have e := hdone q hq
     subst e
     first
      | (rcases hE with ⟨_, h, _⟩ | ⟨h, _⟩
         ·omega
         ·exact h hq.1)
      | exact h55 hq.2.2
    exact ⟨S2, zeroM, _, rfl, le1.trans le2, hw.sub zSub, .inr ⟨hn, by decide, rfl⟩⟩
   ·try simp only [sq] at h50
    obtain ⟨hR, rfl, hoE⟩ : MRight m ∧ err = 0 ∧ OwnB 5 vE (metaB m) fE := by
     rcases hE with h | ⟨_, h, _⟩
     ·exact h
     ·omega
    have hb5 : Bs S2 Hr (.slice ad l.length c) l := hb0.mono (Sees.le (le1.trans le2) _)
    refine sM rfl (sM rfl ?_)
    refine L.call rfl rfl rfl call178 rfl (fun w hw => equal_ok (hoE.bs (fun q hq => List.mem_append_left _ hq)) (hb5.mono (Sees.of (.refl _) (fun q hq => by simp [hq]))) hw) ?_
    rintro _ a w hst ⟨rfl, hw⟩
    refine hst.go rfl hw ?_
    clear hst hw w a
    refine sV rfl (sU rfl (sN ?_))
    refine C.cond rfl (fun h55 => ?_) (fun h55 => ?_)
    ·try simp only [sq] at h55
     refine sD ?_
     refine L.w rfl (V.build rfl underlying139 zeroValue139 (pl := [(0, 1), (1, 1), (2, 1), (3, 1)]) (fun w => by kernel_rfl) Fills.nil) ?_
     refine L.storeBox rfl rfl rfl sizeOf139 rfl rfl (by rfl) zUp ?_
     refine sA rfl (sN ?_)
     refine R.retct results133 rfl rfl (fun w hw => run_box hw isAgg139 sizeOf139 zAt rfl) (fun w hw => ?_)
     have hn : mdecP l = none := mdecP_none fun q hq => by
      have e := hdone q hq
      subst e
      first
       | (rcases hE with ⟨_, h, _⟩ | ⟨h, _⟩
          ·omega
          ·exact h hq.1)
       | exact h55 hq.2.2
     exact ⟨S2, zeroM, _, rfl, le1.trans le2, hw.sub zSub, .inr ⟨hn, by decide, rfl⟩⟩
    ·try simp only [sq] at h55
     refine sK (sD ?_)
     refine L.w rfl (V.loadBox rfl isAgg139 sizeOf139 zAt (by rfl)) ?_
     refine L.storeBox rfl rfl rfl sizeOf139 rfl rfl (by rfl) zUp ?_
     refine sA rfl (sN ?_)
     refine R.retct results133 rfl rfl (fun w hw => run_box hw isAgg139 sizeOf139 zAt rfl) (fun w hw => ?_)
     exact ⟨S2, _, _, rfl, le1.trans le2, hw.sub zSub, .inl ⟨m, mdecP_of ⟨hR, hms.txn, h55⟩, rfl, rfl⟩⟩
end
end Go.Proofs.YtijgbppkdaiikaaGreat

set_option linter.unusedSimpArgs false
set_option linter.unusedVariables false
namespace Go.Proofs.YtijgbppkdaiikaaGreat
open Go.Proofs.Tryz Go.Tk

open Classical in
noncomputable def mstep (i : Nat) (b : List UInt8) (acc : Option Mt) : Option Mt :=
 match mdecP b with
 | some m => if m.txn % 2 = i ∧ (match acc with | none => True | some a => a.txn < m.txn) then some m else acc
 | none => acc
noncomputable def mchoose (zero one : List UInt8) : Option Mt := mstep 1 one (mstep 0 zero none)
def accC : Option Mt → List Value
 | none => zeroM
 | some m => MtC m
def accE : Option Mt → Int
 | none => 7
 | some _ => 0
noncomputable def mAt (zero one : List UInt8) : Nat → Option Mt
 | 0 => none
 | 1 => mstep 0 zero none
 | _ => mchoose zero one
theorem accC_form (a : Option Mt) : ∃ x1 x2 x3 x4, accC a = [.int .u64 x1, .int .i64 x2, .int .i64 x3, .int .i64 x4] ∧ (∀ m, a = some m → x1 = (m.txn : Int)) := by
 cases a with
 | none => exact ⟨_, _, _, _, rfl, fun m h => by cases h⟩
 | some m => exact ⟨_, _, _, _, rfl, fun m' h => by injection h with h; subst h; rfl⟩

section
variable {w0 : World} {F : Nat → Prop} {S : Store} {Hr : Heap} {w : World}

theorem choose_ok {v0 v1 : Value} {zero one : List UInt8} (h0 : Bs S Hr v0 zero) (h1 : Bs S Hr v1 one) (l0 : zero.length ≤ 1000000) (l1 : one.length ≤ 1000000) (hw : Hp w0 F S Hr w) :
 Calls Tryz.prog 86 #[v0, v1] w fun e w' => ∃ S', S.le S' ∧ e = .returned (.tuple #[.agg (accC (mchoose zero one)).toArray, .int .i64 (accE (mchoose zero one))]) ∧ Hp w0 F S' Hr w' := by
 have hv0 := h0
 have hv1 := h1
 obtain ⟨a0, c0, rfl, _⟩ := h0.form
 obtain ⟨a1, c1, rfl, _⟩ := h1.form
 refine enterA hw func86 rfl ntmps86 rfl rfl ?_
 refine sD ?_
 refine L.allocA rfl rfl zeroValue139 (fun b4 => ?_)
 refine sA rfl (sE ?_)
 refine L.allocA rfl rfl zeroValue139 (fun b6 => ?_)
 refine sE (sA rfl (sN (sC (sD (sM rfl (sM rfl ?_))))))
 refine L.sliceF1 rfl rfl rfl underlying236 sizeOf22 zeroValue22 rfl (by decide) (by decide) (Fills.cons (off := 0) rfl rfl rfl zPut (Fills.cons (off := 1) rfl rfl rfl zPut Fills.nil)) (fun b14 => ?_)
 refine L.w rfl (V.len rfl underlying236) ?_
 refine sM rfl (sN (sB ?_))
 refine C.loop (α := Nat × Store) (fun z => [(4, .pointer (some ⟨b4, 0, none⟩)), (6, .pointer (some ⟨b6, 0, none⟩)), (14, .slice (some ⟨b14, 0, none⟩) 2 2), (15, .int .i64 2), (16, .int .i64 (z.1 : Int)), (7, .int .i64 (accE (mAt zero one z.1)))]) (fun z w => (z.1 ≤ 2 ∧ S.le z.2) ∧ Hp w0 F z.2 ((b14, .cells #[.slice a0 zero.length c0, .slice a1 one.length c1] 22 (0, 0)) :: (b6, .cells (accC (mAt zero one z.1)).toArray 139 (0, 0)) :: (b4, .cells #[.int .u64 0, .int .i64 0, .int .i64 0, .int .i64 0] 139 (0, 0)) :: Hr) w) (fun z => 2 - z.1) (0, S) ⟨rfl, rfl, rfl, rfl, rfl, rfl, trivial⟩ (fun w hw => ⟨⟨by omega, .refl S⟩, hw⟩) (fun zz => C.pure (fun hzz => ?_))
 obtain ⟨z, S1⟩ := zz
 obtain ⟨hz, le1⟩ := hzz
 dsimp only at hz le1 ⊢
 refine sD (sQc rfl (sN (sC ?_)))
 refine C.cond rfl (fun h17 => ?_) (fun h17 => ?_)
 ·try simp only [sq] at h17
  have hj : z < 2 := by omega
  obtain ⟨l, v, hl, hb, hlv⟩ : ∃ (l : List UInt8) (v : Value), l.length ≤ 1000000 ∧ Bs S Hr v l ∧ ((z = 0 ∧ l = zero ∧ v = .slice a0 zero.length c0) ∨ (z = 1 ∧ l = one ∧ v = .slice a1 one.length c1)) := by
   rcases (by omega : z = 0 ∨ z = 1) with rfl | rfl
   ·exact ⟨zero, _, l0, hv0, .inl ⟨rfl, rfl, rfl⟩⟩
   ·exact ⟨one, _, l1, hv1, .inr ⟨rfl, rfl, rfl⟩⟩
  have hcell : (#[Value.slice a0 zero.length c0, .slice a1 one.length c1])[0 + z * 1]? = some v := by
   rcases hlv with ⟨rfl, _, rfl⟩ | ⟨rfl, _, rfl⟩ <;> rfl
  obtain ⟨acc, hacc⟩ : ∃ acc, mAt zero one z = acc := ⟨_, rfl⟩
  have hstep : mAt zero one (z + 1) = mstep z l acc := by
   rw [← hacc]
   rcases hlv with ⟨rfl, rfl, _⟩ | ⟨rfl, rfl, _⟩ <;> rfl
  obtain ⟨x1, x2, x3, x4, hx, hx1⟩ := accC_form acc
  rw [hacc, hx]
  refine sK (sC (sB (sD (sM rfl ?_))))
  refine L.w rfl (V.indexAddr rfl rfl underlying236 sizeOf22 rfl (by omega)) ?_
  refine L.w rfl (V.load rfl isAgg22 .head hcell) ?_
  refine sA rfl (sA rfl (sE (sM rfl ?_)))
  refine L.call rfl rfl rfl call133 rfl (fun w hw => mdecode_ok (hb.mono (Sees.of le1 (fun q hq => List.mem_cons_of_mem _ (List.mem_cons_of_mem _ (List.mem_cons_of_mem _ hq))))) hl hw) ?_
  rintro _ a w hst ⟨S2, c, err, rfl, le2, hw, hdec⟩
  refine hst.go rfl hw ?_
  clear hst hw w a
  obtain ⟨y1, y2, y3, y4, hy⟩ : ∃ y1 y2 y3 y4, c = [.int .u64 y1, .int .i64 y2, .int .i64 y3, .int .i64 y4] := by
   rcases hdec with ⟨m, _, _, rfl⟩ | ⟨_, _, rfl⟩
   ·exact ⟨_, _, _, _, rfl⟩
   ·exact ⟨_, _, _, _, rfl⟩
  subst hy
  have hdec2 : (err = 0 ∧ ∃ m, mdecP l = some m ∧ y1 = (m.txn : Int) ∧ [Value.int .u64 y1, .int .i64 y2, .int .i64 y3, .int .i64 y4] = MtC m) ∨ (err ≠ 0 ∧ mdecP l = none) := by
   rcases hdec with ⟨m, h1, h2, h3⟩ | ⟨h1, h2, h3⟩
   ·refine .inl ⟨h2, m, h1, ?_, h3⟩
    simp only [MtC, List.cons.injEq, Value.int.injEq] at h3
    exact h3.1.2
   ·exact .inr ⟨h2, h1⟩
  clear hdec
  refine sM rfl (sX rfl (sX rfl ?_))
  refine L.allocA rfl rfl zeroValue139 (fun b10 => ?_)
  refine L.storeBox rfl rfl rfl sizeOf139 rfl rfl (by rfl) zUp ?_
  refine sA rfl (sE (sM rfl (sQa rfl (sM rfl ?_))))
  refine L.fork (d := 28) rfl (fun h28 => ?_) (fun h28 => ?_)
  ·try simp only [sq] at h28
   obtain ⟨m, hm, rfl, hmc⟩ : ∃ m, mdecP l = some m ∧ y1 = (m.txn : Int) ∧ [Value.int .u64 y1, .int .i64 y2, .int .i64 y3, .int .i64 y4] = MtC m := by
    rcases hdec2 with ⟨_, h⟩ | ⟨h, _⟩
    ·exact h
    ·omega
   have htxn := (mdecP_some hm).2.1
   refine L.w rfl (V.fa rfl underlying139 rfl rfl sizeOf123) ?_
   refine L.w rfl (V.load rfl isAgg123 zAt (by rfl)) ?_
   refine L.w rfl (V.rem (c := ((m.txn % 2 : Nat) : Int)) rfl rfl (by decide) (by rw [Int.tmod_eq_emod_of_nonneg (by omega)]; omega)) ?_
   refine sM rfl ?_
   refine L.w rfl (V.conv (c := (z : Int)) rfl underlying3 underlying123 (by rw [IntKind.wrap_u64]; omega)) ?_
   refine sQa rfl (sT rfl (sM rfl ?_))
   refine L.fork (d := 36) rfl (fun h36 => ?_) (fun h36 => ?_)
   ·try simp only [sq] at h36
    have hmod : m.txn % 2 = z := by omega
    refine sM rfl (sQb rfl (sM rfl ?_))
    refine L.fork (d := 39) rfl (fun h39 => ?_) (fun h39 => ?_)
    ·try simp only [sq] at h39
     have hac : acc = none := by
      cases acc with
      | none => rfl
      | some a => exact absurd rfl h39
     obtain ⟨mE, hmE⟩ : ∃ x, x = some m := ⟨_, rfl⟩
     have hE : mAt zero one (z + 1) = mE := by rw [hstep, hmE, hac]; unfold mstep; rw [hm]; exact if_pos ⟨hmod, trivial⟩
     have hcE : accC mE = [.int .u64 (m.txn : Int), .int .i64 y2, .int .i64 y3, .int .i64 y4] := by rw [hmE]; exact hmc.symm
     refine sS rfl (sS rfl (sS rfl (sS rfl (sS rfl (sT rfl (sT rfl (sN (sO rfl (sR ?_)))))))))
     refine L.w rfl (V.loadBox rfl isAgg139 sizeOf139 zAt (by rfl)) ?_
     refine L.storeBox rfl rfl rfl sizeOf139 rfl rfl (by rfl) zUp ?_
     refine sA rfl ?_
     refine L.nil (N.blk (N.seq ?_))
     refine sR ?_
     refine L.w rfl (V.add rfl rfl (w64 (by omega) (by omega))) ?_
     refine sM rfl ?_
     refine L.nil ?_
     subst hmE
     refine N.round (z + 1, S2) (by show 2 - (z + 1) < 2 - z; omega) ⟨rfl, rfl, rfl, rfl, rfl, ?_, trivial⟩ (fun w hw => ⟨⟨by show z + 1 ≤ 2; omega, le1.trans le2⟩, ?_⟩)
     ·show _ = some (Value.int .i64 (accE (mAt zero one (z + 1))))
      rw [hE]; rfl
     ·show Hp w0 F S2 ((b14, .cells #[.slice a0 zero.length c0, .slice a1 one.length c1] 22 (0, 0)) :: (b6, .cells (accC (mAt zero one (z + 1))).toArray 139 (0, 0)) :: (b4, .cells #[.int .u64 0, .int .i64 0, .int .i64 0, .int .i64 0] 139 (0, 0)) :: Hr) w
      rw [hE, hcE]
      exact hw.sub zSub
    ·try simp only [sq] at h39
     obtain ⟨am, hac⟩ : ∃ am, acc = some am := by
      cases acc with
      | none => exact absurd h39 (by decide)
      | some a => exact ⟨a, rfl⟩
     have hx1' := hx1 am hac
     refine L.w rfl (V.fa rfl underlying139 rfl rfl sizeOf123) ?_
     refine L.w rfl (V.load rfl isAgg123 zAt (by rfl)) ?_
     refine L.w rfl (V.fa rfl underlying139 rfl rfl sizeOf123) ?_
     refine L.w rfl (V.load rfl isAgg123 zAt (by rfl)) ?_
     refine sQe rfl (sU rfl (sT rfl (sN ?_)))
     refine C.cond rfl (fun h46 => ?_) (fun h46 => ?_)
     ·try simp only [sq] at h46
      obtain ⟨mE, hmE⟩ : ∃ x, x = some m := ⟨_, rfl⟩
      have hE : mAt zero one (z + 1) = mE := by rw [hstep, hmE, hac]; unfold mstep; rw [hm]; exact if_pos ⟨hmod, by show am.txn < m.txn; omega⟩
      have hcE : accC mE = [.int .u64 (m.txn : Int), .int .i64 y2, .int .i64 y3, .int .i64 y4] := by rw [hmE]; exact hmc.symm
      refine sR ?_
      refine L.w rfl (V.loadBox rfl isAgg139 sizeOf139 zAt (by rfl)) ?_
      refine L.storeBox rfl rfl rfl sizeOf139 rfl rfl (by rfl) zUp ?_
      refine sA rfl ?_
      refine L.nil (N.blk (N.seq ?_))
      refine sR ?_
      refine L.w rfl (V.add rfl rfl (w64 (by omega) (by omega))) ?_
      refine sM rfl ?_
      refine L.nil ?_
      subst hmE
      refine N.round (z + 1, S2) (by show 2 - (z + 1) < 2 - z; omega) ⟨rfl, rfl, rfl, rfl, rfl, ?_, trivial⟩ (fun w hw => ⟨⟨by show z + 1 ≤ 2; omega, le1.trans le2⟩, ?_⟩)
      ·show _ = some (Value.int .i64 (accE (mAt zero one (z + 1))))
       rw [hE]; rfl
      ·show Hp w0 F S2 ((b14, .cells #[.slice a0 zero.length c0, .slice a1 one.length c1] 22 (0, 0)) :: (b6, .cells (accC (mAt zero one (z + 1))).toArray 139 (0, 0)) :: (b4, .cells #[.int .u64 0, .int .i64 0, .int .i64 0, .int .i64 0] 139 (0, 0)) :: Hr) w
       rw [hE, hcE]
       exact hw.sub zSub
     ·try simp only [sq] at h46
      obtain ⟨mE, hmE⟩ : ∃ x, x = acc := ⟨_, rfl⟩
      have hE : mAt zero one (z + 1) = mE := by rw [hstep, hmE, hac]; unfold mstep; rw [hm]; exact if_neg (fun h => by have : am.txn < m.txn := h.2; omega)
      have hcE : accC mE = [.int .u64 x1, .int .i64 x2, .int .i64 x3, .int .i64 x4] := by rw [hmE]; exact hx
      refine C.skip (N.blk (N.seq ?_))
      refine sR ?_
      refine L.w rfl (V.add rfl rfl (w64 (by omega) (by omega))) ?_
      refine sM rfl ?_
      refine L.nil ?_
      subst hmE
      refine N.round (z + 1, S2) (by show 2 - (z + 1) < 2 - z; omega) ⟨rfl, rfl, rfl, rfl, rfl, ?_, trivial⟩ (fun w hw => ⟨⟨by show z + 1 ≤ 2; omega, le1.trans le2⟩, ?_⟩)
      ·show _ = some (Value.int .i64 (accE (mAt zero one (z + 1))))
       rw [hE]; rfl
      ·show Hp w0 F S2 ((b14, .cells #[.slice a0 zero.length c0, .slice a1 one.length c1] 22 (0, 0)) :: (b6, .cells (accC (mAt zero one (z + 1))).toArray 139 (0, 0)) :: (b4, .cells #[.int .u64 0, .int .i64 0, .int .i64 0, .int .i64 0] 139 (0, 0)) :: Hr) w
       rw [hE, hcE]
       exact hw.sub zSub
   ·try simp only [sq] at h36
    have hmod : ¬ m.txn % 2 = z := by omega
    obtain ⟨mE, hmE⟩ : ∃ x, x = acc := ⟨_, rfl⟩
    have hE : mAt zero one (z + 1) = mE := by rw [hstep, hmE]; unfold mstep; rw [hm]; exact if_neg (fun h => hmod h.1)
    have hcE : accC mE = [.int .u64 x1, .int .i64 x2, .int .i64 x3, .int .i64 x4] := by rw [hmE]; exact hx
    refine sS rfl (sS rfl (sS rfl (sS rfl (sS rfl (sS rfl (sS rfl (sS rfl (sS rfl (sU rfl (sN (sP rfl ?_)))))))))))
    refine C.skip (N.blk (N.seq ?_))
    refine sR ?_
    refine L.w rfl (V.add rfl rfl (w64 (by omega) (by omega))) ?_
    refine sM rfl ?_
    refine L.nil ?_
    subst hmE
    refine N.round (z + 1, S2) (by show 2 - (z + 1) < 2 - z; omega) ⟨rfl, rfl, rfl, rfl, rfl, ?_, trivial⟩ (fun w hw => ⟨⟨by show z + 1 ≤ 2; omega, le1.trans le2⟩, ?_⟩)
    ·show _ = some (Value.int .i64 (accE (mAt zero one (z + 1))))
     rw [hE]; rfl
    ·show Hp w0 F S2 ((b14, .cells #[.slice a0 zero.length c0, .slice a1 one.length c1] 22 (0, 0)) :: (b6, .cells (accC (mAt zero one (z + 1))).toArray 139 (0, 0)) :: (b4, .cells #[.int .u64 0, .int .i64 0, .int .i64 0, .int .i64 0] 139 (0, 0)) :: Hr) w
     rw [hE, hcE]
     exact hw.sub zSub
  ·try simp only [sq] at h28
   have hnone : mdecP l = none := by
    rcases hdec2 with ⟨h, _⟩ | ⟨_, h⟩
    ·omega
    ·exact h
   obtain ⟨mE, hmE⟩ : ∃ x, x = acc := ⟨_, rfl⟩
   have hE : mAt zero one (z + 1) = mE := by rw [hstep, hmE]; unfold mstep; rw [hnone]
   have hcE : accC mE = [.int .u64 x1, .int .i64 x2, .int .i64 x3, .int .i64 x4] := by rw [hmE]; exact hx
   refine sS rfl (sS rfl (sS rfl (sS rfl (sS rfl (sS rfl (sU rfl (sM rfl (sS rfl (sS rfl (sS rfl (sS rfl (sS rfl (sS rfl ?_)))))))))))))
   refine sS rfl (sS rfl (sS rfl (sU rfl (sN (sP rfl ?_)))))
   refine C.skip (N.blk (N.seq ?_))
   refine sR ?_
   refine L.w rfl (V.add rfl rfl (w64 (by omega) (by omega))) ?_
   refine sM rfl ?_
   refine L.nil ?_
   subst hmE
   refine N.round (z + 1, S2) (by show 2 - (z + 1) < 2 - z; omega) ⟨rfl, rfl, rfl, rfl, rfl, ?_, trivial⟩ (fun w hw => ⟨⟨by show z + 1 ≤ 2; omega, le1.trans le2⟩, ?_⟩)
   ·show _ = some (Value.int .i64 (accE (mAt zero one (z + 1))))
    rw [hE]; rfl
   ·show Hp w0 F S2 ((b14, .cells #[.slice a0 zero.length c0, .slice a1 one.length c1] 22 (0, 0)) :: (b6, .cells (accC (mAt zero one (z + 1))).toArray 139 (0, 0)) :: (b4, .cells #[.int .u64 0, .int .i64 0, .int .i64 0, .int .i64 0] 139 (0, 0)) :: Hr) w
    rw [hE, hcE]
    exact hw.sub zSub
 ·try simp only [sq] at h17
  have hz2 : z = 2 := by omega
  subst hz2
  obtain ⟨x1, x2, x3, x4, hx, _⟩ := accC_form (mchoose zero one)
  rw [show mAt zero one 2 = mchoose zero one from rfl, hx]
  refine sZ rfl (sD ?_)
  refine L.w rfl (V.loadBox rfl isAgg139 sizeOf139 zAt (by rfl)) ?_
  refine sM rfl ?_
  refine L.storeBox rfl rfl rfl sizeOf139 rfl rfl (by rfl) zUp ?_
  refine sA rfl (sN ?_)
  refine R.retct results86 rfl rfl (fun w hw => run_box hw isAgg139 sizeOf139 zAt rfl) (fun w hw => ?_)
  exact ⟨S1, le1, rfl, hw.sub zSub⟩
end
end Go.Proofs.YtijgbppkdaiikaaGreat

set_option linter.unusedSimpArgs false
set_option linter.unusedVariables false
namespace Go.Proofs.YtijgbppkdaiikaaGreat
open Go.Proofs.Tryz Go.Tk

def pgObjV (db : Nat) (lv : Value) (am : Nat) (m : Mt) (cv : Value) (root : Nat) (dead : Bool) : Obj :=
 .cells #[.pointer (some ⟨db, 0, none⟩), .int .u64 (m.txn : Int), .int .i64 (m.root : Int), .int .i64 (m.spare : Int), .int .i64 (m.size : Int), lv, cv, .map (some am), .int .i64 (root : Int), .bool dead] 141 (0, 0)
abbrev pgObj (db lb am : Nat) (m : Mt) (cv : Value) (root : Nat) (dead : Bool) : Obj := pgObjV db (.pointer (some ⟨lb, 0, none⟩)) am m cv root dead
/-- What check says. -/
def pgChk (dead : Bool) (size : Nat) (i : Int) : Int := if dead then 10 else if i < 2 ∨ (size : Int) ≤ i then 2 else 0

/-- Pages that nobody changes any more. -/
def PageV (S : Store) (v : Value) (p : Page) : Prop := ∃ c, v = .agg c.toArray ∧ PageC S [] c p
structure MapP (S : Store) (l : List Ent) (ck : Nat) (m : Int → Option Page) : Prop where
 ok : MapOk l ck
 all : ∀ j, OptR (PageV S) (mfind l j) (m j)
theorem PageV.mono {S S' : Store} {v : Value} {p : Page} (h : PageV S v p) (s : S.le S') : PageV S' v p := by
 obtain ⟨c, h1, h2⟩ := h; exact ⟨c, h1, h2.mono s fun q hq => by cases hq⟩
theorem MapP.mono {S S' : Store} {l : List Ent} {ck : Nat} {m : Int → Option Page} (h : MapP S l ck m) (s : S.le S') : MapP S' l ck m := ⟨h.ok, fun j => (h.all j).mono fun a b q => q.mono s⟩
theorem MapP.nil (S : Store) (ck : Nat) : MapP S [] ck (fun _ => none) := ⟨MapOk.nil ck, fun _ => trivial⟩
theorem MapP.put {S : Store} {l : List Ent} {ck : Nat} {m : Int → Option Page} (h : MapP S l ck m) (i : Int) {v : Value} {p : Page} (hb : PageV S v p) : MapP S (mput l i v ck) (mck l i ck) (upd m i (some p)) := by
 refine ⟨h.ok.put i v, fun j => ?_⟩
 rw [mfind_put]
 unfold upd
 by_cases hj : j = i
 ·rw [if_pos hj, if_pos hj]; exact hb
 ·rw [if_neg hj, if_neg hj]; exact h.all j
theorem MapP.del {S : Store} {l : List Ent} {ck : Nat} {m : Int → Option Page} (h : MapP S l ck m) (i : Int) : MapP S (mdel l i) ck (upd m i none) := by
 refine ⟨h.ok.del i, fun j => ?_⟩
 rw [mfind_del h.ok.keys]
 unfold upd
 by_cases hj : j = i
 ·rw [if_pos hj, if_pos hj]; trivial
 ·rw [if_neg hj, if_neg hj]; exact h.all j
theorem MapP.get {S : Store} {l : List Ent} {ck : Nat} {m : Int → Option Page} (h : MapP S l ck m) (i : Int) : (∃ v p, mfind l i = some v ∧ m i = some p ∧ PageV S v p) ∨ (mfind l i = none ∧ m i = none) := by
 have := h.all i
 cases hv : mfind l i with
 | none => rw [hv] at this; exact .inr ⟨rfl, this.noneL⟩
 | some v => rw [hv] at this; obtain ⟨b, h1, h2⟩ := this.someL; exact .inl ⟨v, b, rfl, h1, h2⟩

section
variable {w0 : World} {F : Nat → Prop} {S : Store} {Hr : Heap} {w : World}

theorem pgCheck_ok {b db am : Nat} {lv : Value} {m : Mt} {cv : Value} {root : Nat} {dead : Bool} {H : Heap} (i : Int) (ha : At S b (pgObjV db lv am m cv root dead) H) (hw : Hp w0 F S H w) :
 Calls Tryz.prog 68 #[.pointer (some ⟨b, 0, none⟩), .int .i64 i] w fun e w' => e = .returned (.int .i64 (pgChk dead m.size i)) ∧ Hp w0 F S H w' := by
 unfold pgObjV at ha
 refine enterA hw func68 rfl ntmps68 rfl rfl ?_
 refine sD (sA rfl (sN (sC (sB (sD (sM rfl ?_))))))
 refine L.w rfl (V.eqlPtr rfl rfl underlying27) ?_
 refine sA rfl (sN (sP rfl (sD (sM rfl (sW rfl ?_)))))
 refine L.w rfl (V.fa rfl underlying141 rfl rfl sizeOf4) ?_
 refine L.w rfl (V.load rfl isAgg4 ha (by rfl)) ?_
 refine sA rfl (sN ?_)
 refine C.cond rfl (fun h8 => ?_) (fun h8 => ?_)
 ·try simp only [sq] at h8
  refine sD (sA rfl (sN ?_))
  refine R.ret1 results68 rfl (fun w hw => ?_)
  exact ⟨by unfold pgChk; rw [if_pos h8], hw⟩
 ·try simp only [sq] at h8
  refine sD (sM rfl (sQc rfl (sM rfl ?_)))
  refine L.fork (d := 16) rfl (fun h16 => ?_) (fun h16 => ?_)
  ·try simp only [sq] at h16
   refine sS rfl (sS rfl (sS rfl (sS rfl (sS rfl (sS rfl (sS rfl (sT rfl (sA rfl (sN (sO rfl (sD (sA rfl (sN ?_)))))))))))))
   refine R.ret1 results68 rfl (fun w hw => ?_)
   exact ⟨by unfold pgChk; rw [if_neg (by rw [h8]; exact Bool.false_ne_true), if_pos (by omega)], hw⟩
  ·try simp only [sq] at h16
   refine sM rfl (sM rfl (sW rfl ?_))
   refine L.w rfl (V.fa rfl underlying141 rfl rfl sizeOf139) ?_
   refine L.w rfl (V.fa rfl underlying139 rfl rfl sizeOf3) ?_
   refine L.w rfl (V.load rfl isAgg3 ha (by rfl)) ?_
   refine sQf rfl (sU rfl (sA rfl (sN ?_)))
   refine C.cond rfl (fun h13 => ?_) (fun h13 => ?_)
   ·try simp only [sq] at h13
    refine sD (sA rfl (sN ?_))
    refine R.ret1 results68 rfl (fun w hw => ?_)
    exact ⟨by unfold pgChk; rw [if_neg (by rw [h8]; exact Bool.false_ne_true), if_pos (by omega)], hw⟩
   ·try simp only [sq] at h13
    refine C.skip (N.blk (N.seq ?_))
    refine sD (sA rfl (sN ?_))
    refine R.ret1 results68 rfl (fun w hw => ?_)
    exact ⟨by unfold pgChk; rw [if_neg (by rw [h8]; exact Bool.false_ne_true), if_neg (by omega)], hw⟩

theorem pages_ok (n : Nat) (hn : n ≤ 100000) (hw : Hp w0 F S Hr w) :
 Calls Tryz.prog 70 #[.int .i64 (n : Int)] w fun e w' => e = .returned (.int .i64 (((n + 59) / 60 : Nat) : Int)) ∧ Hp w0 F S Hr w' := by
 refine enterA hw func70 rfl ntmps70 rfl rfl ?_
 refine sD (sA rfl (sE (sM rfl ?_)))
 refine L.w rfl (V.add (c := ((n + 59 : Nat) : Int)) rfl rfl (by rw [w64 (by omega) (by omega)]; omega)) ?_
 refine L.w rfl (V.quo (c := (((n + 59) / 60 : Nat) : Int)) rfl rfl (by decide) (by rw [Int.tdiv_eq_ediv_of_nonneg (by omega), w64 (by omega) (by omega)]; omega)) ?_
 refine sA rfl (sN ?_)
 refine R.ret1 results70 rfl (fun w hw => ?_)
 exact ⟨rfl, hw⟩

def firstE (l : List Int) : Int := (l.find? (· ≠ 0)).getD 0
theorem firstE_of {l : List Int} {z : Nat} (hz : z ≤ l.length) (h : ∀ j (h : j < l.length), j < z → l[j] = 0) : (∀ hj : z < l.length, l[z] ≠ 0 → firstE l = l[z]) ∧ (z = l.length → firstE l = 0) := by
 induction l generalizing z with
 | nil => exact ⟨fun hj => by simp at hj, fun _ => rfl⟩
 | cons x l ih =>
   cases z with
   | zero =>
     refine ⟨fun hj hx => ?_, fun h0 => by simp at h0⟩
     have hx : x ≠ 0 := by simpa using hx
     simp [firstE, List.find?_cons, hx]
   | succ z =>
     have hx : x = 0 := h 0 (by simp) (by omega)
     obtain ⟨h1, h2⟩ := ih (z := z) (by simpa using hz) (fun j hj hjz => h (j + 1) (by simpa using hj) (by omega))
     have e : firstE (x :: l) = firstE l := by simp [firstE, List.find?_cons, hx]
     refine ⟨fun hj hne => ?_, fun h0 => by rw [e]; exact h2 (by simpa using h0)⟩
     rw [e]; simpa using h1 (by simpa using hj) (by simpa using hne)

theorem first_ok {v : Value} {l : List Int} (hr : Is S Hr v l) (hl : l.length ≤ 1000) (hw : Hp w0 F S Hr w) :
 Calls Tryz.prog 105 #[v] w fun e w' => e = .returned (.int .i64 (firstE l)) ∧ Hp w0 F S Hr w' := by
 obtain ⟨ad, c, rfl, _⟩ := hr.form
 refine enterA hw func105 rfl ntmps105 rfl rfl ?_
 refine sD (sA rfl (sN (sC (sD (sM rfl ?_)))))
 refine L.w rfl (V.len rfl underlying248) ?_
 refine sM rfl (sN (sB ?_))
 refine C.loop (α := Nat) (fun z => [(5, .slice ad l.length c), (6, .int .i64 (l.length : Int)), (7, .int .i64 (z : Int))]) (fun z w => (z ≤ l.length ∧ ∀ j (h : j < l.length), j < z → l[j] = 0) ∧ Hp w0 F S Hr w) (fun z => l.length - z) 0 ⟨rfl, rfl, rfl, trivial⟩ (fun w hw => ⟨⟨Nat.zero_le _, fun j h h0 => by omega⟩, hw⟩) (fun z => C.pure (fun hz => ?_))
 refine sD (sQc rfl (sN (sC ?_)))
 refine C.cond rfl (fun h8 => ?_) (fun h8 => ?_)
 ·try simp only [sq] at h8
  have hj : z < l.length := by omega
  obtain ⟨b, off, cs, T, fz, rfl, g1, g2⟩ := hr.at hj
  obtain ⟨y, hy⟩ : ∃ y, l[z] = y := ⟨_, rfl⟩
  rw [hy] at g2
  refine sK (sC (sB (sD ?_)))
  refine L.w rfl (V.indexAddr rfl rfl underlying248 sizeOf32 rfl (by omega)) ?_
  refine L.w rfl (V.load rfl isAgg32 g1 g2) ?_
  refine sA rfl (sE (sM rfl (sQb rfl (sN ?_))))
  refine C.cond rfl (fun h12 => ?_) (fun h12 => ?_)
  ·try simp only [sq] at h12
   refine sD (sM rfl (sA rfl (sN ?_)))
   refine R.ret1 results105 rfl (fun w hw => ?_)
   exact ⟨by rw [(firstE_of hz.1 hz.2).1 hj (by rw [hy]; exact h12), hy], hw⟩
  ·try simp only [sq] at h12
   refine C.skip (N.blk (N.seq ?_))
   refine sR ?_
   refine L.w rfl (V.add rfl rfl (w64 (by omega) (by omega))) ?_
   refine sM rfl ?_
   refine L.nil ?_
   exact N.round (z + 1) (by omega) ⟨rfl, rfl, rfl, trivial⟩ (fun w hw => ⟨⟨by omega, fun j h h0 => (by
    rcases (by omega : j < z ∨ j = z) with h1 | rfl
    ·exact hz.2 j h h1
    ·rw [hy]; exact h12)⟩, hw⟩)
 ·try simp only [sq] at h8
  refine sZ rfl (sD (sA rfl (sN ?_)))
  refine R.ret1 results105 rfl (fun w hw => ?_)
  exact ⟨by rw [(firstE_of hz.1 hz.2).2 (by omega)], hw⟩

theorem pgWrite_ok {db : Nat} {dk : Dk} {fp : Heap} {c : List Value} {p : Page} (hd : DkR S db dk fp) (hp : PageC S Hr c p) (hs : Small p) (id : Int) (hw : Hp w0 F S (fp ++ Hr) w) :
 Calls Tryz.prog 78 #[.pointer (some ⟨db, 0, none⟩), .int .i64 id, .agg c.toArray] w fun e w' => ∃ S' fp' dk' err, e = .returned (.int .i64 err) ∧ S.le S' ∧ DkR S' db dk' fp' ∧ ((Right p ∧ dk.chk id = 0 ∧ err = 0 ∧ dk' = dk.write id (pageB p)) ∨ (¬ (Right p ∧ dk.chk id = 0) ∧ err ≠ 0 ∧ err = (if dk.chk id = 0 then 4 else err) ∧ (Right p → err = dk.chk id) ∧ dk' = dk)) ∧ Hp w0 F S' (fp' ++ Hr) w' := by
 have hp0 := hp
 obtain ⟨iv, kv, dv, xv, rfl, hi, hk, hdd, hx⟩ := hp
 refine enterA hw func78 rfl ntmps78 rfl rfl ?_
 refine sD ?_
 refine L.boxA rfl rfl rfl (fun b5 => ?_)
 refine sA rfl (sE ?_)
 refine L.w rfl (V.loadBox rfl isAgg125 sizeOf125 zAt (by rfl)) ?_
 refine L.call rfl rfl rfl call129 rfl (fun w hw => encode_ok (hp0.mono (.refl S) (fun q hq => List.mem_cons_of_mem _ (List.mem_append_right _ hq))) hs hw) ?_
 rintro _ a w hst ⟨v, fE, err, rfl, hE, hw⟩
 refine hst.go rfl hw ?_
 clear hst hw w a
 refine sM rfl (sX rfl (sX rfl (sA rfl (sA rfl (sN (sC (sD (sM rfl (sQb rfl (sN ?_))))))))))
 refine C.cond rfl (fun h15 => ?_) (fun h15 => ?_)
 ·try simp only [sq] at h15
  refine sD (sM rfl (sA rfl (sN ?_)))
  refine R.ret1 results78 rfl (fun w hw => ?_)
  rcases hE with ⟨_, h, _⟩ | ⟨h1, h2, rfl, rfl⟩
  ·omega
  ·exact ⟨S, fp, dk, err, rfl, .refl S, hd, .inr ⟨fun h => h1 h.1, h15, by rw [h2]; split <;> rfl, fun h => absurd h h1, rfl⟩, hw.drop⟩
 ·try simp only [sq] at h15
  refine sK (sD (sM rfl (sM rfl (sM rfl ?_))))
  obtain ⟨hR, rfl, hoE⟩ : Right p ∧ err = 0 ∧ OwnB 5 v (pageB p) fE := by
   rcases hE with h | ⟨_, h, _⟩
   ·exact h
   ·omega
  refine L.call rfl rfl rfl call22 rfl (fun w hw => diskWrite_ok (Hr := fE ++ (_ :: Hr)) hd id (hoE.bs (fun q hq => List.mem_append_left _ hq)) (by rw [pageB_len hR.used]; omega) (hw.re zRe)) ?_
  rintro _ a w hst ⟨S2, fp2, dk2, err, rfl, le2, hd2, hres, hw⟩
  refine hst.go rfl hw ?_
  clear hst hw w a
  refine sA rfl (sN ?_)
  refine R.ret1 results78 rfl (fun w hw => ?_)
  refine ⟨S2, fp2, dk2, err, rfl, le2, hd2, ?_, hw.sub zSub⟩
  have hl := pageB_len hR.used
  rcases hres with ⟨h1, h2, h3, h4⟩ | ⟨h1, h2, h3, h4⟩
  ·exact .inl ⟨hR, h2, h1, h4⟩
  ·have hne : dk.chk id ≠ 0 := fun h => h3 ⟨h, hl⟩
   rw [if_pos hne] at h2
   exact .inr ⟨fun h => hne h.2, h1, by rw [if_neg hne], fun _ => h2, h4⟩

theorem pgWriteMeta_ok {db : Nat} {dk : Dk} {fp : Heap} (hd : DkR S db dk fp) (m : Mt) (hs : MSmall m) (hw : Hp w0 F S (fp ++ Hr) w) :
 Calls Tryz.prog 81 #[.pointer (some ⟨db, 0, none⟩), .agg (MtC m).toArray] w fun e w' => ∃ S' fp' dk' err, e = .returned (.int .i64 err) ∧ S.le S' ∧ DkR S' db dk' fp' ∧ ((MRight m ∧ dk.chk ((m.txn % 2 : Nat) : Int) = 0 ∧ err = 0 ∧ dk' = dk.write ((m.txn % 2 : Nat) : Int) (metaB m)) ∨ (¬ (MRight m ∧ dk.chk ((m.txn % 2 : Nat) : Int) = 0) ∧ err ≠ 0 ∧ (MRight m → err = dk.chk ((m.txn % 2 : Nat) : Int)) ∧ dk' = dk)) ∧ Hp w0 F S' (fp' ++ Hr) w' := by
 refine enterA hw func81 rfl ntmps81 rfl rfl ?_
 have q0 := hs.txn
 unfold MtC
 refine sD ?_
 refine L.boxA rfl rfl rfl (fun b3 => ?_)
 refine sA rfl (sE ?_)
 refine L.w rfl (V.loadBox rfl isAgg139 sizeOf139 zAt (by rfl)) ?_
 refine L.call rfl rfl rfl call131 rfl (fun w hw => mencode_ok m hs hw) ?_
 rintro _ a w hst ⟨v, fE, err, rfl, hE, hw⟩
 refine hst.go rfl hw ?_
 clear hst hw w a
 refine sM rfl (sX rfl (sX rfl (sA rfl (sA rfl (sN (sC (sD (sM rfl (sQb rfl (sN ?_))))))))))
 refine C.cond rfl (fun h13 => ?_) (fun h13 => ?_)
 ·try simp only [sq] at h13
  refine sD (sM rfl (sA rfl (sN ?_)))
  refine R.ret1 results81 rfl (fun w hw => ?_)
  rcases hE with ⟨_, h, _⟩ | ⟨h1, h2, rfl, rfl⟩
  ·omega
  ·exact ⟨S, fp, dk, err, rfl, .refl S, hd, .inr ⟨fun h => h1 h.1, h13, fun h => absurd h h1, rfl⟩, hw.drop⟩
 ·try simp only [sq] at h13
  refine sK (sD (sM rfl ?_))
  refine L.w rfl (V.fa rfl underlying139 rfl rfl sizeOf123) ?_
  refine L.w rfl (V.load rfl isAgg123 zAt (by rfl)) ?_
  refine L.w rfl (V.rem (c := ((m.txn % 2 : Nat) : Int)) rfl rfl (by decide) (by rw [Int.tmod_eq_emod_of_nonneg (by omega)]; omega)) ?_
  refine L.w rfl (V.conv (c := ((m.txn % 2 : Nat) : Int)) rfl underlying123 underlying3 (by rw [IntKind.wrap_i64]; omega)) ?_
  refine sM rfl ?_
  obtain ⟨hR, rfl, hoE⟩ : MRight m ∧ err = 0 ∧ OwnB 5 v (metaB m) fE := by
   rcases hE with h | ⟨_, h, _⟩
   ·exact h
   ·omega
  refine L.call rfl rfl rfl call22 rfl (fun w hw => diskWrite_ok (Hr := fE ++ (_ :: Hr)) hd ((m.txn % 2 : Nat) : Int) (hoE.bs (fun q hq => List.mem_append_left _ hq)) (by rw [metaB_len]; omega) (hw.re zRe)) ?_
  rintro _ a w hst ⟨S2, fp2, dk2, err, rfl, le2, hd2, hres, hw⟩
  refine hst.go rfl hw ?_
  clear hst hw w a
  refine sA rfl (sN ?_)
  refine R.ret1 results81 rfl (fun w hw => ?_)
  refine ⟨S2, fp2, dk2, err, rfl, le2, hd2, ?_, hw.sub zSub⟩
  have hl := metaB_len m
  rcases hres with ⟨h1, h2, h3, h4⟩ | ⟨h1, h2, h3, h4⟩
  ·exact .inl ⟨hR, h2, h1, h4⟩
  ·have hne : dk.chk ((m.txn % 2 : Nat) : Int) ≠ 0 := fun h => h3 ⟨h, hl⟩
   rw [if_pos hne] at h2
   exact .inr ⟨fun h => hne h.2, h1, fun _ => h2, h4⟩
end
end Go.Proofs.YtijgbppkdaiikaaGreat

set_option linter.unusedSimpArgs false
set_option linter.unusedVariables false
namespace Go.Proofs.YtijgbppkdaiikaaGreat
open Go.Proofs.Tryz Go.Tk

theorem item_row_one {S : Store} {rows : List (List Value)} {l : List Item} (h : All2 (ItemC S) rows l) : ∀ u ∈ rows.flatten, u.oneCell' = true := fun u hu => by
 obtain ⟨r, hr, hu⟩ := List.mem_flatten.1 hu
 have h1 := h.left (Q := fun r => ∀ u ∈ r, u.oneCell' = true) (fun a b hab => by
  obtain ⟨kv, vv, rfl, h2, h3⟩ := hab
  obtain ⟨_, _, rfl, _⟩ := h2.form
  obtain ⟨_, _, rfl, _⟩ := h3.form
  intro u hu; simp at hu; rcases hu with rfl | rfl | rfl | rfl <;> rfl) r hr
 exact h1 u hu
theorem kid_row_one {S : Store} {rows : List (List Value)} {l : List Kid} (h : All2 (KidC S) rows l) : ∀ u ∈ rows.flatten, u.oneCell' = true := fun u hu => by
 obtain ⟨r, hr, hu⟩ := List.mem_flatten.1 hu
 have h1 := h.left (Q := fun r => ∀ u ∈ r, u.oneCell' = true) (fun a b hab => by
  obtain ⟨kv, rfl, h2⟩ := hab
  obtain ⟨_, _, rfl, _⟩ := h2.form
  intro u hu; simp at hu; rcases hu with rfl | rfl <;> rfl) r hr
 exact h1 u hu

section
variable {w0 : World} {F : Nat → Prop} {S : Store} {Hr : Heap} {w : World}

theorem cloneItems_ok {v : Value} {l : List Item} (hr : Items S Hr v l) (hl : l.length ≤ 1000000) (hw : Hp w0 F S Hr w) :
 Calls Tryz.prog 179 #[v] w fun e w' => ∃ v' fp, e = .returned v' ∧ ItemsO S v' l fp ∧ Hp w0 F S (fp ++ Hr) w' := by
 obtain ⟨rows, h1, h2⟩ := hr
 exact (clone_items h1 (item_row_one h2) (by omega) hw).mono fun e w' ⟨v', fp, he, ho, h⟩ => ⟨v', fp, he, ⟨rows, ho, h2⟩, h⟩
theorem cloneKids_ok {v : Value} {l : List Kid} (hr : Kids S Hr v l) (hl : l.length ≤ 1000000) (hw : Hp w0 F S Hr w) :
 Calls Tryz.prog 110 #[v] w fun e w' => ∃ v' fp, e = .returned v' ∧ KidsO S v' l fp ∧ Hp w0 F S (fp ++ Hr) w' := by
 obtain ⟨rows, h1, h2⟩ := hr
 exact (clone_kids h1 (kid_row_one h2) (by omega) hw).mono fun e w' ⟨v', fp, he, ho, h⟩ => ⟨v', fp, he, ⟨rows, ho, h2⟩, h⟩

theorem twin_ok {c : List Value} {p : Page} (hp : PageC S Hr c p) (hs : Small p) (hw : Hp w0 F S Hr w) :
 Calls Tryz.prog 135 #[.agg c.toArray] w fun e w' => ∃ S' c' fp, e = .returned (.agg c'.toArray) ∧ S.le S' ∧ PageO S' c' p fp ∧ Hp w0 F S' (fp ++ Hr) w' := by
 have s1 := hs.items
 have s2 := hs.kids
 have s3 := hs.data
 have s4 := hs.ids
 obtain ⟨iv, kv, dv, xv, rfl, hi, hk, hd, hx⟩ := hp
 have le1 : ∀ (H : Heap), ∀ q, q ∈ Hr → q ∈ H ++ Hr := fun H q hq => List.mem_append.2 (.inr hq)
 refine enterA hw func135 rfl ntmps135 rfl rfl ?_
 refine sD ?_
 refine L.boxA rfl rfl rfl (fun b1 => ?_)
 refine L.allocA rfl rfl zeroValue125 (fun b2 => ?_)
 refine sN (sC ?_)
 refine C.drawC [13] (Hp w0 F S ((b1, .cells #[.int .i64 (p.kind : Int), .int .u64 (p.txn : Int), .int .i64 (p.next : Int), iv, kv, dv, xv] 125 (0, 0)) :: Hr)) (fun w h => h.sub zSub) (by kernel_rfl) rfl (fun w hw => hw.drawn _) ?_
 refine D.take 0 (listed' := #[true, false, false, false, false, false, false, false, false, false, false, false, false, false, false, false, false, false, false, false]) rfl (by kernel_rfl) rfl rfl rfl rfl (V.fa rfl underlying125 rfl rfl sizeOf118) (fun w h => h.sub zSub) ?_
 refine D.take 1 (listed' := #[true, true, false, false, false, false, false, false, false, false, false, false, false, false, false, false, false, false, false, false]) rfl (by kernel_rfl) rfl rfl rfl rfl (V.load rfl isAgg118 zAt (by rfl)) (fun w h => h.sub zSub) ?_
 refine D.take 3 (listed' := #[true, true, false, true, false, false, false, false, false, false, false, false, false, false, false, false, false, false, false, false]) rfl (by kernel_rfl) rfl rfl rfl rfl (V.fa rfl underlying125 rfl rfl sizeOf115) (fun w h => h.sub zSub) ?_
 refine D.take 4 (listed' := #[true, true, false, true, true, false, false, false, false, false, false, false, false, false, false, false, false, false, false, false]) rfl (by kernel_rfl) rfl rfl rfl rfl (V.load rfl isAgg115 zAt (by rfl)) (fun w h => h.sub zSub) ?_
 refine D.take 6 (listed' := #[true, true, false, true, true, false, true, false, false, false, false, false, false, false, false, false, false, false, false, false]) rfl (by kernel_rfl) rfl rfl rfl rfl (V.fa rfl underlying125 rfl rfl sizeOf22) (fun w h => h.sub zSub) ?_
 refine D.take 7 (listed' := #[true, true, false, true, true, false, true, true, false, false, false, false, false, false, false, false, false, false, false, false]) rfl (by kernel_rfl) rfl rfl rfl rfl (V.load rfl isAgg22 zAt (by rfl)) (fun w h => h.sub zSub) ?_
 refine D.take 9 (listed' := #[true, true, false, true, true, false, true, true, false, true, false, false, false, false, false, false, false, false, false, false]) rfl (by kernel_rfl) rfl rfl rfl rfl (V.fa rfl underlying125 rfl rfl sizeOf37) (fun w h => h.sub zSub) ?_
 refine D.take 10 (listed' := #[true, true, false, true, true, false, true, true, false, true, true, false, false, false, false, false, false, false, false, false]) rfl (by kernel_rfl) rfl rfl rfl rfl (V.load rfl isAgg37 zAt (by rfl)) (fun w h => h.sub zSub) ?_
 refine D.step 2 (listed' := #[true, true, true, true, true, false, true, true, false, true, true, false, false, false, false, false, false, false, false, false]) (by kernel_rfl) rfl rfl (.inr (fun w h => h.sub zSub)) ?_
 refine L.call rfl rfl rfl call179 rfl (fun w hw => cloneItems_ok (hi.mono (.refl S) (fun q hq => by simp [hq])) (by omega) hw) ?_
 rintro _ a w hst ⟨v9, f9, rfl, ho9, hw⟩
 refine hst.go rfl hw ?_
 clear hst hw w a
 obtain ⟨a9, c9, rfl⟩ : ∃ ad c, v9 = .slice ad p.items.length c := by obtain ⟨r, h, _⟩ := ho9; exact h.form
 refine D.back ?_
 refine D.take 12 (listed' := #[true, true, true, true, true, false, true, true, false, true, true, false, true, false, false, false, false, false, false, false]) rfl (by kernel_rfl) rfl rfl rfl rfl (V.fa rfl underlying125 rfl rfl sizeOf118) (fun w h => h.sub zSub) ?_
 refine D.step 5 (listed' := #[true, true, true, true, true, true, true, true, false, true, true, false, true, false, false, false, false, false, false, false]) (by kernel_rfl) rfl rfl (.inr (fun w h => h.sub zSub)) ?_
 refine L.call rfl rfl rfl call110 rfl (fun w hw => cloneKids_ok (hk.mono (.refl S) (fun q hq => by simp [hq])) (by omega) hw) ?_
 rintro _ a w hst ⟨v12, f12, rfl, ho12, hw⟩
 refine hst.go rfl hw ?_
 clear hst hw w a
 obtain ⟨a12, c12, rfl⟩ : ∃ ad c, v12 = .slice ad p.kids.length c := by obtain ⟨r, h, _⟩ := ho12; exact h.form
 refine D.back ?_
 refine D.step 8 (listed' := #[true, true, true, true, true, true, true, true, true, true, true, false, true, false, false, false, false, false, false, false]) (by kernel_rfl) rfl rfl (.inr (fun w h => h.sub zSub)) ?_
 refine L.call rfl rfl rfl call180 rfl (fun w hw => clone_u8s (hd.mono (Sees.of (.refl S) (fun q hq => by simp [hq]))) (bv_one _) (by omega) hw) ?_
 rintro _ a w hst ⟨v15, f15, rfl, ho15, hw⟩
 refine hst.go rfl hw ?_
 clear hst hw w a
 replace ho15 : OwnB 5 v15 p.data f15 := ho15
 obtain ⟨a15, c15, rfl⟩ := ho15.form
 refine D.back ?_
 refine D.step 11 (listed' := #[true, true, true, true, true, true, true, true, true, true, true, true, true, false, false, false, false, false, false, false]) (by kernel_rfl) rfl rfl (.inr (fun w h => h.sub zSub)) ?_
 refine L.call rfl rfl rfl call91 rfl (fun w hw => clone_ints (Is.mono hx (Sees.of (.refl S) (fun q hq => by simp [hq]))) (iv_one _) (by rw [List.length_map]; omega) hw) ?_
 rintro _ a w hst ⟨v18, f18, rfl, ho18, hw⟩
 refine hst.go rfl hw ?_
 clear hst hw w a
 replace ho18 : IdsO v18 p.ids f18 := by unfold IdsO; rw [List.length_map] at ho18; exact ho18
 obtain ⟨a18, c18, rfl⟩ := Own.form ho18
 refine D.back ?_
 refine D.step 13 (listed' := #[true, true, true, true, true, true, true, true, true, true, true, true, true, true, false, false, false, false, false, false]) (by kernel_rfl) rfl rfl (.inr (fun w h => h.sub zSub)) ?_
 refine L.store rfl rfl rfl sizeOf118 rfl zUp zSet ?_
 refine D.back ?_
 refine D.step 14 (listed' := #[true, true, true, true, true, true, true, true, true, true, true, true, true, true, true, false, false, false, false, false]) (by kernel_rfl) rfl rfl (.inl ⟨13, by simp, rfl⟩) ?_
 refine L.w rfl (V.fa rfl underlying125 rfl rfl sizeOf115) ?_
 refine D.back ?_
 refine D.step 15 (listed' := #[true, true, true, true, true, true, true, true, true, true, true, true, true, true, true, true, false, false, false, false]) (by kernel_rfl) rfl rfl (.inl ⟨13, by simp, rfl⟩) ?_
 refine L.store rfl rfl rfl sizeOf115 rfl zUp zSet ?_
 refine D.back ?_
 refine D.step 16 (listed' := #[true, true, true, true, true, true, true, true, true, true, true, true, true, true, true, true, true, false, false, false]) (by kernel_rfl) rfl rfl (.inl ⟨13, by simp, rfl⟩) ?_
 refine L.w rfl (V.fa rfl underlying125 rfl rfl sizeOf22) ?_
 refine D.back ?_
 refine D.step 17 (listed' := #[true, true, true, true, true, true, true, true, true, true, true, true, true, true, true, true, true, true, false, false]) (by kernel_rfl) rfl rfl (.inl ⟨13, by simp, rfl⟩) ?_
 refine L.store rfl rfl rfl sizeOf22 rfl zUp zSet ?_
 refine D.back ?_
 refine D.step 18 (listed' := #[true, true, true, true, true, true, true, true, true, true, true, true, true, true, true, true, true, true, true, false]) (by kernel_rfl) rfl rfl (.inl ⟨13, by simp, rfl⟩) ?_
 refine L.w rfl (V.fa rfl underlying125 rfl rfl sizeOf37) ?_
 refine D.back ?_
 refine D.step 19 (listed' := #[true, true, true, true, true, true, true, true, true, true, true, true, true, true, true, true, true, true, true, true]) (by kernel_rfl) rfl rfl (.inl ⟨13, by simp, rfl⟩) ?_
 refine L.store rfl rfl rfl sizeOf37 rfl zUp zSet ?_
 refine D.back ?_
 refine D.done (by kernel_rfl) (.inl ⟨13, by simp, rfl⟩) (N.seq ?_)
 refine sC (sD ?_)
 refine L.w rfl (V.fa rfl underlying125 rfl rfl sizeOf118) ?_
 refine L.w rfl (V.load rfl isAgg118 zAt (by rfl)) ?_
 refine L.w rfl (V.len rfl underlying118) ?_
 refine sM rfl (sN (sB ?_))
 refine C.loop (α := Nat × Store × Heap) (fun z => [(1, .pointer (some ⟨b1, 0, none⟩)), (2, .pointer (some ⟨b2, 0, none⟩)), (24, .slice a9 p.items.length c9), (25, .int .i64 (p.items.length : Int)), (26, .int .i64 (z.1 : Int))]) (fun z w => (z.1 ≤ p.items.length ∧ S.le z.2.1 ∧ ItemsO z.2.1 (.slice a9 p.items.length c9) p.items z.2.2) ∧ Hp w0 F z.2.1 (f18 ++ (f15 ++ (f12 ++ (z.2.2 ++ ((b2, .cells #[.int .i64 0, .int .u64 0, .int .i64 0, .slice none 0 0, .slice none 0 0, .slice none 0 0, .slice none 0 0] 125 (0, 0)) :: (b1, .cells #[.int .i64 (p.kind : Int), .int .u64 (p.txn : Int), .int .i64 (p.next : Int), .slice a9 p.items.length c9, .slice a12 p.kids.length c12, .slice a15 p.data.length c15, .slice a18 p.ids.length c18] 125 (0, 0)) :: Hr))))) w) (fun z => p.items.length - z.1) (0, S, f9) ⟨rfl, rfl, rfl, rfl, rfl, trivial⟩ (fun w hw => ⟨⟨Nat.zero_le _, .refl S, ho9⟩, hw⟩) (fun zz => C.pure (fun hzz => ?_))
 obtain ⟨z, S1, fz⟩ := zz
 obtain ⟨hz, leS1, hoz⟩ := hzz
 dsimp only at hz leS1 hoz ⊢
 refine sD (sQc rfl (sN (sC ?_)))
 refine C.cond rfl (fun h27 => ?_) (fun h27 => ?_)
 ·try simp only [sq] at h27
  have hj : z < p.items.length := by omega
  obtain ⟨rows, hor, hra⟩ := hoz
  obtain ⟨ba, cc, js, hva, rfl, hn1, hn2, hn3, hn4⟩ : ∃ b c js, (Value.slice a9 p.items.length c9) = .slice (some ⟨b, 0, none⟩) p.items.length c ∧ fz = [(b, .cells (rows.flatten ++ js).toArray 112 (0, 0))] ∧ rows.flatten.length = p.items.length * 4 ∧ (rows.flatten ++ js).length = c * 4 ∧ p.items.length ≤ c ∧ c ≤ 9223372036854775807 := by
   rcases hor with ⟨_, h, _⟩ | h
   ·omega
   ·exact h
  injection hva with hva1 hva2 hva3
  subst hva1 hva3
  have hrl := rows4 hra
  have hzr : z < rows.length := by rw [hra.length]; exact hj
  obtain ⟨kz, vz, hrow, hkz, hvz⟩ := hra.get z hzr hj
  obtain ⟨ka, kc, rfl, _⟩ := hkz.form
  obtain ⟨va, vc, rfl, _⟩ := hvz.form
  have hkl := (hs.item _ (List.getElem_mem hj)).1
  have hvl := (hs.item _ (List.getElem_mem hj)).2.1
  have hext : (rows.flatten ++ js).toArray.extract (0 + z * 4) (0 + z * 4 + 4) = (rows[z]).toArray ∧ 0 + z * 4 + 4 ≤ (rows.flatten ++ js).toArray.size := by
   have := extract_of (cs := (rows.flatten ++ js).toArray) (a := 0 + z * 4) (k := 4) (vs := rows[z]) (.inr (by omega)) (hrl _ (List.getElem_mem hzr)) (fun i hi => by
    rw [Nat.zero_add, List.getElem?_toArray, List.getElem?_append_left (by rw [hn1]; omega), flat_get rows hrl z i hzr hi])
   exact ⟨this.2, this.1⟩
  obtain ⟨xi, hxi⟩ : ∃ xi, p.items[z] = xi := ⟨_, rfl⟩
  simp only [hxi] at hkz hvz hkl hvl hrow
  rw [hrow] at hext
  refine sK (sC (sB (sD (sM rfl ?_))))
  refine L.w rfl (V.indexAddr rfl rfl underlying118 sizeOf112 rfl (by omega)) ?_
  refine L.w rfl (V.loadN rfl isAgg112 sizeOf112 (.apr (.apr (.apr .head))) hext.2 hext.1) ?_
  refine L.allocA rfl rfl zeroValue112 (fun b4 => ?_)
  refine sA rfl ?_
  refine L.storeBox rfl rfl rfl sizeOf112 rfl rfl (by rfl) zUp ?_
  refine sN ?_
  refine C.drawC [] (Hp w0 F S1 ((b4, .cells #[.slice ka xi.key.length kc, .slice va xi.val.length vc, .int .i64 (xi.size : Int), .int .i64 (xi.more : Int)] 112 (0, 0)) :: (b1, .cells #[.int .i64 (p.kind : Int), .int .u64 (p.txn : Int), .int .i64 (p.next : Int), .slice (some ⟨ba, 0, none⟩) p.items.length c9, .slice a12 p.kids.length c12, .slice a15 p.data.length c15, .slice a18 p.ids.length c18] 125 (0, 0)) :: Hr)) (fun w h => h.sub zSub) (by kernel_rfl) rfl (fun w hw => hw.drawn _) ?_
  refine D.take 0 (listed' := #[true, false, false, false, false, false, false, false, false, false, false, false, false, false, false, false, false, false]) rfl (by kernel_rfl) rfl rfl rfl rfl (V.fa rfl underlying125 rfl rfl sizeOf118) (fun w h => h.sub zSub) ?_
  refine D.take 1 (listed' := #[true, true, false, false, false, false, false, false, false, false, false, false, false, false, false, false, false, false]) rfl (by kernel_rfl) rfl rfl rfl rfl (V.load rfl isAgg118 zAt (by rfl)) (fun w h => h.sub zSub) ?_
  refine D.take 2 (listed' := #[true, true, true, false, false, false, false, false, false, false, false, false, false, false, false, false, false, false]) rfl (by kernel_rfl) rfl rfl rfl rfl (V.move rfl) (fun w h => h.sub zSub) ?_
  refine D.take 3 (listed' := #[true, true, true, true, false, false, false, false, false, false, false, false, false, false, false, false, false, false]) rfl (by kernel_rfl) rfl rfl rfl rfl (V.fa rfl underlying125 rfl rfl sizeOf118) (fun w h => h.sub zSub) ?_
  refine D.take 4 (listed' := #[true, true, true, true, true, false, false, false, false, false, false, false, false, false, false, false, false, false]) rfl (by kernel_rfl) rfl rfl rfl rfl (V.load rfl isAgg118 zAt (by rfl)) (fun w h => h.sub zSub) ?_
  refine D.take 5 (listed' := #[true, true, true, true, true, true, false, false, false, false, false, false, false, false, false, false, false, false]) rfl (by kernel_rfl) rfl rfl rfl rfl (V.move rfl) (fun w h => h.sub zSub) ?_
  refine D.take 6 (listed' := #[true, true, true, true, true, true, true, false, false, false, false, false, false, false, false, false, false, false]) rfl (by kernel_rfl) rfl rfl rfl rfl (V.fa rfl underlying112 rfl rfl sizeOf22) (fun w h => h.sub zSub) ?_
  refine D.take 7 (listed' := #[true, true, true, true, true, true, true, true, false, false, false, false, false, false, false, false, false, false]) rfl (by kernel_rfl) rfl rfl rfl rfl (V.load rfl isAgg22 zAt (by rfl)) (fun w h => h.sub zSub) ?_
  refine D.take 9 (listed' := #[true, true, true, true, true, true, true, true, false, true, false, false, false, false, false, false, false, false]) rfl (by kernel_rfl) rfl rfl rfl rfl (V.fa rfl underlying112 rfl rfl sizeOf22) (fun w h => h.sub zSub) ?_
  refine D.take 10 (listed' := #[true, true, true, true, true, true, true, true, false, true, true, false, false, false, false, false, false, false]) rfl (by kernel_rfl) rfl rfl rfl rfl (V.load rfl isAgg22 zAt (by rfl)) (fun w h => h.sub zSub) ?_
  refine D.step 8 (listed' := #[true, true, true, true, true, true, true, true, true, true, true, false, false, false, false, false, false, false]) (by kernel_rfl) rfl rfl (.inr (fun w h => h.sub zSub)) ?_
  refine L.call rfl rfl rfl call180 rfl (fun w hw => clone_u8s (hkz.lift _) (bv_one _) (by omega) hw) ?_
  rintro _ a w hst ⟨v39, f39, rfl, ho39, hw⟩
  refine hst.go rfl hw ?_
  clear hst hw w a
  replace ho39 : OwnB 5 v39 xi.key f39 := ho39
  obtain ⟨a39, c39, rfl⟩ := ho39.form
  refine D.back ?_
  refine D.step 11 (listed' := #[true, true, true, true, true, true, true, true, true, true, true, true, false, false, false, false, false, false]) (by kernel_rfl) rfl rfl (.inr (fun w h => h.sub zSub)) ?_
  refine L.call rfl rfl rfl call180 rfl (fun w hw => clone_u8s (hvz.lift _) (bv_one _) (by omega) hw) ?_
  rintro _ a w hst ⟨v42, f42, rfl, ho42, hw⟩
  refine hst.go rfl hw ?_
  clear hst hw w a
  replace ho42 : OwnB 5 v42 xi.val f42 := ho42
  obtain ⟨a42, c42, rfl⟩ := ho42.form
  refine D.back ?_
  refine D.step 12 (listed' := #[true, true, true, true, true, true, true, true, true, true, true, true, true, false, false, false, false, false]) (by kernel_rfl) rfl rfl (.inr (fun w h => h.sub zSub)) ?_
  refine L.w rfl (V.indexAddr rfl rfl underlying118 sizeOf112 rfl (by omega)) ?_
  refine D.back ?_
  refine D.step 13 (listed' := #[true, true, true, true, true, true, true, true, true, true, true, true, true, true, false, false, false, false]) (by kernel_rfl) rfl rfl (.inr (fun w h => h.sub zSub)) ?_
  refine L.w rfl (V.fa rfl underlying112 rfl rfl sizeOf22) ?_
  refine D.back ?_
  refine D.step 14 (listed' := #[true, true, true, true, true, true, true, true, true, true, true, true, true, true, true, false, false, false]) (by kernel_rfl) rfl rfl (.inr (fun w h => h.sub zSub)) ?_
  refine L.storeRow (z := z) (i := 0) (q := 4) (b := ba) (rows := rows) (js := js) (e := 112) rfl (by show 0 + z * 4 + 0 = z * 4 + 0; omega) rfl rfl sizeOf22 rfl hrl hzr (by decide) (.apr (.apr (.tail (.apr (.apr (.apr .head)))))) ?_
  have hr1 : rows[z].set 0 (.slice a39 xi.key.length c39) = [.slice a39 xi.key.length c39, .slice va xi.val.length vc, .int .i64 (xi.size : Int), .int .i64 (xi.more : Int)] := by rw [hrow]; rfl
  rw [hr1]
  refine D.back ?_
  refine D.step 15 (listed' := #[true, true, true, true, true, true, true, true, true, true, true, true, true, true, true, true, false, false]) (by kernel_rfl) rfl rfl (.inr (fun w h => h.sub zSub)) ?_
  refine L.w rfl (V.indexAddr rfl rfl underlying118 sizeOf112 rfl (by omega)) ?_
  refine D.back ?_
  refine D.step 16 (listed' := #[true, true, true, true, true, true, true, true, true, true, true, true, true, true, true, true, true, false]) (by kernel_rfl) rfl rfl (.inr (fun w h => h.sub zSub)) ?_
  refine L.w rfl (V.fa rfl underlying112 rfl rfl sizeOf22) ?_
  refine D.back ?_
  refine D.step 17 (listed' := #[true, true, true, true, true, true, true, true, true, true, true, true, true, true, true, true, true, true]) (by kernel_rfl) rfl rfl (.inr (fun w h => h.sub zSub)) ?_
  have hrl2 := rows_set_len hrl (z := z) (r := [.slice a39 xi.key.length c39, .slice va xi.val.length vc, .int .i64 (xi.size : Int), .int .i64 (xi.more : Int)]) rfl
  refine L.storeRow (z := z) (i := 1) (q := 4) (b := ba) (js := js) (e := 112) rfl (by show 0 + z * 4 + 1 = z * 4 + 1; omega) rfl rfl sizeOf22 rfl hrl2 (by rw [List.length_set]; exact hzr) (by decide) (.apr (.apr (.tail (.apr (.apr (.apr .head)))))) ?_
  have hr2 : (rows.set z [.slice a39 xi.key.length c39, .slice va xi.val.length vc, .int .i64 (xi.size : Int), .int .i64 (xi.more : Int)]).set z ((rows.set z [.slice a39 xi.key.length c39, .slice va xi.val.length vc, .int .i64 (xi.size : Int), .int .i64 (xi.more : Int)])[z]'(by rw [List.length_set]; exact hzr) |>.set 1 (.slice a42 xi.val.length c42)) = rows.set z [.slice a39 xi.key.length c39, .slice a42 xi.val.length c42, .int .i64 (xi.size : Int), .int .i64 (xi.more : Int)] := by
   rw [List.getElem_set_self, List.set_set]; rfl
  rw [hr2]
  refine D.back ?_
  refine D.done (by kernel_rfl) (.inr (fun w h => h.sub zSub)) (N.blk (N.seq ?_))
  refine sR ?_
  refine L.sealB ho42 .done (fun S2 leS2 hb42 => ?_)
  refine L.sealB ho39 .done (fun S3 leS3 hb39 => ?_)
  have hoE : ItemsO S3 (.slice (some ⟨ba, 0, none⟩) p.items.length c9) p.items [(ba, .cells ((rows.set z [.slice a39 xi.key.length c39, .slice a42 xi.val.length c42, .int .i64 (xi.size : Int), .int .i64 (xi.more : Int)]).flatten ++ js).toArray 112 (0, 0))] := by
   have hfl : (rows.set z [.slice a39 xi.key.length c39, .slice a42 xi.val.length c42, .int .i64 (xi.size : Int), .int .i64 (xi.more : Int)]).flatten.length = p.items.length * 4 := by
    rw [flat_len _ (rows_set_len hrl rfl), List.length_set, hra.length]
   refine ⟨_, Own.mk hfl ?_ hn3 hn4, (hra.mono fun a b h => h.mono (leS2.trans leS3)).set z _ (fun hz => ?_)⟩
   ·rw [List.length_append] at hn2 ⊢; omega
   ·rw [hxi]; exact ⟨_, _, rfl, hb39, hb42.mono (Sees.le leS3 _)⟩
  refine L.w rfl (V.add (c := ((z + 1 : Nat) : Int)) rfl rfl (by rw [w64 (by omega) (by omega)]; omega)) ?_
  refine sM rfl ?_
  refine L.nil ?_
  refine N.round (z + 1, S3, [(ba, _)]) (by show _ - (z + 1) < _ - z; omega) ⟨rfl, rfl, rfl, rfl, rfl, trivial⟩ (fun w hw => ⟨⟨by show z + 1 ≤ _; omega, (leS1.trans leS2).trans leS3, hoE⟩, hw.drop⟩)
 ·try simp only [sq] at h27
  refine sZ rfl (sC (sD ?_))
  refine L.w rfl (V.fa rfl underlying125 rfl rfl sizeOf115) ?_
  refine L.w rfl (V.load rfl isAgg115 zAt (by rfl)) ?_
  refine L.w rfl (V.len rfl underlying115) ?_
  refine sM rfl (sN (sB ?_))
  clear h27 hz
  refine C.loop (α := Nat × Store × Heap × Heap) (fun z => [(1, .pointer (some ⟨b1, 0, none⟩)), (2, .pointer (some ⟨b2, 0, none⟩)), (49, .slice a12 p.kids.length c12), (50, .int .i64 (p.kids.length : Int)), (51, .int .i64 (z.1 : Int))]) (fun z w => (z.1 ≤ p.kids.length ∧ S.le z.2.1 ∧ ItemsO z.2.1 (.slice a9 p.items.length c9) p.items z.2.2.1 ∧ KidsO z.2.1 (.slice a12 p.kids.length c12) p.kids z.2.2.2) ∧ Hp w0 F z.2.1 (f18 ++ (f15 ++ (z.2.2.2 ++ (z.2.2.1 ++ ((b2, .cells #[.int .i64 0, .int .u64 0, .int .i64 0, .slice none 0 0, .slice none 0 0, .slice none 0 0, .slice none 0 0] 125 (0, 0)) :: (b1, .cells #[.int .i64 (p.kind : Int), .int .u64 (p.txn : Int), .int .i64 (p.next : Int), .slice a9 p.items.length c9, .slice a12 p.kids.length c12, .slice a15 p.data.length c15, .slice a18 p.ids.length c18] 125 (0, 0)) :: Hr))))) w) (fun z => p.kids.length - z.1) (0, S1, fz, f12) ⟨rfl, rfl, rfl, rfl, rfl, trivial⟩ (fun w hw => ⟨⟨Nat.zero_le _, leS1, hoz, ho12.mono leS1⟩, hw⟩) (fun zz => C.pure (fun hzz => ?_))
  clear hoz leS1 fz S1 z
  obtain ⟨z, S1, fi, fz⟩ := zz
  obtain ⟨hz, leS1, hoi, hoz⟩ := hzz
  dsimp only at hz leS1 hoi hoz ⊢
  refine sD (sQc rfl (sN (sC ?_)))
  refine C.cond rfl (fun h52 => ?_) (fun h52 => ?_)
  ·try simp only [sq] at h52
   have hj : z < p.kids.length := by omega
   obtain ⟨rows, hor, hra⟩ := hoz
   obtain ⟨ba, cc, js, hva, rfl, hn1, hn2, hn3, hn4⟩ : ∃ b c js, (Value.slice a12 p.kids.length c12) = .slice (some ⟨b, 0, none⟩) p.kids.length c ∧ fz = [(b, .cells (rows.flatten ++ js).toArray 129 (0, 0))] ∧ rows.flatten.length = p.kids.length * 2 ∧ (rows.flatten ++ js).length = c * 2 ∧ p.kids.length ≤ c ∧ c ≤ 9223372036854775807 := by
    rcases hor with ⟨_, h, _⟩ | h
    ·omega
    ·exact h
   injection hva with hva1 hva2 hva3
   subst hva1 hva3
   have hrl := rows2 hra
   have hzr : z < rows.length := by rw [hra.length]; exact hj
   obtain ⟨kz, hrow, hkz⟩ := hra.get z hzr hj
   obtain ⟨ka, kc, rfl, _⟩ := hkz.form
   have hkl := (hs.kid _ (List.getElem_mem hj)).1
   have hext : (rows.flatten ++ js).toArray.extract (0 + z * 2) (0 + z * 2 + 2) = (rows[z]).toArray ∧ 0 + z * 2 + 2 ≤ (rows.flatten ++ js).toArray.size := by
    have := extract_of (cs := (rows.flatten ++ js).toArray) (a := 0 + z * 2) (k := 2) (vs := rows[z]) (.inr (by omega)) (hrl _ (List.getElem_mem hzr)) (fun i hi => by
     rw [Nat.zero_add, List.getElem?_toArray, List.getElem?_append_left (by rw [hn1]; omega), flat_get rows hrl z i hzr hi])
    exact ⟨this.2, this.1⟩
   obtain ⟨xi, hxi⟩ : ∃ xi, p.kids[z] = xi := ⟨_, rfl⟩
   simp only [hxi] at hkz hkl hrow
   rw [hrow] at hext
   refine sK (sC (sB (sD (sM rfl ?_))))
   refine L.w rfl (V.indexAddr rfl rfl underlying115 sizeOf129 rfl (by omega)) ?_
   refine L.w rfl (V.loadN rfl isAgg129 sizeOf129 (.apr (.apr .head)) hext.2 hext.1) ?_
   refine L.allocA rfl rfl zeroValue129 (fun b6 => ?_)
   refine sA rfl ?_
   refine L.storeBox rfl rfl rfl sizeOf129 rfl rfl (by rfl) zUp ?_
   refine sN ?_
   refine C.drawC [] (Hp w0 F S1 ((b6, .cells #[.slice ka xi.key.length kc, .int .i64 (xi.page : Int)] 129 (0, 0)) :: (b1, .cells #[.int .i64 (p.kind : Int), .int .u64 (p.txn : Int), .int .i64 (p.next : Int), .slice a9 p.items.length c9, .slice (some ⟨ba, 0, none⟩) p.kids.length c12, .slice a15 p.data.length c15, .slice a18 p.ids.length c18] 125 (0, 0)) :: Hr)) (fun w h => h.sub zSub) (by kernel_rfl) rfl (fun w hw => hw.drawn _) ?_
   refine D.take 0 (listed' := #[true, false, false, false, false, false, false, false, false]) rfl (by kernel_rfl) rfl rfl rfl rfl (V.fa rfl underlying125 rfl rfl sizeOf115) (fun w h => h.sub zSub) ?_
   refine D.take 1 (listed' := #[true, true, false, false, false, false, false, false, false]) rfl (by kernel_rfl) rfl rfl rfl rfl (V.load rfl isAgg115 zAt (by rfl)) (fun w h => h.sub zSub) ?_
   refine D.take 2 (listed' := #[true, true, true, false, false, false, false, false, false]) rfl (by kernel_rfl) rfl rfl rfl rfl (V.move rfl) (fun w h => h.sub zSub) ?_
   refine D.take 3 (listed' := #[true, true, true, true, false, false, false, false, false]) rfl (by kernel_rfl) rfl rfl rfl rfl (V.fa rfl underlying129 rfl rfl sizeOf22) (fun w h => h.sub zSub) ?_
   refine D.take 4 (listed' := #[true, true, true, true, true, false, false, false, false]) rfl (by kernel_rfl) rfl rfl rfl rfl (V.load rfl isAgg22 zAt (by rfl)) (fun w h => h.sub zSub) ?_
   refine D.step 5 (listed' := #[true, true, true, true, true, true, false, false, false]) (by kernel_rfl) rfl rfl (.inr (fun w h => h.sub zSub)) ?_
   refine L.call rfl rfl rfl call180 rfl (fun w hw => clone_u8s (hkz.lift _) (bv_one _) (by omega) hw) ?_
   rintro _ a w hst ⟨v39, f39, rfl, ho39, hw⟩
   refine hst.go rfl hw ?_
   clear hst hw w a
   replace ho39 : OwnB 5 v39 xi.key f39 := ho39
   obtain ⟨a39, c39, rfl⟩ := ho39.form
   refine D.back ?_
   refine D.step 6 (listed' := #[true, true, true, true, true, true, true, false, false]) (by kernel_rfl) rfl rfl (.inr (fun w h => h.sub zSub)) ?_
   refine L.w rfl (V.indexAddr rfl rfl underlying115 sizeOf129 rfl (by omega)) ?_
   refine D.back ?_
   refine D.step 7 (listed' := #[true, true, true, true, true, true, true, true, false]) (by kernel_rfl) rfl rfl (.inr (fun w h => h.sub zSub)) ?_
   refine L.w rfl (V.fa rfl underlying129 rfl rfl sizeOf22) ?_
   refine D.back ?_
   refine D.step 8 (listed' := #[true, true, true, true, true, true, true, true, true]) (by kernel_rfl) rfl rfl (.inr (fun w h => h.sub zSub)) ?_
   refine L.storeRow (z := z) (i := 0) (q := 2) (b := ba) (rows := rows) (js := js) (e := 129) rfl (by show 0 + z * 2 + 0 = z * 2 + 0; omega) rfl rfl sizeOf22 rfl hrl hzr (by decide) (.apr (.tail (.apr (.apr .head)))) ?_
   have hr1 : rows[z].set 0 (.slice a39 xi.key.length c39) = [.slice a39 xi.key.length c39, .int .i64 (xi.page : Int)] := by rw [hrow]; rfl
   rw [hr1]
   refine D.back ?_
   refine D.done (by kernel_rfl) (.inr (fun w h => h.sub zSub)) (N.blk (N.seq ?_))
   refine sR ?_
   refine L.sealB ho39 .done (fun S2 leS2 hb39 => ?_)
   have hoE : KidsO S2 (.slice (some ⟨ba, 0, none⟩) p.kids.length c12) p.kids [(ba, .cells ((rows.set z [.slice a39 xi.key.length c39, .int .i64 (xi.page : Int)]).flatten ++ js).toArray 129 (0, 0))] := by
    have hfl : (rows.set z [.slice a39 xi.key.length c39, .int .i64 (xi.page : Int)]).flatten.length = p.kids.length * 2 := by
     rw [flat_len _ (rows_set_len hrl rfl), List.length_set, hra.length]
    refine ⟨_, Own.mk hfl ?_ hn3 hn4, (hra.mono fun a b h => h.mono leS2).set z _ (fun hz => ?_)⟩
    ·rw [List.length_append] at hn2 ⊢; omega
    ·rw [hxi]; exact ⟨_, rfl, hb39⟩
   refine L.w rfl (V.add (c := ((z + 1 : Nat) : Int)) rfl rfl (by rw [w64 (by omega) (by omega)]; omega)) ?_
   refine sM rfl ?_
   refine L.nil ?_
   refine N.round (z + 1, S2, fi, [(ba, _)]) (by show _ - (z + 1) < _ - z; omega) ⟨rfl, rfl, rfl, rfl, rfl, trivial⟩ (fun w hw => ⟨⟨by show z + 1 ≤ _; omega, leS1.trans leS2, hoi.mono leS2, hoE⟩, hw.drop⟩)
  ·try simp only [sq] at h52
   refine sZ rfl (sD ?_)
   refine L.w rfl (V.loadBox rfl isAgg125 sizeOf125 zAt (by rfl)) ?_
   refine L.storeBox rfl rfl rfl sizeOf125 rfl rfl (by rfl) zUp ?_
   refine sN ?_
   refine R.retc results135 rfl (fun w hw => run_box hw isAgg125 sizeOf125 zAt rfl) (fun w hw => ?_)
   refine ⟨S1, _, fi ++ (fz ++ (f15 ++ f18)), rfl, leS1, ⟨_, _, _, _, fi, fz, f15, f18, rfl, ⟨hoi, hoz, ho15, ho18⟩, rfl⟩, ?_⟩
   exact Hp.re (hw.sub (H' := f18 ++ (f15 ++ (fz ++ (fi ++ Hr)))) zSub) zRe
end
end Go.Proofs.YtijgbppkdaiikaaGreat

set_option linter.unusedSimpArgs false
set_option linter.unusedVariables false
namespace Go.Proofs.YtijgbppkdaiikaaGreat
open Go.Proofs.Tryz Go.Tk

/-- What Read tells: the page, if there is one; the error. -/
noncomputable def pgP (dead : Bool) (size : Nat) (added : Int → Option Page) (dk : Dk) (id : Int) : Option Page :=
 if pgChk dead size id ≠ 0 then none else match added id with | some p => some p | none => if dk.chk id ≠ 0 then none else decP (dk.get id)
noncomputable def pgE (dead : Bool) (size : Nat) (added : Int → Option Page) (dk : Dk) (id : Int) : Int :=
 if pgChk dead size id ≠ 0 then pgChk dead size id else match added id with | some _ => 0 | none => if dk.chk id ≠ 0 then dk.chk id else decE (dk.get id)

section
variable {w0 : World} {F : Nat → Prop} {S : Store} {Hr : Heap} {w : World}

theorem pgRead_ok {b db am : Nat} {lv : Value} {m : Mt} {cv : Value} {root : Nat} {dead : Bool} {al : List Ent} {ac : Nat} {added : Int → Option Page} {dk : Dk} {dfp : Heap} (hd : DkR S db dk dfp) (hm : MapP S al ac added) (hsm : ∀ j p, added j = some p → Small p) (id : Int)
 (hw : Hp w0 F S ((b, pgObjV db lv am m cv root dead) :: (am, mobj al ac) :: (dfp ++ Hr)) w) :
 Calls Tryz.prog 89 #[.pointer (some ⟨b, 0, none⟩), .int .i64 id] w fun e w' => ∃ S' c fp, e = .returned (.tuple #[.agg c.toArray, .int .i64 (pgE dead m.size added dk id)]) ∧ S.le S' ∧ ((∃ p, pgP dead m.size added dk id = some p ∧ pgE dead m.size added dk id = 0 ∧ PageO S' c p fp) ∨ (pgP dead m.size added dk id = none ∧ pgE dead m.size added dk id ≠ 0 ∧ c = zeroC ∧ fp = [])) ∧ Hp w0 F S' (fp ++ ((b, pgObjV db lv am m cv root dead) :: (am, mobj al ac) :: (dfp ++ Hr))) w' := by
 refine enterA hw func89 rfl ntmps89 rfl rfl ?_
 refine sD ?_
 refine L.allocA rfl rfl zeroValue125 (fun b4 => ?_)
 refine sA rfl (sN (sC (sD (sM rfl (sM rfl ?_)))))
 refine L.call rfl rfl rfl call68 rfl (fun w hw => pgCheck_ok id (.tail .head) hw) ?_
 rintro _ a w hst ⟨rfl, hw⟩
 refine hst.go rfl hw ?_
 clear hst hw w a
 refine sA rfl (sE (sM rfl (sQb rfl (sN ?_))))
 refine C.cond rfl (fun h15 => ?_) (fun h15 => ?_)
 ·try simp only [sq] at h15
  refine sD ?_
  refine L.w rfl (V.build rfl underlying125 zeroValue125 (pl := [(0, 1), (1, 1), (2, 1), (3, 1), (4, 1), (5, 1), (6, 1)]) (fun w => by kernel_rfl) Fills.nil) ?_
  refine sM rfl ?_
  refine L.storeBox rfl rfl rfl sizeOf125 rfl rfl (by rfl) zUp ?_
  refine sA rfl (sN ?_)
  refine R.retct results89 rfl rfl (fun w hw => run_box hw isAgg125 sizeOf125 zAt rfl) (fun w hw => ?_)
  have h15 : pgChk dead m.size id ≠ 0 := h15
  have e1 : pgE dead m.size added dk id = pgChk dead m.size id := by unfold pgE; rw [if_pos h15]
  have e2 : pgP dead m.size added dk id = none := by unfold pgP; rw [if_pos h15]
  exact ⟨S, zeroC, [], by rw [e1]; rfl, .refl S, .inr ⟨e2, by rw [e1]; exact h15, rfl, rfl⟩, hw.drop⟩
 ·try simp only [sq] at h15
  have h15 : ¬ pgChk dead m.size id ≠ 0 := fun h => h h15
  unfold pgObjV
  refine sK (sC (sD (sM rfl (sW rfl ?_))))
  refine L.w rfl (V.fa rfl underlying141 rfl rfl sizeOf63) ?_
  refine L.w rfl (V.load rfl isAgg63 zAt (by rfl)) ?_
  refine sM rfl ?_
  obtain ⟨v, hv⟩ : ∃ v, v = (mfind al id).getD (.agg zeroC.toArray) := ⟨_, rfl⟩
  obtain ⟨t, ht⟩ : ∃ t, t = (mfind al id).isSome := ⟨_, rfl⟩
  obtain ⟨vc, hvc⟩ : ∃ c : List Value, v = .agg c.toArray := by
   rcases hm.get id with ⟨v1, p1, e1, e2, c1, h1, _⟩ | ⟨e1, e2⟩
   ·exact ⟨c1, by rw [hv, e1]; exact h1⟩
   ·exact ⟨zeroC, by rw [hv, e1]; rfl⟩
  refine L.w rfl (V.lookup (v := .tuple #[v, .bool t]) rfl rfl underlying63 underlying3 zeroValue125 zAt (by rw [hv, ht]; rfl)) ?_
  subst hvc
  obtain ⟨y1, y2, y3, y4, y5, y6, y7, hy, hy1⟩ : ∃ y1 y2 y3 y4 y5 y6 y7, vc = [y1, y2, y3, y4, y5, y6, y7] ∧ [y1, y2, y3, y4, y5, y6, y7].all (·.oneCell') = true := by
   rcases hm.get id with ⟨v1, p1, e1, e2, c1, h1, iv, kv, dv, xv, h2, q1, q2, q3, q4⟩ | ⟨e1, e2⟩
   ·rw [e1] at hv
    have : vc = c1 := by
     have h3 : Value.agg vc.toArray = .agg c1.toArray := by rw [hv]; exact h1
     injection h3 with h3
     simpa using congrArg Array.toList h3
    subst this
    obtain ⟨_, _, rfl, _⟩ := q1.form
    obtain ⟨_, _, rfl, _⟩ := q2.form
    obtain ⟨_, _, rfl, _⟩ := q3.form
    obtain ⟨_, _, rfl, _⟩ := q4.form
    exact ⟨_, _, _, _, _, _, _, h2, rfl⟩
   ·rw [e1] at hv
    have : vc = zeroC := by
     have h3 : Value.agg vc.toArray = .agg zeroC.toArray := hv
     injection h3 with h3
     simpa using congrArg Array.toList h3
    exact ⟨_, _, _, _, _, _, _, this, rfl⟩
  subst hy
  refine sM rfl (sX rfl (sX rfl ?_))
  refine L.allocA rfl rfl zeroValue125 (fun b7 => ?_)
  refine L.storeBox rfl rfl rfl sizeOf125 rfl rfl hy1 zUp ?_
  refine sA rfl (sE (sM rfl (sN ?_)))
  refine C.cond rfl (fun h27 => ?_) (fun h27 => ?_)
  ·try simp only [sq] at h27
   refine sD ?_
   refine L.w rfl (V.loadBox rfl isAgg125 sizeOf125 zAt (by rfl)) ?_
   obtain ⟨p, hp, hpc⟩ : ∃ p, added id = some p ∧ PageC S [] [y1, y2, y3, y4, y5, y6, y7] p := by
    rcases hm.get id with ⟨v1, p1, e1, e2, c1, h1, h2⟩ | ⟨e1, e2⟩
    ·refine ⟨p1, e2, ?_⟩
     rw [e1] at hv
     have h3 : Value.agg [y1, y2, y3, y4, y5, y6, y7].toArray = .agg c1.toArray := by rw [hv]; exact h1
     injection h3 with h3
     have : [y1, y2, y3, y4, y5, y6, y7] = c1 := by simpa using congrArg Array.toList h3
     rw [this]; exact h2
    ·rw [ht, e1] at h27; cases h27
   refine L.call rfl rfl rfl call135 rfl (fun w hw => twin_ok (hpc.mono (.refl S) (fun q hq => by cases hq)) (hsm _ _ hp) hw) ?_
   rintro _ a w hst ⟨S1, c1, f1, rfl, le1, ho1, hw⟩
   refine hst.go rfl hw ?_
   clear hst hw w a
   obtain ⟨iv, kv, dv, xv, fi, fk, fd, fx, rfl, hpt, rfl⟩ := ho1
   obtain ⟨qi, ci, rfl⟩ := (show ∃ ad c, iv = .slice ad p.items.length c from by obtain ⟨r, h, _⟩ := hpt.items; exact h.form)
   obtain ⟨qk, ck, rfl⟩ := (show ∃ ad c, kv = .slice ad p.kids.length c from by obtain ⟨r, h, _⟩ := hpt.kids; exact h.form)
   obtain ⟨qd, cd, rfl⟩ := hpt.data.form
   obtain ⟨qx, cx, rfl⟩ := (show ∃ ad c, xv = .slice ad p.ids.length c from Own.form hpt.ids)
   refine L.storeBox rfl rfl rfl sizeOf125 rfl rfl (by rfl) zUp ?_
   refine sA rfl (sN ?_)
   refine R.retct results89 rfl rfl (fun w hw => run_box hw isAgg125 sizeOf125 zAt rfl) (fun w hw => ?_)
   have e1 : pgE dead m.size added dk id = 0 := by unfold pgE; rw [if_neg h15, hp]
   have e2 : pgP dead m.size added dk id = some p := by unfold pgP; rw [if_neg h15, hp]
   refine ⟨S1, _, fi ++ (fk ++ (fd ++ fx)), by rw [e1], le1, .inl ⟨p, e2, e1, _, _, _, _, fi, fk, fd, fx, rfl, hpt, rfl⟩, ?_⟩
   exact hw.sub zSub
  ·try simp only [sq] at h27
   refine sK (sD (sM rfl (sW rfl ?_)))
   refine L.w rfl (V.fa rfl underlying141 rfl rfl sizeOf26) ?_
   refine L.w rfl (V.load rfl isAgg26 zAt (by rfl)) ?_
   refine sM rfl ?_
   have hnone : added id = none := by
    rcases hm.get id with ⟨v1, p1, e1, e2, _⟩ | ⟨e1, e2⟩
    ·rw [ht, e1] at h27; cases h27
    ·exact e2
   refine L.call rfl rfl rfl call85 rfl (fun w hw => diskRead_ok hd id (hw.take (.skip (.skip (.skip (.skip .done)))))) ?_
   rintro _ a w hst ⟨v9, f9, rfl, hrd, hw⟩
   refine hst.go rfl hw ?_
   clear hst hw w a
   refine sM rfl (sX rfl (sX rfl (sA rfl (sA rfl (sN (sC (sD (sM rfl (sQb rfl (sN ?_))))))))))
   refine C.cond rfl (fun h40 => ?_) (fun h40 => ?_)
   ·try simp only [sq] at h40
    refine sD ?_
    refine L.w rfl (V.build rfl underlying125 zeroValue125 (pl := [(0, 1), (1, 1), (2, 1), (3, 1), (4, 1), (5, 1), (6, 1)]) (fun w => by kernel_rfl) Fills.nil) ?_
    refine sM rfl ?_
    refine L.storeBox rfl rfl rfl sizeOf125 rfl rfl (by rfl) zUp ?_
    refine sA rfl (sN ?_)
    refine R.retct results89 rfl rfl (fun w hw => run_box hw isAgg125 sizeOf125 zAt rfl) (fun w hw => ?_)
    have h40 : dk.chk id ≠ 0 := h40
    have e1 : pgE dead m.size added dk id = dk.chk id := by unfold pgE; rw [if_neg h15, hnone]; exact if_pos h40
    have e2 : pgP dead m.size added dk id = none := by unfold pgP; rw [if_neg h15, hnone]; exact if_pos h40
    refine ⟨S, zeroC, [], by rw [e1]; rfl, .refl S, .inr ⟨e2, by rw [e1]; exact h40, rfl, rfl⟩, ?_⟩
    exact Hp.re (hw.sub (H' := dfp ++ ((b, pgObjV db lv am m cv root dead) :: (am, mobj al ac) :: Hr)) zSub) zRe
   ·try simp only [sq] at h40
    refine sK (sD (sM rfl ?_))
    have h40 : ¬ dk.chk id ≠ 0 := fun h => h h40
    have hlen := hd.ok.get id
    have ho9 : OwnB 5 v9 (dk.get id) f9 := by
     rcases hrd with ⟨_, h⟩ | ⟨h, _⟩
     ·exact h
     ·exact absurd h h40
    have e1 : pgE dead m.size added dk id = decE (dk.get id) := by unfold pgE; rw [if_neg h15, hnone]; exact if_neg h40
    have e2 : pgP dead m.size added dk id = decP (dk.get id) := by unfold pgP; rw [if_neg h15, hnone]; exact if_neg h40
    refine L.call rfl rfl rfl call136 rfl (fun w hw => decode_ok (ho9.bs (fun q hq => List.mem_append_left _ hq)) (by omega) hw) ?_
    rintro _ a w hst ⟨S2, c2, f2, rfl, le2, hw, hdec⟩
    refine hst.go rfl hw ?_
    clear hst hw w a
    obtain ⟨z1, z2, z3, z4, z5, z6, z7, hzy, hz1⟩ : ∃ y1 y2 y3 y4 y5 y6 y7, c2 = [y1, y2, y3, y4, y5, y6, y7] ∧ [y1, y2, y3, y4, y5, y6, y7].all (·.oneCell') = true := by
     rcases hdec with ⟨p, _, iv, kv, dv, xv, fi, fk, fd, fx, h2, hpt, _⟩ | ⟨_, h2, _⟩
     ·obtain ⟨qi, ci, rfl⟩ := (show ∃ ad c, iv = .slice ad p.items.length c from by obtain ⟨r, h, _⟩ := hpt.items; exact h.form)
      obtain ⟨qk, ck, rfl⟩ := (show ∃ ad c, kv = .slice ad p.kids.length c from by obtain ⟨r, h, _⟩ := hpt.kids; exact h.form)
      obtain ⟨qd, cd, rfl⟩ := hpt.data.form
      obtain ⟨qx, cx, rfl⟩ := (show ∃ ad c, xv = .slice ad p.ids.length c from Own.form hpt.ids)
      exact ⟨_, _, _, _, _, _, _, h2, rfl⟩
     ·exact ⟨_, _, _, _, _, _, _, h2, rfl⟩
    subst hzy
    refine sX rfl (sX rfl ?_)
    refine L.storeBox rfl rfl rfl sizeOf125 rfl rfl hz1 zUp ?_
    refine sA rfl (sN ?_)
    refine R.retct results89 rfl rfl (fun w hw => run_box hw isAgg125 sizeOf125 zAt rfl) (fun w hw => ?_)
    refine ⟨S2, [z1, z2, z3, z4, z5, z6, z7], f2, by rw [e1]; rfl, le2, ?_, ?_⟩
    ·rcases hdec with ⟨p, h1, h2⟩ | ⟨h1, h2, h3⟩
     ·exact .inl ⟨p, by rw [e2]; exact h1, by rw [e1]; exact decE_of (decP_some h1), h2⟩
     ·exact .inr ⟨by rw [e2]; exact h1, by rw [e1]; have := decE_none h1; omega, h2, h3⟩
    ·exact Hp.re (hw.sub (H' := f2 ++ (dfp ++ ((b, pgObjV db lv am m cv root dead) :: (am, mobj al ac) :: Hr))) zSub) zRe
end
end Go.Proofs.YtijgbppkdaiikaaGreat

set_option linter.unusedSimpArgs false
set_option linter.unusedVariables false
namespace Go.Proofs.YtijgbppkdaiikaaGreat
open Go.Proofs.Tryz Go.Tk

structure Pr where
 dk : Dk
 m : Mt
 list : Fl
 chain : List Int
 added : Int → Option Page
 root : Nat
 dead : Bool

structure PrOk (s : Pr) : Prop where
 size : s.list.size = s.m.size
 dsize : s.dk.size = s.m.size
 s0 : 8 ≤ s.m.size
 s1 : s.m.size ≤ 1024
 txn : s.m.txn < 2 ^ 62
 chain : s.chain.length ≤ 1024
 right : ∀ j p, s.added j = some p → Right p
 atxn : ∀ j p, s.added j = some p → p.txn = s.m.txn + 1
theorem PrOk.small {s : Pr} (h : PrOk s) : ∀ j p, s.added j = some p → Small p := fun j p hp => (h.right j p hp).small (by have := h.atxn j p hp; have := h.txn; omega)

/-- A pager, and its disk, in memory. -/
structure PgR (S : Store) (b db : Nat) (s : Pr) (fp : Heap) : Prop where
 ok : PrOk s
 r : ∃ lb am al ac lfp dfp cv, fp = (b, pgObj db lb am s.m cv s.root s.dead) :: (am, mobj al ac) :: (lfp ++ dfp) ∧ FlR S lb s.list lfp ∧ DkR S db s.dk dfp ∧ MapP S al ac s.added ∧ Is S [] cv s.chain
theorem PgR.mono {S S' : Store} {b db : Nat} {s : Pr} {fp : Heap} (h : PgR S b db s fp) (le : S.le S') : PgR S' b db s fp := by
 obtain ⟨hok, lb, am, al, ac, lfp, dfp, cv, h1, h2, h3, h4, h5⟩ := h
 exact ⟨hok, lb, am, al, ac, lfp, dfp, cv, h1, h2.mono le, h3.mono le, h4.mono le, h5.mono (Sees.le le _)⟩

def Page.at (p : Page) (t : Nat) : Page := { p with txn := t }
open Classical in
/-- What Add does: the pager behind it, the number, the error. -/
noncomputable def Pr.add (s : Pr) (p : Page) : Pr × Int × Int :=
 if s.dead then (s, 0, 10) else if ¬ Right (p.at (s.m.txn + 1)) then (s, 0, 4) else if s.list.spare.length < s.m.size / 60 + 2 then (s, 0, 9) else
  match s.list.spare with
  | [] => (s, 0, 9)
  | i :: r => ({ s with list := ⟨s.list.size, r, s.list.held⟩, added := upd s.added i (some (p.at (s.m.txn + 1))) }, i, 0)

section
variable {w0 : World} {F : Nat → Prop} {S : Store} {Hr : Heap} {w : World}

theorem PageO.shut {H : Heap} {c : List Value} {p : Page} {fp : Heap} (h : PageO S c p fp) (hw : Hp w0 F S (fp ++ H) w) : ∃ S', S.le S' ∧ PageC S' [] c p ∧ Hp w0 F S' H w := by
 obtain ⟨iv, kv, dv, xv, fi, fk, fd, fx, rfl, ⟨⟨ri, h1, h2⟩, ⟨rk, h3, h4⟩, h5, h6⟩, rfl⟩ := h
 simp only [List.append_assoc] at hw
 obtain ⟨S1, l1, g1, w1⟩ := h1.shut hw
 obtain ⟨S2, l2, g2, w2⟩ := h3.shut w1
 obtain ⟨S3, l3, g3, w3⟩ := OwnB.shut h5 w2
 obtain ⟨S4, l4, g4, w4⟩ := Own.shut h6 w3
 refine ⟨S4, l1.trans (l2.trans (l3.trans l4)), ⟨iv, kv, dv, xv, rfl, ⟨ri, g1.mono (Sees.le (l2.trans (l3.trans l4)) _), h2.mono fun a b q => q.mono (l1.trans (l2.trans (l3.trans l4)))⟩, ⟨rk, g2.mono (Sees.le (l3.trans l4) _), h4.mono fun a b q => q.mono (l1.trans (l2.trans (l3.trans l4)))⟩, g3.mono (Sees.le l4 _), ?_⟩, w4⟩
 unfold Ids Is
 simpa using g4

theorem L.shutP {P : Program} {B : Exit → Act → World → Prop} {k : List Fr} {n : Nat} {E : Env} {ops : Array Oper} {rest : List Oper} {H Hr : Heap} {c : List Value} {p : Page} {fp : Heap} (ho : PageO S c p fp) (tk : Take fp H Hr) (h : ∀ S', S.le S' → PageC S' [] c p → L P B ops rest k n E (Hp w0 F S' Hr)) : L P B ops rest k n E (Hp w0 F S H) := fun a w hs hA => by
 obtain ⟨S', h1, h2, h3⟩ := ho.shut (hA.take tk)
 exact h S' h1 h2 a w hs h3

theorem pgAdd_ok {b db : Nat} {s : Pr} {fp : Heap} {c : List Value} {p : Page} (hd : PgR S b db s fp) (hp : PageC S Hr c p) (hs : Small p) (hw : Hp w0 F S (fp ++ Hr) w) :
 Calls Tryz.prog 106 #[.pointer (some ⟨b, 0, none⟩), .agg c.toArray] w fun e w' => ∃ S' fp', e = .returned (.tuple #[.int .i64 (s.add p).2.1, .int .i64 (s.add p).2.2]) ∧ S.le S' ∧ PgR S' b db (s.add p).1 fp' ∧ Hp w0 F S' (fp' ++ Hr) w' := by
 have hd0 := hd
 obtain ⟨hok, lb, am, al, ac, lfp, dfp, cv, rfl, hl, hdk, hm, hch⟩ := hd
 have k0 := hok.s0
 have k1 := hok.s1
 have k2 := hok.txn
 have hp0 := hp
 obtain ⟨iv, kv, dv, xv, rfl, hi, hk, hdd, hx⟩ := hp
 obtain ⟨ia, ic, rfl, _⟩ := hi.form
 obtain ⟨ka, kc, rfl, _⟩ := hk.form
 obtain ⟨da, dc, rfl, _⟩ := hdd.form
 obtain ⟨xa, xc, rfl, _⟩ := hx.form
 simp only [List.cons_append, List.append_assoc] at hw
 refine enterA hw func106 rfl ntmps106 rfl rfl ?_
 refine sD ?_
 refine L.boxA rfl rfl rfl (fun b3 => ?_)
 refine sA rfl (sA rfl (sN (sC (sD (sM rfl ?_)))))
 refine L.call rfl rfl rfl call68 rfl (fun w hw => pgCheck_ok 2 (.tail .head) hw) ?_
 rintro _ a w hst ⟨rfl, hw⟩
 refine hst.go rfl hw ?_
 clear hst hw w a
 refine sA rfl (sE (sM rfl (sQb rfl (sN ?_))))
 refine C.cond rfl (fun h12 => ?_) (fun h12 => ?_)
 ·try simp only [sq] at h12
  refine sD (sM rfl (sA rfl (sA rfl (sN ?_))))
  refine R.ret2 results106 rfl rfl (fun w hw => ?_)
  have hdead : s.dead = true := by
   cases hdd : s.dead with
   | true => rfl
   | false => exfalso; apply h12; unfold pgChk; rw [hdd, if_neg (by decide), if_neg (by omega)]
  have e1 : s.add p = (s, 0, 10) := by unfold Pr.add; rw [if_pos hdead]
  have e2 : pgChk s.dead s.m.size 2 = 10 := by unfold pgChk; rw [if_pos hdead]
  rw [e1]
  exact ⟨S, _, by rw [e2], .refl S, hd0, Hp.re hw.drop zRe⟩
 ·try simp only [sq] at h12
  have hdead : s.dead = false := by
   cases hdd : s.dead with
   | false => rfl
   | true => exfalso; have h12' : pgChk s.dead s.m.size 2 = 0 := h12; unfold pgChk at h12'; rw [if_pos hdd] at h12'; omega
  (try unfold pgObj); unfold pgObjV
  refine sK (sD (sM rfl (sW rfl ?_)))
  refine L.w rfl (V.fa rfl underlying141 rfl rfl sizeOf139) ?_
  refine L.w rfl (V.fa rfl underlying139 rfl rfl sizeOf123) ?_
  refine L.w rfl (V.load rfl isAgg123 zAt (by rfl)) ?_
  refine L.w rfl (V.add (c := ((s.m.txn + 1 : Nat) : Int)) rfl rfl (by rw [IntKind.wrap_u64]; omega)) ?_
  refine L.w rfl (V.fa rfl underlying125 rfl rfl sizeOf123) ?_
  refine L.store rfl rfl rfl sizeOf123 rfl zUp zSet ?_
  refine sN (sC (sD ?_))
  refine L.w rfl (V.loadBox rfl isAgg125 sizeOf125 zAt (by rfl)) ?_
  have hp1 : PageC S Hr [.int .i64 (p.kind : Int), .int .u64 ((s.m.txn + 1 : Nat) : Int), .int .i64 (p.next : Int), .slice ia p.items.length ic, .slice ka p.kids.length kc, .slice da p.data.length dc, .slice xa p.ids.length xc] (p.at (s.m.txn + 1)) := ⟨_, _, _, _, rfl, hi, hk, hdd, hx⟩
  have hs1 : Small (p.at (s.m.txn + 1)) := ⟨hs.kind, by show s.m.txn + 1 < _; omega, hs.next, hs.items, hs.item, hs.kids, hs.kid, hs.data, hs.ids, hs.id⟩
  refine L.call rfl rfl rfl call144 rfl (fun w hw => right_ok (hp1.mono (.refl S) (fun q hq => by simp [hq])) hs1 hw) ?_
  rintro _ a w hst ⟨rfl, hw⟩
  refine hst.go rfl hw ?_
  clear hst hw w a
  refine sV rfl (sN ?_)
  refine C.cond rfl (fun h23 => ?_) (fun h23 => ?_)
  ·try simp only [sq] at h23
   refine sD (sA rfl (sA rfl (sN ?_)))
   refine R.ret2 results106 rfl rfl (fun w hw => ?_)
   have e1 : s.add p = (s, 0, 4) := by unfold Pr.add; rw [if_neg (by rw [hdead]; decide), if_pos h23]
   rw [e1]
   exact ⟨S, _, rfl, .refl S, hd0, Hp.re hw.drop zRe⟩
  ·try simp only [sq] at h23
   refine sK (sC (sC ?_))
   refine C.quiet (by kernel_rfl) (by kernel_rfl) (fun w hw => hw.drawn _) ?_
   refine tM rfl (tW rfl ?_)
   refine Q.v rfl rfl rfl (V.fa rfl underlying141 rfl rfl sizeOf62) ?_
   refine Q.v rfl rfl rfl (V.load rfl isAgg62 zAt (by rfl)) ?_
   refine Q.call (v := .int .i64 (s.list.spare.length : Int)) rfl rfl rfl rfl call71 rfl (fun w hw => (flRoom_ok hl (hw.take (.skip (.skip (.skip .done))))).mono (fun e w' h => ⟨h.1, Hp.re h.2 zRe⟩)) ?_
   refine tM rfl (tW rfl ?_)
   refine Q.v rfl rfl rfl (V.fa rfl underlying141 rfl rfl sizeOf139) ?_
   refine Q.v rfl rfl rfl (V.fa rfl underlying139 rfl rfl sizeOf3) ?_
   refine Q.v rfl rfl rfl (V.load rfl isAgg3 zAt (by rfl)) ?_
   refine Q.v rfl rfl rfl (V.quo (c := ((s.m.size / 60 : Nat) : Int)) rfl rfl (by decide) (by rw [Int.tdiv_eq_ediv_of_nonneg (by omega), w64 (by omega) (by omega)]; omega)) ?_
   refine Q.v rfl rfl rfl (V.add (c := ((s.m.size / 60 + 2 : Nat) : Int)) rfl rfl (by rw [w64 (by omega) (by omega)]; omega)) ?_
   refine tQc rfl (tN ?_)
   refine C.cond rfl (fun h36 => ?_) (fun h36 => ?_)
   ·try simp only [sq] at h36
    refine sD (sA rfl (sA rfl (sN ?_)))
    refine R.ret2 results106 rfl rfl (fun w hw => ?_)
    have e1 : s.add p = (s, 0, 9) := by unfold Pr.add; rw [if_neg (by rw [hdead]; decide), if_neg (fun h => h h23), if_pos (by omega)]
    rw [e1]
    exact ⟨S, _, rfl, .refl S, hd0, Hp.re hw.drop zRe⟩
   ·try simp only [sq] at h36
    refine sK (sD (sM rfl (sW rfl ?_)))
    refine L.w rfl (V.fa rfl underlying141 rfl rfl sizeOf62) ?_
    refine L.w rfl (V.load rfl isAgg62 zAt (by rfl)) ?_
    refine L.call rfl rfl rfl call73 rfl (fun w hw => flTake_ok hl (hw.take (.skip (.skip (.skip .done))))) ?_
    rintro _ a w hst htk
    obtain ⟨i, r, lfp2, hir, rfl, hl2, hw⟩ : ∃ i r fp', s.list.spare = i :: r ∧ _ = Ending.returned (.tuple #[.int .i64 i, .int .i64 0]) ∧ FlR S lb ⟨s.list.size, r, s.list.held⟩ fp' ∧ Hp w0 F S (fp' ++ _) w := by
     rcases htk with ⟨h0, _⟩ | h
     ·rw [h0] at h36; simp at h36; omega
     ·exact h
    refine hst.go rfl hw ?_
    clear hst htk hw w a
    refine sM rfl (sX rfl (sX rfl (sA rfl (sA rfl (sN (sC (sD (sM rfl (sQa rfl (sN (sO rfl ?_)))))))))))
    refine C.drawC [7] (Hp w0 F S ((b3, .cells #[.int .i64 (p.kind : Int), .int .u64 ((s.m.txn + 1 : Nat) : Int), .int .i64 (p.next : Int), .slice ia p.items.length ic, .slice ka p.kids.length kc, .slice da p.data.length dc, .slice xa p.ids.length xc] 125 (0, 0)) :: (b, pgObj db lb am s.m cv s.root s.dead) :: Hr)) (fun w h => h.sub zSub) (by kernel_rfl) rfl (fun w hw => hw.drawn _) ?_
    refine D.take 0 (listed' := #[true, false, false, false, false, false, false, false]) rfl (by kernel_rfl) rfl rfl rfl rfl (V.move rfl) (fun w h => h.sub zSub) ?_
    refine D.take 1 (listed' := #[true, true, false, false, false, false, false, false]) rfl (by kernel_rfl) rfl rfl rfl rfl (V.nilCheck rfl) (fun w h => h.sub zSub) ?_
    refine D.take 2 (listed' := #[true, true, true, false, false, false, false, false]) rfl (by kernel_rfl) rfl rfl rfl rfl (V.fa rfl underlying141 rfl rfl sizeOf63) (fun w h => h.sub zSub) ?_
    refine D.take 3 (listed' := #[true, true, true, true, false, false, false, false]) rfl (by kernel_rfl) rfl rfl rfl rfl (V.load rfl isAgg63 (.tail .head) (by rfl)) (fun w h => h.sub zSub) ?_
    refine D.take 4 (listed' := #[true, true, true, true, true, false, false, false]) rfl (by kernel_rfl) rfl rfl rfl rfl (V.move rfl) (fun w h => h.sub zSub) ?_
    refine D.take 5 (listed' := #[true, true, true, true, true, true, false, false]) rfl (by kernel_rfl) rfl rfl rfl rfl (V.loadBox rfl isAgg125 sizeOf125 zAt (by rfl)) (fun w h => h.sub zSub) ?_
    refine D.step 6 (listed' := #[true, true, true, true, true, true, true, false]) (by kernel_rfl) rfl rfl (.inr (fun w h => h.sub zSub)) ?_
    refine L.call rfl rfl rfl call135 rfl (fun w hw => twin_ok (hp1.mono (.refl S) (fun q hq => by simp [hq])) hs1 hw) ?_
    rintro _ a w hst ⟨S1, c1, f1, rfl, le1, ho1, hw⟩
    refine hst.go rfl hw ?_
    clear hst hw w a
    refine D.back ?_
    refine D.step 7 (listed' := #[true, true, true, true, true, true, true, true]) (by kernel_rfl) rfl rfl (.inr (fun w h => (h.less le1).sub zSub)) ?_
    refine L.shutP ho1 .done (fun S2 le2 hc1 => ?_)
    refine L.mapUpdate rfl rfl rfl rfl underlying63 underlying3 zUp ?_
    refine D.back ?_
    refine D.done (by kernel_rfl) (.inl ⟨7, by simp, rfl⟩) (N.seq ?_)
    refine sD (sM rfl (sM rfl (sA rfl (sA rfl (sN ?_)))))
    refine R.ret2 results106 rfl rfl (fun w hw => ?_)
    have e1 : s.add p = ({ s with list := ⟨s.list.size, r, s.list.held⟩, added := upd s.added i (some (p.at (s.m.txn + 1))) }, i, 0) := by
     unfold Pr.add
     rw [if_neg (by rw [hdead]; decide), if_neg (fun h => h h23), if_neg (by omega), hir]
    rw [e1]
    have le := le1.trans le2
    refine ⟨S2, (b, pgObj db lb am s.m cv s.root s.dead) :: (am, mobj (mput al i (.agg c1.toArray) ac) (mck al i ac)) :: (lfp2 ++ dfp), rfl, le, ⟨⟨hok.size, hok.dsize, hok.s0, hok.s1, hok.txn, hok.chain, fun j q hq => ?_, fun j q hq => ?_⟩, lb, am, _, _, lfp2, dfp, cv, rfl, hl2.mono le, hdk.mono le, (hm.mono le).put i ⟨c1, rfl, hc1⟩, hch.mono (Sees.le le _)⟩, ?_⟩
    ·simp only [upd] at hq
     split at hq
     ·rw [← Option.some.inj hq]; exact h23
     ·exact hok.right j q hq
    ·simp only [upd] at hq
     split at hq
     ·rw [← Option.some.inj hq]; rfl
     ·exact hok.atxn j q hq
    ·exact Hp.re (hw.sub (H' := lfp2 ++ ((b, pgObj db lb am s.m cv s.root s.dead) :: (am, mobj (mput al i (.agg c1.toArray) ac) (mck al i ac)) :: (dfp ++ Hr))) zSub) zRe
end
end Go.Proofs.YtijgbppkdaiikaaGreat

set_option linter.unusedSimpArgs false
set_option linter.unusedVariables false
namespace Go.Proofs.YtijgbppkdaiikaaGreat
open Go.Proofs.Tryz Go.Tk

def Fl.give (s : Fl) (i : Int) : Fl := if s.chk i = 0 then ⟨s.size, Fl.ins s.spare i, s.held⟩ else s
def Fl.hold (s : Fl) (i : Int) : Fl := if s.chk i = 0 then ⟨s.size, s.spare, Fl.ins s.held i⟩ else s
/-- What Drop does. -/
def Pr.drop (s : Pr) (id : Int) : Pr × Int :=
 if pgChk s.dead s.m.size id ≠ 0 then (s, pgChk s.dead s.m.size id) else
  match s.added id with
  | some _ => ({ s with list := s.list.give id, added := upd s.added id none }, s.list.chk id)
  | none => if id ∈ s.chain then (s, 8) else ({ s with list := s.list.hold id }, s.list.chk id)
theorem Fl.give_size (s : Fl) (i : Int) : (s.give i).size = s.size := by unfold Fl.give; split <;> rfl
theorem Fl.hold_size (s : Fl) (i : Int) : (s.hold i).size = s.size := by unfold Fl.hold; split <;> rfl

section
variable {w0 : World} {F : Nat → Prop} {S : Store} {Hr : Heap} {w : World}

theorem give_ok2 {b : Nat} {s : Fl} {fp : Heap} (hd : FlR S b s fp) (i : Int) (hw : Hp w0 F S (fp ++ Hr) w) :
 Calls Tryz.prog 75 #[.pointer (some ⟨b, 0, none⟩), .int .i64 i] w fun e w' => ∃ S' fp', e = .returned (.int .i64 (s.chk i)) ∧ S.le S' ∧ FlR S' b (s.give i) fp' ∧ Hp w0 F S' (fp' ++ Hr) w' :=
 (flGive_ok hd i hw).mono fun e w' ⟨S', s', fp', h1, h2, h3, h4, h5⟩ => ⟨S', fp', h1, h2, by
   unfold Fl.give
   rcases h4 with ⟨h, rfl⟩ | ⟨h, rfl⟩
   ·rw [if_pos h]; exact h3
   ·rw [if_neg h]; exact h3, h5⟩
theorem hold_ok2 {b : Nat} {s : Fl} {fp : Heap} (hd : FlR S b s fp) (i : Int) (hw : Hp w0 F S (fp ++ Hr) w) :
 Calls Tryz.prog 149 #[.pointer (some ⟨b, 0, none⟩), .int .i64 i] w fun e w' => ∃ S' fp', e = .returned (.int .i64 (s.chk i)) ∧ S.le S' ∧ FlR S' b (s.hold i) fp' ∧ Hp w0 F S' (fp' ++ Hr) w' :=
 (flHold_ok hd i hw).mono fun e w' ⟨S', s', fp', h1, h2, h3, h4, h5⟩ => ⟨S', fp', h1, h2, by
   unfold Fl.hold
   rcases h4 with ⟨h, rfl⟩ | ⟨h, rfl⟩
   ·rw [if_pos h]; exact h3
   ·rw [if_neg h]; exact h3, h5⟩

theorem page_form {S : Store} {v : Value} {p : Page} (h : PageV S v p) : ∃ y1 y2 y3 y4 y5 y6 y7, v = .agg #[y1, y2, y3, y4, y5, y6, y7] ∧ [y1, y2, y3, y4, y5, y6, y7].all (·.oneCell') = true := by
 obtain ⟨c, rfl, iv, kv, dv, xv, rfl, q1, q2, q3, q4⟩ := h
 obtain ⟨_, _, rfl, _⟩ := q1.form
 obtain ⟨_, _, rfl, _⟩ := q2.form
 obtain ⟨_, _, rfl, _⟩ := q3.form
 obtain ⟨_, _, rfl, _⟩ := q4.form
 exact ⟨_, _, _, _, _, _, _, rfl, rfl⟩

theorem pgDrop_ok {b db : Nat} {s : Pr} {fp : Heap} (hd : PgR S b db s fp) (id : Int) (hw : Hp w0 F S (fp ++ Hr) w) :
 Calls Tryz.prog 112 #[.pointer (some ⟨b, 0, none⟩), .int .i64 id] w fun e w' => ∃ S' fp', e = .returned (.int .i64 (s.drop id).2) ∧ S.le S' ∧ PgR S' b db (s.drop id).1 fp' ∧ Hp w0 F S' (fp' ++ Hr) w' := by
 have hd0 := hd
 obtain ⟨hok, lb, am, al, ac, lfp, dfp, cv, rfl, hl, hdk, hm, hch⟩ := hd
 simp only [List.cons_append, List.append_assoc] at hw
 obtain ⟨ca, cc, rfl, _⟩ := hch.form
 refine enterA hw func112 rfl ntmps112 rfl rfl ?_
 refine sD (sA rfl (sN (sC (sD (sM rfl (sM rfl ?_))))))
 refine L.call rfl rfl rfl call68 rfl (fun w hw => pgCheck_ok id .head hw) ?_
 rintro _ a w hst ⟨rfl, hw⟩
 refine hst.go rfl hw ?_
 clear hst hw w a
 refine sA rfl (sE (sM rfl (sQb rfl (sN ?_))))
 refine C.cond rfl (fun h12 => ?_) (fun h12 => ?_)
 ·try simp only [sq] at h12
  refine sD (sM rfl (sA rfl (sN ?_)))
  refine R.ret1 results112 rfl (fun w hw => ?_)
  have h12 : pgChk s.dead s.m.size id ≠ 0 := h12
  have e1 : s.drop id = (s, pgChk s.dead s.m.size id) := by unfold Pr.drop; rw [if_pos h12]
  rw [e1]
  exact ⟨S, _, rfl, .refl S, hd0, Hp.re hw zRe⟩
 ·try simp only [sq] at h12
  have h12 : ¬ pgChk s.dead s.m.size id ≠ 0 := fun h => h h12
  (try unfold pgObj); unfold pgObjV
  refine sK (sC (sD (sM rfl (sW rfl ?_))))
  refine L.w rfl (V.fa rfl underlying141 rfl rfl sizeOf63) ?_
  refine L.w rfl (V.load rfl isAgg63 zAt (by rfl)) ?_
  refine sM rfl ?_
  obtain ⟨v, hv⟩ : ∃ v, v = (mfind al id).getD (.agg zeroC.toArray) := ⟨_, rfl⟩
  obtain ⟨t, ht⟩ : ∃ t, t = (mfind al id).isSome := ⟨_, rfl⟩
  obtain ⟨y1, y2, y3, y4, y5, y6, y7, hy, hy1⟩ : ∃ y1 y2 y3 y4 y5 y6 y7, v = .agg #[y1, y2, y3, y4, y5, y6, y7] ∧ [y1, y2, y3, y4, y5, y6, y7].all (·.oneCell') = true := by
   rcases hm.get id with ⟨v1, p1, e1, e2, h1⟩ | ⟨e1, e2⟩
   ·rw [hv, e1]; exact page_form h1
   ·rw [hv, e1]; exact ⟨_, _, _, _, _, _, _, rfl, rfl⟩
  refine L.w rfl (V.lookup (v := .tuple #[v, .bool t]) rfl rfl underlying63 underlying3 zeroValue125 zAt (by rw [hv, ht]; rfl)) ?_
  subst hy
  refine sM rfl (sX rfl (sX rfl ?_))
  refine L.allocA rfl rfl zeroValue125 (fun b6 => ?_)
  refine L.storeBox rfl rfl rfl sizeOf125 rfl rfl hy1 zUp ?_
  refine sA rfl (sE (sM rfl (sN ?_)))
  refine C.cond rfl (fun h23 => ?_) (fun h23 => ?_)
  ·try simp only [sq] at h23
   refine sD (sM rfl (sW rfl ?_))
   refine L.w rfl (V.fa rfl underlying141 rfl rfl sizeOf63) ?_
   refine L.w rfl (V.load rfl isAgg63 zAt (by rfl)) ?_
   refine sM rfl ?_
   obtain ⟨p, hp⟩ : ∃ p, s.added id = some p := by
    rcases hm.get id with ⟨v1, p1, e1, e2, h1⟩ | ⟨e1, e2⟩
    ·exact ⟨p1, e2⟩
    ·rw [ht, e1] at h23; cases h23
   refine L.delete rfl rfl rfl underlying63 underlying3 zUp ?_
   refine sE (sM rfl (sW rfl ?_))
   refine L.w rfl (V.fa rfl underlying141 rfl rfl sizeOf62) ?_
   refine L.w rfl (V.load rfl isAgg62 zAt (by rfl)) ?_
   refine sM rfl ?_
   refine L.call rfl rfl rfl call75 rfl (fun w hw => give_ok2 hl id (hw.take (.skip (.skip (.skip .done))))) ?_
   rintro _ a w hst ⟨S1, l1, rfl, le1, hl1, hw⟩
   refine hst.go rfl hw ?_
   clear hst hw w a
   refine sA rfl (sN ?_)
   refine R.ret1 results112 rfl (fun w hw => ?_)
   have e1 : s.drop id = ({ s with list := s.list.give id, added := upd s.added id none }, s.list.chk id) := by unfold Pr.drop; rw [if_neg h12, hp]
   rw [e1]
   refine ⟨S1, (b, pgObj db lb am s.m (.slice ca s.chain.length cc) s.root s.dead) :: (am, mobj (mdel al id) ac) :: (l1 ++ dfp), rfl, le1, ⟨⟨by show (s.list.give id).size = _; rw [Fl.give_size]; exact hok.size, hok.dsize, hok.s0, hok.s1, hok.txn, hok.chain, fun j q hq => ?_, fun j q hq => ?_⟩, lb, am, _, _, l1, dfp, _, rfl, hl1, hdk.mono le1, (hm.mono le1).del id, hch.mono (Sees.le le1 _)⟩, ?_⟩
   ·simp only [upd] at hq
    split at hq
    ·cases hq
    ·exact hok.right j q hq
   ·simp only [upd] at hq
    split at hq
    ·cases hq
    ·exact hok.atxn j q hq
   ·exact Hp.re (hw.sub (H' := l1 ++ ((b, pgObj db lb am s.m (.slice ca s.chain.length cc) s.root s.dead) :: (am, mobj (mdel al id) ac) :: (dfp ++ Hr))) zSub) zRe
  ·try simp only [sq] at h23
   refine sK (sC (sD (sM rfl (sW rfl ?_))))
   refine L.w rfl (V.fa rfl underlying141 rfl rfl sizeOf37) ?_
   refine L.w rfl (V.load rfl isAgg37 zAt (by rfl)) ?_
   refine sM rfl ?_
   have hnone : s.added id = none := by
    rcases hm.get id with ⟨v1, p1, e1, e2, _⟩ | ⟨e1, e2⟩
    ·rw [ht, e1] at h23; cases h23
    ·exact e2
   refine L.call rfl rfl rfl call88 rfl (fun w hw => contains_ok (hch.lift _) (by have := hok.chain; omega) id hw) ?_
   rintro _ a w hst ⟨rfl, hw⟩
   refine hst.go rfl hw ?_
   clear hst hw w a
   refine sN ?_
   refine C.cond rfl (fun h40 => ?_) (fun h40 => ?_)
   ·try simp only [sq] at h40
    refine sD (sA rfl (sN ?_))
    refine R.ret1 results112 rfl (fun w hw => ?_)
    have e1 : s.drop id = (s, 8) := by unfold Pr.drop; rw [if_neg h12, hnone]; exact if_pos h40
    rw [e1]
    exact ⟨S, _, rfl, .refl S, hd0, Hp.re hw.drop zRe⟩
   ·try simp only [sq] at h40
    refine sK (sD (sM rfl (sW rfl ?_)))
    refine L.w rfl (V.fa rfl underlying141 rfl rfl sizeOf62) ?_
    refine L.w rfl (V.load rfl isAgg62 zAt (by rfl)) ?_
    refine sM rfl ?_
    refine L.call rfl rfl rfl call149 rfl (fun w hw => hold_ok2 hl id (hw.take (.skip (.skip (.skip .done))))) ?_
    rintro _ a w hst ⟨S1, l1, rfl, le1, hl1, hw⟩
    refine hst.go rfl hw ?_
    clear hst hw w a
    refine sA rfl (sN ?_)
    refine R.ret1 results112 rfl (fun w hw => ?_)
    have e1 : s.drop id = ({ s with list := s.list.hold id }, s.list.chk id) := by unfold Pr.drop; rw [if_neg h12, hnone]; exact if_neg h40
    rw [e1]
    refine ⟨S1, (b, pgObj db lb am s.m (.slice ca s.chain.length cc) s.root s.dead) :: (am, mobj al ac) :: (l1 ++ dfp), rfl, le1, ⟨⟨by show (s.list.hold id).size = _; rw [Fl.hold_size]; exact hok.size, hok.dsize, hok.s0, hok.s1, hok.txn, hok.chain, hok.right, hok.atxn⟩, lb, am, _, _, l1, dfp, _, rfl, hl1, hdk.mono le1, hm.mono le1, hch.mono (Sees.le le1 _)⟩, ?_⟩
    exact Hp.re (hw.sub (H' := l1 ++ ((b, pgObj db lb am s.m (.slice ca s.chain.length cc) s.root s.dead) :: (am, mobj al ac) :: (dfp ++ Hr))) zSub) zRe
end
end Go.Proofs.YtijgbppkdaiikaaGreat

set_option linter.unusedSimpArgs false
set_option linter.unusedVariables false
namespace Go.Proofs.YtijgbppkdaiikaaGreat
open Go.Proofs.Tryz Go.Tk

noncomputable def Pr.page (s : Pr) (id : Int) : Option Page := pgP s.dead s.m.size s.added s.dk id
noncomputable def Pr.err (s : Pr) (id : Int) : Int := pgE s.dead s.m.size s.added s.dk id

section
variable {w0 : World} {F : Nat → Prop} {S : Store} {Hr : Heap} {w : World}

theorem prRead_ok {b db : Nat} {s : Pr} {fp : Heap} (hd : PgR S b db s fp) (id : Int) (hw : Hp w0 F S (fp ++ Hr) w) :
 Calls Tryz.prog 89 #[.pointer (some ⟨b, 0, none⟩), .int .i64 id] w fun e w' => ∃ S' c f, e = .returned (.tuple #[.agg c.toArray, .int .i64 (s.err id)]) ∧ S.le S' ∧ PgR S' b db s fp ∧ ((∃ p, s.page id = some p ∧ s.err id = 0 ∧ PageO S' c p f) ∨ (s.page id = none ∧ s.err id ≠ 0 ∧ c = zeroC ∧ f = [])) ∧ Hp w0 F S' (f ++ (fp ++ Hr)) w' := by
 have hd0 := hd
 obtain ⟨hok, lb, am, al, ac, lfp, dfp, cv, rfl, hl, hdk, hm, hch⟩ := hd
 simp only [List.cons_append, List.append_assoc] at hw
 refine (pgRead_ok (Hr := lfp ++ Hr) hdk hm hok.small id (hw.re zRe)).mono fun e w' h => ?_
 obtain ⟨S', c, f, h1, h2, h3, h4⟩ := h
 exact ⟨S', c, f, h1, h2, hd0.mono h2, h3, Hp.re h4 zRe⟩

theorem prSpare_ok {b db : Nat} {s : Pr} {fp : Heap} (hd : PgR S b db s fp) (hw : Hp w0 F S (fp ++ Hr) w) :
 Calls Tryz.prog 18 #[.pointer (some ⟨b, 0, none⟩)] w fun e w' => ∃ v f, e = .returned v ∧ Own 3 1 v s.list.spare.length (s.list.spare.map iv) f ∧ Hp w0 F S (f ++ (fp ++ Hr)) w' := by
 obtain ⟨hok, lb, am, al, ac, lfp, dfp, cv, rfl, hl, hdk, hm, hch⟩ := hd
 simp only [List.cons_append, List.append_assoc] at hw
 (try unfold pgObj at *); unfold pgObjV at *
 refine enterA hw func18 rfl ntmps18 rfl rfl ?_
 refine sD (sA rfl (sN (sC (sD (sM rfl ?_)))))
 refine L.w rfl (V.eqlPtr rfl rfl underlying27) ?_
 refine sN (sP rfl (sK (sD (sM rfl (sW rfl ?_)))))
 refine L.w rfl (V.fa rfl underlying141 rfl rfl sizeOf62) ?_
 refine L.w rfl (V.load rfl isAgg62 zAt (by rfl)) ?_
 refine L.call rfl rfl rfl call64 rfl (fun w hw => flSpare_ok hl (hw.take (.skip (.skip .done)))) ?_
 rintro _ a w hst ⟨v9, f9, rfl, ho, hw⟩
 refine hst.go rfl hw ?_
 clear hst hw w a
 refine sA rfl (sN ?_)
 refine R.ret1 results18 rfl (fun w hw => ?_)
 exact ⟨_, f9, rfl, ho, Hp.re hw zRe⟩

theorem prRoot_ok {b db : Nat} {s : Pr} {fp : Heap} (hd : PgR S b db s fp) (hw : Hp w0 F S (fp ++ Hr) w) :
 Calls Tryz.prog 24 #[.pointer (some ⟨b, 0, none⟩)] w fun e w' => e = .returned (.int .i64 (s.root : Int)) ∧ Hp w0 F S (fp ++ Hr) w' := by
 obtain ⟨hok, lb, am, al, ac, lfp, dfp, cv, rfl, hl, hdk, hm, hch⟩ := hd
 (try unfold pgObj at *); unfold pgObjV at *
 refine enterA hw func24 rfl ntmps24 rfl rfl ?_
 refine sD (sA rfl (sN (sC (sD (sM rfl ?_)))))
 refine L.w rfl (V.eqlPtr rfl rfl underlying27) ?_
 refine sN (sP rfl (sK (sD (sM rfl (sW rfl ?_)))))
 refine L.w rfl (V.fa rfl underlying141 rfl rfl sizeOf3) ?_
 refine L.w rfl (V.load rfl isAgg3 zAt (by rfl)) ?_
 refine sA rfl (sN ?_)
 refine R.ret1 results24 rfl (fun w hw => ?_)
 exact ⟨rfl, hw⟩

def Pr.setRoot (s : Pr) (r : Nat) : Pr := if s.dead then s else { s with root := r }
theorem prSetRoot_ok {b db : Nat} {s : Pr} {fp : Heap} (hd : PgR S b db s fp) (r : Nat) (hw : Hp w0 F S (fp ++ Hr) w) :
 Calls Tryz.prog 20 #[.pointer (some ⟨b, 0, none⟩), .int .i64 (r : Int)] w fun e w' => ∃ fp', e = .returned (.tuple #[]) ∧ PgR S b db (s.setRoot r) fp' ∧ Hp w0 F S (fp' ++ Hr) w' := by
 have hd0 := hd
 obtain ⟨hok, lb, am, al, ac, lfp, dfp, cv, rfl, hl, hdk, hm, hch⟩ := hd
 (try unfold pgObj at *); unfold pgObjV at *
 refine enterA hw func20 rfl ntmps20 rfl rfl ?_
 refine sD (sM rfl ?_)
 refine L.w rfl (V.neqPtr rfl rfl underlying27) ?_
 refine sM rfl ?_
 refine L.know (d := 6) (u := .bool true) rfl (congrArg Value.bool rfl) ?_
 refine sM rfl (sW rfl ?_)
 refine L.w rfl (V.fa rfl underlying141 rfl rfl sizeOf4) ?_
 refine L.w rfl (V.load rfl isAgg4 zAt (by rfl)) ?_
 refine sV rfl (sT rfl (sN ?_))
 refine C.cond rfl (fun h12 => ?_) (fun h12 => ?_)
 ·try simp only [sq] at h12
  refine sR (sM rfl (sM rfl (sW rfl ?_)))
  refine L.w rfl (V.fa rfl underlying141 rfl rfl sizeOf3) ?_
  refine L.store rfl rfl rfl sizeOf3 rfl zUp zSet ?_
  refine L.nil ?_
  refine R.fall0 results20 (fun w hw => ?_)
  unfold Pr.setRoot
  first
   | (rw [if_neg (by rw [h12]; decide)]
      exact ⟨(b, pgObj db lb am s.m cv r s.dead) :: (am, mobj al ac) :: (lfp ++ dfp), rfl, ⟨⟨hok.size, hok.dsize, hok.s0, hok.s1, hok.txn, hok.chain, hok.right, hok.atxn⟩, lb, am, al, ac, lfp, dfp, cv, rfl, hl, hdk, hm, hch⟩, hw⟩)
   | (rw [if_pos h12]; exact ⟨_, rfl, hd0, hw⟩)
 ·try simp only [sq] at h12
  refine C.skip ?_
  refine R.fall0 results20 (fun w hw => ?_)
  unfold Pr.setRoot
  first
   | (rw [if_neg (by rw [h12]; decide)]
      exact ⟨(b, pgObj db lb am s.m cv r s.dead) :: (am, mobj al ac) :: (lfp ++ dfp), rfl, ⟨⟨hok.size, hok.dsize, hok.s0, hok.s1, hok.txn, hok.chain, hok.right, hok.atxn⟩, lb, am, al, ac, lfp, dfp, cv, rfl, hl, hdk, hm, hch⟩, hw⟩)
   | (rw [if_pos h12]; exact ⟨_, rfl, hd0, hw⟩)
end
end Go.Proofs.YtijgbppkdaiikaaGreat

set_option linter.unusedSimpArgs false
set_option linter.unusedVariables false
namespace Go.Proofs.YtijgbppkdaiikaaGreat
open Go.Proofs.Tryz Go.Tk

section
variable {w0 : World} {F : Nat → Prop} {S : Store} {Hr : Heap} {w : World}

theorem run_mapsClone {H : Heap} {T r ck : Nat} {l : List Ent} {w : World} (ha : At S r (mobj l ck) H) (hw : Hp w0 F S H w) :
 ∃ w', (callFunc 138 #[.iface T (.map (some r))]).run Tryz.prog w = .ok (.value (.iface T (.map (some w.heap.size)))) w' ∧ Hp w0 F S ((w.heap.size, mobj l ck) :: H) w' := by
 have h1 : (getObj r).run Tryz.prog w = .ok (.map (l.map Ent.m).toArray ck) w := MapKept.run_getObj_map (hw.at ha)
 have h2 : (Extern.MapsClone.clone #[.iface T (.map (some r))]).run Tryz.prog w = .ok (.iface T (.map (some w.heap.size))) { w with heap := w.heap.push (mobj l ck) } := by
  change Sem.run Tryz.prog (do
   let .map entries clock ← getObj r | stuck "maps.clone: a map expected"
   pure (Value.iface T (.map (some (← newObj (.map entries clock)))))) w = _
  simp only [Sem.run_bind, h1, Result.andThen_ok]
  simp [newObj, Sem.run]
  rfl
 refine ⟨_, ?_, hw.alloc (mobj l ck)⟩
 rw [run_callFunc_extern func138 (by kernel_rfl) (by kernel_rfl) (by kernel_rfl) (e := Extern.MapsClone.clone) (by kernel_rfl), h2]
 rfl

theorem mapsClone_ok {r ck : Nat} {l : List Ent} {H : Heap} (ha : At S r (mobj l ck) H) (hw : Hp w0 F S H w) :
 Calls Tryz.prog 93 #[.map (some r)] w fun e w' => ∃ b, e = .returned (.map (some b)) ∧ Hp w0 F S ((b, mobj l ck) :: H) w' := by
 refine enterA hw func93 rfl ntmps93 rfl rfl ?_
 refine sD (sA rfl (sN (sC (sD (sM rfl ?_)))))
 refine L.w rfl (V.eqlMap rfl rfl underlying63) ?_
 refine sN (sP rfl (sK (sD (sM rfl ?_))))
 refine L.w rfl (V.ifaceMap rfl underlying63) ?_
 refine (fun a w hs hA => ?_)
 obtain ⟨w', h1, h2⟩ := run_mapsClone (T := 63) ha hA
 refine (L.extern (A := fun w1 => w1 = w) (A' := Hp w0 F S ((w.heap.size, mobj l ck) :: H)) (args := #[.iface 63 (.map (some r))]) (v := .iface 63 (.map (some w.heap.size))) rfl rfl rfl rfl rfl (fun w1 e => ⟨w', by rw [e]; exact h1, h2⟩) ?_) a w hs rfl
 refine L.w rfl (V.assertMap rfl underlying63) ?_
 refine sA rfl (sN ?_)
 refine R.ret1 results93 rfl (fun w hw => ?_)
 exact ⟨_, rfl, hw⟩
end
end Go.Proofs.YtijgbppkdaiikaaGreat
