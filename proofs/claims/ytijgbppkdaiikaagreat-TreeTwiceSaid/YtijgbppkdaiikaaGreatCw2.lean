/- The walks, joined. -/
import Derived.Test.YtijgbppkdaiikaaGreatCw1
set_option linter.unusedSimpArgs false
set_option linter.unusedVariables false
namespace Go.Proofs.YtijgbppkdaiikaaGreat
open Go.Proofs.Tryz Go.Tk

/-- A reader in memory. -/
def rdObj (v : Value) (at_ : Nat) (e : Int) : Obj := .cells #[v, .int .i64 (at_ : Int), .int .i64 e] 304 (0, 0)

/-- A number read: the number, the place, the error. -/
def numR (l : List UInt8) (at_ : Nat) (e : Int) (size : Nat) : Nat × Nat × Int :=
 if e ≠ 0 then (0, at_, e) else ((getN l at_ size).1, if (getN l at_ size).2 = 0 then at_ + size else at_, (getN l at_ size).2)
def bytesR (l : List UInt8) (at_ : Nat) (e : Int) (n : Int) : List UInt8 × Nat × Int :=
 if e ≠ 0 then ([], at_, e) else if n < 0 ∨ (l.length : Int) - at_ < n then ([], at_, 3) else ((l.drop at_).take n.toNat, at_ + n.toNat, 0)

theorem getN_at {l : List UInt8} {at_ size : Nat} (h : (getN l at_ size).2 = 0) (h1 : 1 ≤ size) (h8 : size ≤ 8) : at_ + size ≤ l.length := by
 unfold getN at h
 rw [if_neg (by omega)] at h
 split at h
 ·simp at h
 ·omega
theorem numR_at {l : List UInt8} {at_ size : Nat} {e : Int} (h1 : 1 ≤ size) (h8 : size ≤ 8) (ha : at_ ≤ l.length) : (numR l at_ e size).2.1 ≤ l.length := by
 unfold numR
 split
 ·exact ha
 ·show (if (getN l at_ size).2 = 0 then at_ + size else at_) ≤ _
  split
  ·rename_i h; exact getN_at h h1 h8
  ·exact ha
theorem bytesR_at {l : List UInt8} {at_ : Nat} {e n : Int} (ha : at_ ≤ l.length) : (bytesR l at_ e n).2.1 ≤ l.length := by
 unfold bytesR
 split
 ·exact ha
 ·split
  ·exact ha
  ·show at_ + n.toNat ≤ _; omega
theorem numR_lt (l : List UInt8) (at_ : Nat) (e : Int) (size : Nat) : (numR l at_ e size).1 < 256 ^ size := by
 unfold numR
 split
 ·exact Nat.pow_pos (by decide)
 ·unfold getN
  split
  ·exact Nat.pow_pos (by decide)
  ·split
   ·exact Nat.pow_pos (by decide)
   ·have := be_lt ((l.drop (at_ : Int).toNat).take (size : Int).toNat)
    refine Nat.lt_of_lt_of_le this (Nat.pow_le_pow_right (by decide) (by simp; omega))

section
variable {w0 : World} {F : Nat → Prop} {S : Store} {Hr : Heap} {w : World}

theorem over_ok {b : Nat} {v : Value} {at_ : Nat} {e : Int} (hw : Hp w0 F S ((b, rdObj v at_ e) :: Hr) w) :
 Calls Tryz.prog 204 #[.pointer (some ⟨b, 0, none⟩)] w fun e' w' => e' = .returned (.bool (e != 0)) ∧ Hp w0 F S ((b, rdObj v at_ e) :: Hr) w' := by
 unfold rdObj at *
 refine enterA hw func204 rfl ntmps204 rfl rfl ?_
 refine sD (sA rfl (sE (sM rfl ?_)))
 refine L.w rfl (V.eqlPtr rfl rfl underlying278) ?_
 refine sM rfl ?_
 refine L.know (d := 5) (u := .bool false) rfl (congrArg Value.bool rfl) ?_
 refine sM rfl (sW rfl ?_)
 refine L.w rfl (V.fa rfl underlying304 rfl rfl sizeOf32) ?_
 refine L.w rfl (V.load rfl isAgg32 zAt (by rfl)) ?_
 refine sQb rfl (sU rfl (sA rfl (sN ?_)))
 refine R.ret1 results204 rfl (fun w hw => ?_)
 exact ⟨rfl, hw⟩

theorem num_ok {b : Nat} {v : Value} {l : List UInt8} {at_ size : Nat} {e : Int} (hb : Bs S Hr v l) (h1 : 1 ≤ size) (h8 : size ≤ 8) (ha : at_ ≤ l.length) (hl : l.length ≤ 1000000) (hw : Hp w0 F S ((b, rdObj v at_ e) :: Hr) w) :
 Calls Tryz.prog 176 #[.pointer (some ⟨b, 0, none⟩), .int .i64 size] w fun e' w' => e' = .returned (.int .u64 ((numR l at_ e size).1 : Int)) ∧ Hp w0 F S ((b, rdObj v (numR l at_ e size).2.1 (numR l at_ e size).2.2) :: Hr) w' := by
 refine enterA hw func176 rfl ntmps176 rfl rfl ?_
 refine sD (sA rfl (sN (sC (sD (sM rfl ?_)))))
 refine L.call rfl rfl rfl call204 rfl (fun w hw => over_ok hw) ?_
 rintro _ a w hst ⟨rfl, hw⟩
 refine hst.go rfl hw ?_
 clear hst hw w a
 refine sN ?_
 refine C.cond rfl (fun h8 => ?_) (fun h8 => ?_)
 ·try simp only [sq] at h8
  refine sD (sA rfl (sN ?_))
  refine R.ret1 results176 rfl (fun w hw => ?_)
  refine ⟨?_, ?_⟩
  ·unfold numR; rw [if_pos (by omega)]; rfl
  ·unfold numR; rw [if_pos (by omega)]; exact hw
 ·try simp only [sq] at h8
  refine sK (sC ?_)
  have he : e = 0 := by omega
  subst he
  unfold rdObj
  refine C.quiet (by kernel_rfl) (by kernel_rfl) (fun w hw => hw.drawn _) ?_
  refine tM rfl (tW rfl ?_)
  refine Q.v rfl rfl rfl (V.fa rfl underlying304 rfl rfl sizeOf22) ?_
  refine Q.v rfl rfl rfl (V.load rfl isAgg22 zAt (by rfl)) ?_
  refine tM rfl (tW rfl ?_)
  refine Q.v rfl rfl rfl (V.fa rfl underlying304 rfl rfl sizeOf3) ?_
  refine Q.v rfl rfl rfl (V.load rfl isAgg3 zAt (by rfl)) ?_
  refine tM rfl ?_
  refine Q.call rfl rfl rfl rfl call139 rfl (fun w hw => get_ok (hb.mono (Sees.cons _ _ _)) (at_ : Int) (size : Int) (by omega) (by omega) (by omega) hw) ?_
  refine tM rfl (tX rfl (tX rfl (tA rfl (tA rfl (tN (sC (sD (sM rfl (sM rfl (sW rfl ?_))))))))))
  refine L.w rfl (V.fa rfl underlying304 rfl rfl sizeOf32) ?_
  refine L.store rfl rfl rfl sizeOf32 rfl zUp zSet ?_
  refine sE (sM rfl (sQa rfl (sN ?_)))
  refine C.cond rfl (fun h27 => ?_) (fun h27 => ?_)
  ·try simp only [sq] at h27
   refine sR (sM rfl (sW rfl ?_))
   refine L.w rfl (V.fa rfl underlying304 rfl rfl sizeOf3) ?_
   refine L.w rfl (V.load rfl isAgg3 zAt (by rfl)) ?_
   refine sM rfl ?_
   refine L.w rfl (V.add (c := ((at_ + size : Nat) : Int)) rfl rfl (by rw [w64 (by omega) (by omega)]; omega)) ?_
   refine sW rfl ?_
   refine L.w rfl (V.fa rfl underlying304 rfl rfl sizeOf3) ?_
   refine L.store rfl rfl rfl sizeOf3 rfl zUp zSet ?_
   refine sE (sM rfl (sA rfl (sN ?_)))
   refine R.ret1 results176 rfl (fun w hw => ?_)
   unfold numR
   rw [if_neg (by omega)]
   first
    | (refine ⟨rfl, ?_⟩; rw [if_pos h27]; exact hw)
    | (refine ⟨rfl, ?_⟩; rw [if_neg h27]; exact hw)
  ·try simp only [sq] at h27
   refine sK (sD (sM rfl (sA rfl (sN ?_))))
   refine R.ret1 results176 rfl (fun w hw => ?_)
   unfold numR
   rw [if_neg (by omega)]
   first
    | (refine ⟨rfl, ?_⟩; rw [if_pos h27]; exact hw)
    | (refine ⟨rfl, ?_⟩; rw [if_neg h27]; exact hw)

theorem bytes_ok {b : Nat} {v : Value} {l : List UInt8} {at_ : Nat} {n e : Int} (hb : Bs S Hr v l) (hn0 : -1000000 ≤ n) (hn1 : n ≤ 1000000000) (ha : at_ ≤ l.length) (hl : l.length ≤ 1000000) (hw : Hp w0 F S ((b, rdObj v at_ e) :: Hr) w) :
 Calls Tryz.prog 177 #[.pointer (some ⟨b, 0, none⟩), .int .i64 n] w fun e' w' => ∃ v' fp, e' = .returned v' ∧ Own 5 1 v' (bytesR l at_ e n).1.length ((bytesR l at_ e n).1.map bv) fp ∧ Hp w0 F S (fp ++ (b, rdObj v (bytesR l at_ e n).2.1 (bytesR l at_ e n).2.2) :: Hr) w' := by
 obtain ⟨ad, c, rfl, hlc, hc63⟩ := hb.form
 refine enterA hw func177 rfl ntmps177 rfl rfl ?_
 refine sD (sA rfl (sN (sC (sD (sM rfl ?_)))))
 refine L.call rfl rfl rfl call204 rfl (fun w hw => over_ok hw) ?_
 rintro _ a w hst ⟨rfl, hw⟩
 refine hst.go rfl hw ?_
 clear hst hw w a
 refine sN ?_
 refine C.cond rfl (fun h6 => ?_) (fun h6 => ?_)
 ·try simp only [sq] at h6
  refine sD (sA rfl (sN ?_))
  refine R.ret1 results177 rfl (fun w hw => ?_)
  refine ⟨_, [], rfl, ?_, ?_⟩
  ·unfold bytesR; rw [if_pos (by omega)]; exact Own.nil _ _
  ·unfold bytesR; rw [if_pos (by omega)]; exact hw
 ·try simp only [sq] at h6
  refine sK (sC (sC ?_))
  have he : e = 0 := by omega
  subst he
  unfold rdObj
  refine C.quiet (by kernel_rfl) (by kernel_rfl) (fun w hw => hw.drawn _) ?_
  refine tM rfl (tQc rfl (tM rfl ?_))
  refine Q.fork (d := 9) rfl (fun h9 => ?_) (fun h9 => ?_)
  ·try simp only [sq] at h9
   refine tS rfl (tS rfl (tS rfl (tS rfl (tS rfl (tS rfl (tS rfl (tS rfl (tS rfl (tS rfl (tS rfl (tS rfl (tT rfl (tN ?_)))))))))))))
   refine sO rfl (sD (sM rfl (sW rfl ?_)))
   refine L.w rfl (V.fa rfl underlying304 rfl rfl sizeOf32) ?_
   refine L.store rfl rfl rfl sizeOf32 rfl zUp zSet ?_
   refine sE (sA rfl (sN ?_))
   refine R.ret1 results177 rfl (fun w hw => ?_)
   refine ⟨_, [], rfl, ?_, ?_⟩
   ·unfold bytesR; rw [if_neg (by omega), if_pos (by omega)]; exact Own.nil _ _
   ·unfold bytesR; rw [if_neg (by omega), if_pos (by omega)]; exact hw
  ·try simp only [sq] at h9
   refine tM rfl (tM rfl (tW rfl ?_))
   refine Q.v rfl rfl rfl (V.fa rfl underlying304 rfl rfl sizeOf22) ?_
   refine Q.v rfl rfl rfl (V.load rfl isAgg22 zAt (by rfl)) ?_
   refine Q.v rfl rfl rfl (V.len rfl underlying22) ?_
   refine tM rfl (tW rfl ?_)
   refine Q.v rfl rfl rfl (V.fa rfl underlying304 rfl rfl sizeOf3) ?_
   refine Q.v rfl rfl rfl (V.load rfl isAgg3 zAt (by rfl)) ?_
   refine Q.v rfl rfl rfl (V.sub rfl rfl (w64 (by omega) (by omega))) ?_
   refine tQe rfl (tU rfl (tN ?_))
   refine C.cond rfl (fun h22 => ?_) (fun h22 => ?_)
   ·try simp only [sq] at h22
    refine sD (sM rfl (sW rfl ?_))
    refine L.w rfl (V.fa rfl underlying304 rfl rfl sizeOf32) ?_
    refine L.store rfl rfl rfl sizeOf32 rfl zUp zSet ?_
    refine sE (sA rfl (sN ?_))
    refine R.ret1 results177 rfl (fun w hw => ?_)
    refine ⟨_, [], rfl, ?_, ?_⟩
    ·unfold bytesR; rw [if_neg (by omega), if_pos (by omega)]; exact Own.nil _ _
    ·unfold bytesR; rw [if_neg (by omega), if_pos (by omega)]; exact hw
   ·try simp only [sq] at h22
    refine sK (sD (sM rfl (sW rfl ?_)))
    refine L.w rfl (V.fa rfl underlying304 rfl rfl sizeOf3) ?_
    obtain ⟨q, rfl⟩ := Int.eq_ofNat_of_zero_le (show 0 ≤ n by omega)
    refine L.w rfl (V.load rfl isAgg3 .head (by rfl)) ?_
    refine sM rfl ?_
    refine L.w rfl (V.add (c := ((at_ + q : Nat) : Int)) rfl rfl (by rw [w64 (by omega) (by omega)]; omega)) ?_
    refine sW rfl ?_
    refine L.w rfl (V.fa rfl underlying304 rfl rfl sizeOf3) ?_
    refine L.store rfl rfl rfl sizeOf3 rfl zUp zSet ?_
    refine sN (sC ?_)
    refine C.draw [] (by kernel_rfl) rfl (fun w hw => hw.drawn _) ?_
    refine D.take 1 (listed' := #[false, true, false, false, false, false, false, false, false, false, false, false, false, false, false, false, false, false]) rfl (by kernel_rfl) rfl rfl rfl rfl (V.move rfl) (fun w h => h) ?_
    refine D.take 2 (listed' := #[false, true, true, false, false, false, false, false, false, false, false, false, false, false, false, false, false, false]) rfl (by kernel_rfl) rfl rfl rfl rfl (V.nilCheck rfl) (fun w h => h) ?_
    refine D.take 3 (listed' := #[false, true, true, true, false, false, false, false, false, false, false, false, false, false, false, false, false, false]) rfl (by kernel_rfl) rfl rfl rfl rfl (V.fa rfl underlying304 rfl rfl sizeOf22) (fun w h => h) ?_
    refine D.take 4 (listed' := #[false, true, true, true, true, false, false, false, false, false, false, false, false, false, false, false, false, false]) rfl (by kernel_rfl) rfl rfl rfl rfl (V.load rfl isAgg22 zAt (by rfl)) (fun w h => h) ?_
    refine D.take 5 (listed' := #[false, true, true, true, true, true, false, false, false, false, false, false, false, false, false, false, false, false]) rfl (by kernel_rfl) rfl rfl rfl rfl (V.move rfl) (fun w h => h) ?_
    refine D.take 6 (listed' := #[false, true, true, true, true, true, true, false, false, false, false, false, false, false, false, false, false, false]) rfl (by kernel_rfl) rfl rfl rfl rfl (V.nilCheck rfl) (fun w h => h) ?_
    refine D.take 7 (listed' := #[false, true, true, true, true, true, true, true, false, false, false, false, false, false, false, false, false, false]) rfl (by kernel_rfl) rfl rfl rfl rfl (V.fa rfl underlying304 rfl rfl sizeOf3) (fun w h => h) ?_
    refine D.take 8 (listed' := #[false, true, true, true, true, true, true, true, true, false, false, false, false, false, false, false, false, false]) rfl (by kernel_rfl) rfl rfl rfl rfl (V.load rfl isAgg3 zAt (by rfl)) (fun w h => h) ?_
    refine D.take 9 (listed' := #[false, true, true, true, true, true, true, true, true, true, false, false, false, false, false, false, false, false]) rfl (by kernel_rfl) rfl rfl rfl rfl (V.move rfl) (fun w h => h) ?_
    refine D.take 10 (listed' := #[false, true, true, true, true, true, true, true, true, true, true, false, false, false, false, false, false, false]) rfl (by kernel_rfl) rfl rfl rfl rfl (V.sub (c := (at_ : Int)) rfl rfl (by rw [w64 (by omega) (by omega)]; omega)) (fun w h => h) ?_
    refine D.take 11 (listed' := #[false, true, true, true, true, true, true, true, true, true, true, true, false, false, false, false, false, false]) rfl (by kernel_rfl) rfl rfl rfl rfl (V.move rfl) (fun w h => h) ?_
    refine D.take 12 (listed' := #[false, true, true, true, true, true, true, true, true, true, true, true, true, false, false, false, false, false]) rfl (by kernel_rfl) rfl rfl rfl rfl (V.nilCheck rfl) (fun w h => h) ?_
    refine D.take 13 (listed' := #[false, true, true, true, true, true, true, true, true, true, true, true, true, true, false, false, false, false]) rfl (by kernel_rfl) rfl rfl rfl rfl (V.fa rfl underlying304 rfl rfl sizeOf3) (fun w h => h) ?_
    refine D.take 14 (listed' := #[false, true, true, true, true, true, true, true, true, true, true, true, true, true, true, false, false, false]) rfl (by kernel_rfl) rfl rfl rfl rfl (V.load rfl isAgg3 zAt (by rfl)) (fun w h => h) ?_
    obtain ⟨ad2, had⟩ : ∃ ad2, (if c = at_ then ad else ad.map (·.add (at_ * 1))) = ad2 := ⟨_, rfl⟩
    have hbs := hb.sub (lo := at_) (hi := at_ + q) (by omega) (by omega) had
    have hlen : ((l.drop at_).take (at_ + q - at_)).length = at_ + q - at_ := by simp; omega
    refine D.take 15 (listed' := #[false, true, true, true, true, true, true, true, true, true, true, true, true, true, true, true, false, false]) rfl (by kernel_rfl) rfl rfl rfl rfl (V.slice (l := at_) (u := at_ + q) rfl underlying22 sizeOf5 ⟨_, rfl⟩ ⟨_, rfl⟩ (by omega) (by omega) had) (fun w h => h) ?_
    refine D.step 0 (listed' := #[true, true, true, true, true, true, true, true, true, true, true, true, true, true, true, true, false, false]) (by kernel_rfl) rfl rfl (.inr (fun w h => h)) ?_
    refine L.slice0 rfl rfl underlying22 sizeOf5 (fun b34 => ?_)
    refine D.back ?_
    refine D.step 16 (listed' := #[true, true, true, true, true, true, true, true, true, true, true, true, true, true, true, true, true, false]) (by kernel_rfl) rfl rfl (.inr (fun w h => h.sub (by simp))) ?_
    refine L.append (by' := 1) (sz := 1) (l := at_ + q - at_) (ys := ((l.drop at_).take (at_ + q - at_)).map bv) (fp := [(b34, .cells #[] 5 (0, 0))]) rfl rfl rfl rfl underlying22 info_u8 rfl rfl rfl rfl own0 .done (by have := hbs.mono ((Sees.cons S Hr (b, .cells #[.slice ad l.length c, .int .i64 ((at_ + q : Nat) : Int), .int .i64 0] 304 (0, 0))).trans (Sees.cons _ _ (b34, .cells #[] 5 (0, 0)))); unfold Bs at this; rw [hlen] at this; exact this) (bv_one _) (by omega) (by omega) (fun v' fp' ho => ?_)
    rw [Nat.zero_add, List.nil_append] at ho
    refine D.back ?_
    refine D.step 17 (listed' := #[true, true, true, true, true, true, true, true, true, true, true, true, true, true, true, true, true, true]) (by kernel_rfl) rfl rfl (.inr (fun w h => h.sub (by simp))) ?_
    refine sA rfl ?_
    refine D.back ?_
    refine D.done (by kernel_rfl) (.inr (fun w h => h.sub (by simp))) (N.seq ?_)
    refine R.ret1 results177 rfl (fun w hw => ?_)
    refine ⟨_, fp', rfl, ?_, ?_⟩
    ·unfold bytesR; rw [if_neg (by omega), if_neg (by omega)]
     rw [show at_ + q - at_ = (q : Int).toNat from by omega] at ho hlen
     show Own _ 1 _ ((l.drop at_).take (q : Int).toNat).length _ _
     rw [hlen]; exact ho
    ·unfold bytesR; rw [if_neg (by omega), if_neg (by omega)]; exact hw
end
end Go.Proofs.YtijgbppkdaiikaaGreat

set_option linter.unusedSimpArgs false
set_option linter.unusedVariables false
namespace Go.Proofs.YtijgbppkdaiikaaGreat
open Go.Proofs.Tryz Go.Tk

structure Item where
 key : List UInt8
 val : List UInt8
 size : Nat
 more : Nat
 deriving DecidableEq
structure Kid where
 key : List UInt8
 page : Nat
 deriving DecidableEq
structure Page where
 kind : Nat
 txn : Nat
 next : Nat
 items : List Item
 kids : List Kid
 data : List UInt8
 ids : List Nat
 deriving DecidableEq

def idOk (n : Nat) : Prop := 1 ≤ n ∧ n < 1024
def itemOk (x : Item) : Prop := x.key.length ≤ 32 ∧ x.size ≤ 4096 ∧ (x.size ≤ 64 → x.val.length = x.size ∧ x.more = 0) ∧ (64 < x.size → x.val.length = 0 ∧ idOk x.more)
def kidOk (x : Kid) : Prop := x.key.length ≤ 32 ∧ idOk x.page
/-- The keys rise. -/
def Rise (l : List (List UInt8)) : Prop := ∀ i (h : i + 1 < l.length), Lib.compareBytes l[i] l[i + 1] < 0

def Page.count (p : Page) : Nat := if p.kind = 1 then p.items.length else if p.kind = 2 then p.kids.length else if p.kind = 3 then p.data.length else p.ids.length
structure Only (p : Page) : Prop where
 k0 : 1 ≤ p.kind
 k1 : p.kind ≤ 4
 items : p.kind ≠ 1 → p.items = []
 kids : p.kind ≠ 2 → p.kids = []
 data : p.kind ≠ 3 → p.data = []
 ids : p.kind ≠ 4 → p.ids = []
def itemUsed (x : Item) : Nat := 3 + x.key.length + if 64 < x.size then 4 else x.val.length
def kidUsed (x : Kid) : Nat := 5 + x.key.length
def usedN (p : Page) : Nat := p.data.length + 4 * p.ids.length + (p.items.map itemUsed).sum + (p.kids.map kidUsed).sum
structure Right (p : Page) : Prop where
 only : Only p
 some : p.kind ≠ 4 → 1 ≤ p.count
 few : p.count ≤ 237
 next : p.next < 1024
 last : 0 < p.next → p.kind ≠ 1 ∧ p.kind ≠ 2
 items : ∀ x ∈ p.items, itemOk x
 itemsRise : Rise (p.items.map (·.key))
 kids : ∀ x ∈ p.kids, kidOk x
 kidsRise : Rise (p.kids.map (·.key))
 ids : ∀ x ∈ p.ids, idOk x
 idsRise : ∀ i (h : i + 1 < p.ids.length), p.ids[i] < p.ids[i + 1]
 used : usedN p ≤ 237

/-- No number of this page is beyond reason. -/
structure Small (p : Page) : Prop where
 kind : p.kind < 256
 txn : p.txn < 2 ^ 64
 next : p.next < 2 ^ 32
 items : p.items.length ≤ 100000
 item : ∀ x ∈ p.items, x.key.length ≤ 100000 ∧ x.val.length ≤ 100000 ∧ x.size < 2 ^ 32 ∧ x.more < 2 ^ 32
 kids : p.kids.length ≤ 100000
 kid : ∀ x ∈ p.kids, x.key.length ≤ 100000 ∧ x.page < 2 ^ 32
 data : p.data.length ≤ 100000
 ids : p.ids.length ≤ 100000
 id : ∀ x ∈ p.ids, x < 2 ^ 32

/-! ### in memory -/

def ItemC (S : Store) (c : List Value) (x : Item) : Prop := ∃ kv vv, c = [kv, vv, .int .i64 (x.size : Int), .int .i64 (x.more : Int)] ∧ Bs S [] kv x.key ∧ Bs S [] vv x.val
def KidC (S : Store) (c : List Value) (x : Kid) : Prop := ∃ kv, c = [kv, .int .i64 (x.page : Int)] ∧ Bs S [] kv x.key
def Items (S : Store) (H : Heap) (v : Value) (l : List Item) : Prop := ∃ rows, Rd S H 4 v l.length (List.flatten rows) ∧ All2 (ItemC S) rows l
def Kids (S : Store) (H : Heap) (v : Value) (l : List Kid) : Prop := ∃ rows, Rd S H 2 v l.length (List.flatten rows) ∧ All2 (KidC S) rows l
def Ids (S : Store) (H : Heap) (v : Value) (l : List Nat) : Prop := Is S H v (l.map (fun n : Nat => (n : Int)))
def PageC (S : Store) (H : Heap) (c : List Value) (p : Page) : Prop :=
 ∃ iv kv dv xv, c = [.int .i64 (p.kind : Int), .int .u64 (p.txn : Int), .int .i64 (p.next : Int), iv, kv, dv, xv] ∧ Items S H iv p.items ∧ Kids S H kv p.kids ∧ Bs S H dv p.data ∧ Ids S H xv p.ids

theorem ItemC.mono {S S' : Store} {c : List Value} {x : Item} (h : ItemC S c x) (s : S.le S') : ItemC S' c x := by
 obtain ⟨kv, vv, rfl, h1, h2⟩ := h
 exact ⟨kv, vv, rfl, h1.mono (Sees.le s _), h2.mono (Sees.le s _)⟩
theorem KidC.mono {S S' : Store} {c : List Value} {x : Kid} (h : KidC S c x) (s : S.le S') : KidC S' c x := by
 obtain ⟨kv, rfl, h1⟩ := h
 exact ⟨kv, rfl, h1.mono (Sees.le s _)⟩
theorem Items.mono {S S' : Store} {H H' : Heap} {v : Value} {l : List Item} (h : Items S H v l) (s : S.le S') (hh : ∀ p, p ∈ H → p ∈ H') : Items S' H' v l := by
 obtain ⟨rows, h1, h2⟩ := h
 exact ⟨rows, h1.mono (Sees.of s hh), h2.mono fun a b h => h.mono s⟩
theorem Kids.mono {S S' : Store} {H H' : Heap} {v : Value} {l : List Kid} (h : Kids S H v l) (s : S.le S') (hh : ∀ p, p ∈ H → p ∈ H') : Kids S' H' v l := by
 obtain ⟨rows, h1, h2⟩ := h
 exact ⟨rows, h1.mono (Sees.of s hh), h2.mono fun a b h => h.mono s⟩
theorem PageC.mono {S S' : Store} {H H' : Heap} {c : List Value} {p : Page} (h : PageC S H c p) (s : S.le S') (hh : ∀ p, p ∈ H → p ∈ H') : PageC S' H' c p := by
 obtain ⟨iv, kv, dv, xv, rfl, h1, h2, h3, h4⟩ := h
 exact ⟨iv, kv, dv, xv, rfl, h1.mono s hh, h2.mono s hh, h3.mono (Sees.of s hh), Is.mono h4 (Sees.of s hh)⟩

theorem Items.form {S : Store} {H : Heap} {v : Value} {l : List Item} (h : Items S H v l) : ∃ ad c, v = .slice ad l.length c ∧ l.length ≤ c ∧ c ≤ 9223372036854775807 := by
 obtain ⟨rows, h1, h2⟩ := h; exact h1.form
theorem Kids.form {S : Store} {H : Heap} {v : Value} {l : List Kid} (h : Kids S H v l) : ∃ ad c, v = .slice ad l.length c ∧ l.length ≤ c ∧ c ≤ 9223372036854775807 := by
 obtain ⟨rows, h1, h2⟩ := h; exact h1.form
theorem Ids.form {S : Store} {H : Heap} {v : Value} {l : List Nat} (h : Ids S H v l) : ∃ ad c, v = .slice ad l.length c ∧ l.length ≤ c ∧ c ≤ 9223372036854775807 := by
 have := Is.form h; simpa using this

theorem rows4 {S : Store} {rows : List (List Value)} {l : List Item} (h : All2 (ItemC S) rows l) : ∀ r ∈ rows, r.length = 4 :=
 h.left fun a b ⟨kv, vv, e, _⟩ => by rw [e]; rfl
theorem rows2 {S : Store} {rows : List (List Value)} {l : List Kid} (h : All2 (KidC S) rows l) : ∀ r ∈ rows, r.length = 2 :=
 h.left fun a b ⟨kv, e, _⟩ => by rw [e]; rfl

/-- Item j: its place, its cells. -/
theorem Items.at {S : Store} {H : Heap} {ad : Option Addr} {m c : Nat} {l : List Item} (h : Items S H (.slice ad m c) l) {j : Nat} (hj : j < l.length) :
 ∃ b off cs T fz kv vv, ad = some ⟨b, off, none⟩ ∧ At S b (.cells cs T fz) H ∧ off + j * 4 + 4 ≤ cs.size ∧ cs.extract (off + j * 4) (off + j * 4 + 4) = #[kv, vv, .int .i64 (l[j].size : Int), .int .i64 (l[j].more : Int)] ∧
  Bs S [] kv l[j].key ∧ Bs S [] vv l[j].val ∧ cs[off + j * 4 + 0]? = some kv := by
 obtain ⟨rows, h1, h2⟩ := h
 obtain ⟨ad', c', e, _⟩ := h1.form
 injection e with e1 e2 e3
 subst e1 e2 e3
 have hl := h2.length
 obtain ⟨b, off, cs, T, fz, rfl, h3, h4, h5, h6⟩ := h1.row (rows4 h2) hl (j := j) (by omega) (by omega)
 obtain ⟨kv, vv, e, h7, h8⟩ := h2.get j (by omega) hj
 rw [e] at h5
 exact ⟨b, off, cs, T, fz, kv, vv, rfl, h3, h4, h5, h7, h8, by rw [h6 0 (by omega), e]; rfl⟩
theorem Kids.at {S : Store} {H : Heap} {ad : Option Addr} {m c : Nat} {l : List Kid} (h : Kids S H (.slice ad m c) l) {j : Nat} (hj : j < l.length) :
 ∃ b off cs T fz kv, ad = some ⟨b, off, none⟩ ∧ At S b (.cells cs T fz) H ∧ off + j * 2 + 2 ≤ cs.size ∧ cs.extract (off + j * 2) (off + j * 2 + 2) = #[kv, .int .i64 (l[j].page : Int)] ∧
  Bs S [] kv l[j].key ∧ cs[off + j * 2 + 0]? = some kv ∧ cs[off + j * 2 + 1]? = some (.int .i64 (l[j].page : Int)) := by
 obtain ⟨rows, h1, h2⟩ := h
 obtain ⟨ad', c', e, _⟩ := h1.form
 injection e with e1 e2 e3
 subst e1 e2 e3
 have hl := h2.length
 obtain ⟨b, off, cs, T, fz, rfl, h3, h4, h5, h6⟩ := h1.row (rows2 h2) hl (j := j) (by omega) (by omega)
 obtain ⟨kv, e, h7⟩ := h2.get j (by omega) hj
 rw [e] at h5
 exact ⟨b, off, cs, T, fz, kv, rfl, h3, h4, h5, h7, by rw [h6 0 (by omega), e]; rfl, by rw [h6 1 (by omega), e]; rfl⟩
theorem Ids.at {S : Store} {H : Heap} {ad : Option Addr} {m c : Nat} {l : List Nat} (h : Ids S H (.slice ad m c) l) {j : Nat} (hj : j < l.length) :
 ∃ b off cs T fz, ad = some ⟨b, off, none⟩ ∧ At S b (.cells cs T fz) H ∧ cs[off + j * 1]? = some (.int .i64 (l[j] : Int)) := by
 obtain ⟨b, off, cs, T, fz, h1, h2, h3⟩ := Is.at h (j := j) (by simpa using hj)
 exact ⟨b, off, cs, T, fz, h1, h2, by rw [h3]; simp⟩

theorem _root_.Go.Tk.Bs.lift {S : Store} {v : Value} {l : List UInt8} (h : Bs S [] v l) (H : Heap) : Bs S H v l := h.mono (Sees.nil (.refl S) H)
end Go.Proofs.YtijgbppkdaiikaaGreat

set_option linter.unusedSimpArgs false
set_option linter.unusedVariables false
namespace Go.Proofs.YtijgbppkdaiikaaGreat
open Go.Proofs.Tryz Go.Tk
section
variable {w0 : World} {F : Nat → Prop} {S : Store} {Hr : Heap} {w : World}

theorem run_ext_cmp {u v : Value} {k l : List UInt8} (ha : Bs S Hr u k) (hb : Bs S Hr v l) {w : World} (hw : Hp w0 F S Hr w) : (callFunc 152 #[u, v]).run Tryz.prog w = .ok (.value (.int .i64 (Lib.compareBytes k l))) w := by
 rw [run_callFunc_extern func152 (by kernel_rfl) (by kernel_rfl) (by kernel_rfl) (e := Extern.BytealgCompare.compare) (by kernel_rfl), run_cmp ha hb hw]
 rfl

theorem compare_ok {u v : Value} {k l : List UInt8} (ha : Bs S Hr u k) (hb : Bs S Hr v l) (hw : Hp w0 F S Hr w) :
 Calls Tryz.prog 116 #[u, v] w fun e w' => e = .returned (.int .i64 (Lib.compareBytes k l)) ∧ Hp w0 F S Hr w' := by
 refine enterA hw func116 rfl ntmps116 rfl rfl ?_
 refine sD (sA rfl (sE (sM rfl (sM rfl ?_))))
 refine L.w rfl (V.extern rfl rfl rfl (fun w hw => run_ext_cmp ha hb hw)) ?_
 refine sA rfl (sN ?_)
 refine R.ret1 results116 rfl (fun w hw => ?_)
 exact ⟨rfl, hw⟩

theorem id_ok (n : Nat) (hw : Hp w0 F S Hr w) :
 Calls Tryz.prog 187 #[.int .i64 (n : Int)] w fun e w' => e = .returned (.bool (decide (1 ≤ n ∧ n < 1024))) ∧ Hp w0 F S Hr w' := by
 refine enterA hw func187 rfl ntmps187 rfl rfl ?_
 refine sD (sA rfl (sE (sM rfl (sQf rfl (sM rfl ?_)))))
 refine L.fork (d := 5) rfl (fun h5 => ?_) (fun h5 => ?_)
 ·try simp only [sq] at h5
  refine sM rfl (sQc rfl (sT rfl (sA rfl (sN ?_))))
  refine R.ret1 results187 rfl (fun w hw => ?_)
  refine ⟨ret_bool ?_, hw⟩
  first
   | (simp only [decide_eq_true_eq]; omega)
   | (simp only [Bool.false_eq_true, decide_eq_true_eq, false_iff]; omega)
 ·try simp only [sq] at h5
  refine sS rfl (sS rfl (sU rfl (sA rfl (sN ?_))))
  refine R.ret1 results187 rfl (fun w hw => ?_)
  refine ⟨ret_bool ?_, hw⟩
  first
   | (simp only [decide_eq_true_eq]; omega)
   | (simp only [Bool.false_eq_true, decide_eq_true_eq, false_iff]; omega)

theorem key_ok {v : Value} {l : List UInt8} (hb : Bs S Hr v l) (hw : Hp w0 F S Hr w) :
 Calls Tryz.prog 186 #[v] w fun e w' => e = .returned (.bool (decide (l.length ≤ 32))) ∧ Hp w0 F S Hr w' := by
 obtain ⟨ad, c, rfl, _⟩ := hb.form
 refine enterA hw func186 rfl ntmps186 rfl rfl ?_
 refine sD (sA rfl (sE (sM rfl ?_)))
 refine L.w rfl (V.len rfl underlying22) ?_
 refine sQd rfl (sA rfl (sN ?_))
 refine R.ret1 results186 rfl (fun w hw => ?_)
 refine ⟨ret_bool ?_, hw⟩
 first
  | (simp only [decide_eq_true_eq]; omega)
  | (simp only [Bool.false_eq_true, decide_eq_true_eq, false_iff]; omega)

theorem itemOk_small {x : Item} (h : x.size ≤ 64) : itemOk x ↔ x.key.length ≤ 32 ∧ x.val.length = x.size ∧ x.more = 0 := by
 unfold itemOk
 exact ⟨fun ⟨h1, h2, h3, h4⟩ => ⟨h1, h3 h⟩, fun ⟨h1, h2⟩ => ⟨h1, by omega, fun _ => h2, fun h5 => by omega⟩⟩
theorem itemOk_big {x : Item} (h : 64 < x.size) : itemOk x ↔ x.key.length ≤ 32 ∧ x.size ≤ 4096 ∧ x.val.length = 0 ∧ 1 ≤ x.more ∧ x.more < 1024 := by
 unfold itemOk idOk
 exact ⟨fun ⟨h1, h2, h3, h4⟩ => ⟨h1, h2, (h4 h).1, (h4 h).2.1, (h4 h).2.2⟩, fun ⟨h1, h2, h3, h4, h5⟩ => ⟨h1, h2, fun _ => by omega, fun _ => ⟨h3, h4, h5⟩⟩⟩

open Classical in
theorem item_ok {kv vv : Value} {x : Item} (hk : Bs S Hr kv x.key) (hv : Bs S Hr vv x.val) (hw : Hp w0 F S Hr w) :
 Calls Tryz.prog 185 #[.agg #[kv, vv, .int .i64 (x.size : Int), .int .i64 (x.more : Int)]] w fun e w' => e = .returned (.bool (decide (itemOk x))) ∧ Hp w0 F S Hr w' := by
 obtain ⟨ad, c, rfl, _⟩ := hk.form
 obtain ⟨ad2, c2, rfl, _⟩ := hv.form
 have fin : ∀ (t : Bool), (t = true ↔ itemOk x) → Ending.returned (.bool t) = .returned (.bool (decide (itemOk x))) := fun t ht => by
  exact ret_bool (by rw [ht]; simp)
 refine enterA hw func185 rfl ntmps185 rfl rfl ?_
 refine sD ?_
 refine L.boxA rfl rfl rfl (fun b1 => ?_)
 refine sA rfl (sN (sC (sD ?_)))
 refine L.w rfl (V.fa rfl underlying112 rfl rfl sizeOf22) ?_
 refine L.w rfl (V.load rfl isAgg22 zAt (by rfl)) ?_
 refine L.call rfl rfl rfl call186 rfl (fun w hw => key_ok (hk.mono (Sees.cons _ _ _)) hw) ?_
 rintro _ a w hst ⟨rfl, hw⟩
 refine hst.go rfl hw ?_
 clear hst hw w a
 refine sV rfl (sM rfl ?_)
 refine L.fork (d := 7) rfl (fun h7 => ?_) (fun h7 => ?_)
 ·try simp only [sq] at h7
  refine sS rfl (sS rfl (sS rfl (sT rfl (sM rfl (sS rfl (sS rfl (sS rfl (sT rfl (sN (sO rfl (sD (sA rfl (sN ?_)))))))))))))
  refine R.ret1 results185 rfl (fun w hw => ?_)
  refine ⟨fin _ ?_, hw.drop⟩
  unfold itemOk
  first
   | (simp only [Bool.false_eq_true, false_iff]; omega)
   | (simp only [beq_iff_eq, decide_eq_true_eq]; omega)
 ·try simp only [sq] at h7
  refine L.w rfl (V.fa rfl underlying112 rfl rfl sizeOf3) ?_
  refine L.w rfl (V.load rfl isAgg3 zAt (by rfl)) ?_
  refine sQc rfl (sU rfl (sM rfl ?_))
  refine L.fork (d := 12) rfl (fun h12 => ?_) (fun h12 => ?_)
  ·try simp only [sq] at h12
   refine sS rfl (sS rfl (sS rfl (sT rfl (sN (sO rfl (sD (sA rfl (sN ?_))))))))
   refine R.ret1 results185 rfl (fun w hw => ?_)
   refine ⟨fin _ ?_, hw.drop⟩
   unfold itemOk
   first
    | (simp only [Bool.false_eq_true, false_iff]; omega)
    | (simp only [beq_iff_eq, decide_eq_true_eq]; omega)
  ·try simp only [sq] at h12
   refine L.w rfl (V.fa rfl underlying112 rfl rfl sizeOf3) ?_
   refine L.w rfl (V.load rfl isAgg3 zAt (by rfl)) ?_
   refine sQe rfl (sU rfl (sN ?_))
   refine C.cond rfl (fun h16 => ?_) (fun h16 => ?_)
   ·try simp only [sq] at h16
    refine sD (sA rfl (sN ?_))
    refine R.ret1 results185 rfl (fun w hw => ?_)
    refine ⟨fin _ ?_, hw.drop⟩
    unfold itemOk
    first
     | (simp only [Bool.false_eq_true, false_iff]; omega)
     | (simp only [beq_iff_eq, decide_eq_true_eq]; omega)
   ·try simp only [sq] at h16
    refine sK (sC (sD ?_))
    refine L.w rfl (V.fa rfl underlying112 rfl rfl sizeOf3) ?_
    refine L.w rfl (V.load rfl isAgg3 zAt (by rfl)) ?_
    refine sQd rfl (sN ?_)
    refine C.cond rfl (fun h19 => ?_) (fun h19 => ?_)
    ·try simp only [sq] at h19
     refine sD ?_
     refine L.w rfl (V.fa rfl underlying112 rfl rfl sizeOf22) ?_
     refine L.w rfl (V.load rfl isAgg22 zAt (by rfl)) ?_
     refine L.w rfl (V.len rfl underlying22) ?_
     refine L.w rfl (V.fa rfl underlying112 rfl rfl sizeOf3) ?_
     refine L.w rfl (V.load rfl isAgg3 zAt (by rfl)) ?_
     refine sQa rfl (sM rfl ?_)
     refine L.fork (d := 26) rfl (fun h26 => ?_) (fun h26 => ?_)
     ·try simp only [sq] at h26
      refine L.w rfl (V.fa rfl underlying112 rfl rfl sizeOf3) ?_
      refine L.w rfl (V.load rfl isAgg3 zAt (by rfl)) ?_
      refine sQa rfl (sT rfl (sA rfl (sN ?_)))
      refine R.ret1 results185 rfl (fun w hw => ?_)
      refine ⟨fin _ ?_, hw.drop⟩
      rw [itemOk_small (by omega)]
      first
       | (simp only [Bool.false_eq_true, false_iff]; omega)
       | (simp only [beq_iff_eq, decide_eq_true_eq]; omega)
     ·try simp only [sq] at h26
      refine sS rfl (sS rfl (sS rfl (sU rfl (sA rfl (sN ?_)))))
      refine R.ret1 results185 rfl (fun w hw => ?_)
      refine ⟨fin _ ?_, hw.drop⟩
      rw [itemOk_small (by omega)]
      first
       | (simp only [Bool.false_eq_true, false_iff]; omega)
       | (simp only [beq_iff_eq, decide_eq_true_eq]; omega)
    ·try simp only [sq] at h19
     refine sK (sD ?_)
     refine L.w rfl (V.fa rfl underlying112 rfl rfl sizeOf22) ?_
     refine L.w rfl (V.load rfl isAgg22 zAt (by rfl)) ?_
     refine L.w rfl (V.len rfl underlying22) ?_
     refine sQa rfl (sM rfl ?_)
     refine L.fork (d := 35) rfl (fun h35 => ?_) (fun h35 => ?_)
     ·try simp only [sq] at h35
      refine L.w rfl (V.fa rfl underlying112 rfl rfl sizeOf3) ?_
      refine L.w rfl (V.load rfl isAgg3 zAt (by rfl)) ?_
      refine L.call rfl rfl rfl call187 rfl (fun w hw => id_ok x.more hw) ?_
      rintro _ a w hst ⟨rfl, hw⟩
      refine hst.go rfl hw ?_
      clear hst hw w a
      refine sT rfl (sA rfl (sN ?_))
      refine R.ret1 results185 rfl (fun w hw => ?_)
      refine ⟨fin _ ?_, hw.drop⟩
      rw [itemOk_big (by omega)]
      first
       | (simp only [Bool.false_eq_true, false_iff]; omega)
       | (simp only [beq_iff_eq, decide_eq_true_eq]; omega)
     ·try simp only [sq] at h35
      refine sS rfl (sS rfl (sS rfl (sU rfl (sA rfl (sN ?_)))))
      refine R.ret1 results185 rfl (fun w hw => ?_)
      refine ⟨fin _ ?_, hw.drop⟩
      rw [itemOk_big (by omega)]
      first
       | (simp only [Bool.false_eq_true, false_iff]; omega)
       | (simp only [beq_iff_eq, decide_eq_true_eq]; omega)
end
end Go.Proofs.YtijgbppkdaiikaaGreat

set_option linter.unusedSimpArgs false
set_option linter.unusedVariables false
namespace Go.Proofs.YtijgbppkdaiikaaGreat
open Go.Proofs.Tryz Go.Tk

def cnt (p : Page) (z : Nat) : Nat := if z = 0 then p.items.length else if z = 1 then p.kids.length else if z = 2 then p.data.length else p.ids.length
theorem only_of {p : Page} (h0 : 1 ≤ p.kind) (h1 : p.kind ≤ 4) (h : ∀ j, j < 4 → cnt p j = 0 ∨ j + 1 = p.kind) : Only p := by
 refine ⟨h0, h1, fun hk => ?_, fun hk => ?_, fun hk => ?_, fun hk => ?_⟩
 ·have := h 0 (by omega); simp only [cnt] at this; exact List.eq_nil_of_length_eq_zero (by simpa using this.resolve_right (by omega))
 ·have := h 1 (by omega); simp only [cnt] at this; exact List.eq_nil_of_length_eq_zero (by simpa using this.resolve_right (by omega))
 ·have := h 2 (by omega); simp only [cnt] at this; exact List.eq_nil_of_length_eq_zero (by simpa using this.resolve_right (by omega))
 ·have := h 3 (by omega); simp only [cnt] at this; exact List.eq_nil_of_length_eq_zero (by simpa using this.resolve_right (by omega))
theorem not_only {p : Page} {z : Nat} (hz : z < 4) (h : 0 < cnt p z) (hk : z + 1 ≠ p.kind) : ¬ Only p := by
 rintro ⟨h0, h1, h2, h3, h4, h5⟩
 rcases (by omega : z = 0 ∨ z = 1 ∨ z = 2 ∨ z = 3) with rfl | rfl | rfl | rfl
 ·simp [cnt, h2 (by omega)] at h
 ·simp [cnt, h3 (by omega)] at h
 ·simp [cnt, h4 (by omega)] at h
 ·simp [cnt, h5 (by omega)] at h

section
variable {w0 : World} {F : Nat → Prop} {S : Store} {Hr : Heap} {w : World}

open Classical in
theorem things_ok {c : List Value} {p : Page} (hp : PageC S Hr c p) (hw : Hp w0 F S Hr w) :
 Calls Tryz.prog 168 #[.agg c.toArray] w fun e w' => e = .returned (.tuple #[.int .i64 (if Only p then p.count else 0 : Nat), .bool (decide (Only p))]) ∧ Hp w0 F S Hr w' := by
 obtain ⟨iv, kv, dv, xv, rfl, hi, hk, hd, hx⟩ := hp
 obtain ⟨ia, ic, rfl, _⟩ := hi.form
 obtain ⟨ka, kc, rfl, _⟩ := hk.form
 obtain ⟨da, dc, rfl, _⟩ := hd.form
 obtain ⟨xa, xc, rfl, _⟩ := hx.form
 have bad : ∀ (w' : World), ¬ Only p → Hp w0 F S Hr w' → (Ending.returned (.tuple #[.int .i64 0, .bool false]) = Ending.returned (.tuple #[.int .i64 (if Only p then p.count else 0 : Nat), .bool (decide (Only p))]) ∧ Hp w0 F S Hr w') := fun w' h hw => by
  rw [if_neg h, decide_eq_false h]; exact ⟨rfl, hw⟩
 refine enterA hw func168 rfl ntmps168 rfl rfl ?_
 refine sD ?_
 refine L.boxA rfl rfl rfl (fun b1 => ?_)
 refine sA rfl (sA rfl (sE ?_))
 refine L.w rfl (V.fa rfl underlying125 rfl rfl sizeOf118) ?_
 refine L.w rfl (V.load rfl isAgg118 zAt (by rfl)) ?_
 refine L.w rfl (V.len rfl underlying118) ?_
 refine L.w rfl (V.fa rfl underlying125 rfl rfl sizeOf115) ?_
 refine L.w rfl (V.load rfl isAgg115 zAt (by rfl)) ?_
 refine L.w rfl (V.len rfl underlying115) ?_
 refine L.w rfl (V.fa rfl underlying125 rfl rfl sizeOf22) ?_
 refine L.w rfl (V.load rfl isAgg22 zAt (by rfl)) ?_
 refine L.w rfl (V.len rfl underlying22) ?_
 refine L.w rfl (V.fa rfl underlying125 rfl rfl sizeOf37) ?_
 refine L.w rfl (V.load rfl isAgg37 zAt (by rfl)) ?_
 refine L.w rfl (V.len rfl underlying37) ?_
 refine L.w rfl (V.buildA rfl underlying301 zeroValue301 sizeOf3 (Fills.cons (off := 0) rfl rfl rfl zPut (Fills.cons (off := 1) rfl rfl rfl zPut (Fills.cons (off := 2) rfl rfl rfl zPut (Fills.cons (off := 3) rfl rfl rfl zPut Fills.nil))))) ?_
 refine L.allocA rfl rfl zeroValue301 (fun b4 => ?_)
 refine L.storeBox rfl rfl rfl sizeOf301 rfl rfl (by rfl) zUp ?_
 refine sN (sC (sD ?_))
 refine L.w rfl (V.fa rfl underlying125 rfl rfl sizeOf3) ?_
 refine L.w rfl (V.load rfl isAgg3 zAt (by rfl)) ?_
 refine sQc rfl (sM rfl ?_)
 refine L.fork (d := 23) rfl (fun h23 => ?_) (fun h23 => ?_)
 ·try simp only [sq] at h23
  refine sS rfl (sS rfl (sS rfl (sT rfl (sN (sO rfl (sD (sA rfl (sA rfl (sN ?_)))))))))
  refine R.ret2 results168 rfl rfl (fun w hw => ?_)
  exact bad w (fun h => by have := h.k0; have := h.k1; omega) (hw.sub (by simp))
 ·try simp only [sq] at h23
  refine L.w rfl (V.fa rfl underlying125 rfl rfl sizeOf3) ?_
  refine L.w rfl (V.load rfl isAgg3 zAt (by rfl)) ?_
  refine sQe rfl (sU rfl (sN ?_))
  refine C.cond rfl (fun h27 => ?_) (fun h27 => ?_)
  ·try simp only [sq] at h27
   refine sD (sA rfl (sA rfl (sN ?_)))
   refine R.ret2 results168 rfl rfl (fun w hw => ?_)
   exact bad w (fun h => by have := h.k0; have := h.k1; omega) (hw.sub (by simp))
  ·try simp only [sq] at h27
   refine sK (sC (sD ?_))
   refine L.w rfl (V.loadBox rfl isAgg301 sizeOf301 zAt (by rfl)) ?_
   refine sM rfl (sN (sB ?_))
   refine C.loop (α := Nat) (fun z => [(1, .pointer (some ⟨b1, 0, none⟩)), (4, .pointer (some ⟨b4, 0, none⟩)), (28, .agg #[.int .i64 (p.items.length : Int), .int .i64 (p.kids.length : Int), .int .i64 (p.data.length : Int), .int .i64 (p.ids.length : Int)]), (29, .int .i64 (z : Int))]) (fun z w => (z ≤ 4 ∧ ∀ j, j < z → cnt p j = 0 ∨ j + 1 = p.kind) ∧ Hp w0 F S ((b4, .cells #[.int .i64 (p.items.length : Int), .int .i64 (p.kids.length : Int), .int .i64 (p.data.length : Int), .int .i64 (p.ids.length : Int)] 301 (0, 0)) :: (b1, .cells #[.int .i64 (p.kind : Int), .int .u64 (p.txn : Int), .int .i64 (p.next : Int), .slice ia p.items.length ic, .slice ka p.kids.length kc, .slice da p.data.length dc, .slice xa p.ids.length xc] 125 (0, 0)) :: Hr) w) (fun z => 4 - z) 0 ⟨rfl, rfl, rfl, rfl, trivial⟩ (fun w hw => ⟨⟨Nat.zero_le _, fun j hj => by omega⟩, hw⟩) (fun z => C.pure (fun hz => ?_))
   refine sD (sQc rfl (sN (sC ?_)))
   refine C.cond rfl (fun h30 => ?_) (fun h30 => ?_)
   ·try simp only [sq] at h30
    have hj : z < 4 := by omega
    refine sK (sC (sB (sD (sM rfl ?_))))
    refine L.w rfl (V.index (v := .int .i64 (cnt p z : Int)) rfl rfl underlying301 sizeOf3 isAgg3 rfl hj (by rcases (by omega : z = 0 ∨ z = 1 ∨ z = 2 ∨ z = 3) with rfl | rfl | rfl | rfl <;> rfl)) ?_
    refine sA rfl (sA rfl (sE (sM rfl (sQe rfl (sM rfl ?_)))))
    refine L.fork (d := 35) rfl (fun h35 => ?_) (fun h35 => ?_)
    ·try simp only [sq] at h35
     refine sM rfl ?_
     refine L.w rfl (V.fa rfl underlying125 rfl rfl sizeOf3) ?_
     refine L.w rfl (V.load rfl isAgg3 zAt (by rfl)) ?_
     refine L.w rfl (V.sub (c := ((p.kind - 1 : Nat) : Int)) rfl rfl (by rw [w64 (by omega) (by omega)]; omega)) ?_
     refine sQb rfl (sT rfl (sN ?_))
     refine C.cond rfl (fun h41 => ?_) (fun h41 => ?_)
     ·try simp only [sq] at h41
      refine sD (sA rfl (sA rfl (sN ?_)))
      refine R.ret2 results168 rfl rfl (fun w hw => ?_)
      exact bad w (not_only hj (by omega) (by omega)) (hw.sub (by simp))
     ·try simp only [sq] at h41
      refine C.skip (N.blk (N.seq ?_))
      refine sR ?_
      refine L.w rfl (V.add rfl rfl (w64 (by omega) (by omega))) ?_
      refine sM rfl ?_
      refine L.nil ?_
      exact N.round (z + 1) (by omega) ⟨rfl, rfl, rfl, rfl, trivial⟩ (fun w hw => ⟨⟨by omega, fun j hj => (by
       rcases (by omega : j < z ∨ j = z) with h | rfl
       ·exact hz.2 j h
       ·omega)⟩, hw⟩)
    ·try simp only [sq] at h35
     refine sS rfl (sS rfl (sS rfl (sS rfl (sS rfl (sU rfl (sN (sP rfl ?_)))))))
     refine C.skip (N.blk (N.seq ?_))
     refine sR ?_
     refine L.w rfl (V.add rfl rfl (w64 (by omega) (by omega))) ?_
     refine sM rfl ?_
     refine L.nil ?_
     exact N.round (z + 1) (by omega) ⟨rfl, rfl, rfl, rfl, trivial⟩ (fun w hw => ⟨⟨by omega, fun j hj => (by
      rcases (by omega : j < z ∨ j = z) with h | rfl
      ·exact hz.2 j h
      ·omega)⟩, hw⟩)
   ·try simp only [sq] at h30
    have hz4 : z = 4 := by omega
    subst hz4
    have honly := only_of (by omega) (by omega) hz.2
    refine sZ rfl (sD ?_)
    refine L.w rfl (V.fa rfl underlying125 rfl rfl sizeOf3) ?_
    refine L.w rfl (V.load rfl isAgg3 zAt (by rfl)) ?_
    refine L.w rfl (V.sub (c := ((p.kind - 1 : Nat) : Int)) rfl rfl (by rw [w64 (by omega) (by omega)]; omega)) ?_
    refine L.w rfl (V.indexAddrA rfl rfl underlying301 sizeOf3 rfl (by omega)) ?_
    refine L.w rfl (V.load (v := .int .i64 (p.count : Int)) rfl isAgg3 .head (by
    have h0 := honly.k0
    have h1 := honly.k1
    unfold Page.count
    rcases (by omega : p.kind = 1 ∨ p.kind = 2 ∨ p.kind = 3 ∨ p.kind = 4) with h | h | h | h <;> rw [h] <;> rfl)) ?_
    refine sA rfl (sA rfl (sN ?_))
    refine R.ret2 results168 rfl rfl (fun w hw => ?_)
    rw [if_pos honly, decide_eq_true honly]
    exact ⟨rfl, hw.sub (by simp)⟩

theorem sum_snoc (l : List Nat) (x : Nat) : (l ++ [x]).sum = l.sum + x := by simp
theorem sum_le (l : List Nat) (m : Nat) (h : ∀ x ∈ l, x ≤ m) : l.sum ≤ l.length * m := by
 induction l with
 | nil => simp
 | cons x l ih =>
   have := ih (fun y hy => h y (List.mem_cons_of_mem _ hy))
   have := h x (List.mem_cons_self ..)
   simp only [List.sum_cons, List.length_cons, Nat.add_mul]; omega
theorem sum_take_le (l : List Nat) (z : Nat) : (l.take z).sum ≤ l.sum := by
 have : l.sum = (l.take z).sum + (l.drop z).sum := by rw [← List.sum_append_nat, List.take_append_drop]
 omega
theorem used_bd {p : Page} (hs : Small p) : (p.items.map itemUsed).sum ≤ 100000 * 300000 ∧ (p.kids.map kidUsed).sum ≤ 100000 * 300000 := by
 constructor
 ·have := sum_le (p.items.map itemUsed) 300000 (fun x hx => by
   obtain ⟨y, hy, rfl⟩ := List.mem_map.1 hx
   have := hs.item y hy
   unfold itemUsed; split <;> omega)
  rw [List.length_map] at this
  exact Nat.le_trans this (Nat.mul_le_mul_right _ hs.items)
 ·have := sum_le (p.kids.map kidUsed) 300000 (fun x hx => by
   obtain ⟨y, hy, rfl⟩ := List.mem_map.1 hx
   have := hs.kid y hy
   unfold kidUsed; omega)
  rw [List.length_map] at this
  exact Nat.le_trans this (Nat.mul_le_mul_right _ hs.kids)

theorem used_ok {c : List Value} {p : Page} (hp : PageC S Hr c p) (hs : Small p) (hw : Hp w0 F S Hr w) :
 Calls Tryz.prog 145 #[.agg c.toArray] w fun e w' => e = .returned (.int .i64 (usedN p : Nat)) ∧ Hp w0 F S Hr w' := by
 obtain ⟨iv, kv, dv, xv, rfl, hi, hk, hd, hx⟩ := hp
 obtain ⟨ia, ic, rfl, _⟩ := hi.form
 obtain ⟨ka, kc, rfl, _⟩ := hk.form
 obtain ⟨da, dc, rfl, _⟩ := hd.form
 obtain ⟨xa, xc, rfl, _⟩ := hx.form
 have b1 := hs.data
 have b2 := hs.ids
 obtain ⟨b3, b4⟩ := used_bd hs
 refine enterA hw func145 rfl ntmps145 rfl rfl ?_
 refine sD ?_
 refine L.boxA rfl rfl rfl (fun b1 => ?_)
 refine sA rfl (sE ?_)
 refine L.w rfl (V.fa rfl underlying125 rfl rfl sizeOf22) ?_
 refine L.w rfl (V.load rfl isAgg22 zAt (by rfl)) ?_
 refine L.w rfl (V.len rfl underlying22) ?_
 refine L.w rfl (V.fa rfl underlying125 rfl rfl sizeOf37) ?_
 refine L.w rfl (V.load rfl isAgg37 zAt (by rfl)) ?_
 refine L.w rfl (V.len rfl underlying37) ?_
 refine L.w rfl (V.mul (c := ((4 * p.ids.length : Nat) : Int)) rfl rfl (by rw [w64 (by omega) (by omega)]; omega)) ?_
 refine L.w rfl (V.add (c := ((p.data.length + 4 * p.ids.length : Nat) : Int)) rfl rfl (by rw [w64 (by omega) (by omega)]; omega)) ?_
 refine sA rfl (sN (sC (sD ?_)))
 refine L.w rfl (V.fa rfl underlying125 rfl rfl sizeOf118) ?_
 refine L.w rfl (V.load rfl isAgg118 zAt (by rfl)) ?_
 refine L.w rfl (V.len rfl underlying118) ?_
 refine sM rfl (sN (sB ?_))
 refine C.loop (α := Nat) (fun z => [(1, .pointer (some ⟨b1, 0, none⟩)), (17, .slice ia p.items.length ic), (18, .int .i64 (p.items.length : Int)), (19, .int .i64 (z : Int)), (3, .int .i64 ((p.data.length + 4 * p.ids.length + ((p.items.map itemUsed).take z).sum : Nat) : Int))]) (fun z w => z ≤ p.items.length ∧ Hp w0 F S ((b1, .cells #[.int .i64 (p.kind : Int), .int .u64 (p.txn : Int), .int .i64 (p.next : Int), .slice ia p.items.length ic, .slice ka p.kids.length kc, .slice da p.data.length dc, .slice xa p.ids.length xc] 125 (0, 0)) :: Hr) w) (fun z => p.items.length - z) 0 ⟨rfl, rfl, rfl, rfl, rfl, trivial⟩ (fun w hw => ⟨Nat.zero_le _, hw⟩) (fun z => C.pure (fun hz => ?_))
 refine sD (sQc rfl (sN (sC ?_)))
 refine C.cond rfl (fun h20 => ?_) (fun h20 => ?_)
 ·try simp only [sq] at h20
  have hj : z < p.items.length := by omega
  have hst : ((p.items.map itemUsed).take (z + 1)).sum = ((p.items.map itemUsed).take z).sum + itemUsed p.items[z] := by
   rw [List.take_succ_eq_append_getElem (by simpa using hj), sum_snoc]; simp
  have hle := sum_take_le (p.items.map itemUsed) (z + 1)
  have hit := hs.item _ (List.getElem_mem hj)
  obtain ⟨b, off, cs, T, fz, jk, jv, rfl, g1, g2, g3, g4, g5, g6⟩ := hi.at hj
  obtain ⟨jka, jkc, rfl, _⟩ := g4.form
  obtain ⟨jva, jvc, rfl, _⟩ := g5.form
  refine sK (sC (sB (sD ?_)))
  refine L.w rfl (V.indexAddr rfl rfl underlying118 sizeOf112 rfl (by omega)) ?_
  refine L.w rfl (V.loadN rfl isAgg112 sizeOf112 (.tail g1) g2 g3) ?_
  refine L.allocA rfl rfl zeroValue112 (fun b5 => ?_)
  refine L.storeBox rfl rfl rfl sizeOf112 rfl rfl (by rfl) zUp ?_
  refine sE (sM rfl ?_)
  refine L.w rfl (V.fa rfl underlying112 rfl rfl sizeOf22) ?_
  refine L.w rfl (V.load rfl isAgg22 zAt (by rfl)) ?_
  refine L.w rfl (V.len rfl underlying22) ?_
  refine L.w rfl (V.add rfl rfl (w64 (by omega) (by omega))) ?_
  refine L.w rfl (V.add rfl rfl (w64 (by omega) (by omega))) ?_
  refine sA rfl (sE ?_)
  refine L.w rfl (V.fa rfl underlying112 rfl rfl sizeOf3) ?_
  refine L.w rfl (V.load rfl isAgg3 zAt (by rfl)) ?_
  refine sQe rfl (sN ?_)
  refine C.cond rfl (fun h31 => ?_) (fun h31 => ?_)
  ·try simp only [sq] at h31
   refine sR (sM rfl ?_)
   refine L.w rfl (V.add rfl rfl (w64 (by omega) (by omega))) ?_
   refine sA rfl ?_
   refine L.nil (N.blk (N.seq ?_))
   refine sR ?_
   refine L.w rfl (V.add rfl rfl (w64 (by omega) (by omega))) ?_
   refine sM rfl ?_
   refine L.nil ?_
   exact N.round (z + 1) (by omega) ⟨rfl, rfl, rfl, rfl, congrArg (fun q : Int => some (Value.int .i64 q)) (by rw [hst]; unfold itemUsed; first | (rw [if_pos (by omega)]; omega) | (rw [if_neg (by omega)]; omega)), trivial⟩ (fun w hw => ⟨by omega, hw.drop⟩)
  ·try simp only [sq] at h31
   refine sR (sM rfl ?_)
   refine L.w rfl (V.fa rfl underlying112 rfl rfl sizeOf22) ?_
   refine L.w rfl (V.load rfl isAgg22 zAt (by rfl)) ?_
   refine L.w rfl (V.len rfl underlying22) ?_
   refine L.w rfl (V.add rfl rfl (w64 (by omega) (by omega))) ?_
   refine sA rfl ?_
   refine L.nil (N.blk (N.seq ?_))
   refine sR ?_
   refine L.w rfl (V.add rfl rfl (w64 (by omega) (by omega))) ?_
   refine sM rfl ?_
   refine L.nil ?_
   exact N.round (z + 1) (by omega) ⟨rfl, rfl, rfl, rfl, congrArg (fun q : Int => some (Value.int .i64 q)) (by rw [hst]; unfold itemUsed; first | (rw [if_pos (by omega)]; omega) | (rw [if_neg (by omega)]; omega)), trivial⟩ (fun w hw => ⟨by omega, hw.drop⟩)
 ·try simp only [sq] at h20
  refine sZ rfl (sC (sD ?_))
  refine L.w rfl (V.fa rfl underlying125 rfl rfl sizeOf115) ?_
  refine L.w rfl (V.load rfl isAgg115 zAt (by rfl)) ?_
  refine L.w rfl (V.len rfl underlying115) ?_
  refine sM rfl (sN (sB ?_))
  refine C.loop (α := Nat) (fun z => [(41, .slice ka p.kids.length kc), (42, .int .i64 (p.kids.length : Int)), (43, .int .i64 (z : Int)), (3, .int .i64 ((p.data.length + 4 * p.ids.length + (p.items.map itemUsed).sum + ((p.kids.map kidUsed).take z).sum : Nat) : Int))]) (fun z w => z ≤ p.kids.length ∧ Hp w0 F S ((b1, .cells #[.int .i64 (p.kind : Int), .int .u64 (p.txn : Int), .int .i64 (p.next : Int), .slice ia p.items.length ic, .slice ka p.kids.length kc, .slice da p.data.length dc, .slice xa p.ids.length xc] 125 (0, 0)) :: Hr) w) (fun z => p.kids.length - z) 0 ⟨rfl, rfl, rfl, congrArg (fun q : Int => some (Value.int .i64 q)) (by rw [show z = (p.items.map itemUsed).length from by simp; omega, List.take_length]; simp), trivial⟩ (fun w hw => ⟨Nat.zero_le _, hw⟩) (fun z => C.pure (fun hz => ?_))
  refine sD (sQc rfl (sN (sC ?_)))
  refine C.cond rfl (fun h44 => ?_) (fun h44 => ?_)
  ·try simp only [sq] at h44
   have hj : z < p.kids.length := by omega
   have hst : ((p.kids.map kidUsed).take (z + 1)).sum = ((p.kids.map kidUsed).take z).sum + kidUsed p.kids[z] := by
    rw [List.take_succ_eq_append_getElem (by simpa using hj), sum_snoc]; simp
   have hle := sum_take_le (p.kids.map kidUsed) (z + 1)
   have hit := hs.kid _ (List.getElem_mem hj)
   obtain ⟨b, off, cs, T, fz, jk, rfl, g1, g2, g3, g4, g5, g6⟩ := hk.at hj
   obtain ⟨jka, jkc, rfl, _⟩ := g4.form
   refine sK (sC (sB (sD ?_)))
   refine L.w rfl (V.indexAddr rfl rfl underlying115 sizeOf129 rfl (by omega)) ?_
   refine L.w rfl (V.loadN rfl isAgg129 sizeOf129 (.tail g1) g2 g3) ?_
   refine L.allocA rfl rfl zeroValue129 (fun b7 => ?_)
   refine L.storeBox rfl rfl rfl sizeOf129 rfl rfl (by rfl) zUp ?_
   refine sN (sR (sM rfl ?_))
   refine L.w rfl (V.fa rfl underlying129 rfl rfl sizeOf22) ?_
   refine L.w rfl (V.load rfl isAgg22 zAt (by rfl)) ?_
   refine L.w rfl (V.len rfl underlying22) ?_
   refine L.w rfl (V.add rfl rfl (w64 (by omega) (by omega))) ?_
   refine L.w rfl (V.add rfl rfl (w64 (by omega) (by omega))) ?_
   refine sA rfl ?_
   refine L.nil (N.blk (N.seq ?_))
   refine sR ?_
   refine L.w rfl (V.add rfl rfl (w64 (by omega) (by omega))) ?_
   refine sM rfl ?_
   refine L.nil ?_
   exact N.round (z + 1) (by omega) ⟨rfl, rfl, rfl, congrArg (fun q : Int => some (Value.int .i64 q)) (by rw [hst]; unfold kidUsed; omega), trivial⟩ (fun w hw => ⟨by omega, hw.drop⟩)
  ·try simp only [sq] at h44
   refine sZ rfl (sD (sM rfl (sA rfl (sN ?_))))
   refine R.ret1 results145 rfl (fun w hw => ?_)
   refine ⟨?_, hw.drop⟩
   refine congrArg (fun q : Int => Ending.returned (Value.int .i64 q)) ?_
   unfold usedN
   rw [show z = (p.kids.map kidUsed).length from by simp; omega, List.take_length]
end
end Go.Proofs.YtijgbppkdaiikaaGreat

set_option linter.unusedSimpArgs false
set_option linter.unusedVariables false
namespace Go.Proofs.YtijgbppkdaiikaaGreat
open Go.Proofs.Tryz Go.Tk

theorem Items.all {S : Store} {H : Heap} {ad : Option Addr} {m c : Nat} {l : List Item} (h : Items S H (.slice ad m c) l) (h0 : 0 < l.length) :
 ∃ b off cs T fz, ad = some ⟨b, off, none⟩ ∧ At S b (.cells cs T fz) H ∧ ∀ j (hj : j < l.length), ∃ kv vv, off + j * 4 + 4 ≤ cs.size ∧ cs.extract (off + j * 4) (off + j * 4 + 4) = #[kv, vv, .int .i64 (l[j].size : Int), .int .i64 (l[j].more : Int)] ∧
  Bs S [] kv l[j].key ∧ Bs S [] vv l[j].val ∧ cs[off + j * 4 + 0]? = some kv := by
 obtain ⟨rows, h2, h3⟩ := h
 obtain ⟨ad', c', e, _⟩ := h2.form
 injection e with e1 e2 e3
 subst e1 e2 e3
 have hl := h3.length
 obtain ⟨b, off, cs, T, fz, rfl, h4, h5⟩ := h2.rowAll (rows4 h3) hl (by omega) h0
 refine ⟨b, off, cs, T, fz, rfl, h4, fun j hj => ?_⟩
 obtain ⟨g1, g2, g3⟩ := h5 j (by omega)
 obtain ⟨kv, vv, e, h7, h8⟩ := h3.get j (by omega) hj
 rw [e] at g2
 exact ⟨kv, vv, g1, g2, h7, h8, by rw [g3 0 (by omega), e]; rfl⟩
theorem Kids.all {S : Store} {H : Heap} {ad : Option Addr} {m c : Nat} {l : List Kid} (h : Kids S H (.slice ad m c) l) (h0 : 0 < l.length) :
 ∃ b off cs T fz, ad = some ⟨b, off, none⟩ ∧ At S b (.cells cs T fz) H ∧ ∀ j (hj : j < l.length), ∃ kv, off + j * 2 + 2 ≤ cs.size ∧ cs.extract (off + j * 2) (off + j * 2 + 2) = #[kv, .int .i64 (l[j].page : Int)] ∧
  Bs S [] kv l[j].key ∧ cs[off + j * 2 + 0]? = some kv ∧ cs[off + j * 2 + 1]? = some (.int .i64 (l[j].page : Int)) := by
 obtain ⟨rows, h2, h3⟩ := h
 obtain ⟨ad', c', e, _⟩ := h2.form
 injection e with e1 e2 e3
 subst e1 e2 e3
 have hl := h3.length
 obtain ⟨b, off, cs, T, fz, rfl, h4, h5⟩ := h2.rowAll (rows2 h3) hl (by omega) h0
 refine ⟨b, off, cs, T, fz, rfl, h4, fun j hj => ?_⟩
 obtain ⟨g1, g2, g3⟩ := h5 j (by omega)
 obtain ⟨kv, e, h7⟩ := h3.get j (by omega) hj
 rw [e] at g2
 exact ⟨kv, g1, g2, h7, by rw [g3 0 (by omega), e]; rfl, by rw [g3 1 (by omega), e]; rfl⟩
theorem Ids.all {S : Store} {H : Heap} {ad : Option Addr} {m c : Nat} {l : List Nat} (h : Ids S H (.slice ad m c) l) (h0 : 0 < l.length) :
 ∃ b off cs T fz, ad = some ⟨b, off, none⟩ ∧ At S b (.cells cs T fz) H ∧ ∀ j (hj : j < l.length), cs[off + j * 1]? = some (.int .i64 (l[j] : Int)) := by
 unfold Ids Is at h
 obtain ⟨ad', c', e, _⟩ := h.form
 injection e with e1 e2 e3
 subst e1 e2 e3
 obtain ⟨b, off, cs, T, fz, rfl, h1, h2⟩ := h.pos (by simpa using h0)
 exact ⟨b, off, cs, T, fz, rfl, h1, fun j hj => by rw [Nat.mul_one, h2 j (by simpa using hj)]; simp [hj, iv]⟩

theorem rise_of {l : List (List UInt8)} (h : ∀ i (h : i < l.length), 0 < i → Lib.compareBytes (l[i - 1]'(by omega)) l[i] < 0) : Rise l := fun i hi => by
 have := h (i + 1) hi (by omega)
 exact this

section
variable {w0 : World} {F : Nat → Prop} {S : Store} {Hr : Heap} {w : World}

open Classical in
theorem right_ok {c : List Value} {p : Page} (hp : PageC S Hr c p) (hs : Small p) (hw : Hp w0 F S Hr w) :
 Calls Tryz.prog 144 #[.agg c.toArray] w fun e w' => e = .returned (.bool (decide (Right p))) ∧ Hp w0 F S Hr w' := by
 have hp0 := hp
 obtain ⟨iv, kv, dv, xv, rfl, hi, hk, hd, hx⟩ := hp
 obtain ⟨ia, ic, rfl, _, _⟩ := hi.form
 obtain ⟨ka, kc, rfl, _, _⟩ := hk.form
 obtain ⟨da, dc, rfl, _, _⟩ := hd.form
 obtain ⟨xa, xc, rfl, _, _⟩ := hx.form
 have s1 := hs.items
 have s2 := hs.kids
 have s3 := hs.ids
 have bad : ∀ {H' : Heap} (w' : World), ¬ Right p → Hp w0 F S H' w' → List.Sublist Hr H' → (Ending.returned (.bool false) = Ending.returned (.bool (decide (Right p))) ∧ Hp w0 F S Hr w') := fun w' h hw hsb => by
  rw [decide_eq_false h]; exact ⟨rfl, hw.sub hsb⟩
 have le1 : ∀ (H : Heap), ∀ q, q ∈ Hr → q ∈ H ++ Hr := fun H q hq => List.mem_append.2 (.inr hq)
 refine enterA hw func144 rfl ntmps144 rfl rfl ?_
 refine sD ?_
 refine L.boxA rfl rfl rfl (fun b1 => ?_)
 refine sA rfl (sE ?_)
 refine L.w rfl (V.loadBox rfl isAgg125 sizeOf125 zAt (by rfl)) ?_
 refine L.call rfl rfl rfl call168 rfl (fun w hw => things_ok (hp0.mono (.refl S) (le1 [_])) hw) ?_
 rintro _ a w hst ⟨rfl, hw⟩
 refine hst.go rfl hw ?_
 clear hst hw w a
 refine sM rfl (sX rfl (sX rfl (sA rfl (sA rfl (sN (sC (sD (sM rfl (sV rfl (sM rfl ?_))))))))))
 refine L.fork (d := 18) rfl (fun h18 => ?_) (fun h18 => ?_)
 ·try simp only [sq] at h18
  refine sS rfl (sS rfl (sS rfl (sS rfl (sS rfl (sS rfl (sS rfl (sT rfl (sM rfl (sS rfl (sS rfl (sT rfl (sM rfl (sS rfl ?_)))))))))))))
  refine sS rfl (sS rfl (sT rfl (sM rfl (sS rfl (sS rfl (sS rfl (sT rfl (sM rfl (sS rfl (sS rfl (sS rfl (sS rfl (sS rfl ?_)))))))))))))
  refine sS rfl (sS rfl (sS rfl (sS rfl (sS rfl (sS rfl (sS rfl (sS rfl (sT rfl (sN (sO rfl (sD (sA rfl (sN ?_)))))))))))))
  refine R.ret1 results144 rfl (fun w hw => ?_)
  first
   | exact bad w (fun h => h18 h.only) hw (by simp)
   | (refine bad w (fun h => ?_) hw (by simp)
      have r1 := h.some
      have r2 := h.few
      have r3 := h.next
      have r4 := h.last
      omega)
 ·try simp only [sq] at h18
  have honly : Only p := h18
  rw [if_pos honly]
  refine sM rfl (sQc rfl (sM rfl ?_))
  refine L.fork (d := 21) rfl (fun h21 => ?_) (fun h21 => ?_)
  ·try simp only [sq] at h21
   refine L.w rfl (V.fa rfl underlying125 rfl rfl sizeOf3) ?_
   refine L.w rfl (V.load rfl isAgg3 zAt (by rfl)) ?_
   refine sQb rfl (sT rfl (sU rfl (sM rfl ?_)))
   refine L.fork (d := 27) rfl (fun h27 => ?_) (fun h27 => ?_)
   ·try simp only [sq] at h27
    refine sS rfl (sS rfl (sT rfl (sM rfl (sS rfl (sS rfl (sS rfl (sT rfl (sM rfl (sS rfl (sS rfl (sS rfl (sT rfl (sM rfl ?_)))))))))))))
    refine sS rfl (sS rfl (sS rfl (sS rfl (sS rfl (sS rfl (sS rfl (sS rfl (sS rfl (sS rfl (sS rfl (sS rfl (sS rfl (sT rfl ?_)))))))))))))
    refine sN (sO rfl (sD (sA rfl (sN ?_))))
    refine R.ret1 results144 rfl (fun w hw => ?_)
    first
     | exact bad w (fun h => h18 h.only) hw (by simp)
     | (refine bad w (fun h => ?_) hw (by simp)
        have r1 := h.some
        have r2 := h.few
        have r3 := h.next
        have r4 := h.last
        omega)
   ·try simp only [sq] at h27
    refine sM rfl (sQe rfl (sU rfl (sM rfl ?_)))
    refine L.fork (d := 31) rfl (fun h31 => ?_) (fun h31 => ?_)
    ·try simp only [sq] at h31
     refine sS rfl (sS rfl (sS rfl (sT rfl (sM rfl (sS rfl (sS rfl (sS rfl (sT rfl (sM rfl (sS rfl (sS rfl (sS rfl (sS rfl ?_)))))))))))))
     refine sS rfl (sS rfl (sS rfl (sS rfl (sS rfl (sS rfl (sS rfl (sS rfl (sS rfl (sT rfl (sN (sO rfl (sD (sA rfl ?_)))))))))))))
     refine sN ?_
     refine R.ret1 results144 rfl (fun w hw => ?_)
     first
      | exact bad w (fun h => h18 h.only) hw (by simp)
      | (refine bad w (fun h => ?_) hw (by simp)
         have r1 := h.some
         have r2 := h.few
         have r3 := h.next
         have r4 := h.last
         omega)
    ·try simp only [sq] at h31
     refine L.w rfl (V.fa rfl underlying125 rfl rfl sizeOf3) ?_
     refine L.w rfl (V.load rfl isAgg3 zAt (by rfl)) ?_
     refine sQc rfl (sU rfl (sM rfl ?_))
     refine L.fork (d := 36) rfl (fun h36 => ?_) (fun h36 => ?_)
     ·try simp only [sq] at h36
      refine sS rfl (sS rfl (sS rfl (sT rfl (sM rfl (sS rfl (sS rfl (sS rfl (sS rfl (sS rfl (sS rfl (sS rfl (sS rfl (sS rfl ?_)))))))))))))
      refine sS rfl (sS rfl (sS rfl (sS rfl (sT rfl (sN (sO rfl (sD (sA rfl (sN ?_)))))))))
      refine R.ret1 results144 rfl (fun w hw => ?_)
      first
       | exact bad w (fun h => h18 h.only) hw (by simp)
       | (refine bad w (fun h => ?_) hw (by simp)
          have r1 := h.some
          have r2 := h.few
          have r3 := h.next
          have r4 := h.last
          omega)
     ·try simp only [sq] at h36
      refine L.w rfl (V.fa rfl underlying125 rfl rfl sizeOf3) ?_
      refine L.w rfl (V.load rfl isAgg3 zAt (by rfl)) ?_
      refine sQf rfl (sU rfl (sM rfl ?_))
      refine L.fork (d := 41) rfl (fun h41 => ?_) (fun h41 => ?_)
      ·try simp only [sq] at h41
       refine sS rfl (sS rfl (sS rfl (sS rfl (sS rfl (sS rfl (sS rfl (sS rfl (sS rfl (sS rfl (sS rfl (sS rfl (sS rfl (sT rfl ?_)))))))))))))
       refine sN (sO rfl (sD (sA rfl (sN ?_))))
       refine R.ret1 results144 rfl (fun w hw => ?_)
       first
        | exact bad w (fun h => h18 h.only) hw (by simp)
        | (refine bad w (fun h => ?_) hw (by simp)
           have r1 := h.some
           have r2 := h.few
           have r3 := h.next
           have r4 := h.last
           omega)
      ·try simp only [sq] at h41
       refine L.w rfl (V.fa rfl underlying125 rfl rfl sizeOf3) ?_
       refine L.w rfl (V.load rfl isAgg3 zAt (by rfl)) ?_
       refine sQe rfl (sM rfl ?_)
       refine L.fork (d := 45) rfl (fun h45 => ?_) (fun h45 => ?_)
       ·try simp only [sq] at h45
        refine L.w rfl (V.fa rfl underlying125 rfl rfl sizeOf3) ?_
        refine L.w rfl (V.load rfl isAgg3 zAt (by rfl)) ?_
        refine sQa rfl (sM rfl ?_)
        refine L.fork (d := 49) rfl (fun h49 => ?_) (fun h49 => ?_)
        ·try simp only [sq] at h49
         refine sS rfl (sS rfl (sS rfl (sT rfl (sT rfl (sU rfl (sN (sO rfl (sD (sA rfl (sN ?_))))))))))
         refine R.ret1 results144 rfl (fun w hw => ?_)
         first
          | exact bad w (fun h => h18 h.only) hw (by simp)
          | (refine bad w (fun h => ?_) hw (by simp)
             have r1 := h.some
             have r2 := h.few
             have r3 := h.next
             have r4 := h.last
             omega)
        ·try simp only [sq] at h49
         refine L.w rfl (V.fa rfl underlying125 rfl rfl sizeOf3) ?_
         refine L.w rfl (V.load rfl isAgg3 zAt (by rfl)) ?_
         refine sQa rfl (sU rfl (sT rfl (sU rfl (sN ?_))))
         refine C.cond rfl (fun h55 => ?_) (fun h55 => ?_)
         ·try simp only [sq] at h55
          refine sD (sA rfl (sN ?_))
          refine R.ret1 results144 rfl (fun w hw => ?_)
          first
           | exact bad w (fun h => h18 h.only) hw (by simp)
           | (refine bad w (fun h => ?_) hw (by simp)
              have r1 := h.some
              have r2 := h.few
              have r3 := h.next
              have r4 := h.last
              omega)
         ·try simp only [sq] at h55
          refine sK (sC (sD ?_))
          refine L.w rfl (V.fa rfl underlying125 rfl rfl sizeOf118) ?_
          refine L.w rfl (V.load rfl isAgg118 zAt (by rfl)) ?_
          refine L.w rfl (V.len rfl underlying118) ?_
          refine sM rfl (sN (sB ?_))
          refine C.loop (α := Nat) (fun z => [(1, .pointer (some ⟨b1, 0, none⟩)), (57, .slice ia p.items.length ic), (58, .int .i64 (p.items.length : Int)), (59, .int .i64 (z : Int))]) (fun z w => (z ≤ p.items.length ∧ ∀ j (hj : j < p.items.length), j < z → itemOk p.items[j] ∧ (0 < j → Lib.compareBytes (p.items[j - 1]'(by omega)).key p.items[j].key < 0)) ∧ Hp w0 F S ((b1, .cells #[.int .i64 (p.kind : Int), .int .u64 (p.txn : Int), .int .i64 (p.next : Int), .slice ia p.items.length ic, .slice ka p.kids.length kc, .slice da p.data.length dc, .slice xa p.ids.length xc] 125 (0, 0)) :: Hr) w) (fun z => p.items.length - z) 0 ⟨rfl, rfl, rfl, rfl, trivial⟩ (fun w hw => ⟨⟨Nat.zero_le _, fun j hj => by omega⟩, hw⟩) (fun z => C.pure (fun hz => ?_))
          refine sD (sQc rfl (sN (sC ?_)))
          refine C.cond rfl (fun h60 => ?_) (fun h60 => ?_)
          ·try simp only [sq] at h60
           have hj : z < p.items.length := by omega
           obtain ⟨b, off, cs, T, fz, rfl, g1, ga⟩ := hi.all (by omega)
           obtain ⟨jk, jv, g2, g3, g4, g5, g6⟩ := ga z hj
           obtain ⟨jka, jkc, rfl, _⟩ := g4.form
           obtain ⟨jva, jvc, rfl, _⟩ := g5.form
           have hcmp : 0 < z → ∃ pk, Bs S [] pk (p.items[z - 1]'(by omega)).key ∧ cs[off + (z - 1) * 4 + 0]? = some pk := fun h0 => by
            obtain ⟨pk, pv, q1, q2, q3, q4, q5⟩ := ga (z - 1) (by omega)
            exact ⟨pk, q3, q5⟩
           refine sK (sC (sB (sD (sM rfl ?_))))
           refine L.w rfl (V.indexAddr rfl rfl underlying118 sizeOf112 rfl (by omega)) ?_
           refine L.w rfl (V.loadN rfl isAgg112 sizeOf112 (.tail g1) g2 g3) ?_
           refine L.allocA rfl rfl zeroValue112 (fun b6 => ?_)
           refine sA rfl ?_
           refine L.storeBox rfl rfl rfl sizeOf112 rfl rfl (by rfl) zUp ?_
           refine sN (sC ?_)
           refine C.quiet (by kernel_rfl) (by kernel_rfl) (fun w hw => hw.drawn _) ?_
           refine Q.v rfl rfl rfl (V.loadBox rfl isAgg112 sizeOf112 zAt (by rfl)) ?_
           refine Q.call (v := .bool (decide (itemOk p.items[z]))) rfl rfl rfl rfl call185 rfl (fun w hw => item_ok (g4.lift _) (g5.lift _) hw) ?_
           refine tV rfl (tM rfl ?_)
           refine Q.fork (d := 67) rfl (fun h67 => ?_) (fun h67 => ?_)
           ·try simp only [sq] at h67
            refine tS rfl (tS rfl (tS rfl (tS rfl (tS rfl (tS rfl (tS rfl (tS rfl (tS rfl (tS rfl (tS rfl (tS rfl (tS rfl (tS rfl ?_)))))))))))))
            refine tS rfl (tT rfl (tN (sO rfl (sD (sA rfl (sN ?_))))))
            refine R.ret1 results144 rfl (fun w hw => ?_)
            first
             | exact bad w (fun h => h67 (h.items _ (List.getElem_mem hj))) hw (by simp)
             | exact bad w (fun h => (by
                have q := h.itemsRise (z - 1) (by simp; omega)
                simp only [List.getElem_map] at q
                have e : z - 1 + 1 = z := by omega
                simp only [e] at q
                omega)) hw (by simp)
           ·try simp only [sq] at h67
            refine tM rfl (tQe rfl (tM rfl ?_))
            refine Q.fork (d := 70) rfl (fun h70 => ?_) (fun h70 => ?_)
            ·try simp only [sq] at h70
             obtain ⟨pk, hpk, hpc⟩ := hcmp (by omega)
             refine Q.v rfl rfl rfl (V.fa rfl underlying125 rfl rfl sizeOf118) ?_
             refine Q.v rfl rfl rfl (V.load rfl isAgg118 zAt (by rfl)) ?_
             refine tM rfl ?_
             refine Q.v rfl rfl rfl (V.sub (c := ((z - 1 : Nat) : Int)) rfl rfl (by rw [w64 (by omega) (by omega)]; omega)) ?_
             refine Q.v rfl rfl rfl (V.indexAddr rfl rfl underlying118 sizeOf112 rfl (by omega)) ?_
             refine Q.v rfl rfl rfl (V.fa rfl underlying112 rfl rfl sizeOf22) ?_
             refine Q.v rfl rfl rfl (V.load rfl isAgg22 (.tail (.tail g1)) hpc) ?_
             refine Q.v rfl rfl rfl (V.fa rfl underlying112 rfl rfl sizeOf22) ?_
             refine Q.v rfl rfl rfl (V.load rfl isAgg22 zAt (by rfl)) ?_
             refine Q.call (v := .int .i64 (Lib.compareBytes (p.items[z - 1]'(by omega)).key p.items[z].key)) rfl rfl rfl rfl call116 rfl (fun w hw => compare_ok (hpk.lift _) (g4.lift _) hw) ?_
             refine tQf rfl (tT rfl (tU rfl (tN ?_)))
             refine C.cond rfl (fun h83 => ?_) (fun h83 => ?_)
             ·try simp only [sq] at h83
              refine sD (sA rfl (sN ?_))
              refine R.ret1 results144 rfl (fun w hw => ?_)
              first
               | exact bad w (fun h => h67 (h.items _ (List.getElem_mem hj))) hw (by simp)
               | exact bad w (fun h => (by
                  have q := h.itemsRise (z - 1) (by simp; omega)
                  simp only [List.getElem_map] at q
                  have e : z - 1 + 1 = z := by omega
                  simp only [e] at q
                  omega)) hw (by simp)
             ·try simp only [sq] at h83
              refine C.skip (N.blk (N.seq ?_))
              refine sR ?_
              refine L.w rfl (V.add rfl rfl (w64 (by omega) (by omega))) ?_
              refine sM rfl ?_
              refine L.nil ?_
              exact N.round (z + 1) (by omega) ⟨rfl, rfl, rfl, rfl, trivial⟩ (fun w hw => ⟨⟨by omega, fun j hj hjz => (by
               rcases (by omega : j < z ∨ j = z) with h | rfl
               ·exact hz.2 j hj h
               ·refine ⟨h67, fun h0 => ?_⟩
                first
                 | omega
                 | exact h83)⟩, hw.drop⟩)
            ·try simp only [sq] at h70
             refine tS rfl (tS rfl (tS rfl (tS rfl (tS rfl (tS rfl (tS rfl (tS rfl (tS rfl (tS rfl (tS rfl (tU rfl (tU rfl (tN ?_)))))))))))))
             refine sP rfl ?_
             refine C.skip (N.blk (N.seq ?_))
             refine sR ?_
             refine L.w rfl (V.add rfl rfl (w64 (by omega) (by omega))) ?_
             refine sM rfl ?_
             refine L.nil ?_
             exact N.round (z + 1) (by omega) ⟨rfl, rfl, rfl, rfl, trivial⟩ (fun w hw => ⟨⟨by omega, fun j hj hjz => (by
              rcases (by omega : j < z ∨ j = z) with h | rfl
              ·exact hz.2 j hj h
              ·refine ⟨h67, fun h0 => ?_⟩
               first
                | omega
                | exact h83)⟩, hw.drop⟩)
          ·try simp only [sq] at h60
           refine sZ rfl (sC (sD ?_))
           refine L.w rfl (V.fa rfl underlying125 rfl rfl sizeOf115) ?_
           refine L.w rfl (V.load rfl isAgg115 zAt (by rfl)) ?_
           refine L.w rfl (V.len rfl underlying115) ?_
           refine sM rfl (sN (sB ?_))
           refine C.loop (α := Nat) (fun z => [(1, .pointer (some ⟨b1, 0, none⟩)), (86, .slice ka p.kids.length kc), (87, .int .i64 (p.kids.length : Int)), (88, .int .i64 (z : Int))]) (fun z w => (z ≤ p.kids.length ∧ ∀ j (hj : j < p.kids.length), j < z → kidOk p.kids[j] ∧ (0 < j → Lib.compareBytes (p.kids[j - 1]'(by omega)).key p.kids[j].key < 0)) ∧ Hp w0 F S ((b1, .cells #[.int .i64 (p.kind : Int), .int .u64 (p.txn : Int), .int .i64 (p.next : Int), .slice ia p.items.length ic, .slice ka p.kids.length kc, .slice da p.data.length dc, .slice xa p.ids.length xc] 125 (0, 0)) :: Hr) w) (fun z => p.kids.length - z) 0 ⟨rfl, rfl, rfl, rfl, trivial⟩ (fun w hw => ⟨⟨Nat.zero_le _, fun j hj => by omega⟩, hw⟩) (fun y => C.pure (fun hy => ?_))
           refine sD (sQc rfl (sN (sC ?_)))
           refine C.cond rfl (fun h89 => ?_) (fun h89 => ?_)
           ·try simp only [sq] at h89
            have hj : y < p.kids.length := by omega
            obtain ⟨b, off, cs, T, fz, rfl, g1, ga⟩ := hk.all (by omega)
            obtain ⟨jk, g2, g3, g4, g5, g6⟩ := ga y hj
            obtain ⟨jka, jkc, rfl, _⟩ := g4.form
            have hcmp : 0 < y → ∃ pk, Bs S [] pk (p.kids[y - 1]'(by omega)).key ∧ cs[off + (y - 1) * 2 + 0]? = some pk := fun h0 => by
             obtain ⟨pk, q1, q2, q3, q4, q5⟩ := ga (y - 1) (by omega)
             exact ⟨pk, q3, q4⟩
            refine sK (sC (sB (sD (sM rfl ?_))))
            refine L.w rfl (V.indexAddr rfl rfl underlying115 sizeOf129 rfl (by omega)) ?_
            refine L.w rfl (V.loadN rfl isAgg129 sizeOf129 (.tail g1) g2 g3) ?_
            refine L.allocA rfl rfl zeroValue129 (fun b8 => ?_)
            refine sA rfl ?_
            refine L.storeBox rfl rfl rfl sizeOf129 rfl rfl (by rfl) zUp ?_
            refine sN (sC ?_)
            refine C.quiet (by kernel_rfl) (by kernel_rfl) (fun w hw => hw.drawn _) ?_
            refine Q.v rfl rfl rfl (V.fa rfl underlying129 rfl rfl sizeOf22) ?_
            refine Q.v rfl rfl rfl (V.load rfl isAgg22 zAt (by rfl)) ?_
            refine Q.call (v := .bool (decide (p.kids[y].key.length ≤ 32))) rfl rfl rfl rfl call186 rfl (fun w hw => key_ok (g4.lift _) hw) ?_
            refine tV rfl (tM rfl ?_)
            refine Q.fork (d := 97) rfl (fun h97 => ?_) (fun h97 => ?_)
            ·try simp only [sq] at h97
             refine tS rfl (tS rfl (tS rfl (tS rfl (tT rfl (tM rfl (tS rfl (tS rfl (tS rfl (tS rfl (tS rfl (tS rfl (tS rfl (tS rfl ?_)))))))))))))
             refine tS rfl (tS rfl (tS rfl (tS rfl (tS rfl (tS rfl (tS rfl (tT rfl (tN (sO rfl (sD (sA rfl (sN ?_))))))))))))
             refine R.ret1 results144 rfl (fun w hw => ?_)
             first
              | exact bad w (fun h => absurd (h.kids _ (List.getElem_mem hj)).1 (by omega)) hw (by simp)
              | exact bad w (fun h => (by have := (h.kids _ (List.getElem_mem hj)).2; unfold idOk at this; omega)) hw (by simp)
              | exact bad w (fun h => (by
                 have q := h.kidsRise (y - 1) (by simp; omega)
                 simp only [List.getElem_map] at q
                 have e : y - 1 + 1 = y := by omega
                 simp only [e] at q
                 omega)) hw (by simp)
            ·try simp only [sq] at h97
             refine Q.v rfl rfl rfl (V.fa rfl underlying129 rfl rfl sizeOf3) ?_
             refine Q.v rfl rfl rfl (V.load rfl isAgg3 zAt (by rfl)) ?_
             refine Q.call (v := .bool (decide (1 ≤ p.kids[y].page ∧ p.kids[y].page < 1024))) rfl rfl rfl rfl call187 rfl (fun w hw => id_ok _ hw) ?_
             refine tV rfl (tU rfl (tM rfl ?_))
             refine Q.fork (d := 103) rfl (fun h103 => ?_) (fun h103 => ?_)
             ·try simp only [sq] at h103
              refine tS rfl (tS rfl (tS rfl (tS rfl (tS rfl (tS rfl (tS rfl (tS rfl (tS rfl (tS rfl (tS rfl (tS rfl (tS rfl (tS rfl ?_)))))))))))))
              refine tS rfl (tT rfl (tN (sO rfl (sD (sA rfl (sN ?_))))))
              refine R.ret1 results144 rfl (fun w hw => ?_)
              first
               | exact bad w (fun h => absurd (h.kids _ (List.getElem_mem hj)).1 (by omega)) hw (by simp)
               | exact bad w (fun h => (by have := (h.kids _ (List.getElem_mem hj)).2; unfold idOk at this; omega)) hw (by simp)
               | exact bad w (fun h => (by
                  have q := h.kidsRise (y - 1) (by simp; omega)
                  simp only [List.getElem_map] at q
                  have e : y - 1 + 1 = y := by omega
                  simp only [e] at q
                  omega)) hw (by simp)
             ·try simp only [sq] at h103
              refine tM rfl (tQe rfl (tM rfl ?_))
              refine Q.fork (d := 106) rfl (fun h106 => ?_) (fun h106 => ?_)
              ·try simp only [sq] at h106
               obtain ⟨pk, hpk, hpc⟩ := hcmp (by omega)
               refine Q.v rfl rfl rfl (V.fa rfl underlying125 rfl rfl sizeOf115) ?_
               refine Q.v rfl rfl rfl (V.load rfl isAgg115 zAt (by rfl)) ?_
               refine tM rfl ?_
               refine Q.v rfl rfl rfl (V.sub (c := ((y - 1 : Nat) : Int)) rfl rfl (by rw [w64 (by omega) (by omega)]; omega)) ?_
               refine Q.v rfl rfl rfl (V.indexAddr rfl rfl underlying115 sizeOf129 rfl (by omega)) ?_
               refine Q.v rfl rfl rfl (V.fa rfl underlying129 rfl rfl sizeOf22) ?_
               refine Q.v rfl rfl rfl (V.load rfl isAgg22 (.tail (.tail g1)) hpc) ?_
               refine Q.v rfl rfl rfl (V.fa rfl underlying129 rfl rfl sizeOf22) ?_
               refine Q.v rfl rfl rfl (V.load rfl isAgg22 zAt (by rfl)) ?_
               refine Q.call (v := .int .i64 (Lib.compareBytes (p.kids[y - 1]'(by omega)).key p.kids[y].key)) rfl rfl rfl rfl call116 rfl (fun w hw => compare_ok (hpk.lift _) (g4.lift _) hw) ?_
               refine tQf rfl (tT rfl (tU rfl (tN ?_)))
               refine C.cond rfl (fun h119 => ?_) (fun h119 => ?_)
               ·try simp only [sq] at h119
                refine sD (sA rfl (sN ?_))
                refine R.ret1 results144 rfl (fun w hw => ?_)
                first
                 | exact bad w (fun h => absurd (h.kids _ (List.getElem_mem hj)).1 (by omega)) hw (by simp)
                 | exact bad w (fun h => (by have := (h.kids _ (List.getElem_mem hj)).2; unfold idOk at this; omega)) hw (by simp)
                 | exact bad w (fun h => (by
                    have q := h.kidsRise (y - 1) (by simp; omega)
                    simp only [List.getElem_map] at q
                    have e : y - 1 + 1 = y := by omega
                    simp only [e] at q
                    omega)) hw (by simp)
               ·try simp only [sq] at h119
                refine C.skip (N.blk (N.seq ?_))
                refine sR ?_
                refine L.w rfl (V.add rfl rfl (w64 (by omega) (by omega))) ?_
                refine sM rfl ?_
                refine L.nil ?_
                exact N.round (y + 1) (by omega) ⟨rfl, rfl, rfl, rfl, trivial⟩ (fun w hw => ⟨⟨by omega, fun j hj hjz => (by
                 rcases (by omega : j < y ∨ j = y) with h | rfl
                 ·exact hy.2 j hj h
                 ·refine ⟨⟨h97, by unfold idOk; omega⟩, fun h0 => ?_⟩
                  first
                   | omega
                   | exact h119)⟩, hw.drop⟩)
              ·try simp only [sq] at h106
               refine tS rfl (tS rfl (tS rfl (tS rfl (tS rfl (tS rfl (tS rfl (tS rfl (tS rfl (tS rfl (tS rfl (tU rfl (tU rfl (tN ?_)))))))))))))
               refine sP rfl ?_
               refine C.skip (N.blk (N.seq ?_))
               refine sR ?_
               refine L.w rfl (V.add rfl rfl (w64 (by omega) (by omega))) ?_
               refine sM rfl ?_
               refine L.nil ?_
               exact N.round (y + 1) (by omega) ⟨rfl, rfl, rfl, rfl, trivial⟩ (fun w hw => ⟨⟨by omega, fun j hj hjz => (by
                rcases (by omega : j < y ∨ j = y) with h | rfl
                ·exact hy.2 j hj h
                ·refine ⟨⟨h97, by unfold idOk; omega⟩, fun h0 => ?_⟩
                 first
                  | omega
                  | exact h119)⟩, hw.drop⟩)
           ·try simp only [sq] at h89
            refine sZ rfl (sC (sD ?_))
            refine L.w rfl (V.fa rfl underlying125 rfl rfl sizeOf37) ?_
            refine L.w rfl (V.load rfl isAgg37 zAt (by rfl)) ?_
            refine L.w rfl (V.len rfl underlying37) ?_
            refine sM rfl (sN (sB ?_))
            refine C.loop (α := Nat) (fun z => [(1, .pointer (some ⟨b1, 0, none⟩)), (122, .slice xa p.ids.length xc), (123, .int .i64 (p.ids.length : Int)), (124, .int .i64 (z : Int))]) (fun z w => (z ≤ p.ids.length ∧ ∀ j (hj : j < p.ids.length), j < z → idOk p.ids[j] ∧ (0 < j → p.ids[j - 1]'(by omega) < p.ids[j])) ∧ Hp w0 F S ((b1, .cells #[.int .i64 (p.kind : Int), .int .u64 (p.txn : Int), .int .i64 (p.next : Int), .slice ia p.items.length ic, .slice ka p.kids.length kc, .slice da p.data.length dc, .slice xa p.ids.length xc] 125 (0, 0)) :: Hr) w) (fun z => p.ids.length - z) 0 ⟨rfl, rfl, rfl, rfl, trivial⟩ (fun w hw => ⟨⟨Nat.zero_le _, fun j hj => by omega⟩, hw⟩) (fun x => C.pure (fun hx1 => ?_))
            refine sD (sQc rfl (sN (sC ?_)))
            refine C.cond rfl (fun h125 => ?_) (fun h125 => ?_)
            ·try simp only [sq] at h125
             have hj : x < p.ids.length := by omega
             obtain ⟨b, off, cs, T, fz, rfl, g1, ga⟩ := hx.all (by omega)
             have g2 := ga x hj
             refine sK (sC (sB (sD (sM rfl ?_))))
             refine L.w rfl (V.indexAddr rfl rfl underlying37 sizeOf3 rfl (by omega)) ?_
             refine L.w rfl (V.load rfl isAgg3 (.tail g1) g2) ?_
             refine sA rfl (sA rfl (sE (sM rfl ?_)))
             refine L.call rfl rfl rfl call187 rfl (fun w hw => id_ok _ hw) ?_
             rintro _ a w hst ⟨rfl, hw⟩
             refine hst.go rfl hw ?_
             clear hst hw w a
             refine sV rfl (sM rfl ?_)
             refine L.fork (d := 132) rfl (fun h132 => ?_) (fun h132 => ?_)
             ·try simp only [sq] at h132
              refine sS rfl (sS rfl (sS rfl (sS rfl (sS rfl (sS rfl (sS rfl (sS rfl (sS rfl (sS rfl (sS rfl (sS rfl (sT rfl (sN ?_)))))))))))))
              refine sO rfl (sD (sA rfl (sN ?_)))
              refine R.ret1 results144 rfl (fun w hw => ?_)
              first
               | exact bad w (fun h => (by have := h.ids _ (List.getElem_mem hj); unfold idOk at this; omega)) hw (by simp)
               | exact bad w (fun h => (by
                  have q := h.idsRise (x - 1) (by omega)
                  have e : x - 1 + 1 = x := by omega
                  simp only [e] at q
                  omega)) hw (by simp)
             ·try simp only [sq] at h132
              refine sM rfl (sQe rfl (sM rfl ?_))
              refine L.fork (d := 135) rfl (fun h135 => ?_) (fun h135 => ?_)
              ·try simp only [sq] at h135
               have g3 := ga (x - 1) (by omega)
               refine L.w rfl (V.fa rfl underlying125 rfl rfl sizeOf37) ?_
               refine L.w rfl (V.load rfl isAgg37 zAt (by rfl)) ?_
               refine sM rfl ?_
               refine L.w rfl (V.sub (c := ((x - 1 : Nat) : Int)) rfl rfl (by rw [w64 (by omega) (by omega)]; omega)) ?_
               refine L.w rfl (V.indexAddr rfl rfl underlying37 sizeOf3 rfl (by omega)) ?_
               refine L.w rfl (V.load rfl isAgg3 (.tail g1) g3) ?_
               refine sM rfl (sQf rfl (sT rfl (sU rfl (sN ?_))))
               refine C.cond rfl (fun h145 => ?_) (fun h145 => ?_)
               ·try simp only [sq] at h145
                refine sD (sA rfl (sN ?_))
                refine R.ret1 results144 rfl (fun w hw => ?_)
                first
                 | exact bad w (fun h => (by have := h.ids _ (List.getElem_mem hj); unfold idOk at this; omega)) hw (by simp)
                 | exact bad w (fun h => (by
                    have q := h.idsRise (x - 1) (by omega)
                    have e : x - 1 + 1 = x := by omega
                    simp only [e] at q
                    omega)) hw (by simp)
               ·try simp only [sq] at h145
                refine C.skip (N.blk (N.seq ?_))
                refine sR ?_
                refine L.w rfl (V.add rfl rfl (w64 (by omega) (by omega))) ?_
                refine sM rfl ?_
                refine L.nil ?_
                exact N.round (x + 1) (by omega) ⟨rfl, rfl, rfl, rfl, trivial⟩ (fun w hw => ⟨⟨by omega, fun j hj hjz => (by
                 rcases (by omega : j < x ∨ j = x) with h | rfl
                 ·exact hx1.2 j hj h
                 ·exact ⟨by unfold idOk; omega, fun h0 => by omega⟩)⟩, hw⟩)
              ·try simp only [sq] at h135
               refine sS rfl (sS rfl (sS rfl (sS rfl (sS rfl (sS rfl (sS rfl (sS rfl (sU rfl (sU rfl (sN (sP rfl ?_)))))))))))
               refine C.skip (N.blk (N.seq ?_))
               refine sR ?_
               refine L.w rfl (V.add rfl rfl (w64 (by omega) (by omega))) ?_
               refine sM rfl ?_
               refine L.nil ?_
               exact N.round (x + 1) (by omega) ⟨rfl, rfl, rfl, rfl, trivial⟩ (fun w hw => ⟨⟨by omega, fun j hj hjz => (by
                rcases (by omega : j < x ∨ j = x) with h | rfl
                ·exact hx1.2 j hj h
                ·exact ⟨by unfold idOk; omega, fun h0 => by omega⟩)⟩, hw⟩)
            ·try simp only [sq] at h125
             refine sZ rfl (sD ?_)
             refine L.w rfl (V.loadBox rfl isAgg125 sizeOf125 zAt (by rfl)) ?_
             refine L.call rfl rfl rfl call145 rfl (fun w hw => used_ok (hp0.mono (.refl S) (le1 [_])) hs hw) ?_
             rintro _ a w hst ⟨rfl, hw⟩
             refine hst.go rfl hw ?_
             clear hst hw w a
             refine sQd rfl (sA rfl (sN ?_))
             refine R.ret1 results144 rfl (fun w hw => ?_)
             refine ⟨ret_bool ?_, hw.drop⟩
             rw [decide_eq_true_eq, decide_eq_true_eq]
             have ex : x = p.ids.length := by omega
             have ey : y = p.kids.length := by omega
             have ez : z = p.items.length := by omega
             constructor
             ·intro hu
              refine ⟨honly, ?_, by omega, by omega, ?_, ?_, ?_, ?_, ?_, ?_, ?_, by omega⟩
              ·omega
              ·omega
              ·intro q hq
               obtain ⟨i, hi2, rfl⟩ := List.getElem_of_mem hq
               exact (hz.2 i hi2 (by omega)).1
              ·exact rise_of fun i hi2 h0 => by
                simp only [List.length_map] at hi2
                simpa using (hz.2 i hi2 (by omega)).2 h0
              ·intro q hq
               obtain ⟨i, hi2, rfl⟩ := List.getElem_of_mem hq
               exact (hy.2 i hi2 (by omega)).1
              ·exact rise_of fun i hi2 h0 => by
                simp only [List.length_map] at hi2
                simpa using (hy.2 i hi2 (by omega)).2 h0
              ·intro q hq
               obtain ⟨i, hi2, rfl⟩ := List.getElem_of_mem hq
               exact (hx1.2 i hi2 (by omega)).1
              ·intro i hi2
               exact (hx1.2 (i + 1) hi2 (by omega)).2 (by omega)
             ·intro h
              have := h.used
              omega
       ·try simp only [sq] at h45
        refine sS rfl (sS rfl (sS rfl (sS rfl (sS rfl (sS rfl (sS rfl (sS rfl (sU rfl (sU rfl (sN (sP rfl (sK (sC ?_)))))))))))))
        refine sD ?_
        refine L.w rfl (V.fa rfl underlying125 rfl rfl sizeOf118) ?_
        refine L.w rfl (V.load rfl isAgg118 zAt (by rfl)) ?_
        refine L.w rfl (V.len rfl underlying118) ?_
        refine sM rfl (sN (sB ?_))
        refine C.loop (α := Nat) (fun z => [(1, .pointer (some ⟨b1, 0, none⟩)), (57, .slice ia p.items.length ic), (58, .int .i64 (p.items.length : Int)), (59, .int .i64 (z : Int))]) (fun z w => (z ≤ p.items.length ∧ ∀ j (hj : j < p.items.length), j < z → itemOk p.items[j] ∧ (0 < j → Lib.compareBytes (p.items[j - 1]'(by omega)).key p.items[j].key < 0)) ∧ Hp w0 F S ((b1, .cells #[.int .i64 (p.kind : Int), .int .u64 (p.txn : Int), .int .i64 (p.next : Int), .slice ia p.items.length ic, .slice ka p.kids.length kc, .slice da p.data.length dc, .slice xa p.ids.length xc] 125 (0, 0)) :: Hr) w) (fun z => p.items.length - z) 0 ⟨rfl, rfl, rfl, rfl, trivial⟩ (fun w hw => ⟨⟨Nat.zero_le _, fun j hj => by omega⟩, hw⟩) (fun z => C.pure (fun hz => ?_))
        refine sD (sQc rfl (sN (sC ?_)))
        refine C.cond rfl (fun h60 => ?_) (fun h60 => ?_)
        ·try simp only [sq] at h60
         have hj : z < p.items.length := by omega
         obtain ⟨b, off, cs, T, fz, rfl, g1, ga⟩ := hi.all (by omega)
         obtain ⟨jk, jv, g2, g3, g4, g5, g6⟩ := ga z hj
         obtain ⟨jka, jkc, rfl, _⟩ := g4.form
         obtain ⟨jva, jvc, rfl, _⟩ := g5.form
         have hcmp : 0 < z → ∃ pk, Bs S [] pk (p.items[z - 1]'(by omega)).key ∧ cs[off + (z - 1) * 4 + 0]? = some pk := fun h0 => by
          obtain ⟨pk, pv, q1, q2, q3, q4, q5⟩ := ga (z - 1) (by omega)
          exact ⟨pk, q3, q5⟩
         refine sK (sC (sB (sD (sM rfl ?_))))
         refine L.w rfl (V.indexAddr rfl rfl underlying118 sizeOf112 rfl (by omega)) ?_
         refine L.w rfl (V.loadN rfl isAgg112 sizeOf112 (.tail g1) g2 g3) ?_
         refine L.allocA rfl rfl zeroValue112 (fun b6 => ?_)
         refine sA rfl ?_
         refine L.storeBox rfl rfl rfl sizeOf112 rfl rfl (by rfl) zUp ?_
         refine sN (sC ?_)
         refine C.quiet (by kernel_rfl) (by kernel_rfl) (fun w hw => hw.drawn _) ?_
         refine Q.v rfl rfl rfl (V.loadBox rfl isAgg112 sizeOf112 zAt (by rfl)) ?_
         refine Q.call (v := .bool (decide (itemOk p.items[z]))) rfl rfl rfl rfl call185 rfl (fun w hw => item_ok (g4.lift _) (g5.lift _) hw) ?_
         refine tV rfl (tM rfl ?_)
         refine Q.fork (d := 67) rfl (fun h67 => ?_) (fun h67 => ?_)
         ·try simp only [sq] at h67
          refine tS rfl (tS rfl (tS rfl (tS rfl (tS rfl (tS rfl (tS rfl (tS rfl (tS rfl (tS rfl (tS rfl (tS rfl (tS rfl (tS rfl ?_)))))))))))))
          refine tS rfl (tT rfl (tN (sO rfl (sD (sA rfl (sN ?_))))))
          refine R.ret1 results144 rfl (fun w hw => ?_)
          first
           | exact bad w (fun h => h67 (h.items _ (List.getElem_mem hj))) hw (by simp)
           | exact bad w (fun h => (by
              have q := h.itemsRise (z - 1) (by simp; omega)
              simp only [List.getElem_map] at q
              have e : z - 1 + 1 = z := by omega
              simp only [e] at q
              omega)) hw (by simp)
         ·try simp only [sq] at h67
          refine tM rfl (tQe rfl (tM rfl ?_))
          refine Q.fork (d := 70) rfl (fun h70 => ?_) (fun h70 => ?_)
          ·try simp only [sq] at h70
           obtain ⟨pk, hpk, hpc⟩ := hcmp (by omega)
           refine Q.v rfl rfl rfl (V.fa rfl underlying125 rfl rfl sizeOf118) ?_
           refine Q.v rfl rfl rfl (V.load rfl isAgg118 zAt (by rfl)) ?_
           refine tM rfl ?_
           refine Q.v rfl rfl rfl (V.sub (c := ((z - 1 : Nat) : Int)) rfl rfl (by rw [w64 (by omega) (by omega)]; omega)) ?_
           refine Q.v rfl rfl rfl (V.indexAddr rfl rfl underlying118 sizeOf112 rfl (by omega)) ?_
           refine Q.v rfl rfl rfl (V.fa rfl underlying112 rfl rfl sizeOf22) ?_
           refine Q.v rfl rfl rfl (V.load rfl isAgg22 (.tail (.tail g1)) hpc) ?_
           refine Q.v rfl rfl rfl (V.fa rfl underlying112 rfl rfl sizeOf22) ?_
           refine Q.v rfl rfl rfl (V.load rfl isAgg22 zAt (by rfl)) ?_
           refine Q.call (v := .int .i64 (Lib.compareBytes (p.items[z - 1]'(by omega)).key p.items[z].key)) rfl rfl rfl rfl call116 rfl (fun w hw => compare_ok (hpk.lift _) (g4.lift _) hw) ?_
           refine tQf rfl (tT rfl (tU rfl (tN ?_)))
           refine C.cond rfl (fun h83 => ?_) (fun h83 => ?_)
           ·try simp only [sq] at h83
            refine sD (sA rfl (sN ?_))
            refine R.ret1 results144 rfl (fun w hw => ?_)
            first
             | exact bad w (fun h => h67 (h.items _ (List.getElem_mem hj))) hw (by simp)
             | exact bad w (fun h => (by
                have q := h.itemsRise (z - 1) (by simp; omega)
                simp only [List.getElem_map] at q
                have e : z - 1 + 1 = z := by omega
                simp only [e] at q
                omega)) hw (by simp)
           ·try simp only [sq] at h83
            refine C.skip (N.blk (N.seq ?_))
            refine sR ?_
            refine L.w rfl (V.add rfl rfl (w64 (by omega) (by omega))) ?_
            refine sM rfl ?_
            refine L.nil ?_
            exact N.round (z + 1) (by omega) ⟨rfl, rfl, rfl, rfl, trivial⟩ (fun w hw => ⟨⟨by omega, fun j hj hjz => (by
             rcases (by omega : j < z ∨ j = z) with h | rfl
             ·exact hz.2 j hj h
             ·refine ⟨h67, fun h0 => ?_⟩
              first
               | omega
               | exact h83)⟩, hw.drop⟩)
          ·try simp only [sq] at h70
           refine tS rfl (tS rfl (tS rfl (tS rfl (tS rfl (tS rfl (tS rfl (tS rfl (tS rfl (tS rfl (tS rfl (tU rfl (tU rfl (tN ?_)))))))))))))
           refine sP rfl ?_
           refine C.skip (N.blk (N.seq ?_))
           refine sR ?_
           refine L.w rfl (V.add rfl rfl (w64 (by omega) (by omega))) ?_
           refine sM rfl ?_
           refine L.nil ?_
           exact N.round (z + 1) (by omega) ⟨rfl, rfl, rfl, rfl, trivial⟩ (fun w hw => ⟨⟨by omega, fun j hj hjz => (by
            rcases (by omega : j < z ∨ j = z) with h | rfl
            ·exact hz.2 j hj h
            ·refine ⟨h67, fun h0 => ?_⟩
             first
              | omega
              | exact h83)⟩, hw.drop⟩)
        ·try simp only [sq] at h60
         refine sZ rfl (sC (sD ?_))
         refine L.w rfl (V.fa rfl underlying125 rfl rfl sizeOf115) ?_
         refine L.w rfl (V.load rfl isAgg115 zAt (by rfl)) ?_
         refine L.w rfl (V.len rfl underlying115) ?_
         refine sM rfl (sN (sB ?_))
         refine C.loop (α := Nat) (fun z => [(1, .pointer (some ⟨b1, 0, none⟩)), (86, .slice ka p.kids.length kc), (87, .int .i64 (p.kids.length : Int)), (88, .int .i64 (z : Int))]) (fun z w => (z ≤ p.kids.length ∧ ∀ j (hj : j < p.kids.length), j < z → kidOk p.kids[j] ∧ (0 < j → Lib.compareBytes (p.kids[j - 1]'(by omega)).key p.kids[j].key < 0)) ∧ Hp w0 F S ((b1, .cells #[.int .i64 (p.kind : Int), .int .u64 (p.txn : Int), .int .i64 (p.next : Int), .slice ia p.items.length ic, .slice ka p.kids.length kc, .slice da p.data.length dc, .slice xa p.ids.length xc] 125 (0, 0)) :: Hr) w) (fun z => p.kids.length - z) 0 ⟨rfl, rfl, rfl, rfl, trivial⟩ (fun w hw => ⟨⟨Nat.zero_le _, fun j hj => by omega⟩, hw⟩) (fun y => C.pure (fun hy => ?_))
         refine sD (sQc rfl (sN (sC ?_)))
         refine C.cond rfl (fun h89 => ?_) (fun h89 => ?_)
         ·try simp only [sq] at h89
          have hj : y < p.kids.length := by omega
          obtain ⟨b, off, cs, T, fz, rfl, g1, ga⟩ := hk.all (by omega)
          obtain ⟨jk, g2, g3, g4, g5, g6⟩ := ga y hj
          obtain ⟨jka, jkc, rfl, _⟩ := g4.form
          have hcmp : 0 < y → ∃ pk, Bs S [] pk (p.kids[y - 1]'(by omega)).key ∧ cs[off + (y - 1) * 2 + 0]? = some pk := fun h0 => by
           obtain ⟨pk, q1, q2, q3, q4, q5⟩ := ga (y - 1) (by omega)
           exact ⟨pk, q3, q4⟩
          refine sK (sC (sB (sD (sM rfl ?_))))
          refine L.w rfl (V.indexAddr rfl rfl underlying115 sizeOf129 rfl (by omega)) ?_
          refine L.w rfl (V.loadN rfl isAgg129 sizeOf129 (.tail g1) g2 g3) ?_
          refine L.allocA rfl rfl zeroValue129 (fun b8 => ?_)
          refine sA rfl ?_
          refine L.storeBox rfl rfl rfl sizeOf129 rfl rfl (by rfl) zUp ?_
          refine sN (sC ?_)
          refine C.quiet (by kernel_rfl) (by kernel_rfl) (fun w hw => hw.drawn _) ?_
          refine Q.v rfl rfl rfl (V.fa rfl underlying129 rfl rfl sizeOf22) ?_
          refine Q.v rfl rfl rfl (V.load rfl isAgg22 zAt (by rfl)) ?_
          refine Q.call (v := .bool (decide (p.kids[y].key.length ≤ 32))) rfl rfl rfl rfl call186 rfl (fun w hw => key_ok (g4.lift _) hw) ?_
          refine tV rfl (tM rfl ?_)
          refine Q.fork (d := 97) rfl (fun h97 => ?_) (fun h97 => ?_)
          ·try simp only [sq] at h97
           refine tS rfl (tS rfl (tS rfl (tS rfl (tT rfl (tM rfl (tS rfl (tS rfl (tS rfl (tS rfl (tS rfl (tS rfl (tS rfl (tS rfl ?_)))))))))))))
           refine tS rfl (tS rfl (tS rfl (tS rfl (tS rfl (tS rfl (tS rfl (tT rfl (tN (sO rfl (sD (sA rfl (sN ?_))))))))))))
           refine R.ret1 results144 rfl (fun w hw => ?_)
           first
            | exact bad w (fun h => absurd (h.kids _ (List.getElem_mem hj)).1 (by omega)) hw (by simp)
            | exact bad w (fun h => (by have := (h.kids _ (List.getElem_mem hj)).2; unfold idOk at this; omega)) hw (by simp)
            | exact bad w (fun h => (by
               have q := h.kidsRise (y - 1) (by simp; omega)
               simp only [List.getElem_map] at q
               have e : y - 1 + 1 = y := by omega
               simp only [e] at q
               omega)) hw (by simp)
          ·try simp only [sq] at h97
           refine Q.v rfl rfl rfl (V.fa rfl underlying129 rfl rfl sizeOf3) ?_
           refine Q.v rfl rfl rfl (V.load rfl isAgg3 zAt (by rfl)) ?_
           refine Q.call (v := .bool (decide (1 ≤ p.kids[y].page ∧ p.kids[y].page < 1024))) rfl rfl rfl rfl call187 rfl (fun w hw => id_ok _ hw) ?_
           refine tV rfl (tU rfl (tM rfl ?_))
           refine Q.fork (d := 103) rfl (fun h103 => ?_) (fun h103 => ?_)
           ·try simp only [sq] at h103
            refine tS rfl (tS rfl (tS rfl (tS rfl (tS rfl (tS rfl (tS rfl (tS rfl (tS rfl (tS rfl (tS rfl (tS rfl (tS rfl (tS rfl ?_)))))))))))))
            refine tS rfl (tT rfl (tN (sO rfl (sD (sA rfl (sN ?_))))))
            refine R.ret1 results144 rfl (fun w hw => ?_)
            first
             | exact bad w (fun h => absurd (h.kids _ (List.getElem_mem hj)).1 (by omega)) hw (by simp)
             | exact bad w (fun h => (by have := (h.kids _ (List.getElem_mem hj)).2; unfold idOk at this; omega)) hw (by simp)
             | exact bad w (fun h => (by
                have q := h.kidsRise (y - 1) (by simp; omega)
                simp only [List.getElem_map] at q
                have e : y - 1 + 1 = y := by omega
                simp only [e] at q
                omega)) hw (by simp)
           ·try simp only [sq] at h103
            refine tM rfl (tQe rfl (tM rfl ?_))
            refine Q.fork (d := 106) rfl (fun h106 => ?_) (fun h106 => ?_)
            ·try simp only [sq] at h106
             obtain ⟨pk, hpk, hpc⟩ := hcmp (by omega)
             refine Q.v rfl rfl rfl (V.fa rfl underlying125 rfl rfl sizeOf115) ?_
             refine Q.v rfl rfl rfl (V.load rfl isAgg115 zAt (by rfl)) ?_
             refine tM rfl ?_
             refine Q.v rfl rfl rfl (V.sub (c := ((y - 1 : Nat) : Int)) rfl rfl (by rw [w64 (by omega) (by omega)]; omega)) ?_
             refine Q.v rfl rfl rfl (V.indexAddr rfl rfl underlying115 sizeOf129 rfl (by omega)) ?_
             refine Q.v rfl rfl rfl (V.fa rfl underlying129 rfl rfl sizeOf22) ?_
             refine Q.v rfl rfl rfl (V.load rfl isAgg22 (.tail (.tail g1)) hpc) ?_
             refine Q.v rfl rfl rfl (V.fa rfl underlying129 rfl rfl sizeOf22) ?_
             refine Q.v rfl rfl rfl (V.load rfl isAgg22 zAt (by rfl)) ?_
             refine Q.call (v := .int .i64 (Lib.compareBytes (p.kids[y - 1]'(by omega)).key p.kids[y].key)) rfl rfl rfl rfl call116 rfl (fun w hw => compare_ok (hpk.lift _) (g4.lift _) hw) ?_
             refine tQf rfl (tT rfl (tU rfl (tN ?_)))
             refine C.cond rfl (fun h119 => ?_) (fun h119 => ?_)
             ·try simp only [sq] at h119
              refine sD (sA rfl (sN ?_))
              refine R.ret1 results144 rfl (fun w hw => ?_)
              first
               | exact bad w (fun h => absurd (h.kids _ (List.getElem_mem hj)).1 (by omega)) hw (by simp)
               | exact bad w (fun h => (by have := (h.kids _ (List.getElem_mem hj)).2; unfold idOk at this; omega)) hw (by simp)
               | exact bad w (fun h => (by
                  have q := h.kidsRise (y - 1) (by simp; omega)
                  simp only [List.getElem_map] at q
                  have e : y - 1 + 1 = y := by omega
                  simp only [e] at q
                  omega)) hw (by simp)
             ·try simp only [sq] at h119
              refine C.skip (N.blk (N.seq ?_))
              refine sR ?_
              refine L.w rfl (V.add rfl rfl (w64 (by omega) (by omega))) ?_
              refine sM rfl ?_
              refine L.nil ?_
              exact N.round (y + 1) (by omega) ⟨rfl, rfl, rfl, rfl, trivial⟩ (fun w hw => ⟨⟨by omega, fun j hj hjz => (by
               rcases (by omega : j < y ∨ j = y) with h | rfl
               ·exact hy.2 j hj h
               ·refine ⟨⟨h97, by unfold idOk; omega⟩, fun h0 => ?_⟩
                first
                 | omega
                 | exact h119)⟩, hw.drop⟩)
            ·try simp only [sq] at h106
             refine tS rfl (tS rfl (tS rfl (tS rfl (tS rfl (tS rfl (tS rfl (tS rfl (tS rfl (tS rfl (tS rfl (tU rfl (tU rfl (tN ?_)))))))))))))
             refine sP rfl ?_
             refine C.skip (N.blk (N.seq ?_))
             refine sR ?_
             refine L.w rfl (V.add rfl rfl (w64 (by omega) (by omega))) ?_
             refine sM rfl ?_
             refine L.nil ?_
             exact N.round (y + 1) (by omega) ⟨rfl, rfl, rfl, rfl, trivial⟩ (fun w hw => ⟨⟨by omega, fun j hj hjz => (by
              rcases (by omega : j < y ∨ j = y) with h | rfl
              ·exact hy.2 j hj h
              ·refine ⟨⟨h97, by unfold idOk; omega⟩, fun h0 => ?_⟩
               first
                | omega
                | exact h119)⟩, hw.drop⟩)
         ·try simp only [sq] at h89
          refine sZ rfl (sC (sD ?_))
          refine L.w rfl (V.fa rfl underlying125 rfl rfl sizeOf37) ?_
          refine L.w rfl (V.load rfl isAgg37 zAt (by rfl)) ?_
          refine L.w rfl (V.len rfl underlying37) ?_
          refine sM rfl (sN (sB ?_))
          refine C.loop (α := Nat) (fun z => [(1, .pointer (some ⟨b1, 0, none⟩)), (122, .slice xa p.ids.length xc), (123, .int .i64 (p.ids.length : Int)), (124, .int .i64 (z : Int))]) (fun z w => (z ≤ p.ids.length ∧ ∀ j (hj : j < p.ids.length), j < z → idOk p.ids[j] ∧ (0 < j → p.ids[j - 1]'(by omega) < p.ids[j])) ∧ Hp w0 F S ((b1, .cells #[.int .i64 (p.kind : Int), .int .u64 (p.txn : Int), .int .i64 (p.next : Int), .slice ia p.items.length ic, .slice ka p.kids.length kc, .slice da p.data.length dc, .slice xa p.ids.length xc] 125 (0, 0)) :: Hr) w) (fun z => p.ids.length - z) 0 ⟨rfl, rfl, rfl, rfl, trivial⟩ (fun w hw => ⟨⟨Nat.zero_le _, fun j hj => by omega⟩, hw⟩) (fun x => C.pure (fun hx1 => ?_))
          refine sD (sQc rfl (sN (sC ?_)))
          refine C.cond rfl (fun h125 => ?_) (fun h125 => ?_)
          ·try simp only [sq] at h125
           have hj : x < p.ids.length := by omega
           obtain ⟨b, off, cs, T, fz, rfl, g1, ga⟩ := hx.all (by omega)
           have g2 := ga x hj
           refine sK (sC (sB (sD (sM rfl ?_))))
           refine L.w rfl (V.indexAddr rfl rfl underlying37 sizeOf3 rfl (by omega)) ?_
           refine L.w rfl (V.load rfl isAgg3 (.tail g1) g2) ?_
           refine sA rfl (sA rfl (sE (sM rfl ?_)))
           refine L.call rfl rfl rfl call187 rfl (fun w hw => id_ok _ hw) ?_
           rintro _ a w hst ⟨rfl, hw⟩
           refine hst.go rfl hw ?_
           clear hst hw w a
           refine sV rfl (sM rfl ?_)
           refine L.fork (d := 132) rfl (fun h132 => ?_) (fun h132 => ?_)
           ·try simp only [sq] at h132
            refine sS rfl (sS rfl (sS rfl (sS rfl (sS rfl (sS rfl (sS rfl (sS rfl (sS rfl (sS rfl (sS rfl (sS rfl (sT rfl (sN ?_)))))))))))))
            refine sO rfl (sD (sA rfl (sN ?_)))
            refine R.ret1 results144 rfl (fun w hw => ?_)
            first
             | exact bad w (fun h => (by have := h.ids _ (List.getElem_mem hj); unfold idOk at this; omega)) hw (by simp)
             | exact bad w (fun h => (by
                have q := h.idsRise (x - 1) (by omega)
                have e : x - 1 + 1 = x := by omega
                simp only [e] at q
                omega)) hw (by simp)
           ·try simp only [sq] at h132
            refine sM rfl (sQe rfl (sM rfl ?_))
            refine L.fork (d := 135) rfl (fun h135 => ?_) (fun h135 => ?_)
            ·try simp only [sq] at h135
             have g3 := ga (x - 1) (by omega)
             refine L.w rfl (V.fa rfl underlying125 rfl rfl sizeOf37) ?_
             refine L.w rfl (V.load rfl isAgg37 zAt (by rfl)) ?_
             refine sM rfl ?_
             refine L.w rfl (V.sub (c := ((x - 1 : Nat) : Int)) rfl rfl (by rw [w64 (by omega) (by omega)]; omega)) ?_
             refine L.w rfl (V.indexAddr rfl rfl underlying37 sizeOf3 rfl (by omega)) ?_
             refine L.w rfl (V.load rfl isAgg3 (.tail g1) g3) ?_
             refine sM rfl (sQf rfl (sT rfl (sU rfl (sN ?_))))
             refine C.cond rfl (fun h145 => ?_) (fun h145 => ?_)
             ·try simp only [sq] at h145
              refine sD (sA rfl (sN ?_))
              refine R.ret1 results144 rfl (fun w hw => ?_)
              first
               | exact bad w (fun h => (by have := h.ids _ (List.getElem_mem hj); unfold idOk at this; omega)) hw (by simp)
               | exact bad w (fun h => (by
                  have q := h.idsRise (x - 1) (by omega)
                  have e : x - 1 + 1 = x := by omega
                  simp only [e] at q
                  omega)) hw (by simp)
             ·try simp only [sq] at h145
              refine C.skip (N.blk (N.seq ?_))
              refine sR ?_
              refine L.w rfl (V.add rfl rfl (w64 (by omega) (by omega))) ?_
              refine sM rfl ?_
              refine L.nil ?_
              exact N.round (x + 1) (by omega) ⟨rfl, rfl, rfl, rfl, trivial⟩ (fun w hw => ⟨⟨by omega, fun j hj hjz => (by
               rcases (by omega : j < x ∨ j = x) with h | rfl
               ·exact hx1.2 j hj h
               ·exact ⟨by unfold idOk; omega, fun h0 => by omega⟩)⟩, hw⟩)
            ·try simp only [sq] at h135
             refine sS rfl (sS rfl (sS rfl (sS rfl (sS rfl (sS rfl (sS rfl (sS rfl (sU rfl (sU rfl (sN (sP rfl ?_)))))))))))
             refine C.skip (N.blk (N.seq ?_))
             refine sR ?_
             refine L.w rfl (V.add rfl rfl (w64 (by omega) (by omega))) ?_
             refine sM rfl ?_
             refine L.nil ?_
             exact N.round (x + 1) (by omega) ⟨rfl, rfl, rfl, rfl, trivial⟩ (fun w hw => ⟨⟨by omega, fun j hj hjz => (by
              rcases (by omega : j < x ∨ j = x) with h | rfl
              ·exact hx1.2 j hj h
              ·exact ⟨by unfold idOk; omega, fun h0 => by omega⟩)⟩, hw⟩)
          ·try simp only [sq] at h125
           refine sZ rfl (sD ?_)
           refine L.w rfl (V.loadBox rfl isAgg125 sizeOf125 zAt (by rfl)) ?_
           refine L.call rfl rfl rfl call145 rfl (fun w hw => used_ok (hp0.mono (.refl S) (le1 [_])) hs hw) ?_
           rintro _ a w hst ⟨rfl, hw⟩
           refine hst.go rfl hw ?_
           clear hst hw w a
           refine sQd rfl (sA rfl (sN ?_))
           refine R.ret1 results144 rfl (fun w hw => ?_)
           refine ⟨ret_bool ?_, hw.drop⟩
           rw [decide_eq_true_eq, decide_eq_true_eq]
           have ex : x = p.ids.length := by omega
           have ey : y = p.kids.length := by omega
           have ez : z = p.items.length := by omega
           constructor
           ·intro hu
            refine ⟨honly, ?_, by omega, by omega, ?_, ?_, ?_, ?_, ?_, ?_, ?_, by omega⟩
            ·omega
            ·omega
            ·intro q hq
             obtain ⟨i, hi2, rfl⟩ := List.getElem_of_mem hq
             exact (hz.2 i hi2 (by omega)).1
            ·exact rise_of fun i hi2 h0 => by
              simp only [List.length_map] at hi2
              simpa using (hz.2 i hi2 (by omega)).2 h0
            ·intro q hq
             obtain ⟨i, hi2, rfl⟩ := List.getElem_of_mem hq
             exact (hy.2 i hi2 (by omega)).1
            ·exact rise_of fun i hi2 h0 => by
              simp only [List.length_map] at hi2
              simpa using (hy.2 i hi2 (by omega)).2 h0
            ·intro q hq
             obtain ⟨i, hi2, rfl⟩ := List.getElem_of_mem hq
             exact (hx1.2 i hi2 (by omega)).1
            ·intro i hi2
             exact (hx1.2 (i + 1) hi2 (by omega)).2 (by omega)
           ·intro h
            have := h.used
            omega
  ·try simp only [sq] at h21
   refine sS rfl (sS rfl (sS rfl (sU rfl (sU rfl (sM rfl (sM rfl (sQe rfl (sU rfl (sM rfl ?_)))))))))
   refine L.fork (d := 31) rfl (fun h31 => ?_) (fun h31 => ?_)
   ·try simp only [sq] at h31
    refine sS rfl (sS rfl (sS rfl (sT rfl (sM rfl (sS rfl (sS rfl (sS rfl (sT rfl (sM rfl (sS rfl (sS rfl (sS rfl (sS rfl ?_)))))))))))))
    refine sS rfl (sS rfl (sS rfl (sS rfl (sS rfl (sS rfl (sS rfl (sS rfl (sS rfl (sT rfl (sN (sO rfl (sD (sA rfl ?_)))))))))))))
    refine sN ?_
    refine R.ret1 results144 rfl (fun w hw => ?_)
    first
     | exact bad w (fun h => h18 h.only) hw (by simp)
     | (refine bad w (fun h => ?_) hw (by simp)
        have r1 := h.some
        have r2 := h.few
        have r3 := h.next
        have r4 := h.last
        omega)
   ·try simp only [sq] at h31
    refine L.w rfl (V.fa rfl underlying125 rfl rfl sizeOf3) ?_
    refine L.w rfl (V.load rfl isAgg3 zAt (by rfl)) ?_
    refine sQc rfl (sU rfl (sM rfl ?_))
    refine L.fork (d := 36) rfl (fun h36 => ?_) (fun h36 => ?_)
    ·try simp only [sq] at h36
     refine sS rfl (sS rfl (sS rfl (sT rfl (sM rfl (sS rfl (sS rfl (sS rfl (sS rfl (sS rfl (sS rfl (sS rfl (sS rfl (sS rfl ?_)))))))))))))
     refine sS rfl (sS rfl (sS rfl (sS rfl (sT rfl (sN (sO rfl (sD (sA rfl (sN ?_)))))))))
     refine R.ret1 results144 rfl (fun w hw => ?_)
     first
      | exact bad w (fun h => h18 h.only) hw (by simp)
      | (refine bad w (fun h => ?_) hw (by simp)
         have r1 := h.some
         have r2 := h.few
         have r3 := h.next
         have r4 := h.last
         omega)
    ·try simp only [sq] at h36
     refine L.w rfl (V.fa rfl underlying125 rfl rfl sizeOf3) ?_
     refine L.w rfl (V.load rfl isAgg3 zAt (by rfl)) ?_
     refine sQf rfl (sU rfl (sM rfl ?_))
     refine L.fork (d := 41) rfl (fun h41 => ?_) (fun h41 => ?_)
     ·try simp only [sq] at h41
      refine sS rfl (sS rfl (sS rfl (sS rfl (sS rfl (sS rfl (sS rfl (sS rfl (sS rfl (sS rfl (sS rfl (sS rfl (sS rfl (sT rfl ?_)))))))))))))
      refine sN (sO rfl (sD (sA rfl (sN ?_))))
      refine R.ret1 results144 rfl (fun w hw => ?_)
      first
       | exact bad w (fun h => h18 h.only) hw (by simp)
       | (refine bad w (fun h => ?_) hw (by simp)
          have r1 := h.some
          have r2 := h.few
          have r3 := h.next
          have r4 := h.last
          omega)
     ·try simp only [sq] at h41
      refine L.w rfl (V.fa rfl underlying125 rfl rfl sizeOf3) ?_
      refine L.w rfl (V.load rfl isAgg3 zAt (by rfl)) ?_
      refine sQe rfl (sM rfl ?_)
      refine L.fork (d := 45) rfl (fun h45 => ?_) (fun h45 => ?_)
      ·try simp only [sq] at h45
       refine L.w rfl (V.fa rfl underlying125 rfl rfl sizeOf3) ?_
       refine L.w rfl (V.load rfl isAgg3 zAt (by rfl)) ?_
       refine sQa rfl (sM rfl ?_)
       refine L.fork (d := 49) rfl (fun h49 => ?_) (fun h49 => ?_)
       ·try simp only [sq] at h49
        refine sS rfl (sS rfl (sS rfl (sT rfl (sT rfl (sU rfl (sN (sO rfl (sD (sA rfl (sN ?_))))))))))
        refine R.ret1 results144 rfl (fun w hw => ?_)
        first
         | exact bad w (fun h => h18 h.only) hw (by simp)
         | (refine bad w (fun h => ?_) hw (by simp)
            have r1 := h.some
            have r2 := h.few
            have r3 := h.next
            have r4 := h.last
            omega)
       ·try simp only [sq] at h49
        refine L.w rfl (V.fa rfl underlying125 rfl rfl sizeOf3) ?_
        refine L.w rfl (V.load rfl isAgg3 zAt (by rfl)) ?_
        refine sQa rfl (sU rfl (sT rfl (sU rfl (sN ?_))))
        refine C.cond rfl (fun h55 => ?_) (fun h55 => ?_)
        ·try simp only [sq] at h55
         refine sD (sA rfl (sN ?_))
         refine R.ret1 results144 rfl (fun w hw => ?_)
         first
          | exact bad w (fun h => h18 h.only) hw (by simp)
          | (refine bad w (fun h => ?_) hw (by simp)
             have r1 := h.some
             have r2 := h.few
             have r3 := h.next
             have r4 := h.last
             omega)
        ·try simp only [sq] at h55
         refine sK (sC (sD ?_))
         refine L.w rfl (V.fa rfl underlying125 rfl rfl sizeOf118) ?_
         refine L.w rfl (V.load rfl isAgg118 zAt (by rfl)) ?_
         refine L.w rfl (V.len rfl underlying118) ?_
         refine sM rfl (sN (sB ?_))
         refine C.loop (α := Nat) (fun z => [(1, .pointer (some ⟨b1, 0, none⟩)), (57, .slice ia p.items.length ic), (58, .int .i64 (p.items.length : Int)), (59, .int .i64 (z : Int))]) (fun z w => (z ≤ p.items.length ∧ ∀ j (hj : j < p.items.length), j < z → itemOk p.items[j] ∧ (0 < j → Lib.compareBytes (p.items[j - 1]'(by omega)).key p.items[j].key < 0)) ∧ Hp w0 F S ((b1, .cells #[.int .i64 (p.kind : Int), .int .u64 (p.txn : Int), .int .i64 (p.next : Int), .slice ia p.items.length ic, .slice ka p.kids.length kc, .slice da p.data.length dc, .slice xa p.ids.length xc] 125 (0, 0)) :: Hr) w) (fun z => p.items.length - z) 0 ⟨rfl, rfl, rfl, rfl, trivial⟩ (fun w hw => ⟨⟨Nat.zero_le _, fun j hj => by omega⟩, hw⟩) (fun z => C.pure (fun hz => ?_))
         refine sD (sQc rfl (sN (sC ?_)))
         refine C.cond rfl (fun h60 => ?_) (fun h60 => ?_)
         ·try simp only [sq] at h60
          have hj : z < p.items.length := by omega
          obtain ⟨b, off, cs, T, fz, rfl, g1, ga⟩ := hi.all (by omega)
          obtain ⟨jk, jv, g2, g3, g4, g5, g6⟩ := ga z hj
          obtain ⟨jka, jkc, rfl, _⟩ := g4.form
          obtain ⟨jva, jvc, rfl, _⟩ := g5.form
          have hcmp : 0 < z → ∃ pk, Bs S [] pk (p.items[z - 1]'(by omega)).key ∧ cs[off + (z - 1) * 4 + 0]? = some pk := fun h0 => by
           obtain ⟨pk, pv, q1, q2, q3, q4, q5⟩ := ga (z - 1) (by omega)
           exact ⟨pk, q3, q5⟩
          refine sK (sC (sB (sD (sM rfl ?_))))
          refine L.w rfl (V.indexAddr rfl rfl underlying118 sizeOf112 rfl (by omega)) ?_
          refine L.w rfl (V.loadN rfl isAgg112 sizeOf112 (.tail g1) g2 g3) ?_
          refine L.allocA rfl rfl zeroValue112 (fun b6 => ?_)
          refine sA rfl ?_
          refine L.storeBox rfl rfl rfl sizeOf112 rfl rfl (by rfl) zUp ?_
          refine sN (sC ?_)
          refine C.quiet (by kernel_rfl) (by kernel_rfl) (fun w hw => hw.drawn _) ?_
          refine Q.v rfl rfl rfl (V.loadBox rfl isAgg112 sizeOf112 zAt (by rfl)) ?_
          refine Q.call (v := .bool (decide (itemOk p.items[z]))) rfl rfl rfl rfl call185 rfl (fun w hw => item_ok (g4.lift _) (g5.lift _) hw) ?_
          refine tV rfl (tM rfl ?_)
          refine Q.fork (d := 67) rfl (fun h67 => ?_) (fun h67 => ?_)
          ·try simp only [sq] at h67
           refine tS rfl (tS rfl (tS rfl (tS rfl (tS rfl (tS rfl (tS rfl (tS rfl (tS rfl (tS rfl (tS rfl (tS rfl (tS rfl (tS rfl ?_)))))))))))))
           refine tS rfl (tT rfl (tN (sO rfl (sD (sA rfl (sN ?_))))))
           refine R.ret1 results144 rfl (fun w hw => ?_)
           first
            | exact bad w (fun h => h67 (h.items _ (List.getElem_mem hj))) hw (by simp)
            | exact bad w (fun h => (by
               have q := h.itemsRise (z - 1) (by simp; omega)
               simp only [List.getElem_map] at q
               have e : z - 1 + 1 = z := by omega
               simp only [e] at q
               omega)) hw (by simp)
          ·try simp only [sq] at h67
           refine tM rfl (tQe rfl (tM rfl ?_))
           refine Q.fork (d := 70) rfl (fun h70 => ?_) (fun h70 => ?_)
           ·try simp only [sq] at h70
            obtain ⟨pk, hpk, hpc⟩ := hcmp (by omega)
            refine Q.v rfl rfl rfl (V.fa rfl underlying125 rfl rfl sizeOf118) ?_
            refine Q.v rfl rfl rfl (V.load rfl isAgg118 zAt (by rfl)) ?_
            refine tM rfl ?_
            refine Q.v rfl rfl rfl (V.sub (c := ((z - 1 : Nat) : Int)) rfl rfl (by rw [w64 (by omega) (by omega)]; omega)) ?_
            refine Q.v rfl rfl rfl (V.indexAddr rfl rfl underlying118 sizeOf112 rfl (by omega)) ?_
            refine Q.v rfl rfl rfl (V.fa rfl underlying112 rfl rfl sizeOf22) ?_
            refine Q.v rfl rfl rfl (V.load rfl isAgg22 (.tail (.tail g1)) hpc) ?_
            refine Q.v rfl rfl rfl (V.fa rfl underlying112 rfl rfl sizeOf22) ?_
            refine Q.v rfl rfl rfl (V.load rfl isAgg22 zAt (by rfl)) ?_
            refine Q.call (v := .int .i64 (Lib.compareBytes (p.items[z - 1]'(by omega)).key p.items[z].key)) rfl rfl rfl rfl call116 rfl (fun w hw => compare_ok (hpk.lift _) (g4.lift _) hw) ?_
            refine tQf rfl (tT rfl (tU rfl (tN ?_)))
            refine C.cond rfl (fun h83 => ?_) (fun h83 => ?_)
            ·try simp only [sq] at h83
             refine sD (sA rfl (sN ?_))
             refine R.ret1 results144 rfl (fun w hw => ?_)
             first
              | exact bad w (fun h => h67 (h.items _ (List.getElem_mem hj))) hw (by simp)
              | exact bad w (fun h => (by
                 have q := h.itemsRise (z - 1) (by simp; omega)
                 simp only [List.getElem_map] at q
                 have e : z - 1 + 1 = z := by omega
                 simp only [e] at q
                 omega)) hw (by simp)
            ·try simp only [sq] at h83
             refine C.skip (N.blk (N.seq ?_))
             refine sR ?_
             refine L.w rfl (V.add rfl rfl (w64 (by omega) (by omega))) ?_
             refine sM rfl ?_
             refine L.nil ?_
             exact N.round (z + 1) (by omega) ⟨rfl, rfl, rfl, rfl, trivial⟩ (fun w hw => ⟨⟨by omega, fun j hj hjz => (by
              rcases (by omega : j < z ∨ j = z) with h | rfl
              ·exact hz.2 j hj h
              ·refine ⟨h67, fun h0 => ?_⟩
               first
                | omega
                | exact h83)⟩, hw.drop⟩)
           ·try simp only [sq] at h70
            refine tS rfl (tS rfl (tS rfl (tS rfl (tS rfl (tS rfl (tS rfl (tS rfl (tS rfl (tS rfl (tS rfl (tU rfl (tU rfl (tN ?_)))))))))))))
            refine sP rfl ?_
            refine C.skip (N.blk (N.seq ?_))
            refine sR ?_
            refine L.w rfl (V.add rfl rfl (w64 (by omega) (by omega))) ?_
            refine sM rfl ?_
            refine L.nil ?_
            exact N.round (z + 1) (by omega) ⟨rfl, rfl, rfl, rfl, trivial⟩ (fun w hw => ⟨⟨by omega, fun j hj hjz => (by
             rcases (by omega : j < z ∨ j = z) with h | rfl
             ·exact hz.2 j hj h
             ·refine ⟨h67, fun h0 => ?_⟩
              first
               | omega
               | exact h83)⟩, hw.drop⟩)
         ·try simp only [sq] at h60
          refine sZ rfl (sC (sD ?_))
          refine L.w rfl (V.fa rfl underlying125 rfl rfl sizeOf115) ?_
          refine L.w rfl (V.load rfl isAgg115 zAt (by rfl)) ?_
          refine L.w rfl (V.len rfl underlying115) ?_
          refine sM rfl (sN (sB ?_))
          refine C.loop (α := Nat) (fun z => [(1, .pointer (some ⟨b1, 0, none⟩)), (86, .slice ka p.kids.length kc), (87, .int .i64 (p.kids.length : Int)), (88, .int .i64 (z : Int))]) (fun z w => (z ≤ p.kids.length ∧ ∀ j (hj : j < p.kids.length), j < z → kidOk p.kids[j] ∧ (0 < j → Lib.compareBytes (p.kids[j - 1]'(by omega)).key p.kids[j].key < 0)) ∧ Hp w0 F S ((b1, .cells #[.int .i64 (p.kind : Int), .int .u64 (p.txn : Int), .int .i64 (p.next : Int), .slice ia p.items.length ic, .slice ka p.kids.length kc, .slice da p.data.length dc, .slice xa p.ids.length xc] 125 (0, 0)) :: Hr) w) (fun z => p.kids.length - z) 0 ⟨rfl, rfl, rfl, rfl, trivial⟩ (fun w hw => ⟨⟨Nat.zero_le _, fun j hj => by omega⟩, hw⟩) (fun y => C.pure (fun hy => ?_))
          refine sD (sQc rfl (sN (sC ?_)))
          refine C.cond rfl (fun h89 => ?_) (fun h89 => ?_)
          ·try simp only [sq] at h89
           have hj : y < p.kids.length := by omega
           obtain ⟨b, off, cs, T, fz, rfl, g1, ga⟩ := hk.all (by omega)
           obtain ⟨jk, g2, g3, g4, g5, g6⟩ := ga y hj
           obtain ⟨jka, jkc, rfl, _⟩ := g4.form
           have hcmp : 0 < y → ∃ pk, Bs S [] pk (p.kids[y - 1]'(by omega)).key ∧ cs[off + (y - 1) * 2 + 0]? = some pk := fun h0 => by
            obtain ⟨pk, q1, q2, q3, q4, q5⟩ := ga (y - 1) (by omega)
            exact ⟨pk, q3, q4⟩
           refine sK (sC (sB (sD (sM rfl ?_))))
           refine L.w rfl (V.indexAddr rfl rfl underlying115 sizeOf129 rfl (by omega)) ?_
           refine L.w rfl (V.loadN rfl isAgg129 sizeOf129 (.tail g1) g2 g3) ?_
           refine L.allocA rfl rfl zeroValue129 (fun b8 => ?_)
           refine sA rfl ?_
           refine L.storeBox rfl rfl rfl sizeOf129 rfl rfl (by rfl) zUp ?_
           refine sN (sC ?_)
           refine C.quiet (by kernel_rfl) (by kernel_rfl) (fun w hw => hw.drawn _) ?_
           refine Q.v rfl rfl rfl (V.fa rfl underlying129 rfl rfl sizeOf22) ?_
           refine Q.v rfl rfl rfl (V.load rfl isAgg22 zAt (by rfl)) ?_
           refine Q.call (v := .bool (decide (p.kids[y].key.length ≤ 32))) rfl rfl rfl rfl call186 rfl (fun w hw => key_ok (g4.lift _) hw) ?_
           refine tV rfl (tM rfl ?_)
           refine Q.fork (d := 97) rfl (fun h97 => ?_) (fun h97 => ?_)
           ·try simp only [sq] at h97
            refine tS rfl (tS rfl (tS rfl (tS rfl (tT rfl (tM rfl (tS rfl (tS rfl (tS rfl (tS rfl (tS rfl (tS rfl (tS rfl (tS rfl ?_)))))))))))))
            refine tS rfl (tS rfl (tS rfl (tS rfl (tS rfl (tS rfl (tS rfl (tT rfl (tN (sO rfl (sD (sA rfl (sN ?_))))))))))))
            refine R.ret1 results144 rfl (fun w hw => ?_)
            first
             | exact bad w (fun h => absurd (h.kids _ (List.getElem_mem hj)).1 (by omega)) hw (by simp)
             | exact bad w (fun h => (by have := (h.kids _ (List.getElem_mem hj)).2; unfold idOk at this; omega)) hw (by simp)
             | exact bad w (fun h => (by
                have q := h.kidsRise (y - 1) (by simp; omega)
                simp only [List.getElem_map] at q
                have e : y - 1 + 1 = y := by omega
                simp only [e] at q
                omega)) hw (by simp)
           ·try simp only [sq] at h97
            refine Q.v rfl rfl rfl (V.fa rfl underlying129 rfl rfl sizeOf3) ?_
            refine Q.v rfl rfl rfl (V.load rfl isAgg3 zAt (by rfl)) ?_
            refine Q.call (v := .bool (decide (1 ≤ p.kids[y].page ∧ p.kids[y].page < 1024))) rfl rfl rfl rfl call187 rfl (fun w hw => id_ok _ hw) ?_
            refine tV rfl (tU rfl (tM rfl ?_))
            refine Q.fork (d := 103) rfl (fun h103 => ?_) (fun h103 => ?_)
            ·try simp only [sq] at h103
             refine tS rfl (tS rfl (tS rfl (tS rfl (tS rfl (tS rfl (tS rfl (tS rfl (tS rfl (tS rfl (tS rfl (tS rfl (tS rfl (tS rfl ?_)))))))))))))
             refine tS rfl (tT rfl (tN (sO rfl (sD (sA rfl (sN ?_))))))
             refine R.ret1 results144 rfl (fun w hw => ?_)
             first
              | exact bad w (fun h => absurd (h.kids _ (List.getElem_mem hj)).1 (by omega)) hw (by simp)
              | exact bad w (fun h => (by have := (h.kids _ (List.getElem_mem hj)).2; unfold idOk at this; omega)) hw (by simp)
              | exact bad w (fun h => (by
                 have q := h.kidsRise (y - 1) (by simp; omega)
                 simp only [List.getElem_map] at q
                 have e : y - 1 + 1 = y := by omega
                 simp only [e] at q
                 omega)) hw (by simp)
            ·try simp only [sq] at h103
             refine tM rfl (tQe rfl (tM rfl ?_))
             refine Q.fork (d := 106) rfl (fun h106 => ?_) (fun h106 => ?_)
             ·try simp only [sq] at h106
              obtain ⟨pk, hpk, hpc⟩ := hcmp (by omega)
              refine Q.v rfl rfl rfl (V.fa rfl underlying125 rfl rfl sizeOf115) ?_
              refine Q.v rfl rfl rfl (V.load rfl isAgg115 zAt (by rfl)) ?_
              refine tM rfl ?_
              refine Q.v rfl rfl rfl (V.sub (c := ((y - 1 : Nat) : Int)) rfl rfl (by rw [w64 (by omega) (by omega)]; omega)) ?_
              refine Q.v rfl rfl rfl (V.indexAddr rfl rfl underlying115 sizeOf129 rfl (by omega)) ?_
              refine Q.v rfl rfl rfl (V.fa rfl underlying129 rfl rfl sizeOf22) ?_
              refine Q.v rfl rfl rfl (V.load rfl isAgg22 (.tail (.tail g1)) hpc) ?_
              refine Q.v rfl rfl rfl (V.fa rfl underlying129 rfl rfl sizeOf22) ?_
              refine Q.v rfl rfl rfl (V.load rfl isAgg22 zAt (by rfl)) ?_
              refine Q.call (v := .int .i64 (Lib.compareBytes (p.kids[y - 1]'(by omega)).key p.kids[y].key)) rfl rfl rfl rfl call116 rfl (fun w hw => compare_ok (hpk.lift _) (g4.lift _) hw) ?_
              refine tQf rfl (tT rfl (tU rfl (tN ?_)))
              refine C.cond rfl (fun h119 => ?_) (fun h119 => ?_)
              ·try simp only [sq] at h119
               refine sD (sA rfl (sN ?_))
               refine R.ret1 results144 rfl (fun w hw => ?_)
               first
                | exact bad w (fun h => absurd (h.kids _ (List.getElem_mem hj)).1 (by omega)) hw (by simp)
                | exact bad w (fun h => (by have := (h.kids _ (List.getElem_mem hj)).2; unfold idOk at this; omega)) hw (by simp)
                | exact bad w (fun h => (by
                   have q := h.kidsRise (y - 1) (by simp; omega)
                   simp only [List.getElem_map] at q
                   have e : y - 1 + 1 = y := by omega
                   simp only [e] at q
                   omega)) hw (by simp)
              ·try simp only [sq] at h119
               refine C.skip (N.blk (N.seq ?_))
               refine sR ?_
               refine L.w rfl (V.add rfl rfl (w64 (by omega) (by omega))) ?_
               refine sM rfl ?_
               refine L.nil ?_
               exact N.round (y + 1) (by omega) ⟨rfl, rfl, rfl, rfl, trivial⟩ (fun w hw => ⟨⟨by omega, fun j hj hjz => (by
                rcases (by omega : j < y ∨ j = y) with h | rfl
                ·exact hy.2 j hj h
                ·refine ⟨⟨h97, by unfold idOk; omega⟩, fun h0 => ?_⟩
                 first
                  | omega
                  | exact h119)⟩, hw.drop⟩)
             ·try simp only [sq] at h106
              refine tS rfl (tS rfl (tS rfl (tS rfl (tS rfl (tS rfl (tS rfl (tS rfl (tS rfl (tS rfl (tS rfl (tU rfl (tU rfl (tN ?_)))))))))))))
              refine sP rfl ?_
              refine C.skip (N.blk (N.seq ?_))
              refine sR ?_
              refine L.w rfl (V.add rfl rfl (w64 (by omega) (by omega))) ?_
              refine sM rfl ?_
              refine L.nil ?_
              exact N.round (y + 1) (by omega) ⟨rfl, rfl, rfl, rfl, trivial⟩ (fun w hw => ⟨⟨by omega, fun j hj hjz => (by
               rcases (by omega : j < y ∨ j = y) with h | rfl
               ·exact hy.2 j hj h
               ·refine ⟨⟨h97, by unfold idOk; omega⟩, fun h0 => ?_⟩
                first
                 | omega
                 | exact h119)⟩, hw.drop⟩)
          ·try simp only [sq] at h89
           refine sZ rfl (sC (sD ?_))
           refine L.w rfl (V.fa rfl underlying125 rfl rfl sizeOf37) ?_
           refine L.w rfl (V.load rfl isAgg37 zAt (by rfl)) ?_
           refine L.w rfl (V.len rfl underlying37) ?_
           refine sM rfl (sN (sB ?_))
           refine C.loop (α := Nat) (fun z => [(1, .pointer (some ⟨b1, 0, none⟩)), (122, .slice xa p.ids.length xc), (123, .int .i64 (p.ids.length : Int)), (124, .int .i64 (z : Int))]) (fun z w => (z ≤ p.ids.length ∧ ∀ j (hj : j < p.ids.length), j < z → idOk p.ids[j] ∧ (0 < j → p.ids[j - 1]'(by omega) < p.ids[j])) ∧ Hp w0 F S ((b1, .cells #[.int .i64 (p.kind : Int), .int .u64 (p.txn : Int), .int .i64 (p.next : Int), .slice ia p.items.length ic, .slice ka p.kids.length kc, .slice da p.data.length dc, .slice xa p.ids.length xc] 125 (0, 0)) :: Hr) w) (fun z => p.ids.length - z) 0 ⟨rfl, rfl, rfl, rfl, trivial⟩ (fun w hw => ⟨⟨Nat.zero_le _, fun j hj => by omega⟩, hw⟩) (fun x => C.pure (fun hx1 => ?_))
           refine sD (sQc rfl (sN (sC ?_)))
           refine C.cond rfl (fun h125 => ?_) (fun h125 => ?_)
           ·try simp only [sq] at h125
            have hj : x < p.ids.length := by omega
            obtain ⟨b, off, cs, T, fz, rfl, g1, ga⟩ := hx.all (by omega)
            have g2 := ga x hj
            refine sK (sC (sB (sD (sM rfl ?_))))
            refine L.w rfl (V.indexAddr rfl rfl underlying37 sizeOf3 rfl (by omega)) ?_
            refine L.w rfl (V.load rfl isAgg3 (.tail g1) g2) ?_
            refine sA rfl (sA rfl (sE (sM rfl ?_)))
            refine L.call rfl rfl rfl call187 rfl (fun w hw => id_ok _ hw) ?_
            rintro _ a w hst ⟨rfl, hw⟩
            refine hst.go rfl hw ?_
            clear hst hw w a
            refine sV rfl (sM rfl ?_)
            refine L.fork (d := 132) rfl (fun h132 => ?_) (fun h132 => ?_)
            ·try simp only [sq] at h132
             refine sS rfl (sS rfl (sS rfl (sS rfl (sS rfl (sS rfl (sS rfl (sS rfl (sS rfl (sS rfl (sS rfl (sS rfl (sT rfl (sN ?_)))))))))))))
             refine sO rfl (sD (sA rfl (sN ?_)))
             refine R.ret1 results144 rfl (fun w hw => ?_)
             first
              | exact bad w (fun h => (by have := h.ids _ (List.getElem_mem hj); unfold idOk at this; omega)) hw (by simp)
              | exact bad w (fun h => (by
                 have q := h.idsRise (x - 1) (by omega)
                 have e : x - 1 + 1 = x := by omega
                 simp only [e] at q
                 omega)) hw (by simp)
            ·try simp only [sq] at h132
             refine sM rfl (sQe rfl (sM rfl ?_))
             refine L.fork (d := 135) rfl (fun h135 => ?_) (fun h135 => ?_)
             ·try simp only [sq] at h135
              have g3 := ga (x - 1) (by omega)
              refine L.w rfl (V.fa rfl underlying125 rfl rfl sizeOf37) ?_
              refine L.w rfl (V.load rfl isAgg37 zAt (by rfl)) ?_
              refine sM rfl ?_
              refine L.w rfl (V.sub (c := ((x - 1 : Nat) : Int)) rfl rfl (by rw [w64 (by omega) (by omega)]; omega)) ?_
              refine L.w rfl (V.indexAddr rfl rfl underlying37 sizeOf3 rfl (by omega)) ?_
              refine L.w rfl (V.load rfl isAgg3 (.tail g1) g3) ?_
              refine sM rfl (sQf rfl (sT rfl (sU rfl (sN ?_))))
              refine C.cond rfl (fun h145 => ?_) (fun h145 => ?_)
              ·try simp only [sq] at h145
               refine sD (sA rfl (sN ?_))
               refine R.ret1 results144 rfl (fun w hw => ?_)
               first
                | exact bad w (fun h => (by have := h.ids _ (List.getElem_mem hj); unfold idOk at this; omega)) hw (by simp)
                | exact bad w (fun h => (by
                   have q := h.idsRise (x - 1) (by omega)
                   have e : x - 1 + 1 = x := by omega
                   simp only [e] at q
                   omega)) hw (by simp)
              ·try simp only [sq] at h145
               refine C.skip (N.blk (N.seq ?_))
               refine sR ?_
               refine L.w rfl (V.add rfl rfl (w64 (by omega) (by omega))) ?_
               refine sM rfl ?_
               refine L.nil ?_
               exact N.round (x + 1) (by omega) ⟨rfl, rfl, rfl, rfl, trivial⟩ (fun w hw => ⟨⟨by omega, fun j hj hjz => (by
                rcases (by omega : j < x ∨ j = x) with h | rfl
                ·exact hx1.2 j hj h
                ·exact ⟨by unfold idOk; omega, fun h0 => by omega⟩)⟩, hw⟩)
             ·try simp only [sq] at h135
              refine sS rfl (sS rfl (sS rfl (sS rfl (sS rfl (sS rfl (sS rfl (sS rfl (sU rfl (sU rfl (sN (sP rfl ?_)))))))))))
              refine C.skip (N.blk (N.seq ?_))
              refine sR ?_
              refine L.w rfl (V.add rfl rfl (w64 (by omega) (by omega))) ?_
              refine sM rfl ?_
              refine L.nil ?_
              exact N.round (x + 1) (by omega) ⟨rfl, rfl, rfl, rfl, trivial⟩ (fun w hw => ⟨⟨by omega, fun j hj hjz => (by
               rcases (by omega : j < x ∨ j = x) with h | rfl
               ·exact hx1.2 j hj h
               ·exact ⟨by unfold idOk; omega, fun h0 => by omega⟩)⟩, hw⟩)
           ·try simp only [sq] at h125
            refine sZ rfl (sD ?_)
            refine L.w rfl (V.loadBox rfl isAgg125 sizeOf125 zAt (by rfl)) ?_
            refine L.call rfl rfl rfl call145 rfl (fun w hw => used_ok (hp0.mono (.refl S) (le1 [_])) hs hw) ?_
            rintro _ a w hst ⟨rfl, hw⟩
            refine hst.go rfl hw ?_
            clear hst hw w a
            refine sQd rfl (sA rfl (sN ?_))
            refine R.ret1 results144 rfl (fun w hw => ?_)
            refine ⟨ret_bool ?_, hw.drop⟩
            rw [decide_eq_true_eq, decide_eq_true_eq]
            have ex : x = p.ids.length := by omega
            have ey : y = p.kids.length := by omega
            have ez : z = p.items.length := by omega
            constructor
            ·intro hu
             refine ⟨honly, ?_, by omega, by omega, ?_, ?_, ?_, ?_, ?_, ?_, ?_, by omega⟩
             ·omega
             ·omega
             ·intro q hq
              obtain ⟨i, hi2, rfl⟩ := List.getElem_of_mem hq
              exact (hz.2 i hi2 (by omega)).1
             ·exact rise_of fun i hi2 h0 => by
               simp only [List.length_map] at hi2
               simpa using (hz.2 i hi2 (by omega)).2 h0
             ·intro q hq
              obtain ⟨i, hi2, rfl⟩ := List.getElem_of_mem hq
              exact (hy.2 i hi2 (by omega)).1
             ·exact rise_of fun i hi2 h0 => by
               simp only [List.length_map] at hi2
               simpa using (hy.2 i hi2 (by omega)).2 h0
             ·intro q hq
              obtain ⟨i, hi2, rfl⟩ := List.getElem_of_mem hq
              exact (hx1.2 i hi2 (by omega)).1
             ·intro i hi2
              exact (hx1.2 (i + 1) hi2 (by omega)).2 (by omega)
            ·intro h
             have := h.used
             omega
      ·try simp only [sq] at h45
       refine sS rfl (sS rfl (sS rfl (sS rfl (sS rfl (sS rfl (sS rfl (sS rfl (sU rfl (sU rfl (sN (sP rfl (sK (sC ?_)))))))))))))
       refine sD ?_
       refine L.w rfl (V.fa rfl underlying125 rfl rfl sizeOf118) ?_
       refine L.w rfl (V.load rfl isAgg118 zAt (by rfl)) ?_
       refine L.w rfl (V.len rfl underlying118) ?_
       refine sM rfl (sN (sB ?_))
       refine C.loop (α := Nat) (fun z => [(1, .pointer (some ⟨b1, 0, none⟩)), (57, .slice ia p.items.length ic), (58, .int .i64 (p.items.length : Int)), (59, .int .i64 (z : Int))]) (fun z w => (z ≤ p.items.length ∧ ∀ j (hj : j < p.items.length), j < z → itemOk p.items[j] ∧ (0 < j → Lib.compareBytes (p.items[j - 1]'(by omega)).key p.items[j].key < 0)) ∧ Hp w0 F S ((b1, .cells #[.int .i64 (p.kind : Int), .int .u64 (p.txn : Int), .int .i64 (p.next : Int), .slice ia p.items.length ic, .slice ka p.kids.length kc, .slice da p.data.length dc, .slice xa p.ids.length xc] 125 (0, 0)) :: Hr) w) (fun z => p.items.length - z) 0 ⟨rfl, rfl, rfl, rfl, trivial⟩ (fun w hw => ⟨⟨Nat.zero_le _, fun j hj => by omega⟩, hw⟩) (fun z => C.pure (fun hz => ?_))
       refine sD (sQc rfl (sN (sC ?_)))
       refine C.cond rfl (fun h60 => ?_) (fun h60 => ?_)
       ·try simp only [sq] at h60
        have hj : z < p.items.length := by omega
        obtain ⟨b, off, cs, T, fz, rfl, g1, ga⟩ := hi.all (by omega)
        obtain ⟨jk, jv, g2, g3, g4, g5, g6⟩ := ga z hj
        obtain ⟨jka, jkc, rfl, _⟩ := g4.form
        obtain ⟨jva, jvc, rfl, _⟩ := g5.form
        have hcmp : 0 < z → ∃ pk, Bs S [] pk (p.items[z - 1]'(by omega)).key ∧ cs[off + (z - 1) * 4 + 0]? = some pk := fun h0 => by
         obtain ⟨pk, pv, q1, q2, q3, q4, q5⟩ := ga (z - 1) (by omega)
         exact ⟨pk, q3, q5⟩
        refine sK (sC (sB (sD (sM rfl ?_))))
        refine L.w rfl (V.indexAddr rfl rfl underlying118 sizeOf112 rfl (by omega)) ?_
        refine L.w rfl (V.loadN rfl isAgg112 sizeOf112 (.tail g1) g2 g3) ?_
        refine L.allocA rfl rfl zeroValue112 (fun b6 => ?_)
        refine sA rfl ?_
        refine L.storeBox rfl rfl rfl sizeOf112 rfl rfl (by rfl) zUp ?_
        refine sN (sC ?_)
        refine C.quiet (by kernel_rfl) (by kernel_rfl) (fun w hw => hw.drawn _) ?_
        refine Q.v rfl rfl rfl (V.loadBox rfl isAgg112 sizeOf112 zAt (by rfl)) ?_
        refine Q.call (v := .bool (decide (itemOk p.items[z]))) rfl rfl rfl rfl call185 rfl (fun w hw => item_ok (g4.lift _) (g5.lift _) hw) ?_
        refine tV rfl (tM rfl ?_)
        refine Q.fork (d := 67) rfl (fun h67 => ?_) (fun h67 => ?_)
        ·try simp only [sq] at h67
         refine tS rfl (tS rfl (tS rfl (tS rfl (tS rfl (tS rfl (tS rfl (tS rfl (tS rfl (tS rfl (tS rfl (tS rfl (tS rfl (tS rfl ?_)))))))))))))
         refine tS rfl (tT rfl (tN (sO rfl (sD (sA rfl (sN ?_))))))
         refine R.ret1 results144 rfl (fun w hw => ?_)
         first
          | exact bad w (fun h => h67 (h.items _ (List.getElem_mem hj))) hw (by simp)
          | exact bad w (fun h => (by
             have q := h.itemsRise (z - 1) (by simp; omega)
             simp only [List.getElem_map] at q
             have e : z - 1 + 1 = z := by omega
             simp only [e] at q
             omega)) hw (by simp)
        ·try simp only [sq] at h67
         refine tM rfl (tQe rfl (tM rfl ?_))
         refine Q.fork (d := 70) rfl (fun h70 => ?_) (fun h70 => ?_)
         ·try simp only [sq] at h70
          obtain ⟨pk, hpk, hpc⟩ := hcmp (by omega)
          refine Q.v rfl rfl rfl (V.fa rfl underlying125 rfl rfl sizeOf118) ?_
          refine Q.v rfl rfl rfl (V.load rfl isAgg118 zAt (by rfl)) ?_
          refine tM rfl ?_
          refine Q.v rfl rfl rfl (V.sub (c := ((z - 1 : Nat) : Int)) rfl rfl (by rw [w64 (by omega) (by omega)]; omega)) ?_
          refine Q.v rfl rfl rfl (V.indexAddr rfl rfl underlying118 sizeOf112 rfl (by omega)) ?_
          refine Q.v rfl rfl rfl (V.fa rfl underlying112 rfl rfl sizeOf22) ?_
          refine Q.v rfl rfl rfl (V.load rfl isAgg22 (.tail (.tail g1)) hpc) ?_
          refine Q.v rfl rfl rfl (V.fa rfl underlying112 rfl rfl sizeOf22) ?_
          refine Q.v rfl rfl rfl (V.load rfl isAgg22 zAt (by rfl)) ?_
          refine Q.call (v := .int .i64 (Lib.compareBytes (p.items[z - 1]'(by omega)).key p.items[z].key)) rfl rfl rfl rfl call116 rfl (fun w hw => compare_ok (hpk.lift _) (g4.lift _) hw) ?_
          refine tQf rfl (tT rfl (tU rfl (tN ?_)))
          refine C.cond rfl (fun h83 => ?_) (fun h83 => ?_)
          ·try simp only [sq] at h83
           refine sD (sA rfl (sN ?_))
           refine R.ret1 results144 rfl (fun w hw => ?_)
           first
            | exact bad w (fun h => h67 (h.items _ (List.getElem_mem hj))) hw (by simp)
            | exact bad w (fun h => (by
               have q := h.itemsRise (z - 1) (by simp; omega)
               simp only [List.getElem_map] at q
               have e : z - 1 + 1 = z := by omega
               simp only [e] at q
               omega)) hw (by simp)
          ·try simp only [sq] at h83
           refine C.skip (N.blk (N.seq ?_))
           refine sR ?_
           refine L.w rfl (V.add rfl rfl (w64 (by omega) (by omega))) ?_
           refine sM rfl ?_
           refine L.nil ?_
           exact N.round (z + 1) (by omega) ⟨rfl, rfl, rfl, rfl, trivial⟩ (fun w hw => ⟨⟨by omega, fun j hj hjz => (by
            rcases (by omega : j < z ∨ j = z) with h | rfl
            ·exact hz.2 j hj h
            ·refine ⟨h67, fun h0 => ?_⟩
             first
              | omega
              | exact h83)⟩, hw.drop⟩)
         ·try simp only [sq] at h70
          refine tS rfl (tS rfl (tS rfl (tS rfl (tS rfl (tS rfl (tS rfl (tS rfl (tS rfl (tS rfl (tS rfl (tU rfl (tU rfl (tN ?_)))))))))))))
          refine sP rfl ?_
          refine C.skip (N.blk (N.seq ?_))
          refine sR ?_
          refine L.w rfl (V.add rfl rfl (w64 (by omega) (by omega))) ?_
          refine sM rfl ?_
          refine L.nil ?_
          exact N.round (z + 1) (by omega) ⟨rfl, rfl, rfl, rfl, trivial⟩ (fun w hw => ⟨⟨by omega, fun j hj hjz => (by
           rcases (by omega : j < z ∨ j = z) with h | rfl
           ·exact hz.2 j hj h
           ·refine ⟨h67, fun h0 => ?_⟩
            first
             | omega
             | exact h83)⟩, hw.drop⟩)
       ·try simp only [sq] at h60
        refine sZ rfl (sC (sD ?_))
        refine L.w rfl (V.fa rfl underlying125 rfl rfl sizeOf115) ?_
        refine L.w rfl (V.load rfl isAgg115 zAt (by rfl)) ?_
        refine L.w rfl (V.len rfl underlying115) ?_
        refine sM rfl (sN (sB ?_))
        refine C.loop (α := Nat) (fun z => [(1, .pointer (some ⟨b1, 0, none⟩)), (86, .slice ka p.kids.length kc), (87, .int .i64 (p.kids.length : Int)), (88, .int .i64 (z : Int))]) (fun z w => (z ≤ p.kids.length ∧ ∀ j (hj : j < p.kids.length), j < z → kidOk p.kids[j] ∧ (0 < j → Lib.compareBytes (p.kids[j - 1]'(by omega)).key p.kids[j].key < 0)) ∧ Hp w0 F S ((b1, .cells #[.int .i64 (p.kind : Int), .int .u64 (p.txn : Int), .int .i64 (p.next : Int), .slice ia p.items.length ic, .slice ka p.kids.length kc, .slice da p.data.length dc, .slice xa p.ids.length xc] 125 (0, 0)) :: Hr) w) (fun z => p.kids.length - z) 0 ⟨rfl, rfl, rfl, rfl, trivial⟩ (fun w hw => ⟨⟨Nat.zero_le _, fun j hj => by omega⟩, hw⟩) (fun y => C.pure (fun hy => ?_))
        refine sD (sQc rfl (sN (sC ?_)))
        refine C.cond rfl (fun h89 => ?_) (fun h89 => ?_)
        ·try simp only [sq] at h89
         have hj : y < p.kids.length := by omega
         obtain ⟨b, off, cs, T, fz, rfl, g1, ga⟩ := hk.all (by omega)
         obtain ⟨jk, g2, g3, g4, g5, g6⟩ := ga y hj
         obtain ⟨jka, jkc, rfl, _⟩ := g4.form
         have hcmp : 0 < y → ∃ pk, Bs S [] pk (p.kids[y - 1]'(by omega)).key ∧ cs[off + (y - 1) * 2 + 0]? = some pk := fun h0 => by
          obtain ⟨pk, q1, q2, q3, q4, q5⟩ := ga (y - 1) (by omega)
          exact ⟨pk, q3, q4⟩
         refine sK (sC (sB (sD (sM rfl ?_))))
         refine L.w rfl (V.indexAddr rfl rfl underlying115 sizeOf129 rfl (by omega)) ?_
         refine L.w rfl (V.loadN rfl isAgg129 sizeOf129 (.tail g1) g2 g3) ?_
         refine L.allocA rfl rfl zeroValue129 (fun b8 => ?_)
         refine sA rfl ?_
         refine L.storeBox rfl rfl rfl sizeOf129 rfl rfl (by rfl) zUp ?_
         refine sN (sC ?_)
         refine C.quiet (by kernel_rfl) (by kernel_rfl) (fun w hw => hw.drawn _) ?_
         refine Q.v rfl rfl rfl (V.fa rfl underlying129 rfl rfl sizeOf22) ?_
         refine Q.v rfl rfl rfl (V.load rfl isAgg22 zAt (by rfl)) ?_
         refine Q.call (v := .bool (decide (p.kids[y].key.length ≤ 32))) rfl rfl rfl rfl call186 rfl (fun w hw => key_ok (g4.lift _) hw) ?_
         refine tV rfl (tM rfl ?_)
         refine Q.fork (d := 97) rfl (fun h97 => ?_) (fun h97 => ?_)
         ·try simp only [sq] at h97
          refine tS rfl (tS rfl (tS rfl (tS rfl (tT rfl (tM rfl (tS rfl (tS rfl (tS rfl (tS rfl (tS rfl (tS rfl (tS rfl (tS rfl ?_)))))))))))))
          refine tS rfl (tS rfl (tS rfl (tS rfl (tS rfl (tS rfl (tS rfl (tT rfl (tN (sO rfl (sD (sA rfl (sN ?_))))))))))))
          refine R.ret1 results144 rfl (fun w hw => ?_)
          first
           | exact bad w (fun h => absurd (h.kids _ (List.getElem_mem hj)).1 (by omega)) hw (by simp)
           | exact bad w (fun h => (by have := (h.kids _ (List.getElem_mem hj)).2; unfold idOk at this; omega)) hw (by simp)
           | exact bad w (fun h => (by
              have q := h.kidsRise (y - 1) (by simp; omega)
              simp only [List.getElem_map] at q
              have e : y - 1 + 1 = y := by omega
              simp only [e] at q
              omega)) hw (by simp)
         ·try simp only [sq] at h97
          refine Q.v rfl rfl rfl (V.fa rfl underlying129 rfl rfl sizeOf3) ?_
          refine Q.v rfl rfl rfl (V.load rfl isAgg3 zAt (by rfl)) ?_
          refine Q.call (v := .bool (decide (1 ≤ p.kids[y].page ∧ p.kids[y].page < 1024))) rfl rfl rfl rfl call187 rfl (fun w hw => id_ok _ hw) ?_
          refine tV rfl (tU rfl (tM rfl ?_))
          refine Q.fork (d := 103) rfl (fun h103 => ?_) (fun h103 => ?_)
          ·try simp only [sq] at h103
           refine tS rfl (tS rfl (tS rfl (tS rfl (tS rfl (tS rfl (tS rfl (tS rfl (tS rfl (tS rfl (tS rfl (tS rfl (tS rfl (tS rfl ?_)))))))))))))
           refine tS rfl (tT rfl (tN (sO rfl (sD (sA rfl (sN ?_))))))
           refine R.ret1 results144 rfl (fun w hw => ?_)
           first
            | exact bad w (fun h => absurd (h.kids _ (List.getElem_mem hj)).1 (by omega)) hw (by simp)
            | exact bad w (fun h => (by have := (h.kids _ (List.getElem_mem hj)).2; unfold idOk at this; omega)) hw (by simp)
            | exact bad w (fun h => (by
               have q := h.kidsRise (y - 1) (by simp; omega)
               simp only [List.getElem_map] at q
               have e : y - 1 + 1 = y := by omega
               simp only [e] at q
               omega)) hw (by simp)
          ·try simp only [sq] at h103
           refine tM rfl (tQe rfl (tM rfl ?_))
           refine Q.fork (d := 106) rfl (fun h106 => ?_) (fun h106 => ?_)
           ·try simp only [sq] at h106
            obtain ⟨pk, hpk, hpc⟩ := hcmp (by omega)
            refine Q.v rfl rfl rfl (V.fa rfl underlying125 rfl rfl sizeOf115) ?_
            refine Q.v rfl rfl rfl (V.load rfl isAgg115 zAt (by rfl)) ?_
            refine tM rfl ?_
            refine Q.v rfl rfl rfl (V.sub (c := ((y - 1 : Nat) : Int)) rfl rfl (by rw [w64 (by omega) (by omega)]; omega)) ?_
            refine Q.v rfl rfl rfl (V.indexAddr rfl rfl underlying115 sizeOf129 rfl (by omega)) ?_
            refine Q.v rfl rfl rfl (V.fa rfl underlying129 rfl rfl sizeOf22) ?_
            refine Q.v rfl rfl rfl (V.load rfl isAgg22 (.tail (.tail g1)) hpc) ?_
            refine Q.v rfl rfl rfl (V.fa rfl underlying129 rfl rfl sizeOf22) ?_
            refine Q.v rfl rfl rfl (V.load rfl isAgg22 zAt (by rfl)) ?_
            refine Q.call (v := .int .i64 (Lib.compareBytes (p.kids[y - 1]'(by omega)).key p.kids[y].key)) rfl rfl rfl rfl call116 rfl (fun w hw => compare_ok (hpk.lift _) (g4.lift _) hw) ?_
            refine tQf rfl (tT rfl (tU rfl (tN ?_)))
            refine C.cond rfl (fun h119 => ?_) (fun h119 => ?_)
            ·try simp only [sq] at h119
             refine sD (sA rfl (sN ?_))
             refine R.ret1 results144 rfl (fun w hw => ?_)
             first
              | exact bad w (fun h => absurd (h.kids _ (List.getElem_mem hj)).1 (by omega)) hw (by simp)
              | exact bad w (fun h => (by have := (h.kids _ (List.getElem_mem hj)).2; unfold idOk at this; omega)) hw (by simp)
              | exact bad w (fun h => (by
                 have q := h.kidsRise (y - 1) (by simp; omega)
                 simp only [List.getElem_map] at q
                 have e : y - 1 + 1 = y := by omega
                 simp only [e] at q
                 omega)) hw (by simp)
            ·try simp only [sq] at h119
             refine C.skip (N.blk (N.seq ?_))
             refine sR ?_
             refine L.w rfl (V.add rfl rfl (w64 (by omega) (by omega))) ?_
             refine sM rfl ?_
             refine L.nil ?_
             exact N.round (y + 1) (by omega) ⟨rfl, rfl, rfl, rfl, trivial⟩ (fun w hw => ⟨⟨by omega, fun j hj hjz => (by
              rcases (by omega : j < y ∨ j = y) with h | rfl
              ·exact hy.2 j hj h
              ·refine ⟨⟨h97, by unfold idOk; omega⟩, fun h0 => ?_⟩
               first
                | omega
                | exact h119)⟩, hw.drop⟩)
           ·try simp only [sq] at h106
            refine tS rfl (tS rfl (tS rfl (tS rfl (tS rfl (tS rfl (tS rfl (tS rfl (tS rfl (tS rfl (tS rfl (tU rfl (tU rfl (tN ?_)))))))))))))
            refine sP rfl ?_
            refine C.skip (N.blk (N.seq ?_))
            refine sR ?_
            refine L.w rfl (V.add rfl rfl (w64 (by omega) (by omega))) ?_
            refine sM rfl ?_
            refine L.nil ?_
            exact N.round (y + 1) (by omega) ⟨rfl, rfl, rfl, rfl, trivial⟩ (fun w hw => ⟨⟨by omega, fun j hj hjz => (by
             rcases (by omega : j < y ∨ j = y) with h | rfl
             ·exact hy.2 j hj h
             ·refine ⟨⟨h97, by unfold idOk; omega⟩, fun h0 => ?_⟩
              first
               | omega
               | exact h119)⟩, hw.drop⟩)
        ·try simp only [sq] at h89
         refine sZ rfl (sC (sD ?_))
         refine L.w rfl (V.fa rfl underlying125 rfl rfl sizeOf37) ?_
         refine L.w rfl (V.load rfl isAgg37 zAt (by rfl)) ?_
         refine L.w rfl (V.len rfl underlying37) ?_
         refine sM rfl (sN (sB ?_))
         refine C.loop (α := Nat) (fun z => [(1, .pointer (some ⟨b1, 0, none⟩)), (122, .slice xa p.ids.length xc), (123, .int .i64 (p.ids.length : Int)), (124, .int .i64 (z : Int))]) (fun z w => (z ≤ p.ids.length ∧ ∀ j (hj : j < p.ids.length), j < z → idOk p.ids[j] ∧ (0 < j → p.ids[j - 1]'(by omega) < p.ids[j])) ∧ Hp w0 F S ((b1, .cells #[.int .i64 (p.kind : Int), .int .u64 (p.txn : Int), .int .i64 (p.next : Int), .slice ia p.items.length ic, .slice ka p.kids.length kc, .slice da p.data.length dc, .slice xa p.ids.length xc] 125 (0, 0)) :: Hr) w) (fun z => p.ids.length - z) 0 ⟨rfl, rfl, rfl, rfl, trivial⟩ (fun w hw => ⟨⟨Nat.zero_le _, fun j hj => by omega⟩, hw⟩) (fun x => C.pure (fun hx1 => ?_))
         refine sD (sQc rfl (sN (sC ?_)))
         refine C.cond rfl (fun h125 => ?_) (fun h125 => ?_)
         ·try simp only [sq] at h125
          have hj : x < p.ids.length := by omega
          obtain ⟨b, off, cs, T, fz, rfl, g1, ga⟩ := hx.all (by omega)
          have g2 := ga x hj
          refine sK (sC (sB (sD (sM rfl ?_))))
          refine L.w rfl (V.indexAddr rfl rfl underlying37 sizeOf3 rfl (by omega)) ?_
          refine L.w rfl (V.load rfl isAgg3 (.tail g1) g2) ?_
          refine sA rfl (sA rfl (sE (sM rfl ?_)))
          refine L.call rfl rfl rfl call187 rfl (fun w hw => id_ok _ hw) ?_
          rintro _ a w hst ⟨rfl, hw⟩
          refine hst.go rfl hw ?_
          clear hst hw w a
          refine sV rfl (sM rfl ?_)
          refine L.fork (d := 132) rfl (fun h132 => ?_) (fun h132 => ?_)
          ·try simp only [sq] at h132
           refine sS rfl (sS rfl (sS rfl (sS rfl (sS rfl (sS rfl (sS rfl (sS rfl (sS rfl (sS rfl (sS rfl (sS rfl (sT rfl (sN ?_)))))))))))))
           refine sO rfl (sD (sA rfl (sN ?_)))
           refine R.ret1 results144 rfl (fun w hw => ?_)
           first
            | exact bad w (fun h => (by have := h.ids _ (List.getElem_mem hj); unfold idOk at this; omega)) hw (by simp)
            | exact bad w (fun h => (by
               have q := h.idsRise (x - 1) (by omega)
               have e : x - 1 + 1 = x := by omega
               simp only [e] at q
               omega)) hw (by simp)
          ·try simp only [sq] at h132
           refine sM rfl (sQe rfl (sM rfl ?_))
           refine L.fork (d := 135) rfl (fun h135 => ?_) (fun h135 => ?_)
           ·try simp only [sq] at h135
            have g3 := ga (x - 1) (by omega)
            refine L.w rfl (V.fa rfl underlying125 rfl rfl sizeOf37) ?_
            refine L.w rfl (V.load rfl isAgg37 zAt (by rfl)) ?_
            refine sM rfl ?_
            refine L.w rfl (V.sub (c := ((x - 1 : Nat) : Int)) rfl rfl (by rw [w64 (by omega) (by omega)]; omega)) ?_
            refine L.w rfl (V.indexAddr rfl rfl underlying37 sizeOf3 rfl (by omega)) ?_
            refine L.w rfl (V.load rfl isAgg3 (.tail g1) g3) ?_
            refine sM rfl (sQf rfl (sT rfl (sU rfl (sN ?_))))
            refine C.cond rfl (fun h145 => ?_) (fun h145 => ?_)
            ·try simp only [sq] at h145
             refine sD (sA rfl (sN ?_))
             refine R.ret1 results144 rfl (fun w hw => ?_)
             first
              | exact bad w (fun h => (by have := h.ids _ (List.getElem_mem hj); unfold idOk at this; omega)) hw (by simp)
              | exact bad w (fun h => (by
                 have q := h.idsRise (x - 1) (by omega)
                 have e : x - 1 + 1 = x := by omega
                 simp only [e] at q
                 omega)) hw (by simp)
            ·try simp only [sq] at h145
             refine C.skip (N.blk (N.seq ?_))
             refine sR ?_
             refine L.w rfl (V.add rfl rfl (w64 (by omega) (by omega))) ?_
             refine sM rfl ?_
             refine L.nil ?_
             exact N.round (x + 1) (by omega) ⟨rfl, rfl, rfl, rfl, trivial⟩ (fun w hw => ⟨⟨by omega, fun j hj hjz => (by
              rcases (by omega : j < x ∨ j = x) with h | rfl
              ·exact hx1.2 j hj h
              ·exact ⟨by unfold idOk; omega, fun h0 => by omega⟩)⟩, hw⟩)
           ·try simp only [sq] at h135
            refine sS rfl (sS rfl (sS rfl (sS rfl (sS rfl (sS rfl (sS rfl (sS rfl (sU rfl (sU rfl (sN (sP rfl ?_)))))))))))
            refine C.skip (N.blk (N.seq ?_))
            refine sR ?_
            refine L.w rfl (V.add rfl rfl (w64 (by omega) (by omega))) ?_
            refine sM rfl ?_
            refine L.nil ?_
            exact N.round (x + 1) (by omega) ⟨rfl, rfl, rfl, rfl, trivial⟩ (fun w hw => ⟨⟨by omega, fun j hj hjz => (by
             rcases (by omega : j < x ∨ j = x) with h | rfl
             ·exact hx1.2 j hj h
             ·exact ⟨by unfold idOk; omega, fun h0 => by omega⟩)⟩, hw⟩)
         ·try simp only [sq] at h125
          refine sZ rfl (sD ?_)
          refine L.w rfl (V.loadBox rfl isAgg125 sizeOf125 zAt (by rfl)) ?_
          refine L.call rfl rfl rfl call145 rfl (fun w hw => used_ok (hp0.mono (.refl S) (le1 [_])) hs hw) ?_
          rintro _ a w hst ⟨rfl, hw⟩
          refine hst.go rfl hw ?_
          clear hst hw w a
          refine sQd rfl (sA rfl (sN ?_))
          refine R.ret1 results144 rfl (fun w hw => ?_)
          refine ⟨ret_bool ?_, hw.drop⟩
          rw [decide_eq_true_eq, decide_eq_true_eq]
          have ex : x = p.ids.length := by omega
          have ey : y = p.kids.length := by omega
          have ez : z = p.items.length := by omega
          constructor
          ·intro hu
           refine ⟨honly, ?_, by omega, by omega, ?_, ?_, ?_, ?_, ?_, ?_, ?_, by omega⟩
           ·omega
           ·omega
           ·intro q hq
            obtain ⟨i, hi2, rfl⟩ := List.getElem_of_mem hq
            exact (hz.2 i hi2 (by omega)).1
           ·exact rise_of fun i hi2 h0 => by
             simp only [List.length_map] at hi2
             simpa using (hz.2 i hi2 (by omega)).2 h0
           ·intro q hq
            obtain ⟨i, hi2, rfl⟩ := List.getElem_of_mem hq
            exact (hy.2 i hi2 (by omega)).1
           ·exact rise_of fun i hi2 h0 => by
             simp only [List.length_map] at hi2
             simpa using (hy.2 i hi2 (by omega)).2 h0
           ·intro q hq
            obtain ⟨i, hi2, rfl⟩ := List.getElem_of_mem hq
            exact (hx1.2 i hi2 (by omega)).1
           ·intro i hi2
            exact (hx1.2 (i + 1) hi2 (by omega)).2 (by omega)
          ·intro h
           have := h.used
           omega
end
end Go.Proofs.YtijgbppkdaiikaaGreat

set_option linter.unusedSimpArgs false
set_option linter.unusedVariables false
namespace Go.Proofs.YtijgbppkdaiikaaGreat
open Go.Proofs.Tryz Go.Tk

def encItem (x : Item) : List UInt8 := en x.key.length 1 ++ en x.size 2 ++ x.key ++ (if 64 < x.size then en x.more 4 else x.val)
def encKid (x : Kid) : List UInt8 := en x.key.length 1 ++ x.key ++ en x.page 4
def encHead (p : Page) : List UInt8 := en p.kind 1 ++ en p.txn 8 ++ en p.next 4 ++ en p.count 2
def encB (p : Page) : List UInt8 := encHead p ++ (p.items.map encItem).flatten ++ (p.kids.map encKid).flatten ++ p.data ++ (p.ids.map (fun i => en i 4)).flatten
def encW (p : Page) : List UInt8 := encB p ++ List.replicate (252 - (encB p).length) 0
/-- A page's 256 bytes. -/
def pageB (p : Page) : List UInt8 := en (sumN (encW p)) 4 ++ encW p

theorem encHead_len (p : Page) : (encHead p).length = 15 := by simp [encHead, en_length]
theorem encItem_len (x : Item) : (encItem x).length = itemUsed x := by unfold encItem itemUsed; split <;> simp [en_length] <;> omega
theorem encKid_len (x : Kid) : (encKid x).length = kidUsed x := by simp [encKid, kidUsed, en_length]; omega
theorem flatten_len {α : Type} (f : α → List UInt8) (g : α → Nat) (h : ∀ x, (f x).length = g x) : ∀ l : List α, ((l.map f).flatten).length = (l.map g).sum
 | [] => rfl
 | x :: l => by simp only [List.map_cons, List.flatten_cons, List.length_append, List.sum_cons, h, flatten_len f g h l]
theorem sum_const (l : List Nat) (c : Nat) : (l.map (fun _ => c)).sum = c * l.length := by
 induction l with
 | nil => simp
 | cons x l ih => simp only [List.map_cons, List.sum_cons, ih, List.length_cons, Nat.mul_add]; omega
theorem encB_len (p : Page) : (encB p).length = 15 + usedN p := by
 unfold encB usedN
 rw [List.length_append, List.length_append, List.length_append, List.length_append, encHead_len, flatten_len _ _ encItem_len, flatten_len _ _ encKid_len,
  flatten_len (fun i => en i 4) (fun _ => 4) (fun i => en_length i 4), sum_const]
 omega
theorem encW_len {p : Page} (h : usedN p ≤ 237) : (encW p).length = 252 := by unfold encW; rw [List.length_append, encB_len, List.length_replicate]; omega
theorem pageB_len {p : Page} (h : usedN p ≤ 237) : (pageB p).length = 256 := by unfold pageB; rw [List.length_append, encW_len h, en_length]

section
variable {w0 : World} {F : Nat → Prop} {S : Store} {Hr : Heap} {w : World}

theorem pput_ok {v : Value} {l : List UInt8} {fp : Heap} (n size : Nat) (h1 : 1 ≤ size) (h8 : size ≤ 8) (hn : n < 256 ^ size) (ho : OwnB 5 v l fp) (hl : l.length ≤ 1000000) (hw : Hp w0 F S (fp ++ Hr) w) :
 Calls Tryz.prog 169 #[v, .int .u64 n, .int .i64 size] w fun e w' => ∃ v' fp', e = .returned v' ∧ OwnB 5 v' (l ++ en n size) fp' ∧ Hp w0 F S (fp' ++ Hr) w' := by
 refine enterA hw func169 rfl ntmps169 rfl rfl ?_
 refine sD (sA rfl (sE (sM rfl (sM rfl ?_))))
 refine L.call rfl rfl rfl call140 rfl (fun w hw => put_ok n size h1 h8 hn hw) ?_
 rintro _ a w hst ⟨b12, rfl, hw⟩
 refine hst.go rfl hw ?_
 clear hst hw w a
 refine sM rfl (sX rfl (sX rfl (sA rfl (sA rfl (sE (sM rfl (sM rfl ?_)))))))
 refine L.append (by' := 1) (sz := 1) (l := size) (ys := (en n size).map bv) rfl rfl rfl rfl underlying22 info_u8 rfl rfl rfl rfl ho (.skip .done) ⟨by simp [en_length], .inr ⟨b12, 0, size, _, _, _, rfl, ⟨Nat.le_refl _, by omega⟩, .apr .head, fun j hj => by simp⟩⟩ (bv_one _) (by omega) (by omega) (fun v' fp' ho' => ?_)
 refine sA rfl (sN ?_)
 refine R.ret1 results169 rfl (fun w hw => ?_)
 exact ⟨_, _, rfl, OwnB.app ho' rfl (en_length _ _).symm, hw.sub (by simp)⟩

theorem flat_take {α : Type} (f : α → List UInt8) (l : List α) (z : Nat) (hz : z < l.length) : ((l.take (z + 1)).map f).flatten = ((l.take z).map f).flatten ++ f l[z] := by
 rw [List.take_succ_eq_append_getElem hz, List.map_append, List.flatten_append]; simp
theorem flat_take_le {α : Type} (f : α → List UInt8) (g : α → Nat) (h : ∀ x, (f x).length = g x) (l : List α) (z : Nat) : (((l.take z).map f).flatten).length ≤ (l.map g).sum := by
 rw [flatten_len f g h, List.map_take]; exact sum_take_le _ _

theorem copy_pad (n : Nat) (l : List UInt8) (h : l.length ≤ n) : ((List.replicate n (Value.int .u8 0)).toArray.toList.take 0 ++ (l.map bv).take (l.length * 1) ++ (List.replicate n (Value.int .u8 0)).toArray.toList.drop (0 + l.length * 1)).toArray = ((l ++ List.replicate (n - l.length) 0).map bv).toArray := by
 rw [Nat.mul_one, Nat.zero_add, List.take_zero, List.take_of_length_le (by simp), List.map_append]
 simp [bv]

open Classical in
theorem encode_ok {c : List Value} {p : Page} (hp : PageC S Hr c p) (hs : Small p) (hw : Hp w0 F S Hr w) :
 Calls Tryz.prog 129 #[.agg c.toArray] w fun e w' => ∃ v fp err, e = .returned (.tuple #[v, .int .i64 err]) ∧ ((Right p ∧ err = 0 ∧ OwnB 5 v (pageB p) fp) ∨ (¬ Right p ∧ err = 4 ∧ v = .slice none 0 0 ∧ fp = [])) ∧ Hp w0 F S (fp ++ Hr) w' := by
 have hp0 := hp
 obtain ⟨iv, kv, dv, xv, rfl, hi, hk, hd, hx⟩ := hp
 obtain ⟨ia, ic, rfl, _⟩ := hi.form
 obtain ⟨ka, kc, rfl, _⟩ := hk.form
 obtain ⟨da, dc, rfl, _⟩ := hd.form
 obtain ⟨xa, xc, rfl, _⟩ := hx.form
 have s1 := hs.kind
 have s2 := hs.txn
 have s3 := hs.next
 have le1 : ∀ (H : Heap), ∀ q, q ∈ Hr → q ∈ H ++ Hr := fun H q hq => List.mem_append.2 (.inr hq)
 refine enterA hw func129 rfl ntmps129 rfl rfl ?_
 refine sD ?_
 refine L.boxA rfl rfl rfl (fun b1 => ?_)
 refine sA rfl (sA rfl (sN (sC (sD ?_))))
 refine L.w rfl (V.loadBox rfl isAgg125 sizeOf125 zAt (by rfl)) ?_
 refine L.call rfl rfl rfl call144 rfl (fun w hw => right_ok (hp0.mono (.refl S) (le1 [_])) hs hw) ?_
 rintro _ a w hst ⟨rfl, hw⟩
 refine hst.go rfl hw ?_
 clear hst hw w a
 refine sV rfl (sN ?_)
 refine C.cond rfl (fun h16 => ?_) (fun h16 => ?_)
 ·try simp only [sq] at h16
  refine sD (sA rfl (sA rfl (sN ?_)))
  refine R.ret2 results129 rfl rfl (fun w hw => ?_)
  exact ⟨_, [], _, rfl, .inr ⟨h16, rfl, rfl, rfl⟩, hw.drop⟩
 ·try simp only [sq] at h16
  refine sK (sD ?_)
  refine L.w rfl (V.loadBox rfl isAgg125 sizeOf125 zAt (by rfl)) ?_
  refine L.call rfl rfl rfl call168 rfl (fun w hw => things_ok (hp0.mono (.refl S) (le1 [_])) hw) ?_
  rintro _ a w hst ⟨rfl, hw⟩
  refine hst.go rfl hw ?_
  clear hst hw w a
  have hR : Right p := h16
  rw [if_pos hR.only]
  have u1 := hR.used
  have u2 := hR.few
  have u3 := hR.next
  have uk := hR.only.k1
  have ub : p.data.length ≤ 237 ∧ p.ids.length ≤ 100 ∧ (p.items.map itemUsed).sum ≤ 237 ∧ (p.kids.map kidUsed).sum ≤ 237 := by unfold usedN at u1; omega
  refine sM rfl (sX rfl (sX rfl (sA rfl (sA rfl (sN (sC ?_))))))
  refine C.draw [] (by kernel_rfl) rfl (fun w hw => hw.drawn _) ?_
  refine D.take 0 (listed' := #[true, false, false, false, false, false, false, false, false, false, false, false, false, false, false]) rfl (by kernel_rfl) rfl rfl rfl rfl (V.fa rfl underlying125 rfl rfl sizeOf3) (fun w h => h) ?_
  refine D.take 1 (listed' := #[true, true, false, false, false, false, false, false, false, false, false, false, false, false, false]) rfl (by kernel_rfl) rfl rfl rfl rfl (V.load rfl isAgg3 zAt (by rfl)) (fun w h => h) ?_
  refine D.take 2 (listed' := #[true, true, true, false, false, false, false, false, false, false, false, false, false, false, false]) rfl (by kernel_rfl) rfl rfl rfl rfl (V.conv (c := (p.kind : Int)) rfl underlying3 underlying123 (by rw [IntKind.wrap_u64]; omega)) (fun w h => h) ?_
  refine D.take 4 (listed' := #[true, true, true, false, true, false, false, false, false, false, false, false, false, false, false]) rfl (by kernel_rfl) rfl rfl rfl rfl (V.fa rfl underlying125 rfl rfl sizeOf123) (fun w h => h) ?_
  refine D.take 5 (listed' := #[true, true, true, false, true, true, false, false, false, false, false, false, false, false, false]) rfl (by kernel_rfl) rfl rfl rfl rfl (V.load rfl isAgg123 zAt (by rfl)) (fun w h => h) ?_
  refine D.take 7 (listed' := #[true, true, true, false, true, true, false, true, false, false, false, false, false, false, false]) rfl (by kernel_rfl) rfl rfl rfl rfl (V.fa rfl underlying125 rfl rfl sizeOf3) (fun w h => h) ?_
  refine D.take 8 (listed' := #[true, true, true, false, true, true, false, true, true, false, false, false, false, false, false]) rfl (by kernel_rfl) rfl rfl rfl rfl (V.load rfl isAgg3 zAt (by rfl)) (fun w h => h) ?_
  refine D.take 9 (listed' := #[true, true, true, false, true, true, false, true, true, true, false, false, false, false, false]) rfl (by kernel_rfl) rfl rfl rfl rfl (V.conv (c := (p.next : Int)) rfl underlying3 underlying123 (by rw [IntKind.wrap_u64]; omega)) (fun w h => h) ?_
  refine D.take 11 (listed' := #[true, true, true, false, true, true, false, true, true, true, false, true, false, false, false]) rfl (by kernel_rfl) rfl rfl rfl rfl (V.move rfl) (fun w h => h) ?_
  refine D.take 12 (listed' := #[true, true, true, false, true, true, false, true, true, true, false, true, true, false, false]) rfl (by kernel_rfl) rfl rfl rfl rfl (V.conv (c := (p.count : Int)) rfl underlying3 underlying123 (by rw [IntKind.wrap_u64]; omega)) (fun w h => h) ?_
  refine D.step 3 (listed' := #[true, true, true, true, true, true, false, true, true, true, false, true, true, false, false]) (by kernel_rfl) rfl rfl (.inr (fun w h => h)) ?_
  refine L.call rfl rfl rfl call169 rfl (fun w hw => pput_ok (fp := []) p.kind 1 (by omega) (by omega) (by omega) (OwnB.nil _) (by simp) hw) ?_
  rintro _ a w hst ⟨v25, fp25, rfl, ho25, hw⟩
  refine hst.go rfl hw ?_
  clear hst hw w a
  refine D.back ?_
  refine D.step 6 (listed' := #[true, true, true, true, true, true, true, true, true, true, false, true, true, false, false]) (by kernel_rfl) rfl rfl (.inr (fun w h => h.sub (by simp))) ?_
  refine L.call rfl rfl rfl call169 rfl (fun w hw => pput_ok p.txn 8 (by omega) (by omega) (by omega) ho25 (by simp [en_length]) hw) ?_
  rintro _ a w hst ⟨v28, fp28, rfl, ho28, hw⟩
  refine hst.go rfl hw ?_
  clear hst hw w a
  refine D.back ?_
  refine D.step 10 (listed' := #[true, true, true, true, true, true, true, true, true, true, true, true, true, false, false]) (by kernel_rfl) rfl rfl (.inr (fun w h => h.sub (by simp))) ?_
  refine L.call rfl rfl rfl call169 rfl (fun w hw => pput_ok p.next 4 (by omega) (by omega) (by omega) ho28 (by simp [en_length]) hw) ?_
  rintro _ a w hst ⟨v32, fp32, rfl, ho32, hw⟩
  refine hst.go rfl hw ?_
  clear hst hw w a
  refine D.back ?_
  refine D.step 13 (listed' := #[true, true, true, true, true, true, true, true, true, true, true, true, true, true, false]) (by kernel_rfl) rfl rfl (.inr (fun w h => h.sub (by simp))) ?_
  refine L.call rfl rfl rfl call169 rfl (fun w hw => pput_ok p.count 2 (by omega) (by omega) (by omega) ho32 (by simp [en_length]) hw) ?_
  rintro _ a w hst ⟨v35, fp35, rfl, ho35, hw⟩
  refine hst.go rfl hw ?_
  clear hst hw w a
  replace ho35 : OwnB 5 v35 (encHead p) fp35 := ho35
  refine D.back ?_
  refine D.step 14 (listed' := #[true, true, true, true, true, true, true, true, true, true, true, true, true, true, true]) (by kernel_rfl) rfl rfl (.inr (fun w h => h.sub (by simp))) ?_
  refine sA rfl ?_
  refine D.back ?_
  refine D.done (by kernel_rfl) (.inr (fun w h => h.sub (by simp))) (N.seq ?_)
  refine sC (sD ?_)
  refine L.w rfl (V.fa rfl underlying125 rfl rfl sizeOf118) ?_
  refine L.w rfl (V.load rfl isAgg118 zAt (by rfl)) ?_
  refine L.w rfl (V.len rfl underlying118) ?_
  refine sM rfl (sN (sB ?_))
  refine C.loop (α := Nat × Value × Heap) (fun z => [(1, .pointer (some ⟨b1, 0, none⟩)), (37, .slice ia p.items.length ic), (38, .int .i64 (p.items.length : Int)), (39, .int .i64 (z.1 : Int)), (6, z.2.1)]) (fun z w => (z.1 ≤ p.items.length ∧ OwnB 5 z.2.1 (encHead p ++ ((p.items.take z.1).map encItem).flatten) z.2.2) ∧ Hp w0 F S (z.2.2 ++ (b1, .cells #[.int .i64 (p.kind : Int), .int .u64 (p.txn : Int), .int .i64 (p.next : Int), .slice ia p.items.length ic, .slice ka p.kids.length kc, .slice da p.data.length dc, .slice xa p.ids.length xc] 125 (0, 0)) :: Hr) w) (fun z => p.items.length - z.1) (0, v35, fp35) ⟨rfl, rfl, rfl, rfl, rfl, trivial⟩ (fun w hw => ⟨⟨Nat.zero_le _, by simpa using ho35⟩, hw⟩) (fun z => C.pure (fun hz => ?_))
  obtain ⟨z, vz, fpz⟩ := z
  obtain ⟨hz, hoz⟩ := hz
  dsimp only at hz hoz ⊢
  refine sD (sQc rfl (sN (sC ?_)))
  refine C.cond rfl (fun h40 => ?_) (fun h40 => ?_)
  ·try simp only [sq] at h40
   have hj : z < p.items.length := by omega
   have hit := hR.items _ (List.getElem_mem hj)
   have hit2 := hs.item _ (List.getElem_mem hj)
   unfold itemOk idOk at hit
   have hlen := flat_take_le encItem itemUsed encItem_len p.items (z + 1)
   rw [flat_take _ _ _ hj, List.length_append] at hlen
   obtain ⟨b, off, cs, T, fz, jk, jv, rfl, g1, g2, g3, g4, g5, g6⟩ := hi.at hj
   obtain ⟨xi, hxi⟩ : ∃ xi, p.items[z] = xi := ⟨_, rfl⟩
   simp only [hxi] at hit hit2 hlen g3 g4 g5 g6
   obtain ⟨jka, jkc, rfl, _⟩ := g4.form
   obtain ⟨jva, jvc, rfl, _⟩ := g5.form
   have hlz : (encHead p ++ ((p.items.take z).map encItem).flatten).length ≤ 1000 := by rw [List.length_append, encHead_len]; omega
   generalize hL : encHead p ++ ((p.items.take z).map encItem).flatten = lz at hoz hlz
   refine sK (sC (sB (sD ?_)))
   refine L.w rfl (V.indexAddr rfl rfl underlying118 sizeOf112 rfl (by omega)) ?_
   refine L.w rfl (V.loadN rfl isAgg112 sizeOf112 (.apr (.tail g1)) g2 g3) ?_
   refine L.allocA rfl rfl zeroValue112 (fun b8 => ?_)
   refine L.storeBox rfl rfl rfl sizeOf112 rfl rfl (by rfl) zUp ?_
   refine sN (sC ?_)
   refine C.drawC [] (Hp w0 F S ((b8, .cells #[.slice jka xi.key.length jkc, .slice jva xi.val.length jvc, .int .i64 (xi.size : Int), .int .i64 (xi.more : Int)] 112 (0, 0)) :: (b1, .cells #[.int .i64 (p.kind : Int), .int .u64 (p.txn : Int), .int .i64 (p.next : Int), .slice (some ⟨b, off, none⟩) p.items.length ic, .slice ka p.kids.length kc, .slice da p.data.length dc, .slice xa p.ids.length xc] 125 (0, 0)) :: Hr)) (fun w h => h.sub (by simp)) (by kernel_rfl) rfl (fun w hw => hw.drawn _) ?_
   refine D.take 0 (listed' := #[true, false, false, false, false, false, false, false, false, false, false]) rfl (by kernel_rfl) rfl rfl rfl rfl (V.move rfl) (fun w h => h.sub (by simp)) ?_
   refine D.take 1 (listed' := #[true, true, false, false, false, false, false, false, false, false, false]) rfl (by kernel_rfl) rfl rfl rfl rfl (V.fa rfl underlying112 rfl rfl sizeOf22) (fun w h => h.sub (by simp)) ?_
   refine D.take 2 (listed' := #[true, true, true, false, false, false, false, false, false, false, false]) rfl (by kernel_rfl) rfl rfl rfl rfl (V.load rfl isAgg22 zAt (by rfl)) (fun w h => h.sub (by simp)) ?_
   refine D.take 3 (listed' := #[true, true, true, true, false, false, false, false, false, false, false]) rfl (by kernel_rfl) rfl rfl rfl rfl (V.len rfl underlying22) (fun w h => h.sub (by simp)) ?_
   refine D.take 4 (listed' := #[true, true, true, true, true, false, false, false, false, false, false]) rfl (by kernel_rfl) rfl rfl rfl rfl (V.conv (c := (xi.key.length : Int)) rfl underlying3 underlying123 (by rw [IntKind.wrap_u64]; omega)) (fun w h => h.sub (by simp)) ?_
   refine D.take 6 (listed' := #[true, true, true, true, true, false, true, false, false, false, false]) rfl (by kernel_rfl) rfl rfl rfl rfl (V.fa rfl underlying112 rfl rfl sizeOf3) (fun w h => h.sub (by simp)) ?_
   refine D.take 7 (listed' := #[true, true, true, true, true, false, true, true, false, false, false]) rfl (by kernel_rfl) rfl rfl rfl rfl (V.load rfl isAgg3 zAt (by rfl)) (fun w h => h.sub (by simp)) ?_
   refine D.take 8 (listed' := #[true, true, true, true, true, false, true, true, true, false, false]) rfl (by kernel_rfl) rfl rfl rfl rfl (V.conv (c := (xi.size : Int)) rfl underlying3 underlying123 (by rw [IntKind.wrap_u64]; omega)) (fun w h => h.sub (by simp)) ?_
   refine D.step 5 (listed' := #[true, true, true, true, true, true, true, true, true, false, false]) (by kernel_rfl) rfl rfl (.inr (fun w h => h.sub (by simp))) ?_
   refine L.call rfl rfl rfl call169 rfl (fun w hw => pput_ok xi.key.length 1 (by omega) (by omega) (by omega) hoz (by omega) (hw.take (.skip .done))) ?_
   rintro _ a w hst ⟨v48, fp48, rfl, ho48, hw⟩
   refine hst.go rfl hw ?_
   clear hst hw w a
   refine D.back ?_
   refine D.step 9 (listed' := #[true, true, true, true, true, true, true, true, true, true, false]) (by kernel_rfl) rfl rfl (.inr (fun w h => h.sub (by simp))) ?_
   refine L.call rfl rfl rfl call169 rfl (fun w hw => pput_ok xi.size 2 (by omega) (by omega) (by omega) ho48 (by simp only [List.length_append, en_length]; omega) hw) ?_
   rintro _ a w hst ⟨v52, fp52, rfl, ho52, hw⟩
   refine hst.go rfl hw ?_
   clear hst hw w a
   refine D.back ?_
   refine D.step 10 (listed' := #[true, true, true, true, true, true, true, true, true, true, true]) (by kernel_rfl) rfl rfl (.inr (fun w h => h.sub (by simp))) ?_
   refine sA rfl ?_
   refine D.back ?_
   refine D.done (by kernel_rfl) (.inr (fun w h => h.sub (by simp))) (N.seq ?_)
   refine sD (sM rfl ?_)
   refine L.w rfl (V.fa rfl underlying112 rfl rfl sizeOf22) ?_
   refine L.w rfl (V.load rfl isAgg22 zAt (by rfl)) ?_
   refine L.append (by' := 1) (sz := 1) (l := xi.key.length) (ys := xi.key.map bv) rfl rfl rfl rfl underlying22 info_u8 rfl rfl rfl rfl ho52 .done (g4.lift _) (bv_one _) (by simp only [List.length_append, en_length]; omega) (by simp only [List.length_append, en_length]; omega) (fun v56 fp56 ho56 => ?_)
   replace ho56 := OwnB.app ho56 rfl rfl
   refine sA rfl (sE ?_)
   refine L.w rfl (V.fa rfl underlying112 rfl rfl sizeOf3) ?_
   refine L.w rfl (V.load rfl isAgg3 zAt (by rfl)) ?_
   refine sQe rfl (sN ?_)
   refine C.cond rfl (fun h59 => ?_) (fun h59 => ?_)
   ·try simp only [sq] at h59
    refine sR (sM rfl ?_)
    refine L.w rfl (V.fa rfl underlying112 rfl rfl sizeOf3) ?_
    refine L.w rfl (V.load rfl isAgg3 zAt (by rfl)) ?_
    refine L.w rfl (V.conv (c := (xi.more : Int)) rfl underlying3 underlying123 (by rw [IntKind.wrap_u64]; omega)) ?_
    refine L.call rfl rfl rfl call169 rfl (fun w hw => pput_ok xi.more 4 (by omega) (by omega) (by omega) ho56 (by simp only [List.length_append, en_length]; omega) hw) ?_
    rintro _ a w hst ⟨vE, fpE, rfl, hoE, hw⟩
    refine hst.go rfl hw ?_
    clear hst hw w a
    replace hoE : OwnB 5 vE (lz ++ encItem xi) fpE := by unfold encItem; rw [if_pos (by omega)]; simpa only [List.append_assoc] using hoE
    refine sA rfl ?_
    refine L.nil (N.blk (N.seq ?_))
    refine sR ?_
    refine L.w rfl (V.add rfl rfl (w64 (by omega) (by omega))) ?_
    refine sM rfl ?_
    refine L.nil ?_
    exact N.round (z + 1, vE, fpE) (by show _ - (z + 1) < _ - z; omega) ⟨rfl, rfl, rfl, rfl, rfl, trivial⟩ (fun w hw => ⟨⟨by show z + 1 ≤ _; omega, by show OwnB _ _ (_ ++ ((p.items.take (z + 1)).map encItem).flatten) _; rw [flat_take _ _ _ hj, ← List.append_assoc, hL, hxi]; exact hoE⟩, hw.sub (by simp)⟩)
   ·try simp only [sq] at h59
    refine sR (sM rfl ?_)
    refine L.w rfl (V.fa rfl underlying112 rfl rfl sizeOf22) ?_
    refine L.w rfl (V.load rfl isAgg22 zAt (by rfl)) ?_
    refine L.append (by' := 1) (sz := 1) (l := xi.val.length) (ys := xi.val.map bv) rfl rfl rfl rfl underlying22 info_u8 rfl rfl rfl rfl ho56 .done (g5.lift _) (bv_one _) (by simp only [List.length_append, en_length]; omega) (by simp only [List.length_append, en_length]; omega) (fun vE fpE hoE => ?_)
    replace hoE : OwnB 5 vE (lz ++ encItem xi) fpE := by have := OwnB.app hoE rfl rfl; unfold encItem; rw [if_neg (by omega)]; simpa only [List.append_assoc] using this
    refine sA rfl ?_
    refine L.nil (N.blk (N.seq ?_))
    refine sR ?_
    refine L.w rfl (V.add rfl rfl (w64 (by omega) (by omega))) ?_
    refine sM rfl ?_
    refine L.nil ?_
    exact N.round (z + 1, vE, fpE) (by show _ - (z + 1) < _ - z; omega) ⟨rfl, rfl, rfl, rfl, rfl, trivial⟩ (fun w hw => ⟨⟨by show z + 1 ≤ _; omega, by show OwnB _ _ (_ ++ ((p.items.take (z + 1)).map encItem).flatten) _; rw [flat_take _ _ _ hj, ← List.append_assoc, hL, hxi]; exact hoE⟩, hw.sub (by simp)⟩)
  ·try simp only [sq] at h40
   refine sZ rfl (sC (sD ?_))
   refine L.w rfl (V.fa rfl underlying125 rfl rfl sizeOf115) ?_
   refine L.w rfl (V.load rfl isAgg115 zAt (by rfl)) ?_
   refine L.w rfl (V.len rfl underlying115) ?_
   refine sM rfl (sN (sB ?_))
   have ez : z = p.items.length := by omega
   subst ez
   rw [List.take_length] at hoz
   have hlA : (encHead p ++ (p.items.map encItem).flatten).length ≤ 300 := by rw [List.length_append, encHead_len, flatten_len _ _ encItem_len]; omega
   generalize hA : encHead p ++ (p.items.map encItem).flatten = lA at hoz hlA
   refine C.loop (α := Nat × Value × Heap) (fun z => [(1, .pointer (some ⟨b1, 0, none⟩)), (71, .slice ka p.kids.length kc), (72, .int .i64 (p.kids.length : Int)), (73, .int .i64 (z.1 : Int)), (6, z.2.1)]) (fun z w => (z.1 ≤ p.kids.length ∧ OwnB 5 z.2.1 (lA ++ ((p.kids.take z.1).map encKid).flatten) z.2.2) ∧ Hp w0 F S (z.2.2 ++ (b1, .cells #[.int .i64 (p.kind : Int), .int .u64 (p.txn : Int), .int .i64 (p.next : Int), .slice ia p.items.length ic, .slice ka p.kids.length kc, .slice da p.data.length dc, .slice xa p.ids.length xc] 125 (0, 0)) :: Hr) w) (fun z => p.kids.length - z.1) (0, vz, fpz) ⟨rfl, rfl, rfl, rfl, rfl, trivial⟩ (fun w hw => ⟨⟨Nat.zero_le _, by simpa using hoz⟩, hw⟩) (fun zz => C.pure (fun hzz => ?_))
   clear hoz hz vz fpz
   obtain ⟨z, vz, fpz⟩ := zz
   obtain ⟨hz, hoz⟩ := hzz
   dsimp only at hz hoz ⊢
   refine sD (sQc rfl (sN (sC ?_)))
   refine C.cond rfl (fun h74 => ?_) (fun h74 => ?_)
   ·try simp only [sq] at h74
    have hj : z < p.kids.length := by omega
    have hit := hR.kids _ (List.getElem_mem hj)
    unfold kidOk idOk at hit
    have hlen := flat_take_le encKid kidUsed encKid_len p.kids (z + 1)
    rw [flat_take _ _ _ hj, List.length_append] at hlen
    obtain ⟨b, off, cs, T, fz, jk, rfl, g1, g2, g3, g4, g5, g6⟩ := hk.at hj
    obtain ⟨xk, hxk⟩ : ∃ xk, p.kids[z] = xk := ⟨_, rfl⟩
    simp only [hxk] at hit hlen g3 g4 g5 g6
    obtain ⟨jka, jkc, rfl, _⟩ := g4.form
    have hlz : (lA ++ ((p.kids.take z).map encKid).flatten).length ≤ 1000 := by rw [List.length_append]; omega
    generalize hL : lA ++ ((p.kids.take z).map encKid).flatten = lz at hoz hlz
    refine sK (sC (sB (sD ?_)))
    refine L.w rfl (V.indexAddr rfl rfl underlying115 sizeOf129 rfl (by omega)) ?_
    refine L.w rfl (V.loadN rfl isAgg129 sizeOf129 (.apr (.tail g1)) g2 g3) ?_
    refine L.allocA rfl rfl zeroValue129 (fun b10 => ?_)
    refine L.storeBox rfl rfl rfl sizeOf129 rfl rfl (by rfl) zUp ?_
    refine sN (sC ?_)
    refine C.drawC [] (Hp w0 F S ((b10, .cells #[.slice jka xk.key.length jkc, .int .i64 (xk.page : Int)] 129 (0, 0)) :: (b1, .cells #[.int .i64 (p.kind : Int), .int .u64 (p.txn : Int), .int .i64 (p.next : Int), .slice ia p.items.length ic, .slice (some ⟨b, off, none⟩) p.kids.length kc, .slice da p.data.length dc, .slice xa p.ids.length xc] 125 (0, 0)) :: Hr)) (fun w h => h.sub (by simp)) (by kernel_rfl) rfl (fun w hw => hw.drawn _) ?_
    refine D.take 0 (listed' := #[true, false, false, false, false, false, false, false, false, false]) rfl (by kernel_rfl) rfl rfl rfl rfl (V.move rfl) (fun w h => h.sub (by simp)) ?_
    refine D.take 1 (listed' := #[true, true, false, false, false, false, false, false, false, false]) rfl (by kernel_rfl) rfl rfl rfl rfl (V.fa rfl underlying129 rfl rfl sizeOf22) (fun w h => h.sub (by simp)) ?_
    refine D.take 2 (listed' := #[true, true, true, false, false, false, false, false, false, false]) rfl (by kernel_rfl) rfl rfl rfl rfl (V.load rfl isAgg22 zAt (by rfl)) (fun w h => h.sub (by simp)) ?_
    refine D.take 3 (listed' := #[true, true, true, true, false, false, false, false, false, false]) rfl (by kernel_rfl) rfl rfl rfl rfl (V.len rfl underlying22) (fun w h => h.sub (by simp)) ?_
    refine D.take 4 (listed' := #[true, true, true, true, true, false, false, false, false, false]) rfl (by kernel_rfl) rfl rfl rfl rfl (V.conv (c := (xk.key.length : Int)) rfl underlying3 underlying123 (by rw [IntKind.wrap_u64]; omega)) (fun w h => h.sub (by simp)) ?_
    refine D.take 6 (listed' := #[true, true, true, true, true, false, true, false, false, false]) rfl (by kernel_rfl) rfl rfl rfl rfl (V.fa rfl underlying129 rfl rfl sizeOf22) (fun w h => h.sub (by simp)) ?_
    refine D.take 7 (listed' := #[true, true, true, true, true, false, true, true, false, false]) rfl (by kernel_rfl) rfl rfl rfl rfl (V.load rfl isAgg22 zAt (by rfl)) (fun w h => h.sub (by simp)) ?_
    refine D.step 5 (listed' := #[true, true, true, true, true, true, true, true, false, false]) (by kernel_rfl) rfl rfl (.inr (fun w h => h.sub (by simp))) ?_
    refine L.call rfl rfl rfl call169 rfl (fun w hw => pput_ok xk.key.length 1 (by omega) (by omega) (by omega) hoz (by omega) (hw.take (.skip .done))) ?_
    rintro _ a w hst ⟨v82, fp82, rfl, ho82, hw⟩
    refine hst.go rfl hw ?_
    clear hst hw w a
    refine D.back ?_
    refine D.step 8 (listed' := #[true, true, true, true, true, true, true, true, true, false]) (by kernel_rfl) rfl rfl (.inr (fun w h => h.sub (by simp))) ?_
    refine L.append (by' := 1) (sz := 1) (l := xk.key.length) (ys := xk.key.map bv) rfl rfl rfl rfl underlying22 info_u8 rfl rfl rfl rfl ho82 .done (g4.lift _) (bv_one _) (by simp only [List.length_append, en_length]; omega) (by simp only [List.length_append, en_length]; omega) (fun v85 fp85 ho85 => ?_)
    replace ho85 := OwnB.app ho85 rfl rfl
    refine D.back ?_
    refine D.step 9 (listed' := #[true, true, true, true, true, true, true, true, true, true]) (by kernel_rfl) rfl rfl (.inr (fun w h => h.sub (by simp))) ?_
    refine sA rfl ?_
    refine D.back ?_
    refine D.done (by kernel_rfl) (.inr (fun w h => h.sub (by simp))) (N.seq ?_)
    refine sR (sM rfl ?_)
    refine L.w rfl (V.fa rfl underlying129 rfl rfl sizeOf3) ?_
    refine L.w rfl (V.load rfl isAgg3 zAt (by rfl)) ?_
    refine L.w rfl (V.conv (c := (xk.page : Int)) rfl underlying3 underlying123 (by rw [IntKind.wrap_u64]; omega)) ?_
    refine L.call rfl rfl rfl call169 rfl (fun w hw => pput_ok xk.page 4 (by omega) (by omega) (by omega) ho85 (by simp only [List.length_append, en_length]; omega) hw) ?_
    rintro _ a w hst ⟨vE, fpE, rfl, hoE, hw⟩
    refine hst.go rfl hw ?_
    clear hst hw w a
    replace hoE : OwnB 5 vE (lz ++ encKid xk) fpE := by unfold encKid; simpa only [List.append_assoc] using hoE
    refine sA rfl ?_
    refine L.nil (N.blk (N.seq ?_))
    refine sR ?_
    refine L.w rfl (V.add rfl rfl (w64 (by omega) (by omega))) ?_
    refine sM rfl ?_
    refine L.nil ?_
    exact N.round (z + 1, vE, fpE) (by show _ - (z + 1) < _ - z; omega) ⟨rfl, rfl, rfl, rfl, rfl, trivial⟩ (fun w hw => ⟨⟨by show z + 1 ≤ _; omega, by show OwnB _ _ (_ ++ ((p.kids.take (z + 1)).map encKid).flatten) _; rw [flat_take _ _ _ hj, ← List.append_assoc, hL, hxk]; exact hoE⟩, hw.sub (by simp)⟩)
   ·try simp only [sq] at h74
    refine sZ rfl (sD (sM rfl ?_))
    refine L.w rfl (V.fa rfl underlying125 rfl rfl sizeOf22) ?_
    refine L.w rfl (V.load rfl isAgg22 zAt (by rfl)) ?_
    have ez : z = p.kids.length := by omega
    subst ez
    rw [List.take_length] at hoz
    have hlB : (lA ++ (p.kids.map encKid).flatten).length ≤ 600 := by rw [List.length_append, flatten_len _ _ encKid_len]; omega
    generalize hB : lA ++ (p.kids.map encKid).flatten = lB at hoz hlB
    refine L.append (by' := 1) (sz := 1) (l := p.data.length) (ys := p.data.map bv) rfl rfl rfl rfl underlying22 info_u8 rfl rfl rfl rfl hoz .done (hd.mono ((Sees.cons _ _ _).trans (Sees.app _ _ _))) (bv_one _) (by omega) (by omega) (fun v95 fp95 ho95 => ?_)
    replace ho95 := OwnB.app ho95 rfl rfl
    have hlD : (lB ++ p.data).length ≤ 1000 := by rw [List.length_append]; omega
    generalize hD : lB ++ p.data = lD at ho95 hlD
    refine sA rfl (sN (sC (sD ?_)))
    refine L.w rfl (V.fa rfl underlying125 rfl rfl sizeOf37) ?_
    refine L.w rfl (V.load rfl isAgg37 zAt (by rfl)) ?_
    refine L.w rfl (V.len rfl underlying37) ?_
    refine sM rfl (sN (sB ?_))
    refine C.loop (α := Nat × Value × Heap) (fun z => [(97, .slice xa p.ids.length xc), (98, .int .i64 (p.ids.length : Int)), (99, .int .i64 (z.1 : Int)), (6, z.2.1)]) (fun z w => (z.1 ≤ p.ids.length ∧ OwnB 5 z.2.1 (lD ++ ((p.ids.take z.1).map (fun i => en i 4)).flatten) z.2.2) ∧ Hp w0 F S (z.2.2 ++ (b1, .cells #[.int .i64 (p.kind : Int), .int .u64 (p.txn : Int), .int .i64 (p.next : Int), .slice ia p.items.length ic, .slice ka p.kids.length kc, .slice da p.data.length dc, .slice xa p.ids.length xc] 125 (0, 0)) :: Hr) w) (fun z => p.ids.length - z.1) (0, v95, fp95) ⟨rfl, rfl, rfl, rfl, trivial⟩ (fun w hw => ⟨⟨Nat.zero_le _, by simpa using ho95⟩, hw⟩) (fun zz => C.pure (fun hzz => ?_))
    clear hoz hz vz fpz
    obtain ⟨z, vz, fpz⟩ := zz
    obtain ⟨hz, hoz⟩ := hzz
    dsimp only at hz hoz ⊢
    refine sD (sQc rfl (sN (sC ?_)))
    refine C.cond rfl (fun h100 => ?_) (fun h100 => ?_)
    ·try simp only [sq] at h100
     have hj : z < p.ids.length := by omega
     have hit := hR.ids _ (List.getElem_mem hj)
     unfold idOk at hit
     have hlen := flat_take_le (fun i => en i 4) (fun _ => 4) (fun i => en_length i 4) p.ids (z + 1)
     rw [flat_take _ _ _ hj, List.length_append, sum_const] at hlen
     obtain ⟨b, off, cs, T, fz, rfl, g1, g2⟩ := hx.at hj
     obtain ⟨xn, hxn⟩ : ∃ xn, p.ids[z] = xn := ⟨_, rfl⟩
     simp only [hxn] at hit hlen g2
     have hlz : (lD ++ ((p.ids.take z).map (fun i => en i 4)).flatten).length ≤ 2000 := by rw [List.length_append]; omega
     generalize hL : lD ++ ((p.ids.take z).map (fun i => en i 4)).flatten = lz at hoz hlz
     refine sK (sC (sB (sD ?_)))
     refine L.w rfl (V.indexAddr rfl rfl underlying37 sizeOf3 rfl (by omega)) ?_
     refine L.w rfl (V.load rfl isAgg3 (.apr (.tail g1)) g2) ?_
     refine sA rfl (sN (sR (sM rfl (sM rfl ?_))))
     refine L.w rfl (V.conv (c := (xn : Int)) rfl underlying3 underlying123 (by rw [IntKind.wrap_u64]; omega)) ?_
     refine L.call rfl rfl rfl call169 rfl (fun w hw => pput_ok xn 4 (by omega) (by omega) (by omega) hoz (by omega) hw) ?_
     rintro _ a w hst ⟨vE, fpE, rfl, hoE, hw⟩
     refine hst.go rfl hw ?_
     clear hst hw w a
     refine sA rfl ?_
     refine L.nil (N.blk (N.seq ?_))
     refine sR ?_
     refine L.w rfl (V.add rfl rfl (w64 (by omega) (by omega))) ?_
     refine sM rfl ?_
     refine L.nil ?_
     exact N.round (z + 1, vE, fpE) (by show _ - (z + 1) < _ - z; omega) ⟨rfl, rfl, rfl, rfl, trivial⟩ (fun w hw => ⟨⟨by show z + 1 ≤ _; omega, by show OwnB _ _ (_ ++ ((p.ids.take (z + 1)).map (fun i => en i 4)).flatten) _; rw [flat_take _ _ _ hj, ← List.append_assoc, hL, hxn]; exact hoE⟩, hw⟩)
    ·try simp only [sq] at h100
     refine sZ rfl (sD ?_)
     have ez : z = p.ids.length := by omega
     subst ez
     rw [List.take_length] at hoz
     have hall : lD ++ (p.ids.map (fun i => en i 4)).flatten = encB p := by unfold encB; rw [← hD, ← hB, ← hA]
     rw [hall] at hoz
     have hlen := encB_len p
     refine L.make (m := 252) (c := 252) rfl rfl rfl rfl underlying22 info_u8 rfl rfl rfl (Nat.le_refl _) (by decide) (by decide) (fun b108 => ?_)
     refine sA rfl (sE (sM rfl (sM rfl ?_)))
     refine L.copy (sz := 1) (m := (encB p).length) (l := (encB p).length) (ys := (encB p).map bv) rfl rfl rfl rfl underlying22 sizeOf5 (hoz.bs (fun q hq => List.mem_cons_of_mem _ (List.mem_append_left _ hq))) (by omega) (fun u hu => bv_one _ u (List.mem_of_mem_take hu)) .head (by rw [List.size_toArray, List.length_replicate]; omega) ?_
     rw [copy_pad 252 (encB p) (by omega), show encB p ++ List.replicate (252 - (encB p).length) 0 = encW p from rfl]
     refine sE (sM rfl ?_)
     refine L.call rfl rfl rfl call170 rfl (fun w hw => seal_ok (v := .slice (some ⟨b108, 0, none⟩) 252 252) (l := encW p) ⟨by simp, .inr ⟨b108, 0, 252, _, _, _, by rw [encW_len u1], ⟨by rw [encW_len u1]; omega, by omega⟩, .head, fun j hj => by simp⟩⟩ (by rw [encW_len u1]; omega) hw) ?_
     rintro _ a w hst ⟨v113, fp113, rfl, ho113, hw⟩
     refine hst.go rfl hw ?_
     clear hst hw w a
     refine sA rfl (sA rfl (sN ?_))
     refine R.ret2 results129 rfl rfl (fun w hw => ?_)
     refine ⟨_, fp113, _, rfl, .inl ⟨hR, rfl, ?_⟩, hw.sub zSub⟩
     unfold OwnB pageB
     rw [List.length_append, en_length]; exact ho113
end
end Go.Proofs.YtijgbppkdaiikaaGreat

set_option linter.unusedSimpArgs false
set_option linter.unusedVariables false
namespace Go.Proofs.YtijgbppkdaiikaaGreat
open Go.Proofs.Tryz Go.Tk

theorem numR_en {t rest : List UInt8} {at_ k a : Nat} (h : t.drop at_ = en a k ++ rest) (ha : a < 256 ^ k) (h1 : 1 ≤ k) (h8 : k ≤ 8) : numR t at_ 0 k = (a, at_ + k, 0) ∧ t.drop (at_ + k) = rest := by
 have hl := congrArg List.length h
 rw [List.length_drop, List.length_append, en_length] at hl
 have h2 : t.drop (at_ + k) = rest := by rw [← List.drop_drop, h, List.drop_left' (en_length _ _)]
 refine ⟨?_, h2⟩
 unfold numR getN
 rw [if_neg (by simp), if_neg (by omega), if_neg (by omega)]
 simp only [Int.toNat_natCast, if_pos]
 rw [h, List.take_left' (en_length _ _), be_en _ _ ha]

theorem bytesR_en {t rest x : List UInt8} {at_ : Nat} (h : t.drop at_ = x ++ rest) (hat : at_ ≤ t.length) : bytesR t at_ 0 (x.length : Int) = (x, at_ + x.length, 0) ∧ t.drop (at_ + x.length) = rest := by
 have hl := congrArg List.length h
 rw [List.length_drop, List.length_append] at hl
 have h2 : t.drop (at_ + x.length) = rest := by rw [← List.drop_drop, h, List.drop_left' rfl]
 refine ⟨?_, h2⟩
 unfold bytesR
 rw [if_neg (by simp), if_neg (by omega)]
 simp only [Int.toNat_natCast]
 rw [h, List.take_left' rfl]

theorem drop_flat {α : Type} (f : α → List UInt8) (A B : List UInt8) (l : List α) (z n : Nat) (hz : z < l.length) (hn : n = A.length + (((l.take z).map f).flatten).length) :
 (A ++ (l.map f).flatten ++ B).drop n = f l[z] ++ (((l.drop (z + 1)).map f).flatten ++ B) := by
 have e : l = l.take z ++ l[z] :: l.drop (z + 1) := by rw [← List.drop_eq_getElem_cons hz, List.take_append_drop]
 have e2 : A ++ (l.map f).flatten ++ B = (A ++ ((l.take z).map f).flatten) ++ (f l[z] ++ (((l.drop (z + 1)).map f).flatten ++ B)) := by
  have h2 : (l.map f).flatten = ((l.take z).map f).flatten ++ (f l[z] ++ ((l.drop (z + 1)).map f).flatten) := by
   have h3 := congrArg (fun q => (q.map f).flatten) e
   simp only [List.map_append, List.flatten_append, List.map_cons, List.flatten_cons] at h3
   exact h3
  rw [h2]; simp only [List.append_assoc]
 rw [e2, List.drop_left' (by rw [List.length_append]; exact hn.symm)]

theorem encW_head (q : Page) : ∃ rest, encW q = en q.kind 1 ++ (en q.txn 8 ++ (en q.next 4 ++ (en q.count 2 ++ rest))) := by
 unfold encW encB encHead
 simp only [List.append_assoc]
 exact ⟨_, rfl⟩

section
variable {q : Page}
theorem dec_item (hR : Right q) (hk : q.kind = 1) {z : Nat} (hz : z < q.items.length) : ∃ rest, (encW q).drop (15 + ((q.items.take z).map itemUsed).sum) = encItem q.items[z] ++ rest := by
 ·unfold encW encB
  simp only [List.append_assoc]
  rw [← List.append_assoc]
  exact ⟨_, drop_flat encItem (encHead q) _ q.items z _ hz (by rw [encHead_len, flatten_len _ _ encItem_len])⟩
theorem dec_kid (hR : Right q) (hk : q.kind = 2) {z : Nat} (hz : z < q.kids.length) : ∃ rest, (encW q).drop (15 + ((q.kids.take z).map kidUsed).sum) = encKid q.kids[z] ++ rest := by
 have h1 := hR.only.items (by omega)
 ·unfold encW encB
  rw [h1]
  simp only [List.append_assoc, List.map_nil, List.flatten_nil, List.nil_append]
  rw [← List.append_assoc]
  exact ⟨_, drop_flat encKid (encHead q) _ q.kids z _ hz (by rw [encHead_len, flatten_len _ _ encKid_len])⟩
theorem dec_data (hR : Right q) (hk : q.kind = 3) {z : Nat} (hz : z < q.data.length) : ∃ rest, (encW q).drop (15 + z) = [q.data[z]] ++ rest := by
 have h1 := hR.only.items (by omega)
 have h2 := hR.only.kids (by omega)
 have e : q.data = (q.data.map (fun x => [x])).flatten := by
  generalize q.data = l
  induction l with
  | nil => rfl
  | cons x l ih => simp only [List.map_cons, List.flatten_cons, List.singleton_append]; rw [← ih]
 ·unfold encW encB
  rw [h1, h2]
  simp only [List.append_assoc, List.map_nil, List.flatten_nil, List.nil_append]
  rw [← List.append_assoc]
  rw [show ∀ B, encHead q ++ q.data ++ B = encHead q ++ (q.data.map (fun x => [x])).flatten ++ B from fun B => by rw [← e]]
  refine ⟨_, drop_flat (fun x => [x]) (encHead q) _ q.data z _ hz ?_⟩
  rw [encHead_len, flatten_len _ (fun _ => 1) (fun _ => rfl)]
  have : ∀ l : List UInt8, (l.map (fun _ => 1)).sum = l.length := fun l => by induction l with | nil => rfl | cons x l ih => simp only [List.map_cons, List.sum_cons, ih, List.length_cons]; omega
  rw [this, List.length_take]; omega
theorem dec_id (hR : Right q) (hk : q.kind = 4) {z : Nat} (hz : z < q.ids.length) : ∃ rest, (encW q).drop (15 + 4 * z) = en q.ids[z] 4 ++ rest := by
 have h1 := hR.only.items (by omega)
 have h2 := hR.only.kids (by omega)
 have h3 := hR.only.data (by omega)
 ·unfold encW encB
  rw [h1, h2, h3]
  simp only [List.append_assoc, List.map_nil, List.flatten_nil, List.nil_append]
  rw [← List.append_assoc]
  exact ⟨_, drop_flat (fun i => en i 4) (encHead q) _ q.ids z _ hz (by rw [encHead_len, flatten_len _ (fun _ => 4) (fun i => en_length i 4), sum_const, List.length_take]; omega)⟩
end

theorem Right.small {p : Page} (h : Right p) (ht : p.txn < 2 ^ 64) : Small p := by
 have hc := h.few
 have ho := h.only
 have hk : p.items.length ≤ 237 ∧ p.kids.length ≤ 237 ∧ p.data.length ≤ 237 ∧ p.ids.length ≤ 237 := by
  have e1 := ho.items
  have e2 := ho.kids
  have e3 := ho.data
  have e4 := ho.ids
  have k0 := ho.k0
  have k1 := ho.k1
  unfold Page.count at hc
  rcases (by omega : p.kind = 1 ∨ p.kind = 2 ∨ p.kind = 3 ∨ p.kind = 4) with k | k | k | k <;> simp only [k] at hc e1 e2 e3 e4 <;> simp_all
 have hn := h.next
 have hk1 := ho.k1
 refine ⟨by omega, ht, by omega, by omega, fun x hx => ?_, by omega, fun x hx => ?_, by omega, by omega, fun x hx => ?_⟩
 ·have := h.items x hx; unfold itemOk idOk at this; omega
 ·have := h.kids x hx; unfold kidOk idOk at this; omega
 ·have := h.ids x hx; unfold idOk at this; omega

/-! ### own pages -/
def ItemsO (S : Store) (v : Value) (l : List Item) (fp : Heap) : Prop := ∃ rows, Own 112 4 v l.length (List.flatten rows) fp ∧ All2 (ItemC S) rows l
def KidsO (S : Store) (v : Value) (l : List Kid) (fp : Heap) : Prop := ∃ rows, Own 129 2 v l.length (List.flatten rows) fp ∧ All2 (KidC S) rows l
def IdsO (v : Value) (l : List Nat) (fp : Heap) : Prop := Own 3 1 v l.length ((l.map (fun n : Nat => (n : Int))).map iv) fp
structure Parts (S : Store) (p : Page) (iv kv dv xv : Value) (fi fk fd fx : Heap) : Prop where
 items : ItemsO S iv p.items fi
 kids : KidsO S kv p.kids fk
 data : OwnB 5 dv p.data fd
 ids : IdsO xv p.ids fx
def PageO (S : Store) (c : List Value) (p : Page) (fp : Heap) : Prop := ∃ iv kv dv xv fi fk fd fx, c = [.int .i64 (p.kind : Int), .int .u64 (p.txn : Int), .int .i64 (p.next : Int), iv, kv, dv, xv] ∧ Parts S p iv kv dv xv fi fk fd fx ∧ fp = fi ++ (fk ++ (fd ++ fx))

theorem ItemsO.mono {S S' : Store} {v : Value} {l : List Item} {fp : Heap} (h : ItemsO S v l fp) (s : S.le S') : ItemsO S' v l fp := by
 obtain ⟨rows, h1, h2⟩ := h; exact ⟨rows, h1, h2.mono fun a b h => h.mono s⟩
theorem KidsO.mono {S S' : Store} {v : Value} {l : List Kid} {fp : Heap} (h : KidsO S v l fp) (s : S.le S') : KidsO S' v l fp := by
 obtain ⟨rows, h1, h2⟩ := h; exact ⟨rows, h1, h2.mono fun a b h => h.mono s⟩
theorem ItemsO.c {S : Store} {v : Value} {l : List Item} {fp H : Heap} (h : ItemsO S v l fp) (hh : ∀ q, q ∈ fp → q ∈ H) : Items S H v l := by
 obtain ⟨rows, h1, h2⟩ := h; exact ⟨rows, h1.rd hh, h2⟩
theorem KidsO.c {S : Store} {v : Value} {l : List Kid} {fp H : Heap} (h : KidsO S v l fp) (hh : ∀ q, q ∈ fp → q ∈ H) : Kids S H v l := by
 obtain ⟨rows, h1, h2⟩ := h; exact ⟨rows, h1.rd hh, h2⟩
theorem IdsO.c {S : Store} {v : Value} {l : List Nat} {fp H : Heap} (h : IdsO v l fp) (hh : ∀ q, q ∈ fp → q ∈ H) : Ids S H v l := by
 have := Own.rd (S := S) (H := H) h hh
 unfold Ids Is
 simpa using this
theorem Parts.mono {S S' : Store} {p : Page} {iv kv dv xv : Value} {fi fk fd fx : Heap} (h : Parts S p iv kv dv xv fi fk fd fx) (s : S.le S') : Parts S' p iv kv dv xv fi fk fd fx := ⟨h.items.mono s, h.kids.mono s, h.data, h.ids⟩
theorem PageO.mono {S S' : Store} {c : List Value} {p : Page} {fp : Heap} (h : PageO S c p fp) (s : S.le S') : PageO S' c p fp := by
 obtain ⟨iv, kv, dv, xv, fi, fk, fd, fx, e, h1, h2⟩ := h; exact ⟨iv, kv, dv, xv, fi, fk, fd, fx, e, h1.mono s, h2⟩
theorem Parts.c {S : Store} {p : Page} {iv kv dv xv : Value} {fi fk fd fx H : Heap} (h : Parts S p iv kv dv xv fi fk fd fx) (hh : ∀ q, q ∈ fi ++ (fk ++ (fd ++ fx)) → q ∈ H) : PageC S H [.int .i64 (p.kind : Int), .int .u64 (p.txn : Int), .int .i64 (p.next : Int), iv, kv, dv, xv] p := by
 simp only [List.mem_append] at hh
 exact ⟨iv, kv, dv, xv, rfl, h.items.c fun q hq => hh q (.inl hq), h.kids.c fun q hq => hh q (.inr (.inl hq)), h.data.bs fun q hq => hh q (.inr (.inr (.inl hq))), h.ids.c fun q hq => hh q (.inr (.inr (.inr hq)))⟩
theorem PageO.c {S : Store} {c : List Value} {p : Page} {fp H : Heap} (h : PageO S c p fp) (hh : ∀ q, q ∈ fp → q ∈ H) : PageC S H c p := by
 obtain ⟨iv, kv, dv, xv, fi, fk, fd, fx, rfl, h1, rfl⟩ := h
 exact h1.c hh

theorem ItemsO.snoc {S : Store} {v : Value} {l : List Item} {x : Item} {c : List Value} {rows : List (List Value)} {fp : Heap} (h : Own 112 4 v (l.length + 1) (List.flatten rows ++ c) fp) (hr : All2 (ItemC S) rows l) (hc : ItemC S c x) : ItemsO S v (l ++ [x]) fp :=
 ⟨rows ++ [c], by simpa using h, hr.append ⟨hc, trivial⟩⟩
theorem KidsO.snoc {S : Store} {v : Value} {l : List Kid} {x : Kid} {c : List Value} {rows : List (List Value)} {fp : Heap} (h : Own 129 2 v (l.length + 1) (List.flatten rows ++ c) fp) (hr : All2 (KidC S) rows l) (hc : KidC S c x) : KidsO S v (l ++ [x]) fp :=
 ⟨rows ++ [c], by simpa using h, hr.append ⟨hc, trivial⟩⟩
theorem IdsO.snoc {v : Value} {l : List Nat} {x : Nat} {fp : Heap} (h : Own 3 1 v (l.length + 1) ((l.map (fun n : Nat => (n : Int))).map iv ++ [.int .i64 (x : Int)]) fp) : IdsO v (l ++ [x]) fp := by
 unfold IdsO; simpa [iv] using h
end Go.Proofs.YtijgbppkdaiikaaGreat

set_option linter.unusedSimpArgs false
set_option linter.unusedVariables false
namespace Go.Proofs.YtijgbppkdaiikaaGreat
open Go.Proofs.Tryz Go.Tk

theorem en_inj {a b k : Nat} {r r' : List UInt8} (h : en a k ++ r = en b k ++ r') (ha : a < 256 ^ k) (hb : b < 256 ^ k) : a = b ∧ r = r' := by
 obtain ⟨h1, h2⟩ := List.append_inj h (by rw [en_length, en_length])
 exact ⟨by rw [← be_en a k ha, ← be_en b k hb, h1], h2⟩

theorem encItem_inj {x y : Item} {r r' : List UInt8} (h : encItem x ++ r = encItem y ++ r') (hx : itemOk x) (hy : itemOk y) : x = y ∧ r = r' := by
 unfold encItem at h
 unfold itemOk idOk at hx hy
 simp only [List.append_assoc] at h
 obtain ⟨h1, ha⟩ := en_inj h (by omega) (by omega)
 obtain ⟨h2, hb⟩ := en_inj ha (by omega) (by omega)
 obtain ⟨h3, hc⟩ := List.append_inj hb h1
 clear h ha hb
 obtain ⟨xk, xv, xs, xm⟩ := x
 obtain ⟨yk, yv, ys, ym⟩ := y
 dsimp only at *
 subst h2 h3
 by_cases h64 : 64 < xs
 ·rw [if_pos h64, if_pos h64] at hc
  obtain ⟨h4, hd⟩ := en_inj hc (by omega) (by omega)
  have e1 : xv = [] := List.eq_nil_of_length_eq_zero (by omega)
  have e2 : yv = [] := List.eq_nil_of_length_eq_zero (by omega)
  subst h4 e1 e2
  exact ⟨rfl, hd⟩
 ·rw [if_neg h64, if_neg h64] at hc
  obtain ⟨h4, hd⟩ := List.append_inj hc (by omega)
  have e1 : xm = ym := by omega
  subst h4 e1
  exact ⟨rfl, hd⟩
theorem encKid_inj {x y : Kid} {r r' : List UInt8} (h : encKid x ++ r = encKid y ++ r') (hx : kidOk x) (hy : kidOk y) : x = y ∧ r = r' := by
 unfold encKid at h
 unfold kidOk idOk at hx hy
 simp only [List.append_assoc] at h
 obtain ⟨h1, ha⟩ := en_inj h (by omega) (by omega)
 obtain ⟨h3, hb⟩ := List.append_inj ha h1
 obtain ⟨h4, hc⟩ := en_inj hb (by omega) (by omega)
 clear h ha hb
 obtain ⟨xk, xp⟩ := x
 obtain ⟨yk, yp⟩ := y
 dsimp only at *
 subst h3 h4
 exact ⟨rfl, hc⟩
theorem flat_inj {α : Type} {f : α → List UInt8} {Q : α → Prop} (hf : ∀ x y r r', Q x → Q y → f x ++ r = f y ++ r' → x = y ∧ r = r') : ∀ (l l' : List α) (r r' : List UInt8), l.length = l'.length → (∀ x ∈ l, Q x) → (∀ x ∈ l', Q x) → (l.map f).flatten ++ r = (l'.map f).flatten ++ r' → l = l' ∧ r = r'
 | [], [], r, r', _, _, _, h => ⟨rfl, by simpa using h⟩
 | x :: l, y :: l', r, r', hl, hx, hy, h => by
   simp only [List.map_cons, List.flatten_cons, List.append_assoc] at h
   obtain ⟨h1, h2⟩ := hf x y _ _ (hx x (List.mem_cons_self ..)) (hy y (List.mem_cons_self ..)) h
   obtain ⟨h3, h4⟩ := flat_inj hf l l' r r' (by simpa using hl) (fun z hz => hx z (List.mem_cons_of_mem _ hz)) (fun z hz => hy z (List.mem_cons_of_mem _ hz)) h2
   exact ⟨by rw [h1, h3], h4⟩
 | [], _ :: _, _, _, hl, _, _, _ => by simp at hl
 | _ :: _, [], _, _, hl, _, _, _ => by simp at hl

theorem Page.ext' {p q : Page} (h1 : p.kind = q.kind) (h2 : p.txn = q.txn) (h3 : p.next = q.next) (h4 : p.items = q.items) (h5 : p.kids = q.kids) (h6 : p.data = q.data) (h7 : p.ids = q.ids) : p = q := by
 cases p; cases q; simp_all

theorem encW_inj {p q : Page} (hp : Right p) (hq : Right q) (tp : p.txn < 2 ^ 64) (tq : q.txn < 2 ^ 64) (h : encW p = encW q) : p = q := by
 unfold encW encB encHead at h
 simp only [List.append_assoc] at h
 have p1 := hp.only.k1
 have q1 := hq.only.k1
 have p2 := hp.next
 have q2 := hq.next
 have p3 := hp.few
 have q3 := hq.few
 obtain ⟨hk, h⟩ := en_inj h (by omega) (by omega)
 obtain ⟨ht, h⟩ := en_inj h (by omega) (by omega)
 obtain ⟨hn, h⟩ := en_inj h (by omega) (by omega)
 obtain ⟨hc, h⟩ := en_inj h (by omega) (by omega)
 have oi := hp.only.items
 have ok := hp.only.kids
 have od := hp.only.data
 have ox := hp.only.ids
 have oi' := hq.only.items
 have ok' := hq.only.kids
 have od' := hq.only.data
 have ox' := hq.only.ids
 have k0 := hp.only.k0
 unfold Page.count at hc
 rcases (by omega : p.kind = 1 ∨ p.kind = 2 ∨ p.kind = 3 ∨ p.kind = 4) with k | k | k | k
 ·have k' : q.kind = 1 := by omega
  simp only [k, k', if_pos] at hc
  obtain ⟨e, _⟩ := flat_inj (Q := itemOk) (fun x y r r' hx hy h => encItem_inj h hx hy) p.items q.items _ _ hc hp.items hq.items h
  exact Page.ext' hk ht hn e (by rw [ok (by omega), ok' (by omega)]) (by rw [od (by omega), od' (by omega)]) (by rw [ox (by omega), ox' (by omega)])
 ·have k' : q.kind = 2 := by omega
  have e1 := oi (by omega)
  have e1' := oi' (by omega)
  simp [k, k'] at hc
  rw [e1, e1'] at h
  simp only [List.map_nil, List.flatten_nil, List.nil_append] at h
  obtain ⟨e, _⟩ := flat_inj (Q := kidOk) (fun x y r r' hx hy h => encKid_inj h hx hy) p.kids q.kids _ _ hc hp.kids hq.kids h
  exact Page.ext' hk ht hn (by rw [e1, e1']) e (by rw [od (by omega), od' (by omega)]) (by rw [ox (by omega), ox' (by omega)])
 ·have k' : q.kind = 3 := by omega
  have e1 := oi (by omega)
  have e1' := oi' (by omega)
  have e2 := ok (by omega)
  have e2' := ok' (by omega)
  simp [k, k'] at hc
  rw [e1, e1', e2, e2'] at h
  simp only [List.map_nil, List.flatten_nil, List.nil_append] at h
  obtain ⟨e, _⟩ := List.append_inj h hc
  exact Page.ext' hk ht hn (by rw [e1, e1']) (by rw [e2, e2']) e (by rw [ox (by omega), ox' (by omega)])
 ·have k' : q.kind = 4 := by omega
  have e1 := oi (by omega)
  have e1' := oi' (by omega)
  have e2 := ok (by omega)
  have e2' := ok' (by omega)
  have e3 := od (by omega)
  have e3' := od' (by omega)
  simp [k, k'] at hc
  rw [e1, e1', e2, e2', e3, e3'] at h
  simp only [List.map_nil, List.flatten_nil, List.nil_append] at h
  obtain ⟨e, _⟩ := flat_inj (f := fun i => en i 4) (Q := idOk) (fun x y r r' hx hy h => by unfold idOk at hx hy; exact en_inj h (by omega) (by omega)) p.ids q.ids _ _ hc hp.ids hq.ids h
  exact Page.ext' hk ht hn (by rw [e1, e1']) (by rw [e2, e2']) (by rw [e3, e3']) e

theorem pageB_inj {p q : Page} (hp : Right p) (hq : Right q) (tp : p.txn < 2 ^ 64) (tq : q.txn < 2 ^ 64) (h : pageB p = pageB q) : p = q := by
 unfold pageB at h
 obtain ⟨_, h⟩ := List.append_inj h (by rw [en_length, en_length])
 exact encW_inj hp hq tp tq h

/-- Are these the bytes of a page? -/
def IsPage (l : List UInt8) (p : Page) : Prop := Right p ∧ p.txn < 2 ^ 64 ∧ pageB p = l
theorem IsPage.eq {l : List UInt8} {p q : Page} (h : IsPage l p) (h' : IsPage l q) : p = q := pageB_inj h.1 h'.1 h.2.1 h'.2.1 (h.2.2.trans h'.2.2.symm)
theorem IsPage.len {l : List UInt8} {p : Page} (h : IsPage l p) : l.length = 256 := by rw [← h.2.2]; exact pageB_len h.1.used
theorem IsPage.drop {l : List UInt8} {p : Page} (h : IsPage l p) : l.drop 4 = encW p := by rw [← h.2.2]; unfold pageB; rw [List.drop_left' (en_length _ _)]
theorem IsPage.take {l : List UInt8} {p : Page} (h : IsPage l p) : be (l.take 4) = sumN (l.drop 4) := by
 rw [h.drop, ← h.2.2]; unfold pageB; rw [List.take_left' (en_length _ _), be_en _ _ (sumN_lt _)]

open Classical in
/-- The page that bytes are. -/
noncomputable def decP (l : List UInt8) : Option Page := if h : ∃ p, IsPage l p then some h.choose else none
open Classical in
/-- What Decode says of bytes: the error. -/
noncomputable def decE (l : List UInt8) : Int := if l.length ≠ 256 then 4 else if be (l.take 4) ≠ sumN (l.drop 4) then 6 else if ∃ p, IsPage l p then 0 else 4
theorem decP_of {l : List UInt8} {p : Page} (h : IsPage l p) : decP l = some p := by
 unfold decP
 rw [dif_pos ⟨p, h⟩]
 exact congrArg some ((Exists.choose_spec (⟨p, h⟩ : ∃ p, IsPage l p)).eq h)
theorem decP_some {l : List UInt8} {p : Page} (h : decP l = some p) : IsPage l p := by
 unfold decP at h
 split at h
 ·rename_i hx; have := hx.choose_spec; rw [Option.some.inj h] at this; exact this
 ·cases h
theorem decP_none {l : List UInt8} (h : ∀ p, ¬ IsPage l p) : decP l = none := by
 unfold decP
 rw [dif_neg (fun ⟨p, hp⟩ => h p hp)]
theorem decE_of {l : List UInt8} {p : Page} (h : IsPage l p) : decE l = 0 := by
 unfold decE
 rw [if_neg (by have := h.len; omega), if_neg (by have := h.take; omega), if_pos ⟨p, h⟩]
theorem decE_none {l : List UInt8} (h : decP l = none) : decE l = 4 ∨ decE l = 6 := by
 have hn : ¬ ∃ p, IsPage l p := fun ⟨p, hp⟩ => by rw [decP_of hp] at h; cases h
 unfold decE
 split
 ·exact .inl rfl
 ·split
  ·exact .inr rfl
  ·exact .inl rfl
theorem decP_page {p : Page} (h : Right p) (ht : p.txn < 2 ^ 64) : decP (pageB p) = some p := decP_of ⟨h, ht, rfl⟩
end Go.Proofs.YtijgbppkdaiikaaGreat

set_option linter.unusedSimpArgs false
set_option linter.unusedVariables false
namespace Go.Proofs.YtijgbppkdaiikaaGreat
open Go.Proofs.Tryz Go.Tk

structure DSt where
 S : Store
 p : Page
 at_ : Nat
 e : Int
 iv : Value
 kv : Value
 dv : Value
 xv : Value
 fi : Heap
 fk : Heap
 fd : Heap
 fx : Heap

structure Fits (z : Nat) (p : Page) : Prop where
 kind : p.kind < 256
 txn : p.txn < 2 ^ 64
 next : p.next < 2 ^ 32
 items : p.items.length ≤ z
 item : ∀ x ∈ p.items, x.key.length ≤ 1000 ∧ x.val.length ≤ 1000 ∧ x.size < 2 ^ 32 ∧ x.more < 2 ^ 32
 kids : p.kids.length ≤ z
 kid : ∀ x ∈ p.kids, x.key.length ≤ 1000 ∧ x.page < 2 ^ 32
 data : p.data.length ≤ z
 ids : p.ids.length ≤ z
 id : ∀ x ∈ p.ids, x < 2 ^ 32
theorem Fits.small {z : Nat} {p : Page} (h : Fits z p) (hz : z ≤ 237) : Small p := by
 have h1 := h.items
 have h2 := h.kids
 have h3 := h.data
 have h4 := h.ids
 exact ⟨h.kind, h.txn, h.next, by omega, fun x hx => by have := h.item x hx; omega, by omega, fun x hx => by have := h.kid x hx; omega, by omega, by omega, h.id⟩

/-- What is there of a page when z things were read. -/
def Page.cut (q : Page) (z : Nat) : Page := { q with items := q.items.take z, kids := q.kids.take z, data := q.data.take z, ids := q.ids.take z }

structure DecI (t : List UInt8) (S0 : Store) (n z : Nat) (d : DSt) : Prop where
 le : S0.le d.S
 at_ : d.at_ ≤ t.length
 parts : Parts d.S d.p d.iv d.kv d.dv d.xv d.fi d.fk d.fd d.fx
 fits : Fits z d.p
 conv : ∀ q, Right q → q.txn < 2 ^ 64 → encW q = t → n = q.count ∧ d.e = 0 ∧ d.at_ = 15 + usedN d.p ∧ d.p = q.cut z

theorem num_step {t rest : List UInt8} {at_ k a n a' : Nat} {e e' : Int} (r : numR t at_ e k = (n, a', e')) (he : e = 0) (h : t.drop at_ = en a k ++ rest) (ha : a < 256 ^ k) (h1 : 1 ≤ k) (h8 : k ≤ 8) : n = a ∧ a' = at_ + k ∧ e' = 0 ∧ t.drop a' = rest := by
 subst he
 obtain ⟨h2, h3⟩ := numR_en h ha h1 h8
 rw [r] at h2
 simp only [Prod.mk.injEq] at h2
 obtain ⟨e1, e2, e3⟩ := h2
 exact ⟨e1, e2, e3, by rw [e2]; exact h3⟩
theorem bytes_step {t rest x y : List UInt8} {at_ a' : Nat} {n e e' : Int} (r : bytesR t at_ e n = (y, a', e')) (he : e = 0) (hn : n = (x.length : Int)) (h : t.drop at_ = x ++ rest) (hat : at_ ≤ t.length) : y = x ∧ a' = at_ + x.length ∧ e' = 0 ∧ t.drop a' = rest := by
 subst he hn
 obtain ⟨h2, h3⟩ := bytesR_en h hat
 rw [r] at h2
 simp only [Prod.mk.injEq] at h2
 obtain ⟨e1, e2, e3⟩ := h2
 exact ⟨e1, e2, e3, by rw [e2]; exact h3⟩

section
variable {t : List UInt8} {S0 : Store} {n z : Nat}
theorem decI_head {kind txn next n a1 a2 a3 a4 : Nat} {e1 e2 e3 e4 : Int} (r1 : numR t 0 0 1 = (kind, a1, e1)) (r2 : numR t a1 e1 8 = (txn, a2, e2)) (r3 : numR t a2 e2 4 = (next, a3, e3)) (r4 : numR t a3 e3 2 = (n, a4, e4))
 (ha : a4 ≤ t.length) (hn1 : kind < 256 ^ 1) (hn2 : txn < 256 ^ 8) (hn3 : next < 256 ^ 4) (S : Store) : DecI t S n 0 ⟨S, ⟨kind, txn, next, [], [], [], []⟩, a4, e4, .slice none 0 0, .slice none 0 0, .slice none 0 0, .slice none 0 0, [], [], [], []⟩ := by
 refine ⟨.refl S, ha, ⟨⟨[], Own.nil _ _, trivial⟩, ⟨[], Own.nil _ _, trivial⟩, OwnB.nil _, Own.nil _ _⟩, ⟨by omega, by omega, by omega, Nat.le_refl _, fun x hx => (by cases hx), Nat.le_refl _, fun x hx => (by cases hx), Nat.le_refl _, Nat.le_refl _, fun x hx => (by cases hx)⟩, fun q hR ht hq => ?_⟩
 obtain ⟨rest, h⟩ := encW_head q
 rw [hq] at h
 have b1 := hR.only.k1
 have b2 := hR.next
 have b3 := hR.few
 obtain ⟨c1, c2, c3, h⟩ := num_step r1 rfl (by rw [List.drop_zero]; exact h) (by omega) (by omega) (by omega)
 obtain ⟨d1, d2, d3, h⟩ := num_step r2 c3 h (by omega) (by omega) (by omega)
 obtain ⟨f1, f2, f3, h⟩ := num_step r3 d3 h (by omega) (by omega) (by omega)
 obtain ⟨g1, g2, g3, h⟩ := num_step r4 f3 h (by omega) (by omega) (by omega)
 refine ⟨g1, g3, ?_, ?_⟩
 ·show a4 = _; simp [usedN]; omega
 ·subst c1 d1 f1; simp [Page.cut]

theorem cut_used1 {q : Page} (hR : Right q) (hk : q.kind = 1) (z : Nat) : usedN (q.cut z) = ((q.items.take z).map itemUsed).sum := by
 simp [usedN, Page.cut, hR.only.kids (by omega), hR.only.data (by omega), hR.only.ids (by omega)]
theorem cut_used2 {q : Page} (hR : Right q) (hk : q.kind = 2) (z : Nat) : usedN (q.cut z) = ((q.kids.take z).map kidUsed).sum := by
 simp [usedN, Page.cut, hR.only.items (by omega), hR.only.data (by omega), hR.only.ids (by omega)]
theorem cut_used3 {q : Page} (hR : Right q) (hk : q.kind = 3) {z : Nat} (hz : z ≤ q.data.length) : usedN (q.cut z) = z := by
 simp [usedN, Page.cut, hR.only.items (by omega), hR.only.kids (by omega), hR.only.ids (by omega)]; omega
theorem cut_used4 {q : Page} (hR : Right q) (hk : q.kind = 4) {z : Nat} (hz : z ≤ q.ids.length) : usedN (q.cut z) = 4 * z := by
 simp [usedN, Page.cut, hR.only.items (by omega), hR.only.kids (by omega), hR.only.data (by omega)]; omega

variable {S S' : Store} {p : Page} {at_ a' : Nat} {e e' : Int} {iv kv dv xv v' : Value} {fi fk fd fx f' : Heap}

theorem DecI.item (hI : DecI t S0 n z ⟨S, p, at_, e, iv, kv, dv, xv, fi, fk, fd, fx⟩) (hz : z < n) (hk : p.kind = 1) (le' : S.le S') (hat : a' ≤ t.length) {x : Item} (ho : ItemsO S' v' (p.items ++ [x]) f') (hx : x.key.length ≤ 1000 ∧ x.val.length ≤ 1000 ∧ x.size < 2 ^ 32 ∧ x.more < 2 ^ 32)
 (hstep : ∀ (y : Item) rest, itemOk y → e = 0 → t.drop at_ = encItem y ++ rest → x = y ∧ e' = 0 ∧ a' = at_ + itemUsed y) :
 DecI t S0 n (z + 1) ⟨S', { p with items := p.items ++ [x] }, a', e', v', kv, dv, xv, f', fk, fd, fx⟩ := by
 obtain ⟨h1, h2, h3, h4, h5⟩ := hI
 dsimp only at *
 have f1 := h4.items
 have f2 := h4.kids
 have f3 := h4.data
 have f4 := h4.ids
 refine ⟨h1.trans le', hat, ⟨ho, h3.kids.mono le', h3.data, h3.ids⟩, ⟨h4.kind, h4.txn, h4.next, by simp; exact f1, fun y hy => ?_, by simp; omega, h4.kid, by simp; omega, by simp; omega, h4.id⟩, fun q hR ht hq => ?_⟩
 ·rcases List.mem_append.1 hy with hy | hy
  ·exact h4.item y hy
  ·rw [List.mem_singleton.1 hy]; exact hx
 ·obtain ⟨g1, g2, g3, g4⟩ := h5 q hR ht hq
  have hkq : q.kind = 1 := by have := congrArg Page.kind g4; simp only [Page.cut] at this; omega
  have hzl : z < q.items.length := by rw [g1] at hz; unfold Page.count at hz; rw [if_pos hkq] at hz; exact hz
  rw [g4, cut_used1 hR hkq] at g3
  obtain ⟨rest, hrest⟩ := dec_item hR hkq hzl
  rw [hq, ← g3] at hrest
  obtain ⟨k1, k2, k3⟩ := hstep _ rest (hR.items _ (List.getElem_mem hzl)) g2 hrest
  have hp' : ({ p with items := p.items ++ [x] } : Page) = q.cut (z + 1) := by
   rw [k1, g4]
   exact Page.ext' rfl rfl rfl (by show q.items.take z ++ _ = q.items.take (z + 1); rw [List.take_succ_eq_append_getElem hzl]) (by show q.kids.take z = q.kids.take (z + 1); rw [hR.only.kids (by omega)]; simp) (by show q.data.take z = q.data.take (z + 1); rw [hR.only.data (by omega)]; simp) (by show q.ids.take z = q.ids.take (z + 1); rw [hR.only.ids (by omega)]; simp)
  refine ⟨g1, k2, ?_, hp'⟩
  show a' = 15 + usedN ({ p with items := p.items ++ [x] } : Page)
  rw [hp', cut_used1 hR hkq, List.take_succ_eq_append_getElem hzl, List.map_append, List.sum_append_nat, k3, g3]; simp; omega

theorem DecI.kid (hI : DecI t S0 n z ⟨S, p, at_, e, iv, kv, dv, xv, fi, fk, fd, fx⟩) (hz : z < n) (hk : p.kind = 2) (le' : S.le S') (hat : a' ≤ t.length) {x : Kid} (ho : KidsO S' v' (p.kids ++ [x]) f') (hx : x.key.length ≤ 1000 ∧ x.page < 2 ^ 32)
 (hstep : ∀ (y : Kid) rest, kidOk y → e = 0 → t.drop at_ = encKid y ++ rest → x = y ∧ e' = 0 ∧ a' = at_ + kidUsed y) :
 DecI t S0 n (z + 1) ⟨S', { p with kids := p.kids ++ [x] }, a', e', iv, v', dv, xv, fi, f', fd, fx⟩ := by
 obtain ⟨h1, h2, h3, h4, h5⟩ := hI
 dsimp only at *
 have f1 := h4.items
 have f2 := h4.kids
 have f3 := h4.data
 have f4 := h4.ids
 refine ⟨h1.trans le', hat, ⟨h3.items.mono le', ho, h3.data, h3.ids⟩, ⟨h4.kind, h4.txn, h4.next, by simp; omega, h4.item, by simp; exact f2, fun y hy => ?_, by simp; omega, by simp; omega, h4.id⟩, fun q hR ht hq => ?_⟩
 ·rcases List.mem_append.1 hy with hy | hy
  ·exact h4.kid y hy
  ·rw [List.mem_singleton.1 hy]; exact hx
 ·obtain ⟨g1, g2, g3, g4⟩ := h5 q hR ht hq
  have hkq : q.kind = 2 := by have := congrArg Page.kind g4; simp only [Page.cut] at this; omega
  have hzl : z < q.kids.length := by rw [g1] at hz; unfold Page.count at hz; rw [if_neg (by omega), if_pos hkq] at hz; exact hz
  rw [g4, cut_used2 hR hkq] at g3
  obtain ⟨rest, hrest⟩ := dec_kid hR hkq hzl
  rw [hq, ← g3] at hrest
  obtain ⟨k1, k2, k3⟩ := hstep _ rest (hR.kids _ (List.getElem_mem hzl)) g2 hrest
  have hp' : ({ p with kids := p.kids ++ [x] } : Page) = q.cut (z + 1) := by
   rw [k1, g4]
   exact Page.ext' rfl rfl rfl (by show q.items.take z = q.items.take (z + 1); rw [hR.only.items (by omega)]; simp) (by show q.kids.take z ++ _ = q.kids.take (z + 1); rw [List.take_succ_eq_append_getElem hzl]) (by show q.data.take z = q.data.take (z + 1); rw [hR.only.data (by omega)]; simp) (by show q.ids.take z = q.ids.take (z + 1); rw [hR.only.ids (by omega)]; simp)
  refine ⟨g1, k2, ?_, hp'⟩
  show a' = 15 + usedN ({ p with kids := p.kids ++ [x] } : Page)
  rw [hp', cut_used2 hR hkq, List.take_succ_eq_append_getElem hzl, List.map_append, List.sum_append_nat, k3, g3]; simp; omega

theorem DecI.data (hI : DecI t S0 n z ⟨S, p, at_, e, iv, kv, dv, xv, fi, fk, fd, fx⟩) (hz : z < n) (hk : p.kind = 3) (hat : a' ≤ t.length) {x : List UInt8} (ho : OwnB 5 v' (p.data ++ x) f') (hx : x.length ≤ 1)
 (hstep : ∀ (y : UInt8) rest, e = 0 → t.drop at_ = [y] ++ rest → x = [y] ∧ e' = 0 ∧ a' = at_ + 1) :
 DecI t S0 n (z + 1) ⟨S, { p with data := p.data ++ x }, a', e', iv, kv, v', xv, fi, fk, f', fx⟩ := by
 obtain ⟨h1, h2, h3, h4, h5⟩ := hI
 dsimp only at *
 have f1 := h4.items
 have f2 := h4.kids
 have f3 := h4.data
 have f4 := h4.ids
 refine ⟨h1, hat, ⟨h3.items, h3.kids, ho, h3.ids⟩, ⟨h4.kind, h4.txn, h4.next, by simp; omega, h4.item, by simp; omega, h4.kid, by simp; omega, by simp; omega, h4.id⟩, fun q hR ht hq => ?_⟩
 obtain ⟨g1, g2, g3, g4⟩ := h5 q hR ht hq
 have hkq : q.kind = 3 := by have := congrArg Page.kind g4; simp only [Page.cut] at this; omega
 have hzl : z < q.data.length := by rw [g1] at hz; unfold Page.count at hz; rw [if_neg (by omega), if_neg (by omega), if_pos hkq] at hz; exact hz
 rw [g4, cut_used3 hR hkq (by omega)] at g3
 obtain ⟨rest, hrest⟩ := dec_data hR hkq hzl
 rw [hq, ← g3] at hrest
 obtain ⟨k1, k2, k3⟩ := hstep _ rest g2 hrest
 have hp' : ({ p with data := p.data ++ x } : Page) = q.cut (z + 1) := by
  rw [k1, g4]
  exact Page.ext' rfl rfl rfl (by show q.items.take z = q.items.take (z + 1); rw [hR.only.items (by omega)]; simp) (by show q.kids.take z = q.kids.take (z + 1); rw [hR.only.kids (by omega)]; simp) (by show q.data.take z ++ _ = q.data.take (z + 1); rw [List.take_succ_eq_append_getElem hzl]) (by show q.ids.take z = q.ids.take (z + 1); rw [hR.only.ids (by omega)]; simp)
 refine ⟨g1, k2, ?_, hp'⟩
 show a' = 15 + usedN ({ p with data := p.data ++ x } : Page)
 rw [hp', cut_used3 hR hkq (by omega), k3, g3]; omega

theorem DecI.id (hI : DecI t S0 n z ⟨S, p, at_, e, iv, kv, dv, xv, fi, fk, fd, fx⟩) (hz : z < n) (hk : p.kind = 4) (hat : a' ≤ t.length) {x : Nat} (ho : IdsO v' (p.ids ++ [x]) f') (hx : x < 2 ^ 32)
 (hstep : ∀ (y : Nat) rest, idOk y → e = 0 → t.drop at_ = en y 4 ++ rest → x = y ∧ e' = 0 ∧ a' = at_ + 4) :
 DecI t S0 n (z + 1) ⟨S, { p with ids := p.ids ++ [x] }, a', e', iv, kv, dv, v', fi, fk, fd, f'⟩ := by
 obtain ⟨h1, h2, h3, h4, h5⟩ := hI
 dsimp only at *
 have f1 := h4.items
 have f2 := h4.kids
 have f3 := h4.data
 have f4 := h4.ids
 refine ⟨h1, hat, ⟨h3.items, h3.kids, h3.data, ho⟩, ⟨h4.kind, h4.txn, h4.next, by simp; omega, h4.item, by simp; omega, h4.kid, by simp; omega, by simp; exact f4, fun y hy => ?_⟩, fun q hR ht hq => ?_⟩
 ·rcases List.mem_append.1 hy with hy | hy
  ·exact h4.id y hy
  ·rw [List.mem_singleton.1 hy]; exact hx
 obtain ⟨g1, g2, g3, g4⟩ := h5 q hR ht hq
 have hkq : q.kind = 4 := by have := congrArg Page.kind g4; simp only [Page.cut] at this; omega
 have hzl : z < q.ids.length := by rw [g1] at hz; unfold Page.count at hz; rw [if_neg (by omega), if_neg (by omega), if_neg (by omega)] at hz; exact hz
 rw [g4, cut_used4 hR hkq (by omega)] at g3
 obtain ⟨rest, hrest⟩ := dec_id hR hkq hzl
 rw [hq, ← g3] at hrest
 obtain ⟨k1, k2, k3⟩ := hstep _ rest (hR.ids _ (List.getElem_mem hzl)) g2 hrest
 have hp' : ({ p with ids := p.ids ++ [x] } : Page) = q.cut (z + 1) := by
  rw [k1, g4]
  exact Page.ext' rfl rfl rfl (by show q.items.take z = q.items.take (z + 1); rw [hR.only.items (by omega)]; simp) (by show q.kids.take z = q.kids.take (z + 1); rw [hR.only.kids (by omega)]; simp) (by show q.data.take z = q.data.take (z + 1); rw [hR.only.data (by omega)]; simp) (by show q.ids.take z ++ _ = q.ids.take (z + 1); rw [List.take_succ_eq_append_getElem hzl])
 refine ⟨g1, k2, ?_, hp'⟩
 show a' = 15 + usedN ({ p with ids := p.ids ++ [x] } : Page)
 rw [hp', cut_used4 hR hkq (by omega), k3, g3]; omega

theorem DecI.other (hI : DecI t S0 n z ⟨S, p, at_, e, iv, kv, dv, xv, fi, fk, fd, fx⟩) (h1 : p.kind ≠ 1) (h2 : p.kind ≠ 2) (h3 : p.kind ≠ 3) (h4 : p.kind ≠ 4) : DecI t S0 n (z + 1) ⟨S, p, at_, e, iv, kv, dv, xv, fi, fk, fd, fx⟩ := by
 obtain ⟨g1, g2, g3, g4, g5⟩ := hI
 dsimp only at *
 have f1 := g4.items
 have f2 := g4.kids
 have f3 := g4.data
 have f4 := g4.ids
 refine ⟨g1, g2, g3, ⟨g4.kind, g4.txn, g4.next, by dsimp only; omega, g4.item, by dsimp only; omega, g4.kid, by dsimp only; omega, by dsimp only; omega, g4.id⟩, fun q hR ht hq => ?_⟩
 exfalso
 obtain ⟨_, _, _, k4⟩ := g5 q hR ht hq
 have := congrArg Page.kind k4
 simp only [Page.cut] at this
 have := hR.only.k0
 have := hR.only.k1
 omega

theorem DecI.done (hI : DecI t S0 n z ⟨S, p, at_, e, iv, kv, dv, xv, fi, fk, fd, fx⟩) (hz : z = n ∨ z = 237) {q : Page} (hR : Right q) (ht : q.txn < 2 ^ 64) (hq : encW q = t) : p = q := by
 obtain ⟨g1, _, _, k4⟩ := hI.conv q hR ht hq
 have h2 := hR.few
 have hz2 : q.count ≤ z := by omega
 dsimp only at k4
 rw [k4]
 have o1 := hR.only.items
 have o2 := hR.only.kids
 have o3 := hR.only.data
 have o4 := hR.only.ids
 unfold Page.count at hz2
 have k0 := hR.only.k0
 have k1 := hR.only.k1
 rcases (by omega : q.kind = 1 ∨ q.kind = 2 ∨ q.kind = 3 ∨ q.kind = 4) with k | k | k | k
 ·simp only [k, if_pos] at hz2
  exact Page.ext' rfl rfl rfl (List.take_of_length_le hz2) (by simp [Page.cut, o2 (by omega)]) (by simp [Page.cut, o3 (by omega)]) (by simp [Page.cut, o4 (by omega)])
 ·simp [k] at hz2
  exact Page.ext' rfl rfl rfl (by simp [Page.cut, o1 (by omega)]) (List.take_of_length_le hz2) (by simp [Page.cut, o3 (by omega)]) (by simp [Page.cut, o4 (by omega)])
 ·simp [k] at hz2
  exact Page.ext' rfl rfl rfl (by simp [Page.cut, o1 (by omega)]) (by simp [Page.cut, o2 (by omega)]) (List.take_of_length_le hz2) (by simp [Page.cut, o4 (by omega)])
 ·simp [k] at hz2
  exact Page.ext' rfl rfl rfl (by simp [Page.cut, o1 (by omega)]) (by simp [Page.cut, o2 (by omega)]) (by simp [Page.cut, o3 (by omega)]) (List.take_of_length_le hz2)
end
end Go.Proofs.YtijgbppkdaiikaaGreat

set_option linter.unusedSimpArgs false
set_option linter.unusedVariables false
namespace Go.Proofs.YtijgbppkdaiikaaGreat
open Go.Proofs.Tryz Go.Tk

section
variable {w0 : World} {F : Nat → Prop} {S : Store} {Hr : Heap} {w : World}

theorem newReader_ok {v : Value} {l : List UInt8} (hb : Bs S Hr v l) (hl : l.length ≤ 1000000) (hw : Hp w0 F S Hr w) :
 Calls Tryz.prog 175 #[v] w fun e w' => ∃ b v' S', e = .returned (.pointer (some ⟨b, 0, none⟩)) ∧ S.le S' ∧ Bs S' [] v' l ∧ Hp w0 F S' ((b, rdObj v' 0 0) :: Hr) w' := by
 obtain ⟨ad, c, rfl, _⟩ := hb.form
 refine enterA hw func175 rfl ntmps175 rfl rfl ?_
 refine sD (sA rfl (sE ?_))
 refine L.slice0 rfl rfl underlying22 sizeOf5 (fun b3 => ?_)
 refine sM rfl ?_
 refine L.append (by' := 1) (sz := 1) (l := l.length) (ys := l.map bv) (fp := [(b3, .cells #[] 5 (0, 0))]) rfl rfl rfl rfl underlying22 info_u8 rfl rfl rfl rfl own0 .done (hb.mono (Sees.app _ _ _)) (bv_one _) (by omega) (by omega) (fun v' fp' ho => ?_)
 rw [Nat.zero_add, List.nil_append] at ho
 refine L.sealB ho .done (fun S' le hb' => ?_)
 obtain ⟨ad', c', rfl, _⟩ := hb'.form
 refine L.w rfl (V.build rfl underlying304 zeroValue304 (pl := [(0, 1), (1, 1), (2, 1)]) (fun w => by kernel_rfl) (Fills.cons rfl rfl rfl zPut Fills.nil)) ?_
 refine L.boxA rfl rfl rfl (fun b7 => ?_)
 refine sA rfl (sN ?_)
 refine R.ret1 results175 rfl (fun w hw => ?_)
 exact ⟨_, _, S', rfl, le, hb', hw⟩

theorem equal_ok {u v : Value} {k l : List UInt8} (ha : Bs S Hr u k) (hb : Bs S Hr v l) (hw : Hp w0 F S Hr w) :
 Calls Tryz.prog 178 #[u, v] w fun e w' => e = .returned (.bool (decide (k = l))) ∧ Hp w0 F S Hr w' := by
 refine enterA hw func178 rfl ntmps178 rfl rfl ?_
 refine sD (sA rfl (sE (sM rfl ?_)))
 refine L.w rfl (V.str rfl underlying22 underlying5 underlying9 ha) ?_
 refine sM rfl ?_
 refine L.w rfl (V.str rfl underlying22 underlying5 underlying9 hb) ?_
 refine L.w rfl (V.eqlStr rfl rfl) ?_
 refine sA rfl (sN ?_)
 refine R.ret1 results178 rfl (fun w hw => ?_)
 refine ⟨ret_bool ?_, hw⟩
 rw [ByteArray.toList_mk, ByteArray.toList_mk, beq_iff_eq, decide_eq_true_eq]

theorem num_ok2 {b : Nat} {v : Value} {l : List UInt8} {at_ size : Nat} {e : Int} (hb : Bs S Hr v l) (h1 : 1 ≤ size) (h8 : size ≤ 8) (ha : at_ ≤ l.length) (hl : l.length ≤ 1000000) (hw : Hp w0 F S ((b, rdObj v at_ e) :: Hr) w) :
 Calls Tryz.prog 176 #[.pointer (some ⟨b, 0, none⟩), .int .i64 size] w fun e' w' => ∃ n a' e1, numR l at_ e size = (n, a', e1) ∧ a' ≤ l.length ∧ n < 256 ^ size ∧ e' = .returned (.int .u64 (n : Int)) ∧ Hp w0 F S ((b, rdObj v a' e1) :: Hr) w' := by
 refine (num_ok hb h1 h8 ha hl hw).mono fun e' w' h => ?_
 exact ⟨_, _, _, rfl, numR_at h1 h8 ha, numR_lt _ _ _ _, h.1, h.2⟩
theorem bytes_ok2 {b : Nat} {v : Value} {l : List UInt8} {at_ : Nat} {n e : Int} (hb : Bs S Hr v l) (hn0 : -1000000 ≤ n) (hn1 : n ≤ 1000000000) (ha : at_ ≤ l.length) (hl : l.length ≤ 1000000) (hw : Hp w0 F S ((b, rdObj v at_ e) :: Hr) w) :
 Calls Tryz.prog 177 #[.pointer (some ⟨b, 0, none⟩), .int .i64 n] w fun e' w' => ∃ x a' e1 v' fp, bytesR l at_ e n = (x, a', e1) ∧ a' ≤ l.length ∧ x.length ≤ l.length ∧ e' = .returned v' ∧ OwnB 5 v' x fp ∧ Hp w0 F S (fp ++ (b, rdObj v a' e1) :: Hr) w' := by
 refine (bytes_ok hb hn0 hn1 ha hl hw).mono fun e' w' h => ?_
 obtain ⟨v', fp, h1, h2, h3⟩ := h
 refine ⟨_, _, _, v', fp, rfl, bytesR_at ha, ?_, h1, h2, h3⟩
 show (bytesR l at_ e n).1.length ≤ _
 unfold bytesR
 split
 ·simp
 ·split
  ·simp
  ·simp; omega

def zeroC : List Value := [.int .i64 0, .int .u64 0, .int .i64 0, .slice none 0 0, .slice none 0 0, .slice none 0 0, .slice none 0 0]

open Classical in
theorem decode_ok {v : Value} {l : List UInt8} (hb : Bs S Hr v l) (hl : l.length ≤ 1000000) (hw : Hp w0 F S Hr w) :
 Calls Tryz.prog 136 #[v] w fun e w' => ∃ S' c fp, e = .returned (.tuple #[.agg c.toArray, .int .i64 (decE l)]) ∧ S.le S' ∧ Hp w0 F S' (fp ++ Hr) w' ∧ ((∃ p, decP l = some p ∧ PageO S' c p fp) ∨ (decP l = none ∧ c = zeroC ∧ fp = [])) := by
 have hb0 := hb
 obtain ⟨ad, c, rfl, _⟩ := hb.form
 refine enterA hw func136 rfl ntmps136 rfl rfl ?_
 refine sD ?_
 refine L.allocA rfl rfl zeroValue125 (fun b2 => ?_)
 refine sA rfl (sN (sC (sD (sM rfl ?_))))
 refine L.w rfl (V.len rfl underlying22) ?_
 refine sQb rfl (sN ?_)
 refine C.cond rfl (fun h16 => ?_) (fun h16 => ?_)
 ·try simp only [sq] at h16
  refine sD ?_
  refine L.w rfl (V.build rfl underlying125 zeroValue125 (pl := [(0, 1), (1, 1), (2, 1), (3, 1), (4, 1), (5, 1), (6, 1)]) (fun w => by kernel_rfl) Fills.nil) ?_
  refine L.storeBox rfl rfl rfl sizeOf125 rfl rfl (by rfl) zUp ?_
  refine sA rfl (sN ?_)
  refine R.retct results136 rfl rfl (fun w hw => run_box hw isAgg125 sizeOf125 zAt rfl) (fun w hw => ?_)
  have hn : decP l = none := decP_none fun p hp => by have := hp.len; omega
  refine ⟨S, zeroC, [], ?_, .refl S, hw.drop, .inr ⟨hn, rfl, rfl⟩⟩
  unfold decE
  rw [if_pos (by omega)]; rfl
 ·try simp only [sq] at h16
  refine sK (sD (sM rfl ?_))
  have hlen : l.length = 256 := by omega
  refine L.call rfl rfl rfl call174 rfl (fun w hw => open_ok (hb.mono (Sees.cons _ _ _)) (by omega) hl hw) ?_
  rintro _ a w hst ⟨v4, fp4, err, rfl, hop, hw⟩
  refine hst.go rfl hw ?_
  clear hst hw w a
  refine sM rfl (sX rfl (sX rfl (sA rfl (sA rfl (sN (sC (sD (sM rfl (sQb rfl (sN ?_))))))))))
  refine C.cond rfl (fun h24 => ?_) (fun h24 => ?_)
  ·try simp only [sq] at h24
   refine sD ?_
   refine L.w rfl (V.build rfl underlying125 zeroValue125 (pl := [(0, 1), (1, 1), (2, 1), (3, 1), (4, 1), (5, 1), (6, 1)]) (fun w => by kernel_rfl) Fills.nil) ?_
   refine sM rfl ?_
   refine L.storeBox rfl rfl rfl sizeOf125 rfl rfl (by rfl) zUp ?_
   refine sA rfl (sN ?_)
   refine R.retct results136 rfl rfl (fun w hw => run_box hw isAgg125 sizeOf125 zAt rfl) (fun w hw => ?_)
   rcases hop with ⟨e1, _⟩ | ⟨rfl, ne, rfl, rfl⟩
   ·omega
   ·have hn : decP l = none := decP_none fun p hp => ne hp.take
    refine ⟨S, zeroC, [], ?_, .refl S, hw.drop, .inr ⟨hn, rfl, rfl⟩⟩
    unfold decE
    rw [if_neg (by omega), if_pos ne]; rfl
  ·try simp only [sq] at h24
   obtain ⟨e1, hsum, ho4⟩ : err = 0 ∧ be (l.take 4) = sumN (l.drop 4) ∧ OwnB 5 v4 (l.drop 4) fp4 := by
    rcases hop with ⟨e1, h2, h3⟩ | ⟨rfl, _⟩
    ·exact ⟨e1, h2, by unfold OwnB; rw [List.length_drop]; exact h3⟩
    ·omega
   subst e1
   clear hop
   obtain ⟨t, ht⟩ : ∃ t, l.drop 4 = t := ⟨_, rfl⟩
   have htl : t.length = 252 := by rw [← ht, List.length_drop]; omega
   rw [ht] at ho4
   refine C.sealB ho4 .done (fun S1 le1 hb4 => ?_)
   have hconv : ∀ q, IsPage l q → encW q = t := fun q hq => by rw [← ht, hq.drop]
   clear ho4 fp4
   refine sK (sD (sM rfl ?_))
   refine L.call rfl rfl rfl call175 rfl (fun w hw => newReader_ok (hb4.lift _) (by omega) hw) ?_
   rintro _ a w hst ⟨b6, tv, S2, rfl, le2, hbt, hw⟩
   refine hst.go rfl hw ?_
   clear hst hw w a hb4
   refine sA rfl (sE (sM rfl ?_))
   refine L.call rfl rfl rfl call176 rfl (fun w hw => num_ok2 (size := 1) (hbt.lift _) (by omega) (by omega) (by omega) (by omega) hw) ?_
   rintro _ a w hst ⟨kind, a1, e1, r1, ha1, hn1, rfl, hw⟩
   refine hst.go rfl hw ?_
   clear hst hw w a
   refine L.w rfl (V.conv (c := (kind : Int)) rfl underlying123 underlying3 (by rw [IntKind.wrap_i64]; omega)) ?_
   refine L.w rfl (V.build rfl underlying125 zeroValue125 (pl := [(0, 1), (1, 1), (2, 1), (3, 1), (4, 1), (5, 1), (6, 1)]) (fun w => by kernel_rfl) (Fills.cons rfl rfl rfl zPut Fills.nil)) ?_
   refine L.allocA rfl rfl zeroValue125 (fun b7 => ?_)
   refine L.storeBox rfl rfl rfl sizeOf125 rfl rfl (by rfl) zUp ?_
   refine sE (sM rfl ?_)
   refine L.call rfl rfl rfl call176 rfl (fun w hw => num_ok2 (size := 8) (hbt.lift _) (by omega) (by omega) ha1 (by omega) (hw.take (.skip .done) (fp := [_]))) ?_
   rintro _ a w hst ⟨txn, a2, e2, r2, ha2, hn2, rfl, hw⟩
   refine hst.go rfl hw ?_
   clear hst hw w a
   refine L.w rfl (V.fa rfl underlying125 rfl rfl sizeOf123) ?_
   refine L.store rfl rfl rfl sizeOf123 rfl zUp zSet ?_
   refine sE (sM rfl ?_)
   refine L.call rfl rfl rfl call176 rfl (fun w hw => num_ok2 (size := 4) (hbt.lift _) (by omega) (by omega) ha2 (by omega) hw) ?_
   rintro _ a w hst ⟨next, a3, e3, r3, ha3, hn3, rfl, hw⟩
   refine hst.go rfl hw ?_
   clear hst hw w a
   refine L.w rfl (V.conv (c := (next : Int)) rfl underlying123 underlying3 (by rw [IntKind.wrap_i64]; omega)) ?_
   refine L.w rfl (V.fa rfl underlying125 rfl rfl sizeOf3) ?_
   refine L.store rfl rfl rfl sizeOf3 rfl zUp zSet ?_
   refine sE (sM rfl ?_)
   refine L.call rfl rfl rfl call176 rfl (fun w hw => num_ok2 (size := 2) (hbt.lift _) (by omega) (by omega) ha3 (by omega) hw) ?_
   rintro _ a w hst ⟨n, a4, e4, r4, ha4, hn4, rfl, hw⟩
   refine hst.go rfl hw ?_
   clear hst hw w a
   refine L.w rfl (V.conv (c := (n : Int)) rfl underlying123 underlying3 (by rw [IntKind.wrap_i64]; omega)) ?_
   refine sA rfl (sN (sC (sD (sM rfl ?_))))
   refine L.w rfl (V.minI rfl rfl) ?_
   refine sM rfl (sN (sB ?_))
   have hI0 := decI_head r1 r2 r3 r4 ha4 hn1 hn2 hn3 S2
   refine C.loop (α := Nat × DSt) (fun z => [(0, .slice ad l.length c), (2, .pointer (some ⟨b2, 0, none⟩)), (6, .pointer (some ⟨b6, 0, none⟩)), (7, .pointer (some ⟨b7, 0, none⟩)), (44, .int .i64 (min (n : Int) 237)), (45, .int .i64 (z.1 : Int))]) (fun z w => (z.1 ≤ 237 ∧ z.1 ≤ n ∧ DecI t S2 n z.1 z.2) ∧ Hp w0 F z.2.S ((b6, rdObj tv z.2.at_ z.2.e) :: (b7, .cells #[.int .i64 (z.2.p.kind : Int), .int .u64 (z.2.p.txn : Int), .int .i64 (z.2.p.next : Int), z.2.iv, z.2.kv, z.2.dv, z.2.xv] 125 (0, 0)) :: (b2, .cells #[.int .i64 0, .int .u64 0, .int .i64 0, .slice none 0 0, .slice none 0 0, .slice none 0 0, .slice none 0 0] 125 (0, 0)) :: (z.2.fi ++ (z.2.fk ++ (z.2.fd ++ (z.2.fx ++ Hr))))) w) (fun z => 237 - z.1) (0, _) ⟨rfl, rfl, rfl, rfl, rfl, rfl, trivial⟩ (fun w hw => ⟨⟨Nat.zero_le _, Nat.zero_le _, hI0⟩, hw⟩) (fun zz => C.pure (fun hzz => ?_))
   obtain ⟨z, S3, p, at5, e5, iv, kv, dv, xv, fi, fk, fd, fx⟩ := zz
   obtain ⟨hz1, hz2, hI⟩ := hzz
   dsimp only at hz1 hz2 hI ⊢
   have hle := hI.le
   have hat := hI.at_
   have hpt := hI.parts
   have hft := hI.fits
   dsimp only at hle hat hpt hft
   refine sD (sQc rfl (sN (sC ?_)))
   refine C.cond rfl (fun h46 => ?_) (fun h46 => ?_)
   ·try simp only [sq] at h46
    have hzn : z < n := by omega
    have hz237 : z < 237 := by omega
    have hbt3 : Bs S3 [] tv t := hbt.mono (Sees.le hle _)
    obtain ⟨hi, hk, hd, hx⟩ := hpt
    have f1 := hft.items
    have f2 := hft.kids
    have f3 := hft.data
    have f4 := hft.ids
    refine sK (sC (sB (sD ?_)))
    refine L.w rfl (V.fa rfl underlying125 rfl rfl sizeOf3) ?_
    refine L.w rfl (V.load rfl isAgg3 zAt (by rfl)) ?_
    refine sN (sB (sD (sQa rfl (sA rfl (sN ?_)))))
    refine C.cond rfl (fun h49 => ?_) (fun h49 => ?_)
    ·try simp only [sq] at h49
     refine sD (sM rfl ?_)
     have hk1 : p.kind = 1 := by omega
     refine L.call rfl rfl rfl call176 rfl (fun w hw => num_ok2 (size := 1) (hbt3.lift _) (by omega) (by omega) hat (by omega) hw) ?_
     rintro _ a w hst ⟨n1, b1, i1, s1, hb1, hm1, rfl, hw⟩
     refine hst.go rfl hw ?_
     clear hst hw w a
     refine L.w rfl (V.conv (c := (n1 : Int)) rfl underlying123 underlying3 (by rw [IntKind.wrap_i64]; omega)) ?_
     refine sA rfl (sE (sM rfl ?_))
     refine L.call rfl rfl rfl call176 rfl (fun w hw => num_ok2 (size := 2) (hbt3.lift _) (by omega) (by omega) hb1 (by omega) hw) ?_
     rintro _ a w hst ⟨n2, b2', i2, s2, hb2, hm2, rfl, hw⟩
     refine hst.go rfl hw ?_
     clear hst hw w a
     refine L.w rfl (V.conv (c := (n2 : Int)) rfl underlying123 underlying3 (by rw [IntKind.wrap_i64]; omega)) ?_
     refine L.w rfl (V.build rfl underlying112 zeroValue112 (pl := [(0, 1), (1, 1), (2, 1), (3, 1)]) (fun w => by kernel_rfl) (Fills.cons rfl rfl rfl zPut Fills.nil)) ?_
     refine L.allocA rfl rfl zeroValue112 (fun b10 => ?_)
     refine L.storeBox rfl rfl rfl sizeOf112 rfl rfl (by rfl) zUp ?_
     refine sE (sM rfl (sM rfl ?_))
     refine L.call rfl rfl rfl call177 rfl (fun w hw => bytes_ok2 (n := (n1 : Int)) (hbt3.lift _) (by omega) (by omega) hb2 (by omega) (hw.take (fp := [_]) (.skip .done))) ?_
     rintro _ a w hst ⟨key, b3, i3, kv', kf, s3, hb3, hkl, rfl, hko, hw⟩
     refine hst.go rfl hw ?_
     clear hst hw w a
     refine L.sealB hko .done (fun S4 le4 hkb => ?_)
     have hbt4 : Bs S4 [] tv t := hbt3.mono (Sees.le le4 _)
     obtain ⟨ka, kc, rfl, _⟩ := hkb.form
     refine L.w rfl (V.fa rfl underlying112 rfl rfl sizeOf22) ?_
     refine L.store rfl rfl rfl sizeOf22 rfl zUp zSet ?_
     refine sN (sC (sD ?_))
     refine L.w rfl (V.fa rfl underlying112 rfl rfl sizeOf3) ?_
     refine L.w rfl (V.load rfl isAgg3 zAt (by rfl)) ?_
     refine sQe rfl (sN ?_)
     refine C.cond rfl (fun h64 => ?_) (fun h64 => ?_)
     ·try simp only [sq] at h64
      refine sR (sM rfl ?_)
      refine L.call rfl rfl rfl call176 rfl (fun w hw => num_ok2 (size := 4) (hbt4.lift _) (by omega) (by omega) hb3 (by omega) hw) ?_
      rintro _ a w hst ⟨n4, b4, i4, s4, hb4', hm4, rfl, hw⟩
      refine hst.go rfl hw ?_
      clear hst hw w a
      refine L.w rfl (V.conv (c := (n4 : Int)) rfl underlying123 underlying3 (by rw [IntKind.wrap_i64]; omega)) ?_
      refine L.w rfl (V.fa rfl underlying112 rfl rfl sizeOf3) ?_
      refine L.store rfl rfl rfl sizeOf3 rfl zUp zSet ?_
      obtain ⟨S5, le5, at6, e6, x, vv, hS5, hxc, hxb, hat6, hstep⟩ : ∃ (S5 : Store) (_ : S3.le S5) (at6 : Nat) (e6 : Int) (x : Item) (vv : Value), S5 = S4 ∧ ItemC S5 [.slice ka key.length kc, vv, .int .i64 (x.size : Int), .int .i64 (x.more : Int)] x ∧ (x.key.length ≤ 1000 ∧ x.val.length ≤ 1000 ∧ x.size < 2 ^ 32 ∧ x.more < 2 ^ 32) ∧ (at6 ≤ t.length ∧ at6 = b4 ∧ e6 = i4 ∧ x.size = n2 ∧ x.more = n4 ∧ vv = .slice none 0 0) ∧
       ∀ (y : Item) rest, itemOk y → e5 = 0 → t.drop at5 = encItem y ++ rest → x = y ∧ e6 = 0 ∧ at6 = at5 + itemUsed y := by
       refine ⟨S4, le4, b4, i4, ⟨key, [], n2, n4⟩, .slice none 0 0, rfl, ⟨_, _, rfl, hkb, Rd.nil ..⟩, ⟨by dsimp only; omega, by simp, by dsimp only; omega, by dsimp only; omega⟩, ⟨hb4', rfl, rfl, rfl, rfl, rfl⟩, fun y rest hy he h => ?_⟩
       unfold encItem at h
       unfold itemOk idOk at hy
       simp only [List.append_assoc] at h
       obtain ⟨c1, c2, c3, h2⟩ := num_step s1 he h (by omega) (by omega) (by omega)
       obtain ⟨d1, d2, d3, h3⟩ := num_step s2 c3 h2 (by omega) (by omega) (by omega)
       obtain ⟨f1, f2, f3, h4⟩ := bytes_step s3 d3 (by omega) h3 hb2
       rw [if_pos (by omega)] at h4
       obtain ⟨g1, g2, g3, h5⟩ := num_step s4 f3 h4 (by omega) (by omega) (by omega)
       obtain ⟨yk, yv, ys, ym⟩ := y
       dsimp only at *
       have : yv = [] := List.eq_nil_of_length_eq_zero (by omega)
       subst f1 d1 g1 this
       refine ⟨rfl, g3, ?_⟩
       unfold itemUsed
       rw [if_pos (by dsimp only; omega)]
       dsimp only; omega
      obtain ⟨hat6, hae, hee, hse, hme, hve⟩ := hat6
      rw [← hS5, ← hae, ← hee, ← hse, ← hme, ← hve]
      refine sN (sR ?_)
      refine L.w rfl (V.fa rfl underlying125 rfl rfl sizeOf118) ?_
      refine L.w rfl (V.load rfl isAgg118 zAt (by rfl)) ?_
      refine L.w rfl (V.loadBox rfl isAgg112 sizeOf112 zAt (by rfl)) ?_
      obtain ⟨rows, hro, hra⟩ := hi
      refine L.slice1 rfl rfl rfl underlying118 sizeOf112 zeroValue112 rfl (by decide) (by decide) (vs := [.slice ka key.length kc, vv, .int .i64 (x.size : Int), .int .i64 (x.more : Int)]) rfl rfl (fun b77 => ?_)
      refine L.append (by' := 64) (sz := 4) (l := 1) (ys := [.slice ka key.length kc, vv, .int .i64 (x.size : Int), .int .i64 (x.more : Int)]) rfl rfl rfl rfl underlying118 info_item rfl rfl rfl rfl hro (.skip (.skip (.skip (.skip (.skip .done))))) ⟨rfl, .inr ⟨b77, 0, 1, _, _, _, rfl, ⟨Nat.le_refl _, by omega⟩, .apr .head, fun j hj => by simp⟩⟩ (by obtain ⟨_, _, he, h1, h2⟩ := hxc; obtain ⟨_, _, rfl, _⟩ := h2.form; simp at he; obtain ⟨_, rfl⟩ := he; intro u hu; simp at hu; rcases hu with rfl | rfl | rfl | rfl <;> rfl) (by omega) (by omega) (fun v78 f78 ho78 => ?_)
      have hoE : ItemsO S5 v78 (p.items ++ [x]) f78 := ItemsO.snoc ho78 (hra.mono fun a b h => h.mono le5) hxc
      obtain ⟨a78, c78, rfl⟩ := ho78.form
      obtain ⟨dE, hdE⟩ : ∃ d : DSt, d = ⟨S5, { p with items := p.items ++ [x] }, at6, e6, .slice a78 (p.items.length + 1) c78, kv, dv, xv, f78, fk, fd, fx⟩ := ⟨_, rfl⟩
      have hIE : DecI t S2 n (z + 1) dE := by rw [hdE]; exact hI.item hzn hk1 le5 hat6 hoE hxb hstep
      refine L.w rfl (V.fa rfl underlying125 rfl rfl sizeOf118) ?_
      refine L.store rfl rfl rfl sizeOf118 rfl zUp zSet ?_
      refine L.nil (N.blk (N.blk (N.seq ?_)))
      refine sR ?_
      refine L.w rfl (V.add rfl rfl (w64 (by omega) (by omega))) ?_
      refine sM rfl ?_
      refine L.nil ?_
      subst hdE
      refine N.round (z + 1, _) (by show 237 - (z + 1) < 237 - z; omega) ⟨rfl, rfl, rfl, rfl, rfl, rfl, trivial⟩ (fun w hw => ⟨⟨by show z + 1 ≤ 237; omega, by show z + 1 ≤ n; omega, hIE⟩, ?_⟩)
      first
       | exact hw
       | (refine (hw.sub ?_).take (fp := [_, _, _]) (.skipl .done); ((repeat (first | exact List.Sublist.refl _ | apply List.Sublist.append_left | apply List.Sublist.cons_cons | apply List.sublist_append_of_sublist_right | apply List.Sublist.cons)); done))
       | (refine (hw.sub ?_).take (fp := _ :: _ :: _ :: fi) (.skipl .done); ((repeat (first | exact List.Sublist.refl _ | apply List.Sublist.append_left | apply List.Sublist.cons_cons | apply List.sublist_append_of_sublist_right | apply List.Sublist.cons)); done))
       | exact Hp.re (hw.sub (H' := f104 ++ ((b6, rdObj tv b4 i4) :: (b7, .cells #[.int .i64 (p.kind : Int), .int .u64 (p.txn : Int), .int .i64 (p.next : Int), iv, kv, .slice a104 (p.data.length + val.length) c104, xv] 125 (0, 0)) :: (b2, .cells #[.int .i64 0, .int .u64 0, .int .i64 0, .slice none 0 0, .slice none 0 0, .slice none 0 0, .slice none 0 0] 125 (0, 0)) :: (fi ++ (fk ++ (fx ++ Hr))))) zSub) zRe
       | exact Hp.re (hw.sub (H' := f114 ++ ((b6, rdObj tv b4 i4) :: (b7, .cells #[.int .i64 (p.kind : Int), .int .u64 (p.txn : Int), .int .i64 (p.next : Int), iv, kv, dv, .slice a114 (p.ids.length + 1) c114] 125 (0, 0)) :: (b2, .cells #[.int .i64 0, .int .u64 0, .int .i64 0, .slice none 0 0, .slice none 0 0, .slice none 0 0, .slice none 0 0] 125 (0, 0)) :: (fi ++ (fk ++ (fd ++ Hr))))) zSub) zRe
     ·try simp only [sq] at h64
      refine sR (sM rfl ?_)
      refine L.w rfl (V.fa rfl underlying112 rfl rfl sizeOf3) ?_
      refine L.w rfl (V.load rfl isAgg3 zAt (by rfl)) ?_
      refine L.call rfl rfl rfl call177 rfl (fun w hw => bytes_ok2 (n := (n2 : Int)) (hbt4.lift _) (by omega) (by omega) hb3 (by omega) hw) ?_
      rintro _ a w hst ⟨val, b4, i4, vv', vf, s4, hb4', hvl, rfl, hvo, hw⟩
      refine hst.go rfl hw ?_
      clear hst hw w a
      refine L.sealB hvo .done (fun S4' le4' hvb => ?_)
      obtain ⟨va, vc, rfl, _⟩ := hvb.form
      refine L.w rfl (V.fa rfl underlying112 rfl rfl sizeOf22) ?_
      refine L.store rfl rfl rfl sizeOf22 rfl zUp zSet ?_
      obtain ⟨S5, le5, at6, e6, x, vv, hS5, hxc, hxb, hat6, hstep⟩ : ∃ (S5 : Store) (_ : S3.le S5) (at6 : Nat) (e6 : Int) (x : Item) (vv : Value), S5 = S4' ∧ ItemC S5 [.slice ka key.length kc, vv, .int .i64 (x.size : Int), .int .i64 (x.more : Int)] x ∧ (x.key.length ≤ 1000 ∧ x.val.length ≤ 1000 ∧ x.size < 2 ^ 32 ∧ x.more < 2 ^ 32) ∧ (at6 ≤ t.length ∧ at6 = b4 ∧ e6 = i4 ∧ x.size = n2 ∧ x.more = 0 ∧ vv = .slice va val.length vc) ∧
       ∀ (y : Item) rest, itemOk y → e5 = 0 → t.drop at5 = encItem y ++ rest → x = y ∧ e6 = 0 ∧ at6 = at5 + itemUsed y := by
       refine ⟨S4', le4.trans le4', b4, i4, ⟨key, val, n2, 0⟩, .slice va val.length vc, rfl, ⟨_, _, rfl, hkb.mono (Sees.le le4' _), hvb⟩, ⟨by dsimp only; omega, by dsimp only; omega, by dsimp only; omega, by dsimp only; omega⟩, ⟨hb4', rfl, rfl, rfl, rfl, rfl⟩, fun y rest hy he h => ?_⟩
       unfold encItem at h
       unfold itemOk idOk at hy
       simp only [List.append_assoc] at h
       obtain ⟨c1, c2, c3, h2⟩ := num_step s1 he h (by omega) (by omega) (by omega)
       obtain ⟨d1, d2, d3, h3⟩ := num_step s2 c3 h2 (by omega) (by omega) (by omega)
       obtain ⟨f1, f2, f3, h4⟩ := bytes_step s3 d3 (by omega) h3 hb2
       rw [if_neg (by omega)] at h4
       obtain ⟨g1, g2, g3, h5⟩ := bytes_step s4 f3 (by omega) h4 hb3
       obtain ⟨yk, yv, ys, ym⟩ := y
       dsimp only at *
       have : ym = 0 := by omega
       subst f1 d1 g1 this
       refine ⟨rfl, g3, ?_⟩
       unfold itemUsed
       rw [if_neg (by dsimp only; omega)]
       dsimp only; omega
      obtain ⟨hat6, hae, hee, hse, hme, hve⟩ := hat6
      rw [← hS5, ← hae, ← hee, ← hse, ← hve, show (Value.int .i64 0) = .int .i64 (x.more : Int) from by rw [hme]; rfl]
      refine sN (sR ?_)
      refine L.w rfl (V.fa rfl underlying125 rfl rfl sizeOf118) ?_
      refine L.w rfl (V.load rfl isAgg118 zAt (by rfl)) ?_
      refine L.w rfl (V.loadBox rfl isAgg112 sizeOf112 zAt (by rfl)) ?_
      obtain ⟨rows, hro, hra⟩ := hi
      refine L.slice1 rfl rfl rfl underlying118 sizeOf112 zeroValue112 rfl (by decide) (by decide) (vs := [.slice ka key.length kc, vv, .int .i64 (x.size : Int), .int .i64 (x.more : Int)]) rfl rfl (fun b77 => ?_)
      refine L.append (by' := 64) (sz := 4) (l := 1) (ys := [.slice ka key.length kc, vv, .int .i64 (x.size : Int), .int .i64 (x.more : Int)]) rfl rfl rfl rfl underlying118 info_item rfl rfl rfl rfl hro (.skip (.skip (.skip (.skip (.skip .done))))) ⟨rfl, .inr ⟨b77, 0, 1, _, _, _, rfl, ⟨Nat.le_refl _, by omega⟩, .apr .head, fun j hj => by simp⟩⟩ (by obtain ⟨_, _, he, h1, h2⟩ := hxc; obtain ⟨_, _, rfl, _⟩ := h2.form; simp at he; obtain ⟨_, rfl⟩ := he; intro u hu; simp at hu; rcases hu with rfl | rfl | rfl | rfl <;> rfl) (by omega) (by omega) (fun v78 f78 ho78 => ?_)
      have hoE : ItemsO S5 v78 (p.items ++ [x]) f78 := ItemsO.snoc ho78 (hra.mono fun a b h => h.mono le5) hxc
      obtain ⟨a78, c78, rfl⟩ := ho78.form
      obtain ⟨dE, hdE⟩ : ∃ d : DSt, d = ⟨S5, { p with items := p.items ++ [x] }, at6, e6, .slice a78 (p.items.length + 1) c78, kv, dv, xv, f78, fk, fd, fx⟩ := ⟨_, rfl⟩
      have hIE : DecI t S2 n (z + 1) dE := by rw [hdE]; exact hI.item hzn hk1 le5 hat6 hoE hxb hstep
      refine L.w rfl (V.fa rfl underlying125 rfl rfl sizeOf118) ?_
      refine L.store rfl rfl rfl sizeOf118 rfl zUp zSet ?_
      refine L.nil (N.blk (N.blk (N.seq ?_)))
      refine sR ?_
      refine L.w rfl (V.add rfl rfl (w64 (by omega) (by omega))) ?_
      refine sM rfl ?_
      refine L.nil ?_
      subst hdE
      refine N.round (z + 1, _) (by show 237 - (z + 1) < 237 - z; omega) ⟨rfl, rfl, rfl, rfl, rfl, rfl, trivial⟩ (fun w hw => ⟨⟨by show z + 1 ≤ 237; omega, by show z + 1 ≤ n; omega, hIE⟩, ?_⟩)
      first
       | exact hw
       | (refine (hw.sub ?_).take (fp := [_, _, _]) (.skipl .done); ((repeat (first | exact List.Sublist.refl _ | apply List.Sublist.append_left | apply List.Sublist.cons_cons | apply List.sublist_append_of_sublist_right | apply List.Sublist.cons)); done))
       | (refine (hw.sub ?_).take (fp := _ :: _ :: _ :: fi) (.skipl .done); ((repeat (first | exact List.Sublist.refl _ | apply List.Sublist.append_left | apply List.Sublist.cons_cons | apply List.sublist_append_of_sublist_right | apply List.Sublist.cons)); done))
       | exact Hp.re (hw.sub (H' := f104 ++ ((b6, rdObj tv b4 i4) :: (b7, .cells #[.int .i64 (p.kind : Int), .int .u64 (p.txn : Int), .int .i64 (p.next : Int), iv, kv, .slice a104 (p.data.length + val.length) c104, xv] 125 (0, 0)) :: (b2, .cells #[.int .i64 0, .int .u64 0, .int .i64 0, .slice none 0 0, .slice none 0 0, .slice none 0 0, .slice none 0 0] 125 (0, 0)) :: (fi ++ (fk ++ (fx ++ Hr))))) zSub) zRe
       | exact Hp.re (hw.sub (H' := f114 ++ ((b6, rdObj tv b4 i4) :: (b7, .cells #[.int .i64 (p.kind : Int), .int .u64 (p.txn : Int), .int .i64 (p.next : Int), iv, kv, dv, .slice a114 (p.ids.length + 1) c114] 125 (0, 0)) :: (b2, .cells #[.int .i64 0, .int .u64 0, .int .i64 0, .slice none 0 0, .slice none 0 0, .slice none 0 0, .slice none 0 0] 125 (0, 0)) :: (fi ++ (fk ++ (fd ++ Hr))))) zSub) zRe
    ·try simp only [sq] at h49
     refine sD (sQa rfl (sA rfl (sN ?_)))
     refine C.cond rfl (fun h80 => ?_) (fun h80 => ?_)
     ·try simp only [sq] at h80
      refine sD (sM rfl (sM rfl ?_))
      have hk2 : p.kind = 2 := by omega
      refine L.call rfl rfl rfl call176 rfl (fun w hw => num_ok2 (size := 1) (hbt3.lift _) (by omega) (by omega) hat (by omega) hw) ?_
      rintro _ a w hst ⟨n1, b1, i1, s1, hb1, hm1, rfl, hw⟩
      refine hst.go rfl hw ?_
      clear hst hw w a
      refine L.w rfl (V.conv (c := (n1 : Int)) rfl underlying123 underlying3 (by rw [IntKind.wrap_i64]; omega)) ?_
      refine L.call rfl rfl rfl call177 rfl (fun w hw => bytes_ok2 (n := (n1 : Int)) (hbt3.lift _) (by omega) (by omega) hb1 (by omega) hw) ?_
      rintro _ a w hst ⟨key, b3, i3, kv', kf, s3, hb3, hkl, rfl, hko, hw⟩
      refine hst.go rfl hw ?_
      clear hst hw w a
      refine L.sealB hko .done (fun S4 le4 hkb => ?_)
      have hbt4 : Bs S4 [] tv t := hbt3.mono (Sees.le le4 _)
      obtain ⟨ka, kc, rfl, _⟩ := hkb.form
      refine L.w rfl (V.build rfl underlying129 zeroValue129 (pl := [(0, 1), (1, 1)]) (fun w => by kernel_rfl) (Fills.cons rfl rfl rfl zPut Fills.nil)) ?_
      refine L.allocA rfl rfl zeroValue129 (fun b11 => ?_)
      refine L.storeBox rfl rfl rfl sizeOf129 rfl rfl (by rfl) zUp ?_
      refine sE (sM rfl ?_)
      refine L.call rfl rfl rfl call176 rfl (fun w hw => num_ok2 (size := 4) (hbt4.lift _) (by omega) (by omega) hb3 (by omega) (hw.take (fp := [_]) (.skip .done))) ?_
      rintro _ a w hst ⟨n4, b4, i4, s4, hb4', hm4, rfl, hw⟩
      refine hst.go rfl hw ?_
      clear hst hw w a
      refine L.w rfl (V.conv (c := (n4 : Int)) rfl underlying123 underlying3 (by rw [IntKind.wrap_i64]; omega)) ?_
      refine L.w rfl (V.fa rfl underlying129 rfl rfl sizeOf3) ?_
      refine L.store rfl rfl rfl sizeOf3 rfl zUp zSet ?_
      refine sN (sR ?_)
      refine L.w rfl (V.fa rfl underlying125 rfl rfl sizeOf115) ?_
      refine L.w rfl (V.load rfl isAgg115 zAt (by rfl)) ?_
      refine L.w rfl (V.loadBox rfl isAgg129 sizeOf129 zAt (by rfl)) ?_
      obtain ⟨rows, hro, hra⟩ := hk
      refine L.slice1 rfl rfl rfl underlying115 sizeOf129 zeroValue129 rfl (by decide) (by decide) (vs := [.slice ka key.length kc, .int .i64 (n4 : Int)]) rfl rfl (fun b95 => ?_)
      have hxc : KidC S4 [.slice ka key.length kc, .int .i64 (n4 : Int)] ⟨key, n4⟩ := ⟨_, rfl, hkb⟩
      refine L.append (by' := 32) (sz := 2) (l := 1) (ys := [.slice ka key.length kc, .int .i64 (n4 : Int)]) rfl rfl rfl rfl underlying115 info_kid rfl rfl rfl rfl hro (.skip (.skip (.skip (.skip (.skip (.skipl .done)))))) ⟨rfl, .inr ⟨b95, 0, 1, _, _, _, rfl, ⟨Nat.le_refl _, by omega⟩, .apr .head, fun j hj => by simp⟩⟩ (by intro u hu; simp at hu; rcases hu with rfl | rfl <;> rfl) (by omega) (by omega) (fun v78 f78 ho78 => ?_)
      have hoE : KidsO S4 v78 (p.kids ++ [⟨key, n4⟩]) f78 := KidsO.snoc ho78 (hra.mono fun a b h => h.mono le4) hxc
      obtain ⟨a78, c78, rfl⟩ := ho78.form
      obtain ⟨dE, hdE⟩ : ∃ d : DSt, d = ⟨S4, { p with kids := p.kids ++ [⟨key, n4⟩] }, b4, i4, iv, .slice a78 (p.kids.length + 1) c78, dv, xv, fi, f78, fd, fx⟩ := ⟨_, rfl⟩
      have hIE : DecI t S2 n (z + 1) dE := by
       rw [hdE]
       refine hI.kid hzn hk2 le4 hb4' hoE ⟨by dsimp only; omega, by dsimp only; omega⟩ (fun y rest hy he h => ?_)
       unfold encKid at h
       unfold kidOk idOk at hy
       simp only [List.append_assoc] at h
       obtain ⟨c1, c2, c3, h2⟩ := num_step s1 he h (by omega) (by omega) (by omega)
       obtain ⟨f1, f2, f3, h4⟩ := bytes_step s3 c3 (by omega) h2 hb1
       obtain ⟨g1, g2, g3, h5⟩ := num_step s4 f3 h4 (by omega) (by omega) (by omega)
       obtain ⟨yk, yp⟩ := y
       dsimp only at *
       subst f1 g1
       refine ⟨rfl, g3, ?_⟩
       unfold kidUsed
       dsimp only; omega
      refine L.w rfl (V.fa rfl underlying125 rfl rfl sizeOf115) ?_
      refine L.store rfl rfl rfl sizeOf115 rfl zUp zSet ?_
      refine L.nil (N.blk (N.blk (N.seq ?_)))
      refine sR ?_
      refine L.w rfl (V.add rfl rfl (w64 (by omega) (by omega))) ?_
      refine sM rfl ?_
      refine L.nil ?_
      subst hdE
      refine N.round (z + 1, _) (by show 237 - (z + 1) < 237 - z; omega) ⟨rfl, rfl, rfl, rfl, rfl, rfl, trivial⟩ (fun w hw => ⟨⟨by show z + 1 ≤ 237; omega, by show z + 1 ≤ n; omega, hIE⟩, ?_⟩)
      first
       | exact hw
       | (refine (hw.sub ?_).take (fp := [_, _, _]) (.skipl .done); ((repeat (first | exact List.Sublist.refl _ | apply List.Sublist.append_left | apply List.Sublist.cons_cons | apply List.sublist_append_of_sublist_right | apply List.Sublist.cons)); done))
       | (refine (hw.sub ?_).take (fp := _ :: _ :: _ :: fi) (.skipl .done); ((repeat (first | exact List.Sublist.refl _ | apply List.Sublist.append_left | apply List.Sublist.cons_cons | apply List.sublist_append_of_sublist_right | apply List.Sublist.cons)); done))
       | exact Hp.re (hw.sub (H' := f104 ++ ((b6, rdObj tv b4 i4) :: (b7, .cells #[.int .i64 (p.kind : Int), .int .u64 (p.txn : Int), .int .i64 (p.next : Int), iv, kv, .slice a104 (p.data.length + val.length) c104, xv] 125 (0, 0)) :: (b2, .cells #[.int .i64 0, .int .u64 0, .int .i64 0, .slice none 0 0, .slice none 0 0, .slice none 0 0, .slice none 0 0] 125 (0, 0)) :: (fi ++ (fk ++ (fx ++ Hr))))) zSub) zRe
       | exact Hp.re (hw.sub (H' := f114 ++ ((b6, rdObj tv b4 i4) :: (b7, .cells #[.int .i64 (p.kind : Int), .int .u64 (p.txn : Int), .int .i64 (p.next : Int), iv, kv, dv, .slice a114 (p.ids.length + 1) c114] 125 (0, 0)) :: (b2, .cells #[.int .i64 0, .int .u64 0, .int .i64 0, .slice none 0 0, .slice none 0 0, .slice none 0 0, .slice none 0 0] 125 (0, 0)) :: (fi ++ (fk ++ (fd ++ Hr))))) zSub) zRe
     ·try simp only [sq] at h80
      refine sD (sQa rfl (sA rfl (sN ?_)))
      refine C.cond rfl (fun h98 => ?_) (fun h98 => ?_)
      ·try simp only [sq] at h98
       have hk3 : p.kind = 3 := by omega
       obtain ⟨da, dc, rfl⟩ := hd.form
       refine C.drawC [6] (Hp w0 F S3 ((b7, .cells #[.int .i64 (p.kind : Int), .int .u64 (p.txn : Int), .int .i64 (p.next : Int), iv, kv, .slice da p.data.length dc, xv] 125 (0, 0)) :: Hr)) (fun w h => h.sub zSub) (by kernel_rfl) rfl (fun w hw => hw.drawn _) ?_
       refine D.take 0 (listed' := #[true, false, false, false, false, false, false]) rfl (by kernel_rfl) rfl rfl rfl rfl (V.fa rfl underlying125 rfl rfl sizeOf22) (fun w h => h.sub zSub) ?_
       refine D.take 1 (listed' := #[true, true, false, false, false, false, false]) rfl (by kernel_rfl) rfl rfl rfl rfl (V.load rfl isAgg22 zAt (by rfl)) (fun w h => h.sub zSub) ?_
       refine D.take 2 (listed' := #[true, true, true, false, false, false, false]) rfl (by kernel_rfl) rfl rfl rfl rfl (V.move rfl) (fun w h => h.sub zSub) ?_
       refine D.step 3 (listed' := #[true, true, true, true, false, false, false]) (by kernel_rfl) rfl rfl (.inr (fun w h => h.sub zSub)) ?_
       refine L.call rfl rfl rfl call177 rfl (fun w hw => bytes_ok2 (n := 1) (hbt3.lift _) (by omega) (by omega) hat (by omega) hw) ?_
       rintro _ a w hst ⟨val, b4, i4, vv', vf, s4, hb4', hvl, rfl, hvo, hw⟩
       refine hst.go rfl hw ?_
       clear hst hw w a
       have hv1 : val.length ≤ 1 := by
        have e : val = (bytesR t at5 e5 1).1 := by rw [s4]
        rw [e]; unfold bytesR
        split
        ·simp
        ·split
         ·simp
         ·simp; omega
       refine D.back ?_
       refine D.step 4 (listed' := #[true, true, true, true, true, false, false]) (by kernel_rfl) rfl rfl (.inr (fun w h => h.sub zSub)) ?_
       refine L.append (by' := 1) (sz := 1) (l := val.length) (ys := val.map bv) rfl rfl rfl rfl underlying22 info_u8 rfl rfl rfl rfl hd (.skipl (.skip (.skip (.skip (.skipl (.skipl .done)))))) (hvo.bs (fun q hq => List.mem_append_right _ (List.mem_append_left _ hq))) (bv_one _) (by omega) (by omega) (fun v104 f104 ho104 => ?_)
       have hoE : OwnB 5 v104 (p.data ++ val) f104 := OwnB.app ho104 rfl rfl
       obtain ⟨a104, c104, rfl⟩ := ho104.form
       obtain ⟨dE, hdE⟩ : ∃ d : DSt, d = ⟨S3, { p with data := p.data ++ val }, b4, i4, iv, kv, .slice a104 (p.data.length + val.length) c104, xv, fi, fk, f104, fx⟩ := ⟨_, rfl⟩
       have hIE : DecI t S2 n (z + 1) dE := by
        rw [hdE]
        refine hI.data hzn hk3 hb4' hoE hv1 (fun y rest he h => ?_)
        exact (fun h => ⟨h.1, h.2.2.1, h.2.1⟩) (bytes_step s4 he rfl h hat)
       refine D.back ?_
       refine D.step 5 (listed' := #[true, true, true, true, true, true, false]) (by kernel_rfl) rfl rfl (.inr (fun w h => h.sub zSub)) ?_
       refine L.w rfl (V.fa rfl underlying125 rfl rfl sizeOf22) ?_
       refine D.back ?_
       refine D.step 6 (listed' := #[true, true, true, true, true, true, true]) (by kernel_rfl) rfl rfl (.inr (fun w h => h.sub zSub)) ?_
       refine L.store rfl rfl rfl sizeOf22 rfl zUp zSet ?_
       refine D.back ?_
       refine D.done (by kernel_rfl) (.inl ⟨6, by simp, rfl⟩) (N.blk (N.blk (N.seq ?_)))
       refine sR ?_
       refine L.w rfl (V.add rfl rfl (w64 (by omega) (by omega))) ?_
       refine sM rfl ?_
       refine L.nil ?_
       subst hdE
       refine N.round (z + 1, _) (by show 237 - (z + 1) < 237 - z; omega) ⟨rfl, rfl, rfl, rfl, rfl, rfl, trivial⟩ (fun w hw => ⟨⟨by show z + 1 ≤ 237; omega, by show z + 1 ≤ n; omega, hIE⟩, ?_⟩)
       first
        | exact hw
        | (refine (hw.sub ?_).take (fp := [_, _, _]) (.skipl .done); ((repeat (first | exact List.Sublist.refl _ | apply List.Sublist.append_left | apply List.Sublist.cons_cons | apply List.sublist_append_of_sublist_right | apply List.Sublist.cons)); done))
        | (refine (hw.sub ?_).take (fp := _ :: _ :: _ :: fi) (.skipl .done); ((repeat (first | exact List.Sublist.refl _ | apply List.Sublist.append_left | apply List.Sublist.cons_cons | apply List.sublist_append_of_sublist_right | apply List.Sublist.cons)); done))
        | exact Hp.re (hw.sub (H' := f104 ++ ((b6, rdObj tv b4 i4) :: (b7, .cells #[.int .i64 (p.kind : Int), .int .u64 (p.txn : Int), .int .i64 (p.next : Int), iv, kv, .slice a104 (p.data.length + val.length) c104, xv] 125 (0, 0)) :: (b2, .cells #[.int .i64 0, .int .u64 0, .int .i64 0, .slice none 0 0, .slice none 0 0, .slice none 0 0, .slice none 0 0] 125 (0, 0)) :: (fi ++ (fk ++ (fx ++ Hr))))) zSub) zRe
        | exact Hp.re (hw.sub (H' := f114 ++ ((b6, rdObj tv b4 i4) :: (b7, .cells #[.int .i64 (p.kind : Int), .int .u64 (p.txn : Int), .int .i64 (p.next : Int), iv, kv, dv, .slice a114 (p.ids.length + 1) c114] 125 (0, 0)) :: (b2, .cells #[.int .i64 0, .int .u64 0, .int .i64 0, .slice none 0 0, .slice none 0 0, .slice none 0 0, .slice none 0 0] 125 (0, 0)) :: (fi ++ (fk ++ (fd ++ Hr))))) zSub) zRe
      ·try simp only [sq] at h98
       refine sD (sQa rfl (sA rfl (sN ?_)))
       refine C.cond rfl (fun h106 => ?_) (fun h106 => ?_)
       ·try simp only [sq] at h106
        have hk4 : p.kind = 4 := by omega
        obtain ⟨xa, xc, rfl⟩ := Own.form hx
        refine C.drawC [8] (Hp w0 F S3 ((b7, .cells #[.int .i64 (p.kind : Int), .int .u64 (p.txn : Int), .int .i64 (p.next : Int), iv, kv, dv, .slice xa p.ids.length xc] 125 (0, 0)) :: Hr)) (fun w h => h.sub zSub) (by kernel_rfl) rfl (fun w hw => hw.drawn _) ?_
        refine D.take 0 (listed' := #[true, false, false, false, false, false, false, false, false]) rfl (by kernel_rfl) rfl rfl rfl rfl (V.fa rfl underlying125 rfl rfl sizeOf37) (fun w h => h.sub zSub) ?_
        refine D.take 1 (listed' := #[true, true, false, false, false, false, false, false, false]) rfl (by kernel_rfl) rfl rfl rfl rfl (V.load rfl isAgg37 zAt (by rfl)) (fun w h => h.sub zSub) ?_
        refine D.take 2 (listed' := #[true, true, true, false, false, false, false, false, false]) rfl (by kernel_rfl) rfl rfl rfl rfl (V.move rfl) (fun w h => h.sub zSub) ?_
        refine D.step 3 (listed' := #[true, true, true, true, false, false, false, false, false]) (by kernel_rfl) rfl rfl (.inr (fun w h => h.sub zSub)) ?_
        refine L.call rfl rfl rfl call176 rfl (fun w hw => num_ok2 (size := 4) (hbt3.lift _) (by omega) (by omega) hat (by omega) hw) ?_
        rintro _ a w hst ⟨n4, b4, i4, s4, hb4', hm4, rfl, hw⟩
        refine hst.go rfl hw ?_
        clear hst hw w a
        refine D.back ?_
        refine D.step 4 (listed' := #[true, true, true, true, true, false, false, false, false]) (by kernel_rfl) rfl rfl (.inr (fun w h => h.sub zSub)) ?_
        refine L.w rfl (V.conv (c := (n4 : Int)) rfl underlying123 underlying3 (by rw [IntKind.wrap_i64]; omega)) ?_
        refine D.back ?_
        refine D.step 5 (listed' := #[true, true, true, true, true, true, false, false, false]) (by kernel_rfl) rfl rfl (.inr (fun w h => h.sub zSub)) ?_
        refine L.slice1 rfl rfl rfl underlying37 sizeOf3 zeroValue3 rfl (by decide) (by decide) rfl rfl (fun b113 => ?_)
        refine D.back ?_
        refine D.step 6 (listed' := #[true, true, true, true, true, true, true, false, false]) (by kernel_rfl) rfl rfl (.inr (fun w h => h.sub zSub)) ?_
        refine L.append (by' := 8) (sz := 1) (l := 1) (ys := [.int .i64 (n4 : Int)]) rfl rfl rfl rfl underlying37 info_int rfl rfl rfl rfl hx (.skip (.skip (.skip (.skip (.skipl (.skipl (.skipl .done))))))) ⟨rfl, .inr ⟨b113, 0, 1, _, _, _, rfl, ⟨Nat.le_refl _, by omega⟩, .apr .head, fun j hj => by simp⟩⟩ (by intro u hu; simp at hu; rw [hu]; rfl) (by omega) (by omega) (fun v114 f114 ho114 => ?_)
        have hoE : IdsO v114 (p.ids ++ [n4]) f114 := IdsO.snoc ho114
        obtain ⟨a114, c114, rfl⟩ := ho114.form
        obtain ⟨dE, hdE⟩ : ∃ d : DSt, d = ⟨S3, { p with ids := p.ids ++ [n4] }, b4, i4, iv, kv, dv, .slice a114 (p.ids.length + 1) c114, fi, fk, fd, f114⟩ := ⟨_, rfl⟩
        have hIE : DecI t S2 n (z + 1) dE := by
         rw [hdE]
         refine hI.id hzn hk4 hb4' hoE (by omega) (fun y rest hy he h => ?_)
         unfold idOk at hy
         exact (fun h => ⟨h.1, h.2.2.1, h.2.1⟩) (num_step s4 he h (by omega) (by omega) (by omega))
        refine D.back ?_
        refine D.step 7 (listed' := #[true, true, true, true, true, true, true, true, false]) (by kernel_rfl) rfl rfl (.inr (fun w h => h.sub zSub)) ?_
        refine L.w rfl (V.fa rfl underlying125 rfl rfl sizeOf37) ?_
        refine D.back ?_
        refine D.step 8 (listed' := #[true, true, true, true, true, true, true, true, true]) (by kernel_rfl) rfl rfl (.inr (fun w h => h.sub zSub)) ?_
        refine L.store rfl rfl rfl sizeOf37 rfl zUp zSet ?_
        refine D.back ?_
        refine D.done (by kernel_rfl) (.inl ⟨8, by simp, rfl⟩) (N.blk (N.blk (N.seq ?_)))
        refine sR ?_
        refine L.w rfl (V.add rfl rfl (w64 (by omega) (by omega))) ?_
        refine sM rfl ?_
        refine L.nil ?_
        subst hdE
        refine N.round (z + 1, _) (by show 237 - (z + 1) < 237 - z; omega) ⟨rfl, rfl, rfl, rfl, rfl, rfl, trivial⟩ (fun w hw => ⟨⟨by show z + 1 ≤ 237; omega, by show z + 1 ≤ n; omega, hIE⟩, ?_⟩)
        first
         | exact hw
         | (refine (hw.sub ?_).take (fp := [_, _, _]) (.skipl .done); ((repeat (first | exact List.Sublist.refl _ | apply List.Sublist.append_left | apply List.Sublist.cons_cons | apply List.sublist_append_of_sublist_right | apply List.Sublist.cons)); done))
         | (refine (hw.sub ?_).take (fp := _ :: _ :: _ :: fi) (.skipl .done); ((repeat (first | exact List.Sublist.refl _ | apply List.Sublist.append_left | apply List.Sublist.cons_cons | apply List.sublist_append_of_sublist_right | apply List.Sublist.cons)); done))
         | exact Hp.re (hw.sub (H' := f104 ++ ((b6, rdObj tv b4 i4) :: (b7, .cells #[.int .i64 (p.kind : Int), .int .u64 (p.txn : Int), .int .i64 (p.next : Int), iv, kv, .slice a104 (p.data.length + val.length) c104, xv] 125 (0, 0)) :: (b2, .cells #[.int .i64 0, .int .u64 0, .int .i64 0, .slice none 0 0, .slice none 0 0, .slice none 0 0, .slice none 0 0] 125 (0, 0)) :: (fi ++ (fk ++ (fx ++ Hr))))) zSub) zRe
         | exact Hp.re (hw.sub (H' := f114 ++ ((b6, rdObj tv b4 i4) :: (b7, .cells #[.int .i64 (p.kind : Int), .int .u64 (p.txn : Int), .int .i64 (p.next : Int), iv, kv, dv, .slice a114 (p.ids.length + 1) c114] 125 (0, 0)) :: (b2, .cells #[.int .i64 0, .int .u64 0, .int .i64 0, .slice none 0 0, .slice none 0 0, .slice none 0 0, .slice none 0 0] 125 (0, 0)) :: (fi ++ (fk ++ (fd ++ Hr))))) zSub) zRe
       ·try simp only [sq] at h106
        obtain ⟨dE, hdE⟩ : ∃ d : DSt, d = ⟨S3, p, at5, e5, iv, kv, dv, xv, fi, fk, fd, fx⟩ := ⟨_, rfl⟩
        have hIE : DecI t S2 n (z + 1) dE := by rw [hdE]; exact hI.other (by omega) (by omega) (by omega) (by omega)
        refine C.skip (N.blk (N.blk (N.seq ?_)))
        refine sR ?_
        refine L.w rfl (V.add rfl rfl (w64 (by omega) (by omega))) ?_
        refine sM rfl ?_
        refine L.nil ?_
        subst hdE
        refine N.round (z + 1, _) (by show 237 - (z + 1) < 237 - z; omega) ⟨rfl, rfl, rfl, rfl, rfl, rfl, trivial⟩ (fun w hw => ⟨⟨by show z + 1 ≤ 237; omega, by show z + 1 ≤ n; omega, hIE⟩, ?_⟩)
        first
         | exact hw
         | (refine (hw.sub ?_).take (fp := [_, _, _]) (.skipl .done); ((repeat (first | exact List.Sublist.refl _ | apply List.Sublist.append_left | apply List.Sublist.cons_cons | apply List.sublist_append_of_sublist_right | apply List.Sublist.cons)); done))
         | (refine (hw.sub ?_).take (fp := _ :: _ :: _ :: fi) (.skipl .done); ((repeat (first | exact List.Sublist.refl _ | apply List.Sublist.append_left | apply List.Sublist.cons_cons | apply List.sublist_append_of_sublist_right | apply List.Sublist.cons)); done))
         | exact Hp.re (hw.sub (H' := f104 ++ ((b6, rdObj tv b4 i4) :: (b7, .cells #[.int .i64 (p.kind : Int), .int .u64 (p.txn : Int), .int .i64 (p.next : Int), iv, kv, .slice a104 (p.data.length + val.length) c104, xv] 125 (0, 0)) :: (b2, .cells #[.int .i64 0, .int .u64 0, .int .i64 0, .slice none 0 0, .slice none 0 0, .slice none 0 0, .slice none 0 0] 125 (0, 0)) :: (fi ++ (fk ++ (fx ++ Hr))))) zSub) zRe
         | exact Hp.re (hw.sub (H' := f114 ++ ((b6, rdObj tv b4 i4) :: (b7, .cells #[.int .i64 (p.kind : Int), .int .u64 (p.txn : Int), .int .i64 (p.next : Int), iv, kv, dv, .slice a114 (p.ids.length + 1) c114] 125 (0, 0)) :: (b2, .cells #[.int .i64 0, .int .u64 0, .int .i64 0, .slice none 0 0, .slice none 0 0, .slice none 0 0, .slice none 0 0] 125 (0, 0)) :: (fi ++ (fk ++ (fd ++ Hr))))) zSub) zRe
   ·try simp only [sq] at h46
    refine sZ rfl (sC (sD ?_))
    refine L.w rfl (V.loadBox rfl isAgg125 sizeOf125 zAt (by rfl)) ?_
    have hdone : ∀ q, Right q → q.txn < 2 ^ 64 → encW q = t → p = q := fun q hR ht hq => hI.done (by omega) hR ht hq
    refine L.call rfl rfl rfl call129 rfl (fun w hw => encode_ok (p := p) (hpt.c (fun q hq => by simp only [List.mem_append, List.mem_cons] at hq ⊢; rcases hq with h | h | h | h <;> simp [h])) (hft.small (by omega)) hw) ?_
    rintro _ a w hst ⟨vE, fE, err, rfl, hE, hw⟩
    refine hst.go rfl hw ?_
    clear hst hw w a
    refine sM rfl (sX rfl (sX rfl (sA rfl (sA rfl (sE (sM rfl (sQb rfl (sM rfl ?_))))))))
    refine L.fork (d := 124) rfl (fun h124 => ?_) (fun h124 => ?_)
    ·try simp only [sq] at h124
     refine sS rfl (sS rfl (sS rfl (sS rfl (sT rfl (sN (sO rfl (sD ?_)))))))
     refine L.w rfl (V.build rfl underlying125 zeroValue125 (pl := [(0, 1), (1, 1), (2, 1), (3, 1), (4, 1), (5, 1), (6, 1)]) (fun w => by kernel_rfl) Fills.nil) ?_
     refine L.storeBox rfl rfl rfl sizeOf125 rfl rfl (by rfl) zUp ?_
     refine sA rfl (sN ?_)
     refine R.retct results136 rfl rfl (fun w hw => run_box hw isAgg125 sizeOf125 zAt rfl) (fun w hw => ?_)
     have hn : decP l = none := decP_none fun q hq => by
      have e := hdone q hq.1 hq.2.1 (hconv q hq)
      subst e
      first
       | (rcases hE with ⟨_, h, _⟩ | ⟨h, _⟩
          ·omega
          ·exact h hq.1)
       | exact h129 hq.2.2
     refine ⟨S3, zeroC, [], ?_, le1.trans (le2.trans hle), hw.sub zSub, .inr ⟨hn, rfl, rfl⟩⟩
     unfold decE
     rw [if_neg (by omega), if_neg (by omega), if_neg (fun ⟨q, hq⟩ => by rw [decP_of hq] at hn; cases hn)]
     rfl
    ·try simp only [sq] at h124
     obtain ⟨hR, rfl, hoE⟩ : Right p ∧ err = 0 ∧ OwnB 5 vE (pageB p) fE := by
      rcases hE with h | ⟨_, h, _⟩
      ·exact h
      ·omega
     have hb5 : Bs S3 Hr (.slice ad l.length c) l := hb0.mono (Sees.le (le1.trans (le2.trans hle)) _)
     refine sM rfl (sM rfl ?_)
     refine L.call rfl rfl rfl call178 rfl (fun w hw => equal_ok (hoE.bs (fun q hq => List.mem_append_left _ hq)) (hb5.mono (Sees.of (.refl _) (fun q hq => by simp [hq]))) hw) ?_
     rintro _ a w hst ⟨rfl, hw⟩
     refine hst.go rfl hw ?_
     clear hst hw w a
     refine sV rfl (sU rfl (sN ?_))
     refine C.cond rfl (fun h129 => ?_) (fun h129 => ?_)
     ·try simp only [sq] at h129
      refine sD ?_
      refine L.w rfl (V.build rfl underlying125 zeroValue125 (pl := [(0, 1), (1, 1), (2, 1), (3, 1), (4, 1), (5, 1), (6, 1)]) (fun w => by kernel_rfl) Fills.nil) ?_
      refine L.storeBox rfl rfl rfl sizeOf125 rfl rfl (by rfl) zUp ?_
      refine sA rfl (sN ?_)
      refine R.retct results136 rfl rfl (fun w hw => run_box hw isAgg125 sizeOf125 zAt rfl) (fun w hw => ?_)
      have hn : decP l = none := decP_none fun q hq => by
       have e := hdone q hq.1 hq.2.1 (hconv q hq)
       subst e
       first
        | (rcases hE with ⟨_, h, _⟩ | ⟨h, _⟩
           ·omega
           ·exact h hq.1)
        | exact h129 hq.2.2
      refine ⟨S3, zeroC, [], ?_, le1.trans (le2.trans hle), hw.sub zSub, .inr ⟨hn, rfl, rfl⟩⟩
      unfold decE
      rw [if_neg (by omega), if_neg (by omega), if_neg (fun ⟨q, hq⟩ => by rw [decP_of hq] at hn; cases hn)]
      rfl
     ·try simp only [sq] at h129
      refine sK (sD ?_)
      refine L.w rfl (V.loadBox rfl isAgg125 sizeOf125 zAt (by rfl)) ?_
      obtain ⟨qi, ci, rfl⟩ := (show ∃ ad c, iv = .slice ad p.items.length c from by obtain ⟨r, h, _⟩ := hpt.items; exact h.form)
      obtain ⟨qk, ck, rfl⟩ := (show ∃ ad c, kv = .slice ad p.kids.length c from by obtain ⟨r, h, _⟩ := hpt.kids; exact h.form)
      obtain ⟨qd, cd, rfl⟩ := hpt.data.form
      obtain ⟨qx, cx, rfl⟩ := (show ∃ ad c, xv = .slice ad p.ids.length c from Own.form hpt.ids)
      refine L.storeBox rfl rfl rfl sizeOf125 rfl rfl (by rfl) zUp ?_
      refine sA rfl (sN ?_)
      refine R.retct results136 rfl rfl (fun w hw => run_box hw isAgg125 sizeOf125 zAt rfl) (fun w hw => ?_)
      have hpg : IsPage l p := ⟨hR, hft.txn, h129⟩
      refine ⟨S3, _, fi ++ (fk ++ (fd ++ fx)), ?_, le1.trans (le2.trans hle), ?_, .inl ⟨p, decP_of hpg, _, _, _, _, fi, fk, fd, fx, rfl, hpt, rfl⟩⟩
      ·rw [decE_of hpg]
      ·simp only [List.append_assoc]; exact hw.sub zSub
end
end Go.Proofs.YtijgbppkdaiikaaGreat
