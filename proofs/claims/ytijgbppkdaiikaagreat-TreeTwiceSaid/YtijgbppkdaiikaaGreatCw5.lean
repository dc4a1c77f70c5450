/- The walks, joined. -/
import Derived.Test.YtijgbppkdaiikaaGreatCw4
set_option linter.unusedSimpArgs false
set_option linter.unusedVariables false
namespace Go.Proofs.YtijgbppkdaiikaaGreat
open Go.Proofs.Tryz Go.Tk

section
variable {w0 : World} {F : Nat → Prop} {S : Store} {Hr : Heap} {w : World}

theorem del_ok {v : Value} {n i : Nat} {xs : List Value} {fp : Heap} (ho : Own 112 4 v n xs fp) (hi : i < n) (hn : n ≤ 1000000) (hx1 : ∀ u ∈ xs, u.oneCell' = true) (hw : Hp w0 F S (fp ++ Hr) w) :
 Calls Tryz.prog 146 #[v, .int .i64 (i : Int), .int .i64 ((i + 1 : Nat) : Int)] w fun e w' => ∃ v' fp', e = .returned v' ∧ Own 112 4 v' (n - 1) (xs.take (i * 4) ++ xs.drop ((i + 1) * 4)) fp' ∧ Hp w0 F S (fp' ++ Hr) w' := by
 have hrd : ∀ H : Heap, (∀ p ∈ fp, p ∈ H) → Rd S H 4 v n xs := fun H hh => ho.rd hh
 obtain ⟨b, c, js, rfl, rfl, hxl, hcl, hnc, hc63⟩ : ∃ b c js, v = .slice (some ⟨b, 0, none⟩) n c ∧ fp = [(b, .cells (xs ++ js).toArray 112 (0, 0))] ∧ xs.length = n * 4 ∧ (xs ++ js).length = c * 4 ∧ n ≤ c ∧ c ≤ 9223372036854775807 := by
  rcases ho with ⟨rfl, rfl, _, _⟩ | h
  ·omega
  ·exact h
 obtain ⟨ad3, had3⟩ : ∃ ad3, (if c = i + 1 then (some ⟨b, 0, none⟩ : Option Addr) else (some ⟨b, 0, none⟩ : Option Addr).map (·.add ((i + 1) * 4))) = ad3 := ⟨_, rfl⟩
 have hB := (hrd _ (fun p hp => hp)).sub (l := i + 1) (u := n) (by omega) (Nat.le_refl _) had3
 obtain ⟨xa, xm, xb, rfl, hxa, hxm, hxb⟩ : ∃ xa xm xb, xs = xa ++ (xm ++ xb) ∧ xa.length = i * 4 ∧ xm.length = 4 ∧ xb.length = (n - (i + 1)) * 4 := ⟨xs.take (i * 4), (xs.drop (i * 4)).take 4, (xs.drop (i * 4)).drop 4, by rw [List.take_append_drop, List.take_append_drop], by rw [List.length_take]; omega, by rw [List.length_take, List.length_drop]; omega, by rw [List.length_drop, List.length_drop]; omega⟩
 have e1 : (xa ++ (xm ++ xb)).take (i * 4) = xa := List.take_left' hxa
 have e2 : (xa ++ (xm ++ xb)).drop ((i + 1) * 4) = xb := by rw [← List.append_assoc, List.drop_left' (by rw [List.length_append]; omega)]
 rw [e2, List.take_of_length_le (by omega)] at hB
 rw [e1, e2]
 have h1b : ∀ u ∈ xb, u.oneCell' = true := fun u hu => hx1 u (List.mem_append_right _ (List.mem_append_right _ hu))
 obtain ⟨m1, r1, hmr, hm1, hr1⟩ : ∃ m1 r1, xm ++ xb = m1 ++ r1 ∧ m1.length = (n - (i + 1)) * 4 ∧ r1.length = 4 := ⟨(xm ++ xb).take ((n - (i + 1)) * 4), (xm ++ xb).drop ((n - (i + 1)) * 4), (List.take_append_drop _ _).symm, by rw [List.length_take, List.length_append]; omega, by rw [List.length_drop, List.length_append]; omega⟩
 rw [hmr] at hw hB hcl
 rw [show xa ++ (m1 ++ r1) ++ js = xa ++ m1 ++ (r1 ++ js) from by simp only [List.append_assoc]] at hw hB
 rw [List.length_append, List.length_append, List.length_append] at hcl
 refine enterA hw func146 rfl ntmps146 rfl rfl ?_
 refine sD (sA rfl (sE (sM rfl (sM rfl (sM rfl (sM rfl ?_))))))
 refine L.w rfl (V.len rfl underlying118) ?_
 refine L.w rfl (V.slice3 (l := i) (u := i + 1) (q := n) rfl rfl rfl rfl underlying118 sizeOf112 (by omega) (by omega) (by omega) rfl) ?_
 refine sN (sC (sD (sM rfl (sM rfl (sQa rfl (sN ?_))))))
 refine C.condF rfl (by simp; omega) ?_
 refine sK (sD (sM rfl ?_))
 refine L.w rfl (V.len rfl underlying118) ?_
 refine sA rfl (sN (sC ?_))
 refine C.drawC [] (Hp w0 F S Hr) (fun w h => h.sub zSub) (by kernel_rfl) rfl (fun w hw => hw.drawn _) ?_
 refine D.take 0 (listed' := #[true, false, false, false, false, false, false, false]) rfl (by kernel_rfl) rfl rfl rfl rfl (V.move rfl) (fun w h => h.sub zSub) ?_
 refine D.take 1 (listed' := #[true, true, false, false, false, false, false, false]) rfl (by kernel_rfl) rfl rfl rfl rfl (V.move rfl) (fun w h => h.sub zSub) ?_
 refine D.take 2 (listed' := #[true, true, true, false, false, false, false, false]) rfl (by kernel_rfl) rfl rfl rfl rfl (V.slice (l := 0) (u := i) rfl underlying118 sizeOf112 rfl ⟨_, rfl⟩ (by omega) (by omega) (ad' := some ⟨b, 0, none⟩) (by rw [if_neg (by omega)]; simp [add_at])) (fun w h => h.sub zSub) ?_
 refine D.take 3 (listed' := #[true, true, true, true, false, false, false, false]) rfl (by kernel_rfl) rfl rfl rfl rfl (V.move rfl) (fun w h => h.sub zSub) ?_
 refine D.take 4 (listed' := #[true, true, true, true, true, false, false, false]) rfl (by kernel_rfl) rfl rfl rfl rfl (V.move rfl) (fun w h => h.sub zSub) ?_
 refine D.take 5 (listed' := #[true, true, true, true, true, true, false, false]) rfl (by kernel_rfl) rfl rfl rfl rfl (V.slice (l := i + 1) (u := n) rfl underlying118 sizeOf112 ⟨_, rfl⟩ rfl (by omega) (by omega) had3) (fun w h => h.sub zSub) ?_
 refine D.step 6 (listed' := #[true, true, true, true, true, true, true, false]) (by kernel_rfl) rfl rfl (.inr (fun w h => h.sub zSub)) ?_
 refine L.appendIn (sz := 4) (b := b) (m := i) (c := c) (l := n - (i + 1)) (xs := xa) (M := m1) (R := r1 ++ js) (ys := xb) rfl rfl rfl rfl underlying118 underlying118 info_item rfl hxa hm1 (hB.mono (Sees.of (.refl _) (fun q hq => List.mem_append_left _ hq))) h1b (by omega) .head ?_
 rw [show xa ++ xb ++ (r1 ++ js) = (xa ++ xb) ++ r1 ++ js from by simp only [List.append_assoc]]
 refine D.back ?_
 refine D.step 7 (listed' := #[true, true, true, true, true, true, true, true]) (by kernel_rfl) rfl rfl (.inr (fun w h => h.sub zSub)) ?_
 refine sA rfl ?_
 refine D.back ?_
 refine D.done (by kernel_rfl) (.inr (fun w h => h.sub zSub)) (N.seq ?_)
 refine sD (sM rfl (sM rfl ?_))
 refine L.w rfl (V.len rfl underlying118) ?_
 refine sM rfl ?_
 refine L.w rfl (V.slice (l := i + (n - (i + 1))) (u := n) rfl underlying118 sizeOf112 ⟨_, rfl⟩ ⟨_, rfl⟩ (by omega) (by omega) (ad' := some ⟨b, (i + (n - (i + 1))) * 4, none⟩) (by rw [if_neg (by omega)]; simp [add_at])) ?_
 refine L.clearS (sz := 4) (b := b) (Aa := xa ++ xb) (M := r1) (R := js) (H' := fun Z => (b, .cells (xa ++ xb ++ Z ++ js).toArray 112 (0, 0)) :: Hr) rfl rfl underlying118 zeroValue112 rfl (by decide) (by rw [List.length_append]; omega) (by omega) (fun Z => .head) (fun Z hZ => ?_)
 refine sE (sM rfl (sA rfl (sN ?_)))
 refine R.ret1 results146 rfl (fun w hw => ?_)
 refine ⟨_, [(b, .cells (xa ++ xb ++ Z ++ js).toArray 112 (0, 0))], rfl, ?_, hw⟩
 rw [show i + (n - (i + 1)) = n - 1 from by omega, show xa ++ xb ++ Z ++ js = (xa ++ xb) ++ (Z ++ js) from by simp only [List.append_assoc]]
 exact Own.mk (by rw [List.length_append]; omega) (by simp only [List.length_append]; omega) (by omega) hc63

theorem replA_ok {v vv : Value} {n i j k : Nat} {xa xm xb ys : List Value} {fp fv : Heap} (ho : Own 129 2 v n (xa ++ (xm ++ xb)) fp) (hv : Own 129 2 vv k ys fv) (hxa : xa.length = i * 2) (hxm : xm.length = (j - i) * 2) (hxb : xb.length = (n - j) * 2) (hij : i < j) (hjn : j ≤ n) (hn : n ≤ 100000) (hk : k ≤ 100000)
 (hb1 : ∀ u ∈ xb, u.oneCell' = true) (hy1 : ∀ u ∈ ys, u.oneCell' = true) {b c : Nat} {js : List Value} (e1 : v = .slice (some ⟨b, 0, none⟩) n c) (e2 : fp = [(b, .cells (xa ++ (xm ++ xb) ++ js).toArray 129 (0, 0))])
 (hcl : (xa ++ (xm ++ xb) ++ js).length = c * 2) (hnc : n ≤ c) (hc63 : c ≤ 9223372036854775807) (ej : j = n) (hroom : i + k ≤ c) (hw : Hp w0 F S (fp ++ (fv ++ Hr)) w) :
 Calls Tryz.prog 148 #[v, .int .i64 (i : Int), .int .i64 (j : Int), vv] w fun e w' => ∃ v' fp', e = .returned v' ∧ Own 129 2 v' (i + k + (n - j)) (xa ++ ys ++ xb) fp' ∧ Hp w0 F S (fp' ++ (fv ++ Hr)) w' := by
 subst e1 e2
 have hyl : ys.length = k * 2 := (hv.rd (fun p hp => hp) : Rd S fv 2 vv k ys).len
 obtain ⟨va, vc, rfl⟩ := hv.form
 rw [List.length_append, List.length_append, List.length_append] at hcl
 subst ej
 have hxb0 : xb = [] := List.eq_nil_of_length_eq_zero (by omega)
 subst hxb0
 rw [List.append_nil] at hw ho
 obtain ⟨m1, r1, hmr, hm1⟩ : ∃ m1 r1, xm ++ js = m1 ++ r1 ∧ m1.length = k * 2 := ⟨(xm ++ js).take (k * 2), (xm ++ js).drop (k * 2), (List.take_append_drop _ _).symm, by simp only [List.length_nil] at hcl; rw [List.length_take, List.length_append]; omega⟩
 have hr1 : r1.length = (c - (i + k)) * 2 := by have := congrArg List.length hmr; rw [List.length_append, List.length_append] at this; simp only [List.length_nil] at hcl; omega
 rw [show xa ++ xm ++ js = xa ++ m1 ++ r1 from by rw [List.append_assoc, hmr, List.append_assoc]] at hw
 refine enterA hw func148 rfl ntmps148 rfl rfl ?_
 refine sD (sA rfl (sE (sM rfl (sM rfl (sM rfl ?_)))))
 refine L.w rfl (V.slice (l := i) (u := j) rfl underlying115 sizeOf129 ⟨_, rfl⟩ ⟨_, rfl⟩ (by omega) (by omega) rfl) ?_
 refine sN (sC (sD (sM rfl (sM rfl (sQa rfl (sN ?_))))))
 refine C.condF rfl (by simp; omega) ?_
 refine sK (sC (sD (sM rfl (sM rfl ?_))))
 refine L.w rfl (V.len rfl underlying115) ?_
 refine sQa rfl (sN ?_)
 refine C.condT rfl (by simp) ?_
 refine sD (sM rfl (sM rfl ?_))
 refine L.w rfl (V.slice (l := 0) (u := i) rfl underlying115 sizeOf129 rfl ⟨_, rfl⟩ (by omega) (by omega) (ad' := some ⟨b, 0, none⟩) (by rw [if_neg (by omega)]; simp [add_at])) ?_
 refine sM rfl ?_
 refine L.appendIn (sz := 2) (b := b) (m := i) (c := c) (l := k) (xs := xa) (M := m1) (R := r1) (ys := ys) rfl rfl rfl rfl underlying115 underlying115 info_kid rfl hxa hm1 (hv.rd (fun p hp => by simp [hp])) hy1 (by omega) .head ?_
 refine sA rfl (sN (sC (sD (sM rfl ?_))))
 refine L.w rfl (V.len rfl underlying115) ?_
 refine sM rfl ?_
 refine L.w rfl (V.len rfl underlying115) ?_
 refine sQc rfl (sN ?_)
 refine C.cond rfl (fun h39 => ?_) (fun h39 => ?_)
 ·try simp only [sq] at h39
  obtain ⟨r2, r3, rfl, hr2⟩ : ∃ r2 r3, r1 = r2 ++ r3 ∧ r2.length = (j - (i + k)) * 2 := ⟨r1.take ((j - (i + k)) * 2), r1.drop ((j - (i + k)) * 2), (List.take_append_drop _ _).symm, by rw [List.length_take]; omega⟩
  rw [show xa ++ ys ++ (r2 ++ r3) = (xa ++ ys) ++ r2 ++ r3 from by simp only [List.append_assoc]]
  rw [List.length_append] at hr1
  refine sR (sM rfl (sM rfl ?_))
  refine L.w rfl (V.len rfl underlying115) ?_
  refine L.w rfl (V.slice (l := i + k) (u := j) rfl underlying115 sizeOf129 ⟨_, rfl⟩ rfl (by omega) (by omega) (ad' := some ⟨b, (i + k) * 2, none⟩) (by rw [if_neg (by omega)]; simp [add_at])) ?_
  refine L.clearS (sz := 2) (b := b) (Aa := xa ++ ys) (M := r2) (R := r3) (H' := fun Z => (b, .cells (xa ++ ys ++ Z ++ r3).toArray 129 (0, 0)) :: (fv ++ Hr)) rfl rfl underlying115 zeroValue129 rfl (by decide) (by rw [List.length_append]; omega) (by omega) (fun Z => .head) (fun Z hZ => ?_)
  refine sE (sM rfl (sA rfl (sN ?_)))
  refine R.ret1 results148 rfl (fun w hw => ?_)
  rw [List.append_nil, Nat.sub_self, Nat.add_zero]
  first
   | (refine ⟨_, [(b, .cells (xa ++ ys ++ Z ++ r3).toArray 129 (0, 0))], rfl, ?_, hw⟩
      rw [show xa ++ ys ++ Z ++ r3 = (xa ++ ys) ++ (Z ++ r3) from by simp only [List.append_assoc]]
      exact Own.mk (by rw [List.length_append]; omega) (by simp only [List.length_append]; omega) (by omega) hc63)
   | (refine ⟨_, [(b, .cells (xa ++ ys ++ r1).toArray 129 (0, 0))], rfl, ?_, hw⟩
      exact Own.mk (by rw [List.length_append]; omega) (by simp only [List.length_append]; omega) (by omega) hc63)
 ·try simp only [sq] at h39
  refine sK (sD (sM rfl (sA rfl (sN ?_))))
  refine R.ret1 results148 rfl (fun w hw => ?_)
  rw [List.append_nil, Nat.sub_self, Nat.add_zero]
  first
   | (refine ⟨_, [(b, .cells (xa ++ ys ++ Z ++ r3).toArray 129 (0, 0))], rfl, ?_, hw⟩
      rw [show xa ++ ys ++ Z ++ r3 = (xa ++ ys) ++ (Z ++ r3) from by simp only [List.append_assoc]]
      exact Own.mk (by rw [List.length_append]; omega) (by simp only [List.length_append]; omega) (by omega) hc63)
   | (refine ⟨_, [(b, .cells (xa ++ ys ++ r1).toArray 129 (0, 0))], rfl, ?_, hw⟩
      exact Own.mk (by rw [List.length_append]; omega) (by simp only [List.length_append]; omega) (by omega) hc63)

theorem replB_ok {v vv : Value} {n i j k : Nat} {xa xm xb ys : List Value} {fp fv : Heap} (ho : Own 129 2 v n (xa ++ (xm ++ xb)) fp) (hv : Own 129 2 vv k ys fv) (hxa : xa.length = i * 2) (hxm : xm.length = (j - i) * 2) (hxb : xb.length = (n - j) * 2) (hij : i < j) (hjn : j ≤ n) (hn : n ≤ 100000) (hk : k ≤ 100000)
 (hb1 : ∀ u ∈ xb, u.oneCell' = true) (hy1 : ∀ u ∈ ys, u.oneCell' = true) {b c : Nat} {js : List Value} (e1 : v = .slice (some ⟨b, 0, none⟩) n c) (e2 : fp = [(b, .cells (xa ++ (xm ++ xb) ++ js).toArray 129 (0, 0))])
 (hcl : (xa ++ (xm ++ xb) ++ js).length = c * 2) (hnc : n ≤ c) (hc63 : c ≤ 9223372036854775807) (ej : j = n) (hroom : c < i + k) (hw : Hp w0 F S (fp ++ (fv ++ Hr)) w) :
 Calls Tryz.prog 148 #[v, .int .i64 (i : Int), .int .i64 (j : Int), vv] w fun e w' => ∃ v' fp', e = .returned v' ∧ Own 129 2 v' (i + k + (n - j)) (xa ++ ys ++ xb) fp' ∧ Hp w0 F S (fp' ++ (fv ++ Hr)) w' := by
 subst e1 e2
 have hyl : ys.length = k * 2 := (hv.rd (fun p hp => hp) : Rd S fv 2 vv k ys).len
 obtain ⟨va, vc, rfl⟩ := hv.form
 rw [List.length_append, List.length_append, List.length_append] at hcl
 subst ej
 have hxb0 : xb = [] := List.eq_nil_of_length_eq_zero (by omega)
 subst hxb0
 have hop : Own 129 2 (.slice (some ⟨b, 0, none⟩) i c) i xa [(b, .cells (xa ++ (xm ++ [] ++ js)).toArray 129 (0, 0))] := Own.mk hxa (by simp only [List.length_append]; omega) (by omega) hc63
 rw [show xa ++ (xm ++ [] ++ js) = xa ++ (xm ++ []) ++ js from by simp only [List.append_assoc]] at hop
 refine enterA hw func148 rfl ntmps148 rfl rfl ?_
 refine sD (sA rfl (sE (sM rfl (sM rfl (sM rfl ?_)))))
 refine L.w rfl (V.slice (l := i) (u := j) rfl underlying115 sizeOf129 ⟨_, rfl⟩ ⟨_, rfl⟩ (by omega) (by omega) rfl) ?_
 refine sN (sC (sD (sM rfl (sM rfl (sQa rfl (sN ?_))))))
 refine C.condF rfl (by simp; omega) ?_
 refine sK (sC (sD (sM rfl (sM rfl ?_))))
 refine L.w rfl (V.len rfl underlying115) ?_
 refine sQa rfl (sN ?_)
 refine C.condT rfl (by simp) ?_
 refine sD (sM rfl (sM rfl ?_))
 refine L.w rfl (V.slice (l := 0) (u := i) rfl underlying115 sizeOf129 rfl ⟨_, rfl⟩ (by omega) (by omega) (ad' := some ⟨b, 0, none⟩) (by rw [if_neg (by omega)]; simp [add_at])) ?_
 refine sM rfl ?_
 refine L.append (by' := 32) (sz := 2) (l := k) (ys := ys) rfl rfl rfl rfl underlying115 info_kid rfl rfl rfl rfl hop .done (hv.rd (fun p hp => by simp [hp])) hy1 (by omega) (by omega) (fun v34 f34 ho34 => ?_)
 obtain ⟨a34, c34, rfl⟩ := ho34.form
 refine sA rfl (sN (sC (sD (sM rfl ?_))))
 refine L.w rfl (V.len rfl underlying115) ?_
 refine sM rfl ?_
 refine L.w rfl (V.len rfl underlying115) ?_
 refine sQc rfl (sN ?_)
 refine C.condF rfl (by simp; omega) ?_
 refine sK (sD (sM rfl (sA rfl (sN ?_))))
 refine R.ret1 results148 rfl (fun w hw => ?_)
 rw [List.append_nil, Nat.sub_self, Nat.add_zero]
 exact ⟨_, f34, rfl, ho34, hw⟩

theorem replC_ok {v vv : Value} {n i j k : Nat} {xa xm xb ys : List Value} {fp fv : Heap} (ho : Own 129 2 v n (xa ++ (xm ++ xb)) fp) (hv : Own 129 2 vv k ys fv) (hxa : xa.length = i * 2) (hxm : xm.length = (j - i) * 2) (hxb : xb.length = (n - j) * 2) (hij : i < j) (hjn : j ≤ n) (hn : n ≤ 100000) (hk : k ≤ 100000)
 (hb1 : ∀ u ∈ xb, u.oneCell' = true) (hy1 : ∀ u ∈ ys, u.oneCell' = true) {b c : Nat} {js : List Value} (e1 : v = .slice (some ⟨b, 0, none⟩) n c) (e2 : fp = [(b, .cells (xa ++ (xm ++ xb) ++ js).toArray 129 (0, 0))])
 (hcl : (xa ++ (xm ++ xb) ++ js).length = c * 2) (hnc : n ≤ c) (hc63 : c ≤ 9223372036854775807) (ej : j < n) (hroom : c < i + k + (n - j)) (hw : Hp w0 F S (fp ++ (fv ++ Hr)) w) :
 Calls Tryz.prog 148 #[v, .int .i64 (i : Int), .int .i64 (j : Int), vv] w fun e w' => ∃ v' fp', e = .returned v' ∧ Own 129 2 v' (i + k + (n - j)) (xa ++ ys ++ xb) fp' ∧ Hp w0 F S (fp' ++ (fv ++ Hr)) w' := by
 subst e1 e2
 have hyl : ys.length = k * 2 := (hv.rd (fun p hp => hp) : Rd S fv 2 vv k ys).len
 obtain ⟨va, vc, rfl⟩ := hv.form
 rw [List.length_append, List.length_append, List.length_append] at hcl
 refine enterA hw func148 rfl ntmps148 rfl rfl ?_
 refine sD (sA rfl (sE (sM rfl (sM rfl (sM rfl ?_)))))
 refine L.w rfl (V.slice (l := i) (u := j) rfl underlying115 sizeOf129 ⟨_, rfl⟩ ⟨_, rfl⟩ (by omega) (by omega) rfl) ?_
 refine sN (sC (sD (sM rfl (sM rfl (sQa rfl (sN ?_))))))
 refine C.condF rfl (by simp; omega) ?_
 refine sK (sC (sD (sM rfl (sM rfl ?_))))
 refine L.w rfl (V.len rfl underlying115) ?_
 refine sQa rfl (sN ?_)
 refine C.condF rfl (by simp; omega) ?_
 refine sK (sC ?_)
 refine C.drawC [] (Hp w0 F S Hr) (fun w h => h.sub zSub) (by kernel_rfl) rfl (fun w hw => hw.drawn _) ?_
 refine D.take 0 (listed' := #[true, false, false, false, false, false, false, false, false, false, false, false, false]) rfl (by kernel_rfl) rfl rfl rfl rfl (V.move rfl) (fun w h => h.sub zSub) ?_
 refine D.take 1 (listed' := #[true, true, false, false, false, false, false, false, false, false, false, false, false]) rfl (by kernel_rfl) rfl rfl rfl rfl (V.move rfl) (fun w h => h.sub zSub) ?_
 refine D.take 2 (listed' := #[true, true, true, false, false, false, false, false, false, false, false, false, false]) rfl (by kernel_rfl) rfl rfl rfl rfl (V.slice (l := 0) (u := i) rfl underlying115 sizeOf129 rfl ⟨_, rfl⟩ (by omega) (by omega) (ad' := some ⟨b, 0, none⟩) (by rw [if_neg (by omega)]; simp [add_at])) (fun w h => h.sub zSub) ?_
 refine D.take 3 (listed' := #[true, true, true, true, false, false, false, false, false, false, false, false, false]) rfl (by kernel_rfl) rfl rfl rfl rfl (V.len rfl underlying115) (fun w h => h.sub zSub) ?_
 refine D.take 4 (listed' := #[true, true, true, true, true, false, false, false, false, false, false, false, false]) rfl (by kernel_rfl) rfl rfl rfl rfl (V.move rfl) (fun w h => h.sub zSub) ?_
 refine D.take 5 (listed' := #[true, true, true, true, true, true, false, false, false, false, false, false, false]) rfl (by kernel_rfl) rfl rfl rfl rfl (V.len rfl underlying115) (fun w h => h.sub zSub) ?_
 refine D.take 6 (listed' := #[true, true, true, true, true, true, true, false, false, false, false, false, false]) rfl (by kernel_rfl) rfl rfl rfl rfl (V.add (c := ((i + k : Nat) : Int)) rfl rfl (by rw [w64 (by omega) (by omega)]; omega)) (fun w h => h.sub zSub) ?_
 refine D.take 7 (listed' := #[true, true, true, true, true, true, true, true, false, false, false, false, false]) rfl (by kernel_rfl) rfl rfl rfl rfl (V.move rfl) (fun w h => h.sub zSub) ?_
 refine D.take 8 (listed' := #[true, true, true, true, true, true, true, true, true, false, false, false, false]) rfl (by kernel_rfl) rfl rfl rfl rfl (V.move rfl) (fun w h => h.sub zSub) ?_
 refine D.take 9 (listed' := #[true, true, true, true, true, true, true, true, true, true, false, false, false]) rfl (by kernel_rfl) rfl rfl rfl rfl (V.slice (l := j) (u := n) rfl underlying115 sizeOf129 ⟨_, rfl⟩ rfl (by omega) (by omega) (ad' := some ⟨b, j * 2, none⟩) (by rw [if_neg (by omega)]; simp [add_at])) (fun w h => h.sub zSub) ?_
 refine D.take 10 (listed' := #[true, true, true, true, true, true, true, true, true, true, true, false, false]) rfl (by kernel_rfl) rfl rfl rfl rfl (V.len rfl underlying115) (fun w h => h.sub zSub) ?_
 refine D.take 11 (listed' := #[true, true, true, true, true, true, true, true, true, true, true, true, false]) rfl (by kernel_rfl) rfl rfl rfl rfl (V.add (c := ((i + k + (n - j) : Nat) : Int)) rfl rfl (by rw [w64 (by omega) (by omega)]; omega)) (fun w h => h.sub zSub) ?_
 refine D.take 12 (listed' := #[true, true, true, true, true, true, true, true, true, true, true, true, true]) rfl (by kernel_rfl) rfl rfl rfl rfl (V.assign rfl) (fun w h => h.sub zSub) ?_
 refine D.done (by kernel_rfl) (.inr (fun w h => h.sub zSub)) (N.seq ?_)
 refine sC (sD (sM rfl (sM rfl ?_)))
 refine L.w rfl (V.cap rfl underlying115) ?_
 refine sQe rfl (sN ?_)
 refine C.condT rfl (by simp; omega) ?_
 refine sD (sM rfl (sM rfl ?_))
 refine L.w rfl (V.slice (l := 0) (u := i) rfl underlying115 sizeOf129 rfl ⟨_, rfl⟩ (by omega) (by omega) (ad' := some ⟨b, 0, none⟩) (by rw [if_neg (by omega)]; simp [add_at])) ?_
 refine sM rfl (sM rfl ?_)
 refine L.w rfl (V.sub (c := ((k + (n - j) : Nat) : Int)) rfl rfl (by rw [w64 (by omega) (by omega)]; omega)) ?_
 refine L.appendZ (ad := some ⟨b, 0, none⟩) (m := i) (c := c) (q := k + (n - j)) (by' := 32) (sz := 2) (olds := xa) rfl rfl rfl rfl underlying115 underlying3 info_kid rfl rfl rfl rfl ⟨hxa, .inr ⟨b, 0, _, _, _, _, rfl, ⟨by omega, by omega⟩, .head, fun j hj => by simp [List.getElem?_append_left hj, hj]⟩⟩ (by omega) (by decide) (by omega) (by omega) (by decide) (fun b40 c40 zl js40 hzl hol htot hle40 h6340 => ?_)
 rw [List.length_append, List.length_append] at htot
 obtain ⟨z1, z2, rfl, hz1, hz2⟩ : ∃ z1 z2, zl = z1 ++ z2 ∧ z1.length = k * 2 ∧ z2.length = (n - j) * 2 := ⟨zl.take (k * 2), zl.drop (k * 2), (List.take_append_drop _ _).symm, by rw [List.length_take]; omega, by rw [List.length_drop]; omega⟩
 rw [show xa ++ (z1 ++ z2) ++ js40 = xa ++ z1 ++ (z2 ++ js40) from by simp only [List.append_assoc]]
 refine sA rfl (sE (sM rfl (sM rfl ?_)))
 refine L.w rfl (V.slice (l := i) (u := i + (k + (n - j))) rfl underlying115 sizeOf129 ⟨_, rfl⟩ rfl (by omega) (by omega) (ad' := some ⟨b40, i * 2, none⟩) (by rw [if_neg (by omega)]; simp [add_at])) ?_
 refine sM rfl ?_
 refine L.copyM (o := i * 2) (b := b40) (sz := 2) (m := k) (l := k) (ys := ys) rfl rfl rfl rfl underlying115 sizeOf129 (hv.rd (fun p hp => by simp [hp])) (by omega) hxa.symm hz1 (by rw [← hyl, List.take_length]) hy1 .head ?_
 rw [← List.append_assoc (xa ++ ys) z2 js40]
 refine sN (sC ?_)
 refine C.drawC [] (Hp w0 F S Hr) (fun w h => h.sub zSub) (by kernel_rfl) rfl (fun w hw => hw.drawn _) ?_
 refine D.take 0 (listed' := #[true, false, false, false, false, false, false, false, false, false]) rfl (by kernel_rfl) rfl rfl rfl rfl (V.move rfl) (fun w h => h.sub zSub) ?_
 refine D.take 1 (listed' := #[true, true, false, false, false, false, false, false, false, false]) rfl (by kernel_rfl) rfl rfl rfl rfl (V.move rfl) (fun w h => h.sub zSub) ?_
 refine D.take 2 (listed' := #[true, true, true, false, false, false, false, false, false, false]) rfl (by kernel_rfl) rfl rfl rfl rfl (V.move rfl) (fun w h => h.sub zSub) ?_
 refine D.take 3 (listed' := #[true, true, true, true, false, false, false, false, false, false]) rfl (by kernel_rfl) rfl rfl rfl rfl (V.len rfl underlying115) (fun w h => h.sub zSub) ?_
 refine D.take 4 (listed' := #[true, true, true, true, true, false, false, false, false, false]) rfl (by kernel_rfl) rfl rfl rfl rfl (V.add (c := ((i + k : Nat) : Int)) rfl rfl (by rw [w64 (by omega) (by omega)]; omega)) (fun w h => h.sub zSub) ?_
 refine D.take 5 (listed' := #[true, true, true, true, true, true, false, false, false, false]) rfl (by kernel_rfl) rfl rfl rfl rfl (V.slice (l := i + k) (u := i + (k + (n - j))) rfl underlying115 sizeOf129 ⟨_, rfl⟩ rfl (by omega) (by omega) (ad' := some ⟨b40, (i + k) * 2, none⟩) (by rw [if_neg (by omega)]; simp [add_at])) (fun w h => h.sub zSub) ?_
 refine D.take 6 (listed' := #[true, true, true, true, true, true, true, false, false, false]) rfl (by kernel_rfl) rfl rfl rfl rfl (V.move rfl) (fun w h => h.sub zSub) ?_
 refine D.take 7 (listed' := #[true, true, true, true, true, true, true, true, false, false]) rfl (by kernel_rfl) rfl rfl rfl rfl (V.move rfl) (fun w h => h.sub zSub) ?_
 refine D.take 8 (listed' := #[true, true, true, true, true, true, true, true, true, false]) rfl (by kernel_rfl) rfl rfl rfl rfl (V.slice (l := j) (u := n) rfl underlying115 sizeOf129 ⟨_, rfl⟩ rfl (by omega) (by omega) (ad' := some ⟨b, j * 2, none⟩) (by rw [if_neg (by omega)]; simp [add_at])) (fun w h => h.sub zSub) ?_
 refine D.step 9 (listed' := #[true, true, true, true, true, true, true, true, true, true]) (by kernel_rfl) rfl rfl (.inr (fun w h => h.sub zSub)) ?_
 refine L.copyM (o := (i + k) * 2) (b := b40) (sz := 2) (m := n - j) (l := n - j) (ys := xb) rfl rfl rfl rfl underlying115 sizeOf129 ⟨hxb, .inr ⟨b, j * 2, _, _, _, _, rfl, ⟨by omega, by omega⟩, .tail .head, fun q hq => ?_⟩⟩ (by omega) (by rw [List.length_append]; omega) hz2 (by rw [← hxb, List.take_length]) hb1 .head ?_
 ·simp only [List.getElem?_toArray]
  rw [show xa ++ (xm ++ xb) ++ js = (xa ++ xm) ++ (xb ++ js) from by simp only [List.append_assoc], List.getElem?_append_right (by rw [List.length_append]; omega), show j * 2 + q - (xa ++ xm).length = q from by rw [List.length_append]; omega, List.getElem?_append_left hq]
 refine D.back ?_
 refine D.done (by kernel_rfl) (.inr (fun w h => h.sub zSub)) (N.seq ?_)
 refine sD (sM rfl (sA rfl (sN ?_)))
 refine R.ret1 results148 rfl (fun w hw => ?_)
 refine ⟨_, [(b40, .cells (xa ++ ys ++ xb ++ js40).toArray 129 (0, 0))], rfl, ?_, hw.sub (H' := [(b40, .cells (xa ++ ys ++ xb ++ js40).toArray 129 (0, 0))] ++ (fv ++ Hr)) zSub⟩
 rw [show i + (k + (n - j)) = i + k + (n - j) from by omega]
 exact Own.mk (by simp only [List.length_append]; omega) (by simp only [List.length_append]; omega) (by omega) h6340

theorem replD_ok {v vv : Value} {n i j k : Nat} {xa xm xb ys : List Value} {fp fv : Heap} (ho : Own 129 2 v n (xa ++ (xm ++ xb)) fp) (hv : Own 129 2 vv k ys fv) (hxa : xa.length = i * 2) (hxm : xm.length = (j - i) * 2) (hxb : xb.length = (n - j) * 2) (hij : i < j) (hjn : j ≤ n) (hn : n ≤ 100000) (hk : k ≤ 100000)
 (hb1 : ∀ u ∈ xb, u.oneCell' = true) (hy1 : ∀ u ∈ ys, u.oneCell' = true) {b c : Nat} {js : List Value} (e1 : v = .slice (some ⟨b, 0, none⟩) n c) (e2 : fp = [(b, .cells (xa ++ (xm ++ xb) ++ js).toArray 129 (0, 0))])
 (hcl : (xa ++ (xm ++ xb) ++ js).length = c * 2) (hnc : n ≤ c) (hc63 : c ≤ 9223372036854775807) (ej : j < n) (hroom : i + k + (n - j) ≤ c) (hfit : i + k ≤ j) (hw : Hp w0 F S (fp ++ (fv ++ Hr)) w) :
 Calls Tryz.prog 148 #[v, .int .i64 (i : Int), .int .i64 (j : Int), vv] w fun e w' => ∃ v' fp', e = .returned v' ∧ Own 129 2 v' (i + k + (n - j)) (xa ++ ys ++ xb) fp' ∧ Hp w0 F S (fp' ++ (fv ++ Hr)) w' := by
 subst e1 e2
 have hyl : ys.length = k * 2 := (hv.rd (fun p hp => hp) : Rd S fv 2 vv k ys).len
 obtain ⟨va, vc, rfl⟩ := hv.form
 rw [List.length_append, List.length_append, List.length_append] at hcl
 obtain ⟨x1, x2, rfl, hx1⟩ : ∃ x1 x2, xm = x1 ++ x2 ∧ x1.length = k * 2 := ⟨xm.take (k * 2), xm.drop (k * 2), (List.take_append_drop _ _).symm, by rw [List.length_take]; omega⟩
 rw [List.length_append] at hxm hcl
 obtain ⟨p1, p2, hpp, hp1⟩ : ∃ p1 p2, x2 ++ xb = p1 ++ p2 ∧ p1.length = (n - j) * 2 := ⟨(x2 ++ xb).take ((n - j) * 2), (x2 ++ xb).drop ((n - j) * 2), (List.take_append_drop _ _).symm, by rw [List.length_take, List.length_append]; omega⟩
 have hp2 : p2.length = (j - (i + k)) * 2 := by have := congrArg List.length hpp; rw [List.length_append, List.length_append] at this; omega
 rw [show xa ++ (x1 ++ x2 ++ xb) ++ js = xa ++ x1 ++ (x2 ++ xb ++ js) from by simp only [List.append_assoc]] at hw
 refine enterA hw func148 rfl ntmps148 rfl rfl ?_
 refine sD (sA rfl (sE (sM rfl (sM rfl (sM rfl ?_)))))
 refine L.w rfl (V.slice (l := i) (u := j) rfl underlying115 sizeOf129 ⟨_, rfl⟩ ⟨_, rfl⟩ (by omega) (by omega) rfl) ?_
 refine sN (sC (sD (sM rfl (sM rfl (sQa rfl (sN ?_))))))
 refine C.condF rfl (by simp; omega) ?_
 refine sK (sC (sD (sM rfl (sM rfl ?_))))
 refine L.w rfl (V.len rfl underlying115) ?_
 refine sQa rfl (sN ?_)
 refine C.condF rfl (by simp; omega) ?_
 refine sK (sC ?_)
 refine C.drawC [] (Hp w0 F S Hr) (fun w h => h.sub zSub) (by kernel_rfl) rfl (fun w hw => hw.drawn _) ?_
 refine D.take 0 (listed' := #[true, false, false, false, false, false, false, false, false, false, false, false, false]) rfl (by kernel_rfl) rfl rfl rfl rfl (V.move rfl) (fun w h => h.sub zSub) ?_
 refine D.take 1 (listed' := #[true, true, false, false, false, false, false, false, false, false, false, false, false]) rfl (by kernel_rfl) rfl rfl rfl rfl (V.move rfl) (fun w h => h.sub zSub) ?_
 refine D.take 2 (listed' := #[true, true, true, false, false, false, false, false, false, false, false, false, false]) rfl (by kernel_rfl) rfl rfl rfl rfl (V.slice (l := 0) (u := i) rfl underlying115 sizeOf129 rfl ⟨_, rfl⟩ (by omega) (by omega) (ad' := some ⟨b, 0, none⟩) (by rw [if_neg (by omega)]; simp [add_at])) (fun w h => h.sub zSub) ?_
 refine D.take 3 (listed' := #[true, true, true, true, false, false, false, false, false, false, false, false, false]) rfl (by kernel_rfl) rfl rfl rfl rfl (V.len rfl underlying115) (fun w h => h.sub zSub) ?_
 refine D.take 4 (listed' := #[true, true, true, true, true, false, false, false, false, false, false, false, false]) rfl (by kernel_rfl) rfl rfl rfl rfl (V.move rfl) (fun w h => h.sub zSub) ?_
 refine D.take 5 (listed' := #[true, true, true, true, true, true, false, false, false, false, false, false, false]) rfl (by kernel_rfl) rfl rfl rfl rfl (V.len rfl underlying115) (fun w h => h.sub zSub) ?_
 refine D.take 6 (listed' := #[true, true, true, true, true, true, true, false, false, false, false, false, false]) rfl (by kernel_rfl) rfl rfl rfl rfl (V.add (c := ((i + k : Nat) : Int)) rfl rfl (by rw [w64 (by omega) (by omega)]; omega)) (fun w h => h.sub zSub) ?_
 refine D.take 7 (listed' := #[true, true, true, true, true, true, true, true, false, false, false, false, false]) rfl (by kernel_rfl) rfl rfl rfl rfl (V.move rfl) (fun w h => h.sub zSub) ?_
 refine D.take 8 (listed' := #[true, true, true, true, true, true, true, true, true, false, false, false, false]) rfl (by kernel_rfl) rfl rfl rfl rfl (V.move rfl) (fun w h => h.sub zSub) ?_
 refine D.take 9 (listed' := #[true, true, true, true, true, true, true, true, true, true, false, false, false]) rfl (by kernel_rfl) rfl rfl rfl rfl (V.slice (l := j) (u := n) rfl underlying115 sizeOf129 ⟨_, rfl⟩ rfl (by omega) (by omega) (ad' := some ⟨b, j * 2, none⟩) (by rw [if_neg (by omega)]; simp [add_at])) (fun w h => h.sub zSub) ?_
 refine D.take 10 (listed' := #[true, true, true, true, true, true, true, true, true, true, true, false, false]) rfl (by kernel_rfl) rfl rfl rfl rfl (V.len rfl underlying115) (fun w h => h.sub zSub) ?_
 refine D.take 11 (listed' := #[true, true, true, true, true, true, true, true, true, true, true, true, false]) rfl (by kernel_rfl) rfl rfl rfl rfl (V.add (c := ((i + k + (n - j) : Nat) : Int)) rfl rfl (by rw [w64 (by omega) (by omega)]; omega)) (fun w h => h.sub zSub) ?_
 refine D.take 12 (listed' := #[true, true, true, true, true, true, true, true, true, true, true, true, true]) rfl (by kernel_rfl) rfl rfl rfl rfl (V.assign rfl) (fun w h => h.sub zSub) ?_
 refine D.done (by kernel_rfl) (.inr (fun w h => h.sub zSub)) (N.seq ?_)
 refine sC (sD (sM rfl (sM rfl ?_)))
 refine L.w rfl (V.cap rfl underlying115) ?_
 refine sQe rfl (sN ?_)
 refine C.condF rfl (by simp; omega) ?_
 refine sK (sD (sM rfl (sM rfl ?_)))
 refine L.w rfl (V.slice (l := 0) (u := i + k + (n - j)) rfl underlying115 sizeOf129 rfl ⟨_, rfl⟩ (by omega) (by omega) (ad' := some ⟨b, 0, none⟩) (by rw [if_neg (by omega)]; simp [add_at])) ?_
 refine sA rfl (sN (sC (sD (sM rfl (sM rfl ?_)))))
 refine L.w rfl (V.len rfl underlying115) ?_
 refine L.w rfl (V.add (c := ((i + k : Nat) : Int)) rfl rfl (by rw [w64 (by omega) (by omega)]; omega)) ?_
 refine sM rfl (sQd rfl (sN ?_))
 refine C.condT rfl (by simp; omega) ?_
 refine sD (sM rfl (sM rfl ?_))
 refine L.w rfl (V.slice (l := i) (u := i + k + (n - j) - 0) rfl underlying115 sizeOf129 ⟨_, rfl⟩ rfl (by omega) (by omega) (ad' := some ⟨b, i * 2, none⟩) (by rw [if_neg (by omega)]; simp [add_at])) ?_
 refine sM rfl ?_
 refine L.copyM (o := i * 2) (b := b) (sz := 2) (m := k) (l := k) (ys := ys) rfl rfl rfl rfl underlying115 sizeOf129 (hv.rd (fun p hp => by simp [hp])) (by omega) hxa.symm hx1 (by rw [← hyl, List.take_length]) hy1 .head ?_
 rw [show xa ++ ys ++ (x2 ++ xb ++ js) = (xa ++ ys) ++ p1 ++ (p2 ++ js) from by rw [hpp]; simp only [List.append_assoc]]
 refine sN (sC ?_)
 refine C.drawC [] (Hp w0 F S Hr) (fun w h => h.sub zSub) (by kernel_rfl) rfl (fun w hw => hw.drawn _) ?_
 refine D.take 0 (listed' := #[true, false, false, false, false, false, false, false, false, false]) rfl (by kernel_rfl) rfl rfl rfl rfl (V.move rfl) (fun w h => h.sub zSub) ?_
 refine D.take 1 (listed' := #[true, true, false, false, false, false, false, false, false, false]) rfl (by kernel_rfl) rfl rfl rfl rfl (V.move rfl) (fun w h => h.sub zSub) ?_
 refine D.take 2 (listed' := #[true, true, true, false, false, false, false, false, false, false]) rfl (by kernel_rfl) rfl rfl rfl rfl (V.move rfl) (fun w h => h.sub zSub) ?_
 refine D.take 3 (listed' := #[true, true, true, true, false, false, false, false, false, false]) rfl (by kernel_rfl) rfl rfl rfl rfl (V.len rfl underlying115) (fun w h => h.sub zSub) ?_
 refine D.take 4 (listed' := #[true, true, true, true, true, false, false, false, false, false]) rfl (by kernel_rfl) rfl rfl rfl rfl (V.add (c := ((i + k : Nat) : Int)) rfl rfl (by rw [w64 (by omega) (by omega)]; omega)) (fun w h => h.sub zSub) ?_
 refine D.take 5 (listed' := #[true, true, true, true, true, true, false, false, false, false]) rfl (by kernel_rfl) rfl rfl rfl rfl (V.slice (l := i + k) (u := i + k + (n - j) - 0) rfl underlying115 sizeOf129 ⟨_, rfl⟩ rfl (by omega) (by omega) (ad' := some ⟨b, (i + k) * 2, none⟩) (by rw [if_neg (by omega)]; simp [add_at])) (fun w h => h.sub zSub) ?_
 refine D.take 6 (listed' := #[true, true, true, true, true, true, true, false, false, false]) rfl (by kernel_rfl) rfl rfl rfl rfl (V.move rfl) (fun w h => h.sub zSub) ?_
 refine D.take 7 (listed' := #[true, true, true, true, true, true, true, true, false, false]) rfl (by kernel_rfl) rfl rfl rfl rfl (V.move rfl) (fun w h => h.sub zSub) ?_
 refine D.take 8 (listed' := #[true, true, true, true, true, true, true, true, true, false]) rfl (by kernel_rfl) rfl rfl rfl rfl (V.slice (l := j) (u := n) rfl underlying115 sizeOf129 ⟨_, rfl⟩ rfl (by omega) (by omega) (ad' := some ⟨b, j * 2, none⟩) (by rw [if_neg (by omega)]; simp [add_at])) (fun w h => h.sub zSub) ?_
 refine D.step 9 (listed' := #[true, true, true, true, true, true, true, true, true, true]) (by kernel_rfl) rfl rfl (.inr (fun w h => h.sub zSub)) ?_
 refine L.copyM (o := (i + k) * 2) (b := b) (sz := 2) (m := n - j) (l := n - j) (ys := xb) rfl rfl rfl rfl underlying115 sizeOf129 ⟨hxb, .inr ⟨b, j * 2, _, _, _, _, rfl, ⟨by omega, by omega⟩, .head, fun q hq => ?_⟩⟩ (by omega) (by rw [List.length_append]; omega) hp1 (by rw [← hxb, List.take_length]) hb1 .head ?_
 ·simp only [List.getElem?_toArray]
  rw [show xa ++ ys ++ p1 ++ (p2 ++ js) = (xa ++ ys ++ x2) ++ (xb ++ js) from by rw [show xa ++ ys ++ p1 ++ (p2 ++ js) = xa ++ ys ++ (p1 ++ p2) ++ js from by simp only [List.append_assoc], ← hpp]; simp only [List.append_assoc], List.getElem?_append_right (by rw [List.length_append, List.length_append]; omega), show j * 2 + q - (xa ++ ys ++ x2).length = q from by rw [List.length_append, List.length_append]; omega, List.getElem?_append_left hq]
 rw [show xa ++ ys ++ xb ++ (p2 ++ js) = (xa ++ ys ++ xb) ++ p2 ++ js from by simp only [List.append_assoc]]
 refine D.back ?_
 refine D.done (by kernel_rfl) (.inr (fun w h => h.sub zSub)) (N.seq ?_)
 refine sD (sM rfl (sM rfl ?_))
 refine L.w rfl (V.slice (l := i + k + (n - j)) (u := n) rfl underlying115 sizeOf129 ⟨_, rfl⟩ rfl (by omega) (by omega) rfl) ?_
 refine L.clearE (o := (i + k + (n - j)) * 2) (sz := 2) (b := b) (Aa := xa ++ ys ++ xb) (M := p2) (R := js) (H' := fun Z => (b, .cells (xa ++ ys ++ xb ++ Z ++ js).toArray 129 (0, 0)) :: (fv ++ Hr)) rfl (fun h => by rw [if_neg (by omega)]; simp [add_at]) rfl underlying115 zeroValue129 rfl (by decide) (by rw [List.length_append, List.length_append]; omega) (by omega) (fun Z => .head) (fun Z hZ => ?_)
 refine sE (sM rfl (sA rfl (sN ?_)))
 refine R.ret1 results148 rfl (fun w hw => ?_)
 refine ⟨_, [(b, .cells (xa ++ ys ++ xb ++ Z ++ js).toArray 129 (0, 0))], rfl, ?_, hw⟩
 rw [Nat.sub_zero, show xa ++ ys ++ xb ++ Z ++ js = (xa ++ ys ++ xb) ++ (Z ++ js) from by simp only [List.append_assoc]]
 exact Own.mk (by simp only [List.length_append]; omega) (by simp only [List.length_append]; omega) (by omega) hc63

theorem replE_ok {v vv : Value} {n i j k : Nat} {xa xm xb ys : List Value} {fp fv : Heap} (ho : Own 129 2 v n (xa ++ (xm ++ xb)) fp) (hv : Own 129 2 vv k ys fv) (hxa : xa.length = i * 2) (hxm : xm.length = (j - i) * 2) (hxb : xb.length = (n - j) * 2) (hij : i < j) (hjn : j ≤ n) (hn : n ≤ 100000) (hk : k ≤ 100000)
 (hb1 : ∀ u ∈ xb, u.oneCell' = true) (hy1 : ∀ u ∈ ys, u.oneCell' = true) {b c : Nat} {js : List Value} (e1 : v = .slice (some ⟨b, 0, none⟩) n c) (e2 : fp = [(b, .cells (xa ++ (xm ++ xb) ++ js).toArray 129 (0, 0))])
 (hcl : (xa ++ (xm ++ xb) ++ js).length = c * 2) (hnc : n ≤ c) (hc63 : c ≤ 9223372036854775807) (ej : j < n) (hroom : i + k + (n - j) ≤ c) (hfit : j < i + k) (hw : Hp w0 F S (fp ++ (fv ++ Hr)) w) :
 Calls Tryz.prog 148 #[v, .int .i64 (i : Int), .int .i64 (j : Int), vv] w fun e w' => ∃ v' fp', e = .returned v' ∧ Own 129 2 v' (i + k + (n - j)) (xa ++ ys ++ xb) fp' ∧ Hp w0 F S (fp' ++ (fv ++ Hr)) w' := by
 subst e1 e2
 have hyl : ys.length = k * 2 := (hv.rd (fun p hp => hp) : Rd S fv 2 vv k ys).len
 obtain ⟨vb, vc, vj, rfl, rfl, hv1, hv2, hv3, hv4⟩ : ∃ vb vc vj, vv = .slice (some ⟨vb, 0, none⟩) k vc ∧ fv = [(vb, .cells (ys ++ vj).toArray 129 (0, 0))] ∧ ys.length = k * 2 ∧ (ys ++ vj).length = vc * 2 ∧ k ≤ vc ∧ vc ≤ 9223372036854775807 := by
  rcases hv with ⟨_, h, _⟩ | h
  ·omega
  ·exact h
 rw [List.length_append, List.length_append, List.length_append] at hcl
 have hvb : b ≠ vb := fun e => by
  have := hw.nd
  rw [List.cons_append, List.pairwise_cons] at this
  exact this.1 (vb, .cells (ys ++ vj).toArray 129 (0, 0)) (by simp) e
 obtain ⟨q1, q2, q3, hqq, hq1, hq2⟩ : ∃ q1 q2 q3, xm ++ xb ++ js = q1 ++ q2 ++ q3 ∧ q1.length = k * 2 ∧ q2.length = (n - j) * 2 := ⟨(xm ++ xb ++ js).take (k * 2), ((xm ++ xb ++ js).drop (k * 2)).take ((n - j) * 2), ((xm ++ xb ++ js).drop (k * 2)).drop ((n - j) * 2), by rw [List.append_assoc (List.take _ _), List.take_append_drop, List.take_append_drop], by rw [List.length_take, List.length_append, List.length_append]; omega, by rw [List.length_take, List.length_drop, List.length_append, List.length_append]; omega⟩
 have hq3 : q3.length = (c - (i + k + (n - j))) * 2 := by have := congrArg List.length hqq; simp only [List.length_append] at this; omega
 rw [show xa ++ (xm ++ xb) ++ js = xa ++ q1 ++ q2 ++ q3 from by rw [List.append_assoc xa, hqq]; simp only [List.append_assoc]] at hw
 refine enterA hw func148 rfl ntmps148 rfl rfl ?_
 refine sD (sA rfl (sE (sM rfl (sM rfl (sM rfl ?_)))))
 refine L.w rfl (V.slice (l := i) (u := j) rfl underlying115 sizeOf129 ⟨_, rfl⟩ ⟨_, rfl⟩ (by omega) (by omega) rfl) ?_
 refine sN (sC (sD (sM rfl (sM rfl (sQa rfl (sN ?_))))))
 refine C.condF rfl (by simp; omega) ?_
 refine sK (sC (sD (sM rfl (sM rfl ?_))))
 refine L.w rfl (V.len rfl underlying115) ?_
 refine sQa rfl (sN ?_)
 refine C.condF rfl (by simp; omega) ?_
 refine sK (sC ?_)
 refine C.drawC [] (Hp w0 F S Hr) (fun w h => h.sub zSub) (by kernel_rfl) rfl (fun w hw => hw.drawn _) ?_
 refine D.take 0 (listed' := #[true, false, false, false, false, false, false, false, false, false, false, false, false]) rfl (by kernel_rfl) rfl rfl rfl rfl (V.move rfl) (fun w h => h.sub zSub) ?_
 refine D.take 1 (listed' := #[true, true, false, false, false, false, false, false, false, false, false, false, false]) rfl (by kernel_rfl) rfl rfl rfl rfl (V.move rfl) (fun w h => h.sub zSub) ?_
 refine D.take 2 (listed' := #[true, true, true, false, false, false, false, false, false, false, false, false, false]) rfl (by kernel_rfl) rfl rfl rfl rfl (V.slice (l := 0) (u := i) rfl underlying115 sizeOf129 rfl ⟨_, rfl⟩ (by omega) (by omega) (ad' := some ⟨b, 0, none⟩) (by rw [if_neg (by omega)]; simp [add_at])) (fun w h => h.sub zSub) ?_
 refine D.take 3 (listed' := #[true, true, true, true, false, false, false, false, false, false, false, false, false]) rfl (by kernel_rfl) rfl rfl rfl rfl (V.len rfl underlying115) (fun w h => h.sub zSub) ?_
 refine D.take 4 (listed' := #[true, true, true, true, true, false, false, false, false, false, false, false, false]) rfl (by kernel_rfl) rfl rfl rfl rfl (V.move rfl) (fun w h => h.sub zSub) ?_
 refine D.take 5 (listed' := #[true, true, true, true, true, true, false, false, false, false, false, false, false]) rfl (by kernel_rfl) rfl rfl rfl rfl (V.len rfl underlying115) (fun w h => h.sub zSub) ?_
 refine D.take 6 (listed' := #[true, true, true, true, true, true, true, false, false, false, false, false, false]) rfl (by kernel_rfl) rfl rfl rfl rfl (V.add (c := ((i + k : Nat) : Int)) rfl rfl (by rw [w64 (by omega) (by omega)]; omega)) (fun w h => h.sub zSub) ?_
 refine D.take 7 (listed' := #[true, true, true, true, true, true, true, true, false, false, false, false, false]) rfl (by kernel_rfl) rfl rfl rfl rfl (V.move rfl) (fun w h => h.sub zSub) ?_
 refine D.take 8 (listed' := #[true, true, true, true, true, true, true, true, true, false, false, false, false]) rfl (by kernel_rfl) rfl rfl rfl rfl (V.move rfl) (fun w h => h.sub zSub) ?_
 refine D.take 9 (listed' := #[true, true, true, true, true, true, true, true, true, true, false, false, false]) rfl (by kernel_rfl) rfl rfl rfl rfl (V.slice (l := j) (u := n) rfl underlying115 sizeOf129 ⟨_, rfl⟩ rfl (by omega) (by omega) (ad' := some ⟨b, j * 2, none⟩) (by rw [if_neg (by omega)]; simp [add_at])) (fun w h => h.sub zSub) ?_
 refine D.take 10 (listed' := #[true, true, true, true, true, true, true, true, true, true, true, false, false]) rfl (by kernel_rfl) rfl rfl rfl rfl (V.len rfl underlying115) (fun w h => h.sub zSub) ?_
 refine D.take 11 (listed' := #[true, true, true, true, true, true, true, true, true, true, true, true, false]) rfl (by kernel_rfl) rfl rfl rfl rfl (V.add (c := ((i + k + (n - j) : Nat) : Int)) rfl rfl (by rw [w64 (by omega) (by omega)]; omega)) (fun w h => h.sub zSub) ?_
 refine D.take 12 (listed' := #[true, true, true, true, true, true, true, true, true, true, true, true, true]) rfl (by kernel_rfl) rfl rfl rfl rfl (V.assign rfl) (fun w h => h.sub zSub) ?_
 refine D.done (by kernel_rfl) (.inr (fun w h => h.sub zSub)) (N.seq ?_)
 refine sC (sD (sM rfl (sM rfl ?_)))
 refine L.w rfl (V.cap rfl underlying115) ?_
 refine sQe rfl (sN ?_)
 refine C.condF rfl (by simp; omega) ?_
 refine sK (sD (sM rfl (sM rfl ?_)))
 refine L.w rfl (V.slice (l := 0) (u := i + k + (n - j)) rfl underlying115 sizeOf129 rfl ⟨_, rfl⟩ (by omega) (by omega) (ad' := some ⟨b, 0, none⟩) (by rw [if_neg (by omega)]; simp [add_at])) ?_
 refine sA rfl (sN (sC (sD (sM rfl (sM rfl ?_)))))
 refine L.w rfl (V.len rfl underlying115) ?_
 refine L.w rfl (V.add (c := ((i + k : Nat) : Int)) rfl rfl (by rw [w64 (by omega) (by omega)]; omega)) ?_
 refine sM rfl (sQd rfl (sN ?_))
 refine C.condF rfl (by simp; omega) ?_
 refine sK (sC (sD (sM rfl (sM rfl (sM rfl ?_)))))
 refine L.w rfl (V.len rfl underlying115) ?_
 refine L.w rfl (V.add (c := ((i + k : Nat) : Int)) rfl rfl (by rw [w64 (by omega) (by omega)]; omega)) ?_
 refine L.w rfl (V.slice (l := i + k) (u := i + k + (n - j) - 0) rfl underlying115 sizeOf129 ⟨_, rfl⟩ rfl (by omega) (by omega) (ad' := some ⟨b, (i + k) * 2, none⟩) (by rw [if_neg (by omega)]; simp [add_at])) ?_
 refine sM rfl ?_
 refine L.w rfl (V.extern (v := .bool false) rfl rfl rfl (fun w hw => by
  rw [run_callFunc_extern func191 (by kernel_rfl) (by kernel_rfl) (by kernel_rfl) (e := Extern.SlicesOverlaps.overlaps #[115, 115] #[4]) (by kernel_rfl)]
  have hb9 := hw.at (b := b) (.head)
  have hv9 := hw.at (b := vb) (.tail .head)
  have := Lib.run_overlaps_apart (P := Tryz.prog) w 115 4 129 underlying115 2 sizeOf129 ⟨b, (i + k) * 2, none⟩ ⟨vb, 0, none⟩ (i + k + (n - j) - 0 - (i + k)) (c - 0 - (i + k)) k vc hvb 129 129 (xa ++ q1 ++ q2 ++ q3).length (ys ++ vj).length (by simp [World.shape?, hb9]) (by simp [World.shape?, hv9]) (by rw [List.length_append]; omega) (by rw [frozen_at hb9]; simp) (by rw [frozen_at hb9]; simp)
  simp only [List.append_nil, Array.append_empty, Array.empty_append] at this ⊢
  rw [this]
  rfl)) ?_
 refine sV rfl (sN (sO rfl (sC ?_)))
 refine C.drawC [] (Hp w0 F S Hr) (fun w h => h.sub zSub) (by kernel_rfl) rfl (fun w hw => hw.drawn _) ?_
 refine D.take 0 (listed' := #[true, false, false, false, false, false, false, false, false, false]) rfl (by kernel_rfl) rfl rfl rfl rfl (V.move rfl) (fun w h => h.sub zSub) ?_
 refine D.take 1 (listed' := #[true, true, false, false, false, false, false, false, false, false]) rfl (by kernel_rfl) rfl rfl rfl rfl (V.move rfl) (fun w h => h.sub zSub) ?_
 refine D.take 2 (listed' := #[true, true, true, false, false, false, false, false, false, false]) rfl (by kernel_rfl) rfl rfl rfl rfl (V.move rfl) (fun w h => h.sub zSub) ?_
 refine D.take 3 (listed' := #[true, true, true, true, false, false, false, false, false, false]) rfl (by kernel_rfl) rfl rfl rfl rfl (V.len rfl underlying115) (fun w h => h.sub zSub) ?_
 refine D.take 4 (listed' := #[true, true, true, true, true, false, false, false, false, false]) rfl (by kernel_rfl) rfl rfl rfl rfl (V.add (c := ((i + k : Nat) : Int)) rfl rfl (by rw [w64 (by omega) (by omega)]; omega)) (fun w h => h.sub zSub) ?_
 refine D.take 5 (listed' := #[true, true, true, true, true, true, false, false, false, false]) rfl (by kernel_rfl) rfl rfl rfl rfl (V.slice (l := i + k) (u := i + k + (n - j) - 0) rfl underlying115 sizeOf129 ⟨_, rfl⟩ rfl (by omega) (by omega) (ad' := some ⟨b, (i + k) * 2, none⟩) (by rw [if_neg (by omega)]; simp [add_at])) (fun w h => h.sub zSub) ?_
 refine D.take 6 (listed' := #[true, true, true, true, true, true, true, false, false, false]) rfl (by kernel_rfl) rfl rfl rfl rfl (V.move rfl) (fun w h => h.sub zSub) ?_
 refine D.take 7 (listed' := #[true, true, true, true, true, true, true, true, false, false]) rfl (by kernel_rfl) rfl rfl rfl rfl (V.move rfl) (fun w h => h.sub zSub) ?_
 refine D.take 8 (listed' := #[true, true, true, true, true, true, true, true, true, false]) rfl (by kernel_rfl) rfl rfl rfl rfl (V.slice (l := j) (u := n) rfl underlying115 sizeOf129 ⟨_, rfl⟩ rfl (by omega) (by omega) (ad' := some ⟨b, j * 2, none⟩) (by rw [if_neg (by omega)]; simp [add_at])) (fun w h => h.sub zSub) ?_
 refine D.step 9 (listed' := #[true, true, true, true, true, true, true, true, true, true]) (by kernel_rfl) rfl rfl (.inr (fun w h => h.sub zSub)) ?_
 refine L.copyM (Aa := xa ++ q1) (o := (i + k) * 2) (b := b) (sz := 2) (m := n - j) (l := n - j) (ys := xb) rfl rfl rfl rfl underlying115 sizeOf129 ⟨hxb, .inr ⟨b, j * 2, _, _, _, _, rfl, ⟨by omega, by omega⟩, .head, fun q hq => ?_⟩⟩ (by omega) (by rw [List.length_append]; omega) hq2 (by rw [← hxb, List.take_length]) hb1 .head ?_
 ·simp only [List.getElem?_toArray]
  rw [show xa ++ q1 ++ q2 ++ q3 = (xa ++ xm) ++ (xb ++ js) from by rw [show xa ++ q1 ++ q2 ++ q3 = xa ++ (q1 ++ q2 ++ q3) from by simp only [List.append_assoc], ← hqq]; simp only [List.append_assoc], List.getElem?_append_right (by rw [List.length_append]; omega), show j * 2 + q - (xa ++ xm).length = q from by rw [List.length_append]; omega, List.getElem?_append_left hq]
 rw [show xa ++ q1 ++ xb ++ q3 = xa ++ q1 ++ (xb ++ q3) from by simp only [List.append_assoc]]
 refine D.back ?_
 refine D.done (by kernel_rfl) (.inr (fun w h => h.sub zSub)) (N.seq ?_)
 refine sD (sM rfl (sM rfl ?_))
 refine L.w rfl (V.slice (l := i) (u := i + k + (n - j) - 0) rfl underlying115 sizeOf129 ⟨_, rfl⟩ rfl (by omega) (by omega) (ad' := some ⟨b, i * 2, none⟩) (by rw [if_neg (by omega)]; simp [add_at])) ?_
 refine sM rfl ?_
 refine L.copyM (o := i * 2) (b := b) (sz := 2) (m := k) (l := k) (ys := ys) rfl rfl rfl rfl underlying115 sizeOf129 ⟨hyl, .inr ⟨vb, 0, vc, _, _, _, rfl, ⟨hv3, hv4⟩, .tail .head, fun q hq => by simp [List.getElem?_append_left hq]⟩⟩ (by omega) hxa.symm hq1 (by rw [← hyl, List.take_length]) hy1 .head ?_
 refine sE (sM rfl (sA rfl (sN ?_)))
 refine R.ret1 results148 rfl (fun w hw => ?_)
 refine ⟨_, [(b, .cells (xa ++ ys ++ (xb ++ q3)).toArray 129 (0, 0))], rfl, ?_, hw⟩
 rw [Nat.sub_zero, show xa ++ ys ++ (xb ++ q3) = (xa ++ ys ++ xb) ++ q3 from by simp only [List.append_assoc]]
 exact Own.mk (by simp only [List.length_append]; omega) (by simp only [List.length_append]; omega) (by omega) hc63

/-- slices.Replace in an own row. -/
theorem repl_ok {v vv : Value} {n i j k : Nat} {xs ys : List Value} {fp fv : Heap} (ho : Own 129 2 v n xs fp) (hv : Own 129 2 vv k ys fv) (hij : i < j) (hjn : j ≤ n) (hn : n ≤ 100000) (hk : k ≤ 100000)
 (hx1 : ∀ u ∈ xs, u.oneCell' = true) (hy1 : ∀ u ∈ ys, u.oneCell' = true) (hw : Hp w0 F S (fp ++ (fv ++ Hr)) w) :
 Calls Tryz.prog 148 #[v, .int .i64 (i : Int), .int .i64 (j : Int), vv] w fun e w' => ∃ v' fp', e = .returned v' ∧ Own 129 2 v' (i + k + (n - j)) (xs.take (i * 2) ++ ys ++ xs.drop (j * 2)) fp' ∧ Hp w0 F S (fp' ++ (fv ++ Hr)) w' := by
 obtain ⟨b, c, js, e1, e2, hxl, hcl, hnc, hc63⟩ : ∃ b c js, v = .slice (some ⟨b, 0, none⟩) n c ∧ fp = [(b, .cells (xs ++ js).toArray 129 (0, 0))] ∧ xs.length = n * 2 ∧ (xs ++ js).length = c * 2 ∧ n ≤ c ∧ c ≤ 9223372036854775807 := by
  rcases ho with ⟨rfl, rfl, _, _⟩ | h
  ·omega
  ·exact h
 obtain ⟨xa, xm, xb, rfl, hxa, hxm, hxb⟩ : ∃ xa xm xb, xs = xa ++ (xm ++ xb) ∧ xa.length = i * 2 ∧ xm.length = (j - i) * 2 ∧ xb.length = (n - j) * 2 := ⟨xs.take (i * 2), (xs.drop (i * 2)).take ((j - i) * 2), (xs.drop (i * 2)).drop ((j - i) * 2), by rw [List.take_append_drop, List.take_append_drop], by rw [List.length_take]; omega, by rw [List.length_take, List.length_drop]; omega, by rw [List.length_drop, List.length_drop]; omega⟩
 have e3 : (xa ++ (xm ++ xb)).take (i * 2) = xa := List.take_left' hxa
 have e4 : (xa ++ (xm ++ xb)).drop (j * 2) = xb := by rw [← List.append_assoc, List.drop_left' (by rw [List.length_append]; omega)]
 rw [e3, e4]
 have hb1 : ∀ u ∈ xb, u.oneCell' = true := fun u hu => hx1 u (List.mem_append_right _ (List.mem_append_right _ hu))
 rcases (by omega : j = n ∨ j < n) with ej | ej
 ·rcases Nat.lt_or_ge c (i + k) with h | h
  ·exact replB_ok ho hv hxa hxm hxb hij hjn hn hk hb1 hy1 e1 e2 hcl hnc hc63 ej h hw
  ·exact replA_ok ho hv hxa hxm hxb hij hjn hn hk hb1 hy1 e1 e2 hcl hnc hc63 ej h hw
 ·rcases Nat.lt_or_ge c (i + k + (n - j)) with h | h
  ·exact replC_ok ho hv hxa hxm hxb hij hjn hn hk hb1 hy1 e1 e2 hcl hnc hc63 ej h hw
  ·rcases Nat.lt_or_ge j (i + k) with h2 | h2
   ·exact replE_ok ho hv hxa hxm hxb hij hjn hn hk hb1 hy1 e1 e2 hcl hnc hc63 ej h h2 hw
   ·exact replD_ok ho hv hxa hxm hxb hij hjn hn hk hb1 hy1 e1 e2 hcl hnc hc63 ej h h2 hw
end
end Go.Proofs.YtijgbppkdaiikaaGreat

set_option linter.unusedSimpArgs false
set_option linter.unusedVariables false
namespace Go.Proofs.YtijgbppkdaiikaaGreat
open Go.Proofs.Tryz Go.Tk

def dropsF : Pr → Int → List Nat → Pr × Int
 | s, e, [] => (s, e)
 | s, e, i :: r => if e = 0 then dropsF (s.drop i).1 (s.drop i).2 r else dropsF s e r
theorem dropsF_err {s : Pr} {e : Int} (h : e ≠ 0) : ∀ l, dropsF s e l = (s, e)
 | [] => rfl
 | i :: r => by rw [dropsF, if_neg h]; exact dropsF_err h r
/-- An item's Pieces are dropped. -/
noncomputable def Pr.freeIt (s : Pr) (x : Item) : Pr × Int := if x.more = 0 then (s, 0) else match s.blob x with
 | .error e => (s, e)
 | .ok r => dropsF s 0 r.2
def putIn (i : Nat) (put : Option Item) (l : List Item) : List Item := match put with
 | some p => l.take i ++ [p] ++ l.drop i
 | none => l
noncomputable def leafEnd (s : Pr) (id : Int) (there : Bool) (i : Nat) (put : Option Item) (l : List Item) : Pr × Bool × Except Int (List Kid) :=
 if (s.drop id).2 ≠ 0 then ((s.drop id).1, there, .error (s.drop id).2) else (((s.drop id).1.leaves (putIn i put l)).1, there, ((s.drop id).1.leaves (putIn i put l)).2)
noncomputable def Pr.changeLeaf (s : Pr) (id : Int) (x : Page) (key : List UInt8) (put : Option Item) : Pr × Bool × Except Int (List Kid) :=
 if key ∈ x.items.map (·.key) then
  match x.items[pos (x.items.map (·.key)) key]? with
  | none => (s, true, .error 4)
  | some it => if (s.freeIt it).2 ≠ 0 then ((s.freeIt it).1, true, .error (s.freeIt it).2) else
     leafEnd (s.freeIt it).1 id true (pos (x.items.map (·.key)) key) put (x.items.take (pos (x.items.map (·.key)) key) ++ x.items.drop (pos (x.items.map (·.key)) key + 1))
 else if put = none then (s, false, .ok []) else leafEnd s id false (pos (x.items.map (·.key)) key) put x.items

/-- What is put, where it lies. -/
def PutV (S : Store) (H : Heap) (v : Value) (put : Option Item) : Prop := match put with
 | none => v = .pointer none
 | some x => ∃ pb c, v = .pointer (some ⟨pb, 0, none⟩) ∧ At S pb (.cells c.toArray 112 (0, 0)) H ∧ ItemC S c x
theorem PutV.mono {S S' : Store} {H H' : Heap} {v : Value} {put : Option Item} (h : PutV S H v put) (le : S.le S') (hh : ∀ q, q ∈ H → q ∈ H') : PutV S' H' v put := by
 cases put with
 | none => exact h
 | some x => obtain ⟨pb, c, h1, h2, h3⟩ := h; exact ⟨pb, c, h1, Sees.of le hh _ _ h2, h3.mono le⟩
def FineP (put : Option Item) : Prop := ∀ x, put = some x → x.key.length ≤ 32 ∧ x.val.length ≤ 64 ∧ x.size < 2 ^ 32 ∧ x.more < 2 ^ 32

theorem itemC_one {S : Store} {c : List Value} {x : Item} (h : ItemC S c x) : ∀ u ∈ c, u.oneCell' = true := by
 obtain ⟨kv, vv, rfl, h1, h2⟩ := h
 obtain ⟨_, _, rfl, _⟩ := h1.form
 obtain ⟨_, _, rfl, _⟩ := h2.form
 intro u hu
 simp at hu
 rcases hu with rfl | rfl | rfl | rfl <;> rfl
theorem kidC_one {S : Store} {c : List Value} {x : Kid} (h : KidC S c x) : ∀ u ∈ c, u.oneCell' = true := by
 obtain ⟨kv, rfl, h1⟩ := h
 obtain ⟨_, _, rfl, _⟩ := h1.form
 intro u hu
 simp at hu
 rcases hu with rfl | rfl <;> rfl
theorem flat_one {β : Type} {R : List Value → β → Prop} (hR : ∀ c x, R c x → ∀ u ∈ c, u.oneCell' = true) {rows : List (List Value)} {l : List β} (h : All2 R rows l) : ∀ u ∈ rows.flatten, u.oneCell' = true := fun u hu => by
 obtain ⟨r, hr, hu⟩ := List.mem_flatten.1 hu
 exact h.left (Q := fun c => ∀ u ∈ c, u.oneCell' = true) hR r hr u hu
theorem ext_get {cs : Array Value} {a n : Nat} {vs : List Value} (h : cs.extract a (a + n) = vs.toArray) {j : Nat} (hj : j < vs.length) : cs[a + j]? = vs[j]? := by
 have h2 := congrArg (fun q : Array Value => q[j]?) h
 simp only [List.getElem?_toArray] at h2
 have h3 : vs.length = (cs.extract a (a + n)).size := by rw [h]; simp
 rw [Array.size_extract] at h3
 rw [Array.getElem?_extract, if_pos (by omega)] at h2
 exact h2
theorem Right.fineI {x : Page} (h : Right x) : FineI x.items := ⟨by have := h.lens.1; omega, fun y hy => by have := (h.items y hy).lens; omega⟩
theorem Right.fineK {x : Page} (h : Right x) : FineK x.kids := ⟨by have := h.lens.2.1; omega, fun y hy => by have h1 := (h.kids y hy).1; have h2 := (h.kids y hy).2.2; omega⟩

section
variable {w0 : World} {F : Nat → Prop} {S : Store} {Hr : Heap} {w : World}

theorem insItem_ok {v : Value} {n i vb : Nat} {xs ys : List Value} {fp : Heap} (ho : Own 112 4 v n xs fp) (hi : i ≤ n) (hn : n ≤ 1000000) (hx1 : ∀ u ∈ xs, u.oneCell' = true) (hy : ys.length = 4) (hy1 : ∀ u ∈ ys, u.oneCell' = true) (hw : Hp w0 F S (fp ++ ((vb, .cells ys.toArray 112 (0, 0)) :: Hr)) w) :
 Calls Tryz.prog 147 #[v, .int .i64 (i : Int), .slice (some ⟨vb, 0, none⟩) 1 1] w fun e w' => ∃ v' fp', e = .returned v' ∧ Own 112 4 v' (n + 1) (xs.take (i * 4) ++ ys ++ xs.drop (i * 4)) fp' ∧ Hp w0 F S (fp' ++ Hr) w' := by
 rcases Nat.lt_or_ge i n with h | h
 ·exact ins_items_mid ho h hn hx1 hy hy1 hw
 ·have e : i = n := by omega
  have hl : xs.length = n * 4 := (ho.rd (fun p hp => hp) : Rd S fp 4 v n xs).len
  rw [List.take_of_length_le (by omega), List.drop_eq_nil_of_le (by omega), List.append_nil]
  exact ins_items_end ho e hn hy hy1 hw

theorem ItemsO.del {v : Value} {l : List Item} {i : Nat} {fp : Heap} (h : ItemsO S v l fp) (hi : i < l.length) (hl : l.length ≤ 100000) (hw : Hp w0 F S (fp ++ Hr) w) :
 Calls Tryz.prog 146 #[v, .int .i64 (i : Int), .int .i64 ((i + 1 : Nat) : Int)] w fun e w' => ∃ v' fp', e = .returned v' ∧ ItemsO S v' (l.take i ++ l.drop (i + 1)) fp' ∧ Hp w0 F S (fp' ++ Hr) w' := by
 obtain ⟨rows, ho, ha⟩ := h
 have hr4 := rows4 ha
 refine (del_ok ho hi (by omega) (flat_one (fun c x h => itemC_one h) ha) hw).mono fun e w' ⟨v', fp', h1, h2, h3⟩ => ⟨v', fp', h1, ⟨rows.take i ++ rows.drop (i + 1), ?_, (ha.take i).append (ha.drop (i + 1))⟩, h3⟩
 rw [rows_take rows hr4, rows_drop rows hr4] at h2
 rw [List.flatten_append, show (l.take i ++ l.drop (i + 1)).length = l.length - 1 from by rw [List.length_append, List.length_take, List.length_drop]; omega]
 exact h2
theorem ItemsO.ins {v : Value} {l : List Item} {x : Item} {i vb : Nat} {ys : List Value} {fp : Heap} (h : ItemsO S v l fp) (hx : ItemC S ys x) (hi : i ≤ l.length) (hl : l.length ≤ 100000) (hw : Hp w0 F S (fp ++ ((vb, .cells ys.toArray 112 (0, 0)) :: Hr)) w) :
 Calls Tryz.prog 147 #[v, .int .i64 (i : Int), .slice (some ⟨vb, 0, none⟩) 1 1] w fun e w' => ∃ v' fp', e = .returned v' ∧ ItemsO S v' (l.take i ++ [x] ++ l.drop i) fp' ∧ Hp w0 F S (fp' ++ Hr) w' := by
 obtain ⟨rows, ho, ha⟩ := h
 have hr4 := rows4 ha
 refine (insItem_ok ho hi (by omega) (flat_one (fun c x h => itemC_one h) ha) (by obtain ⟨_, _, rfl, _⟩ := hx; rfl) (itemC_one hx) hw).mono fun e w' ⟨v', fp', h1, h2, h3⟩ => ⟨v', fp', h1, ⟨rows.take i ++ [ys] ++ rows.drop i, ?_, ((ha.take i).append (show All2 (ItemC S) [ys] [x] from ⟨hx, trivial⟩)).append (ha.drop i)⟩, h3⟩
 rw [rows_take rows hr4, rows_drop rows hr4] at h2
 rw [List.flatten_append, List.flatten_append, show (l.take i ++ [x] ++ l.drop i).length = l.length + 1 from by rw [List.length_append, List.length_append, List.length_take, List.length_drop, List.length_singleton]; omega]
 simpa using h2
theorem ItemsO.form {v : Value} {l : List Item} {fp : Heap} (h : ItemsO S v l fp) : ∃ ad c, v = .slice ad l.length c := by obtain ⟨r, h, _⟩ := h; exact h.form
theorem KidsO.form {v : Value} {l : List Kid} {fp : Heap} (h : KidsO S v l fp) : ∃ ad c, v = .slice ad l.length c := by obtain ⟨r, h, _⟩ := h; exact h.form

theorem changeLeaf_ok {b db : Nat} {s : Pr} {fp f : Heap} {c : List Value} {x : Page} {kv pv : Value} {key : List UInt8} {put : Option Item} (id : Int) (hd : PgR S b db s fp) (hx : PageO S c x f) (hxR : Right x) (hk : Bs S Hr kv key) (hp : PutV S Hr pv put) (hpf : FineP put) (hw : Hp w0 F S (fp ++ (f ++ Hr)) w) :
 Calls Tryz.prog 109 #[.pointer (some ⟨b, 0, none⟩), .int .i64 id, .agg c.toArray, kv, pv] w fun e w' => ∃ S' fp' v f' t err, e = .returned (.tuple #[v, .bool t, .int .i64 err]) ∧ S.le S' ∧ PgR S' b db (s.changeLeaf id x key put).1 fp' ∧
  ((∃ ks, (s.changeLeaf id x key put).2.2 = .ok ks ∧ err = 0 ∧ t = (s.changeLeaf id x key put).2.1 ∧ KidsO S' v ks f' ∧ FineK ks ∧ ks.length ≤ 240) ∨ ((s.changeLeaf id x key put).2.2 = .error err ∧ err ≠ 0 ∧ v = .slice none 0 0 ∧ f' = [])) ∧ Hp w0 F S' (f' ++ (fp' ++ Hr)) w' := by
 obtain ⟨y4, y5, y6, y7, gi, gk, gd, gx, rfl, hpt, rfl⟩ := hx
 simp only [List.append_assoc] at hw
 obtain ⟨q1, q2, q3, q4⟩ := hxR.lens
 obtain ⟨a4, c4, rfl⟩ := hpt.items.form
 obtain ⟨a5, c5, rfl⟩ := hpt.kids.form
 obtain ⟨a6, c6, rfl⟩ := hpt.data.form
 obtain ⟨a7, c7, rfl⟩ := (show ∃ ad c, y7 = .slice ad x.ids.length c from Own.form hpt.ids)
 obtain ⟨pp, hpv, hpn⟩ : ∃ pp : Option Addr, pv = .pointer pp ∧ (pp.isNone = true ↔ put = none) := by
  cases put with
  | none => exact ⟨none, hp, by simp⟩
  | some y => obtain ⟨pb, c, h, _⟩ := hp; exact ⟨_, h, by simp⟩
 subst hpv
 obtain ⟨RZ, hRZ⟩ : ∃ R, s.changeLeaf id x key put = R := ⟨_, rfl⟩
 rw [hRZ]
 obtain ⟨i, hi⟩ : ∃ i, pos (x.items.map (·.key)) key = i := ⟨_, rfl⟩
 have hile : i ≤ x.items.length := by have := pos_le (x.items.map (·.key)) key; rw [hi, List.length_map] at this; exact this
 unfold Pr.changeLeaf at hRZ
 rw [hi] at hRZ
 refine enterA hw func109 rfl ntmps109 rfl rfl ?_
 refine sD ?_
 refine L.boxA rfl rfl rfl (fun b7 => ?_)
 refine sA rfl (sA rfl (sA rfl (sE ?_)))
 refine L.w rfl (V.fa rfl underlying125 rfl rfl sizeOf118) ?_
 refine L.w rfl (V.load rfl isAgg118 zAt (by rfl)) ?_
 refine sM rfl ?_
 refine L.call rfl rfl rfl call60 rfl (fun w hw => find_ok (l := x.items) (hpt.items.c (fun q hq => by simp [hq])) (hk.mono (Sees.of (.refl _) (fun q hq => by simp [hq]))) (by omega) hxR.itemsRise hw) ?_
 rintro _ a w hst ⟨rfl, hw⟩
 refine hst.go rfl hw ?_
 clear hst hw w a
 rw [hi]
 refine sM rfl (sX rfl (sX rfl (sA rfl (sA rfl (sN (sC (sD (sM rfl (sV rfl (sM rfl ?_))))))))))
 refine L.fork (d := 32) rfl (fun h32 => ?_) (fun h32 => ?_)
 ·try simp only [sq] at h32
  refine sM rfl ?_
  refine L.w rfl (V.eqlPtr rfl rfl underlying121) ?_
  refine sT rfl (sN ?_)
  refine C.cond rfl (fun h35 => ?_) (fun h35 => ?_)
  ·try simp only [sq] at h35
   refine sD (sA rfl (sA rfl (sA rfl (sN ?_))))
   refine R.ret3 results109 rfl rfl rfl (fun w hw => ?_)
   have hnk : ¬ key ∈ x.items.map (·.key) := by simpa using h32
   rw [if_neg hnk, if_pos (hpn.1 h35)] at hRZ
   subst hRZ
   exact ⟨S, fp, _, [], false, 0, rfl, .refl S, hd, .inl ⟨[], rfl, rfl, rfl, ⟨[], Own.nil _ _, trivial⟩, ⟨Nat.zero_le _, fun x hx => by cases hx⟩, Nat.zero_le _⟩, hw.sub zSub⟩
  ·try simp only [sq] at h35
   refine sK ?_
   refine C.join (α := Pr × Store × Value × List Item × Heap × Heap) (fun z => [(0, .pointer (some ⟨b, 0, none⟩)), (1, .int .i64 id), (3, kv), (4, .pointer pp), (7, .pointer (some ⟨b7, 0, none⟩)), (13, .int .i64 (i : Int)), (14, .bool (decide (key ∈ x.items.map (·.key))))])
    (fun z w => (RZ = leafEnd z.1 id (decide (key ∈ x.items.map (·.key))) i put z.2.2.2.1 ∧ i ≤ z.2.2.2.1.length ∧ S.le z.2.1 ∧ PgR z.2.1 b db z.1 z.2.2.2.2.1 ∧ ItemsO z.2.1 z.2.2.1 z.2.2.2.1 z.2.2.2.2.2 ∧ FineI z.2.2.2.1 ∧ z.2.2.2.1.length ≤ x.items.length) ∧ Hp w0 F z.2.1 ((b7, .cells (List.toArray [.int .i64 (x.kind : Int), .int .u64 (x.txn : Int), .int .i64 (x.next : Int), z.2.2.1, .slice a5 x.kids.length c5, .slice a6 x.data.length c6, .slice a7 x.ids.length c7]) 125 (0, 0)) :: (z.2.2.2.2.2 ++ (z.2.2.2.2.1 ++ Hr))) w) ?_ (fun z => ?_)
   ·skip
    refine sD (sM rfl (sN ?_))
    refine C.cond rfl (fun h36 => ?_) (fun h36 => ?_)
    ·try simp only [sq] at h36
     have hkin : key ∈ x.items.map (·.key) := by simpa using h36
     have hil : i < x.items.length := by have := pos_lt_of_mem hkin; rw [hi, List.length_map] at this; exact this
     have hic : Items S gi (.slice a4 x.items.length c4) x.items := hpt.items.c (fun q hq => hq)
     obtain ⟨b4, o4, cs4, T4, fz4, kv4, vv4, ha4, g1, g2, g3, g4, g5, g6⟩ := hic.at hil
     obtain ⟨it, hit⟩ : ∃ it, x.items[i] = it := ⟨_, rfl⟩
     have hio := hxR.items _ (List.getElem_mem hil)
     rw [hit] at g3 g4 g5 hio
     obtain ⟨l1, l2, l3, l4⟩ := hio.lens
     rw [if_pos hkin, List.getElem?_eq_getElem hil, hit] at hRZ
     dsimp only at hRZ
     have g7 := ext_get (vs := [kv4, vv4, .int .i64 (it.size : Int), .int .i64 (it.more : Int)]) g3 (j := 3) (by simp)
     have hdl : (x.items.take i ++ x.items.drop (i + 1)).length = x.items.length - 1 := by rw [List.length_append, List.length_take, List.length_drop]; omega
     have hf76 : FineI (x.items.take i ++ x.items.drop (i + 1)) := ⟨by omega, fun y hy => by
      have h8 := hxR.fineI.2 y
      rcases List.mem_append.1 hy with h | h
      ·exact h8 (List.mem_of_mem_take h)
      ·exact h8 (List.mem_of_mem_drop h)⟩
     refine sC (sD ?_)
     refine L.w rfl (V.fa rfl underlying125 rfl rfl sizeOf118) ?_
     refine L.w rfl (V.load rfl isAgg118 zAt (by rfl)) ?_
     refine sM rfl ?_
     refine L.w rfl (V.indexAddr (b := b4) (off := o4) (m := x.items.length) (c := c4) (j := i) (by rw [← ha4]; rfl) rfl underlying118 sizeOf112 rfl hil) ?_
     refine L.w rfl (V.fa rfl underlying112 rfl rfl sizeOf3) ?_
     refine L.w rfl (V.load rfl isAgg3 (.tail (.apr (.apl g1))) g7) ?_
     refine sQb rfl (sN ?_)
     refine C.cond rfl (fun h43 => ?_) (fun h43 => ?_)
     ·try simp only [sq] at h43
      have hm0 : ¬ it.more = 0 := by omega
      refine sD (sM rfl ?_)
      refine L.w rfl (V.fa rfl underlying125 rfl rfl sizeOf118) ?_
      refine L.w rfl (V.load rfl isAgg118 zAt (by rfl)) ?_
      refine sM rfl ?_
      refine L.w rfl (V.indexAddr (b := b4) (off := o4) (m := x.items.length) (c := c4) (j := i) (by rw [← ha4]; rfl) rfl underlying118 sizeOf112 rfl hil) ?_
      refine L.w rfl (V.loadN rfl isAgg112 sizeOf112 (.tail (.apr (.apl g1))) g2 g3) ?_
      refine L.call rfl rfl rfl call119 rfl (fun w hw => blob_ok (Hr := (b7, .cells #[.int .i64 (x.kind : Int), .int .u64 (x.txn : Int), .int .i64 (x.next : Int), .slice a4 x.items.length c4, .slice a5 x.kids.length c5, .slice a6 x.data.length c6, .slice a7 x.ids.length c7] 125 (0, 0)) :: (gi ++ (gk ++ (gd ++ (gx ++ Hr))))) (x := it) (c := [kv4, vv4, _, _]) hd ⟨_, _, rfl, g4, g5⟩ (by omega) (hw.re zRe)) ?_
      rintro _ a w hst ⟨S1, v1, v2, err, f1, f2, rfl, le1, hd1, hres, hw⟩
      refine hst.go rfl hw ?_
      clear hst hw w a
      obtain ⟨ids, hfr, hids, hidl⟩ : ∃ ids, s.freeIt it = dropsF s err ids ∧ Own 3 1 v2 ids.length ((intL ids).map iv) f2 ∧ ids.length ≤ 100001 := by
       rcases hres with ⟨out, ids, h1, h2, _, h4, h5⟩ | ⟨h1, h2, h3, h4, h5, h6⟩
       ·exact ⟨ids, by unfold Pr.freeIt; rw [if_neg hm0, h1, h2], h4, h5⟩
       ·exact ⟨[], by unfold Pr.freeIt; rw [if_neg hm0, h1]; rfl, by rw [h4, h6]; exact Own.nil _ _, by simp⟩
      clear hres
      obtain ⟨a2, c2, rfl⟩ := hids.form
      have hIs : Is S1 f2 (.slice a2 ids.length c2) (intL ids) := by unfold Is; rw [intL_len]; exact hids.rd (fun q hq => hq)
      refine sM rfl (sX rfl (sX rfl (sX rfl (sA rfl (sA rfl (sA rfl (sN (sC (sD (sM rfl ?_))))))))))
      refine L.w rfl (V.len rfl underlying37) ?_
      refine sM rfl (sN (sB ?_))
      refine C.loop (α := Nat × Pr × Int × Store × Heap) (fun z => [(0, .pointer (some ⟨b, 0, none⟩)), (1, .int .i64 id), (3, kv), (4, .pointer pp), (7, .pointer (some ⟨b7, 0, none⟩)), (13, .int .i64 (i : Int)), (14, .bool (decide (key ∈ x.items.map (·.key)))), (17, .int .i64 z.2.2.1), (55, .slice a2 ids.length c2), (56, .int .i64 (ids.length : Int)), (57, .int .i64 (z.1 : Int))])
       (fun z w => (s.freeIt it = dropsF z.2.1 z.2.2.1 (ids.drop z.1) ∧ z.1 ≤ ids.length ∧ S1.le z.2.2.2.1 ∧ PgR z.2.2.2.1 b db z.2.1 z.2.2.2.2) ∧ Hp w0 F z.2.2.2.1 ((b7, .cells #[.int .i64 (x.kind : Int), .int .u64 (x.txn : Int), .int .i64 (x.next : Int), .slice a4 x.items.length c4, .slice a5 x.kids.length c5, .slice a6 x.data.length c6, .slice a7 x.ids.length c7] 125 (0, 0)) :: (f2 ++ (z.2.2.2.2 ++ (gi ++ (gk ++ (gd ++ (gx ++ Hr))))))) w)
       (fun z => ids.length - z.1) (0, s, err, S1, fp) ⟨rfl, rfl, rfl, rfl, rfl, rfl, rfl, rfl, rfl, rfl, rfl, trivial⟩ (fun w hw => ⟨⟨hfr, Nat.zero_le _, .refl _, hd1⟩, Hp.re (hw.sub (H' := f2 ++ (fp ++ ((b7, .cells #[.int .i64 (x.kind : Int), .int .u64 (x.txn : Int), .int .i64 (x.next : Int), .slice a4 x.items.length c4, .slice a5 x.kids.length c5, .slice a6 x.data.length c6, .slice a7 x.ids.length c7] 125 (0, 0)) :: (gi ++ (gk ++ (gd ++ (gx ++ Hr))))))) zSub) zRe⟩) (fun zz => C.pure (fun hzz => ?_))
      obtain ⟨z, s2, e2, S2, fp2⟩ := zz
      obtain ⟨hF, hz, le2, hd2⟩ := hzz
      dsimp only at hF hz le2 hd2 ⊢
      refine sD (sQc rfl (sN (sC ?_)))
      refine C.cond rfl (fun h58 => ?_) (fun h58 => ?_)
      ·try simp only [sq] at h58
       have hj : z < ids.length := by omega
       obtain ⟨q, hq⟩ : ∃ q, ids[z] = q := ⟨_, rfl⟩
       rw [List.drop_eq_getElem_cons hj, hq, dropsF] at hF
       obtain ⟨b9, o9, cs9, T9, fz9, rfl, r1, r2⟩ := hIs.at (j := z) (by rw [intL_len]; exact hj)
       have r3 : cs9[o9 + z * 1]? = some (.int .i64 (q : Int)) := by rw [r2]; simp [intL, hq]
       refine sK (sC (sB (sD ?_)))
       refine L.w rfl (V.indexAddr rfl rfl underlying37 sizeOf3 rfl (by omega)) ?_
       refine L.w rfl (V.load rfl isAgg3 (.tail (.apl (Sees.le le2 _ _ _ r1))) r3) ?_
       refine sA rfl (sE (sM rfl (sQa rfl (sN ?_))))
       refine C.cond rfl (fun h62 => ?_) (fun h62 => ?_)
       ·try simp only [sq] at h62
        refine sR (sM rfl (sM rfl ?_))
        refine L.call rfl rfl rfl call112 rfl (fun w hw => pgDrop_ok (Hr := (b7, .cells #[.int .i64 (x.kind : Int), .int .u64 (x.txn : Int), .int .i64 (x.next : Int), .slice a4 x.items.length c4, .slice a5 x.kids.length c5, .slice a6 x.data.length c6, .slice a7 x.ids.length c7] 125 (0, 0)) :: (f2 ++ (gi ++ (gk ++ (gd ++ (gx ++ Hr)))))) hd2 (q : Int) (hw.re zRe)) ?_
        rintro _ a w hst ⟨S9, fp9, rfl, le9, hd9, hw⟩
        refine hst.go rfl hw ?_
        clear hst hw w a
        refine sA rfl ?_
        refine L.nil (N.blk (N.seq ?_))
        refine sR ?_
        refine L.w rfl (V.add (c := ((z + 1 : Nat) : Int)) rfl rfl (by rw [w64 (by omega) (by omega)]; omega)) ?_
        refine sM rfl ?_
        refine L.nil ?_
        first
         | exact N.round (z + 1, (s2.drop (q : Int)).1, (s2.drop (q : Int)).2, S9, fp9) (by show ids.length - (z + 1) < ids.length - z; omega) ⟨rfl, rfl, rfl, rfl, rfl, rfl, rfl, rfl, rfl, rfl, rfl, trivial⟩ (fun w hw => ⟨⟨by rw [hF, if_pos h62], by show z + 1 ≤ _; omega, le2.trans le9, hd9⟩, Hp.re hw zRe⟩)
         | exact N.round (z + 1, s2, e2, S2, fp2) (by show ids.length - (z + 1) < ids.length - z; omega) ⟨rfl, rfl, rfl, rfl, rfl, rfl, rfl, rfl, rfl, rfl, rfl, trivial⟩ (fun w hw => ⟨⟨by rw [hF, if_neg h62, dropsF_err h62], by show z + 1 ≤ _; omega, le2, hd2⟩, hw⟩)
       ·try simp only [sq] at h62
        refine C.skip (N.blk (N.seq ?_))
        refine sR ?_
        refine L.w rfl (V.add (c := ((z + 1 : Nat) : Int)) rfl rfl (by rw [w64 (by omega) (by omega)]; omega)) ?_
        refine sM rfl ?_
        refine L.nil ?_
        first
         | exact N.round (z + 1, (s2.drop (q : Int)).1, (s2.drop (q : Int)).2, S9, fp9) (by show ids.length - (z + 1) < ids.length - z; omega) ⟨rfl, rfl, rfl, rfl, rfl, rfl, rfl, rfl, rfl, rfl, rfl, trivial⟩ (fun w hw => ⟨⟨by rw [hF, if_pos h62], by show z + 1 ≤ _; omega, le2.trans le9, hd9⟩, Hp.re hw zRe⟩)
         | exact N.round (z + 1, s2, e2, S2, fp2) (by show ids.length - (z + 1) < ids.length - z; omega) ⟨rfl, rfl, rfl, rfl, rfl, rfl, rfl, rfl, rfl, rfl, rfl, trivial⟩ (fun w hw => ⟨⟨by rw [hF, if_neg h62, dropsF_err h62], by show z + 1 ≤ _; omega, le2, hd2⟩, hw⟩)
      ·try simp only [sq] at h58
       have ez : z = ids.length := by omega
       subst ez
       rw [List.drop_length, dropsF] at hF
       have le2 := le1.trans le2
       refine sZ rfl (sD (sM rfl (sQb rfl (sN ?_))))
       refine C.cond rfl (fun h68 => ?_) (fun h68 => ?_)
       ·try simp only [sq] at h68
        refine sD (sM rfl (sM rfl (sA rfl (sA rfl (sA rfl (sN ?_))))))
        refine R.ret3 results109 rfl rfl rfl (fun w hw => ?_)
        have h68 : e2 ≠ 0 := h68
        rw [hF, if_pos h68] at hRZ
        subst hRZ
        exact ⟨S2, fp2, _, [], _, e2, rfl, le2, hd2, .inr ⟨rfl, h68, rfl, rfl⟩, hw.sub zSub⟩
       ·try simp only [sq] at h68
        have h68 : e2 = 0 := h68
        have hRZ2 : leafEnd s2 id (decide (key ∈ x.items.map (·.key))) i put (x.items.take i ++ x.items.drop (i + 1)) = RZ := by
         rw [← hRZ, hF, decide_eq_true hkin, h68]; rfl
        refine sK (sR ?_)
        refine L.w rfl (V.fa rfl underlying125 rfl rfl sizeOf118) ?_
        refine L.w rfl (V.load rfl isAgg118 zAt (by rfl)) ?_
        refine sM rfl (sM rfl ?_)
        refine L.w rfl (V.add (c := ((i + 1 : Nat) : Int)) rfl rfl (by rw [w64 (by omega) (by omega)]; omega)) ?_
        first
         | refine L.call rfl rfl rfl call146 rfl (fun w hw => ItemsO.del (Hr := (b7, .cells #[.int .i64 (x.kind : Int), .int .u64 (x.txn : Int), .int .i64 (x.next : Int), .slice a4 x.items.length c4, .slice a5 x.kids.length c5, .slice a6 x.data.length c6, .slice a7 x.ids.length c7] 125 (0, 0)) :: (f2 ++ (fp2 ++ (gk ++ (gd ++ (gx ++ Hr)))))) (hpt.items.mono le2) hil (by omega) (hw.re zRe)) ?_
         | refine L.call rfl rfl rfl call146 rfl (fun w hw => ItemsO.del (Hr := (b7, .cells #[.int .i64 (x.kind : Int), .int .u64 (x.txn : Int), .int .i64 (x.next : Int), .slice a4 x.items.length c4, .slice a5 x.kids.length c5, .slice a6 x.data.length c6, .slice a7 x.ids.length c7] 125 (0, 0)) :: (fp ++ (gk ++ (gd ++ (gx ++ Hr))))) hpt.items hil (by omega) (hw.re zRe)) ?_
        rintro _ a w hst ⟨v76, f76, rfl, ho76, hw⟩
        refine hst.go rfl hw ?_
        clear hst hw w a
        obtain ⟨a76, c76, rfl⟩ := ho76.form
        refine L.w rfl (V.fa rfl underlying125 rfl rfl sizeOf118) ?_
        refine L.store rfl rfl rfl sizeOf118 rfl zUp zSet ?_
        refine L.nil ?_
        first
         | (refine N.join (s, S, .slice a4 x.items.length c4, x.items, fp, gi) ⟨rfl, rfl, rfl, rfl, rfl, rfl, rfl, trivial⟩ (fun w hw => ⟨⟨hRZ0.symm, hile, .refl S, hd, hpt.items, hxR.fineI, Nat.le_refl _⟩, Hp.re (H := (b7, .cells #[.int .i64 (x.kind : Int), .int .u64 (x.txn : Int), .int .i64 (x.next : Int), .slice a4 x.items.length c4, .slice a5 x.kids.length c5, .slice a6 x.data.length c6, .slice a7 x.ids.length c7] 125 (0, 0)) :: (fp ++ (gi ++ Hr))) (hw.sub ?_) zRe⟩); exact zSub)
         | (refine N.join (s, S, .slice a76 (x.items.take i ++ x.items.drop (i + 1)).length c76, x.items.take i ++ x.items.drop (i + 1), fp, f76) ⟨rfl, rfl, rfl, rfl, rfl, rfl, rfl, trivial⟩ (fun w hw => ⟨⟨hRZ1.symm, by show i ≤ (x.items.take i ++ x.items.drop (i + 1)).length; omega, .refl S, hd, ho76, hf76, by show (x.items.take i ++ x.items.drop (i + 1)).length ≤ _; omega⟩, Hp.re (H := f76 ++ ((b7, .cells (List.toArray [.int .i64 (x.kind : Int), .int .u64 (x.txn : Int), .int .i64 (x.next : Int), (.slice a76 (x.items.take i ++ x.items.drop (i + 1)).length c76), .slice a5 x.kids.length c5, .slice a6 x.data.length c6, .slice a7 x.ids.length c7]) 125 (0, 0)) :: (fp ++ Hr))) (hw.sub ?_) zRe⟩); exact zSub)
         | (refine N.join (s2, S2, .slice a76 (x.items.take i ++ x.items.drop (i + 1)).length c76, x.items.take i ++ x.items.drop (i + 1), fp2, f76) ⟨rfl, rfl, rfl, rfl, rfl, rfl, rfl, trivial⟩ (fun w hw => ⟨⟨hRZ2.symm, by show i ≤ (x.items.take i ++ x.items.drop (i + 1)).length; omega, le2, hd2, ho76, hf76, by show (x.items.take i ++ x.items.drop (i + 1)).length ≤ _; omega⟩, Hp.re (H := f76 ++ ((b7, .cells (List.toArray [.int .i64 (x.kind : Int), .int .u64 (x.txn : Int), .int .i64 (x.next : Int), (.slice a76 (x.items.take i ++ x.items.drop (i + 1)).length c76), .slice a5 x.kids.length c5, .slice a6 x.data.length c6, .slice a7 x.ids.length c7]) 125 (0, 0)) :: (fp2 ++ Hr))) (hw.sub ?_) zRe⟩); exact zSub)
     ·try simp only [sq] at h43
      have hm0 : it.more = 0 := by omega
      have hfr : s.freeIt it = (s, 0) := if_pos hm0
      have hRZ1 : leafEnd s id (decide (key ∈ x.items.map (·.key))) i put (x.items.take i ++ x.items.drop (i + 1)) = RZ := by
       rw [← hRZ, hfr, decide_eq_true hkin]; rfl
      refine sK (sR ?_)
      refine L.w rfl (V.fa rfl underlying125 rfl rfl sizeOf118) ?_
      refine L.w rfl (V.load rfl isAgg118 zAt (by rfl)) ?_
      refine sM rfl (sM rfl ?_)
      refine L.w rfl (V.add (c := ((i + 1 : Nat) : Int)) rfl rfl (by rw [w64 (by omega) (by omega)]; omega)) ?_
      first
       | refine L.call rfl rfl rfl call146 rfl (fun w hw => ItemsO.del (Hr := (b7, .cells #[.int .i64 (x.kind : Int), .int .u64 (x.txn : Int), .int .i64 (x.next : Int), .slice a4 x.items.length c4, .slice a5 x.kids.length c5, .slice a6 x.data.length c6, .slice a7 x.ids.length c7] 125 (0, 0)) :: (f2 ++ (fp2 ++ (gk ++ (gd ++ (gx ++ Hr)))))) (hpt.items.mono le2) hil (by omega) (hw.re zRe)) ?_
       | refine L.call rfl rfl rfl call146 rfl (fun w hw => ItemsO.del (Hr := (b7, .cells #[.int .i64 (x.kind : Int), .int .u64 (x.txn : Int), .int .i64 (x.next : Int), .slice a4 x.items.length c4, .slice a5 x.kids.length c5, .slice a6 x.data.length c6, .slice a7 x.ids.length c7] 125 (0, 0)) :: (fp ++ (gk ++ (gd ++ (gx ++ Hr))))) hpt.items hil (by omega) (hw.re zRe)) ?_
      rintro _ a w hst ⟨v76, f76, rfl, ho76, hw⟩
      refine hst.go rfl hw ?_
      clear hst hw w a
      obtain ⟨a76, c76, rfl⟩ := ho76.form
      refine L.w rfl (V.fa rfl underlying125 rfl rfl sizeOf118) ?_
      refine L.store rfl rfl rfl sizeOf118 rfl zUp zSet ?_
      refine L.nil ?_
      first
       | (refine N.join (s, S, .slice a4 x.items.length c4, x.items, fp, gi) ⟨rfl, rfl, rfl, rfl, rfl, rfl, rfl, trivial⟩ (fun w hw => ⟨⟨hRZ0.symm, hile, .refl S, hd, hpt.items, hxR.fineI, Nat.le_refl _⟩, Hp.re (H := (b7, .cells #[.int .i64 (x.kind : Int), .int .u64 (x.txn : Int), .int .i64 (x.next : Int), .slice a4 x.items.length c4, .slice a5 x.kids.length c5, .slice a6 x.data.length c6, .slice a7 x.ids.length c7] 125 (0, 0)) :: (fp ++ (gi ++ Hr))) (hw.sub ?_) zRe⟩); exact zSub)
       | (refine N.join (s, S, .slice a76 (x.items.take i ++ x.items.drop (i + 1)).length c76, x.items.take i ++ x.items.drop (i + 1), fp, f76) ⟨rfl, rfl, rfl, rfl, rfl, rfl, rfl, trivial⟩ (fun w hw => ⟨⟨hRZ1.symm, by show i ≤ (x.items.take i ++ x.items.drop (i + 1)).length; omega, .refl S, hd, ho76, hf76, by show (x.items.take i ++ x.items.drop (i + 1)).length ≤ _; omega⟩, Hp.re (H := f76 ++ ((b7, .cells (List.toArray [.int .i64 (x.kind : Int), .int .u64 (x.txn : Int), .int .i64 (x.next : Int), (.slice a76 (x.items.take i ++ x.items.drop (i + 1)).length c76), .slice a5 x.kids.length c5, .slice a6 x.data.length c6, .slice a7 x.ids.length c7]) 125 (0, 0)) :: (fp ++ Hr))) (hw.sub ?_) zRe⟩); exact zSub)
       | (refine N.join (s2, S2, .slice a76 (x.items.take i ++ x.items.drop (i + 1)).length c76, x.items.take i ++ x.items.drop (i + 1), fp2, f76) ⟨rfl, rfl, rfl, rfl, rfl, rfl, rfl, trivial⟩ (fun w hw => ⟨⟨hRZ2.symm, by show i ≤ (x.items.take i ++ x.items.drop (i + 1)).length; omega, le2, hd2, ho76, hf76, by show (x.items.take i ++ x.items.drop (i + 1)).length ≤ _; omega⟩, Hp.re (H := f76 ++ ((b7, .cells (List.toArray [.int .i64 (x.kind : Int), .int .u64 (x.txn : Int), .int .i64 (x.next : Int), (.slice a76 (x.items.take i ++ x.items.drop (i + 1)).length c76), .slice a5 x.kids.length c5, .slice a6 x.data.length c6, .slice a7 x.ids.length c7]) 125 (0, 0)) :: (fp2 ++ Hr))) (hw.sub ?_) zRe⟩); exact zSub)
    ·try simp only [sq] at h36
     have hnk : ¬ key ∈ x.items.map (·.key) := by simpa using h36
     have hRZ0 : leafEnd s id (decide (key ∈ x.items.map (·.key))) i put x.items = RZ := by
      rw [← hRZ, if_neg hnk, decide_eq_false hnk]
      split
      ·rename_i hpn0
       exfalso
       first
        | exact h35 (hpn.2 hpn0)
        | (have := hpn.2 hpn0; simp_all)
      ·rfl
     refine C.skip ?_
     first
      | (refine N.join (s, S, .slice a4 x.items.length c4, x.items, fp, gi) ⟨rfl, rfl, rfl, rfl, rfl, rfl, rfl, trivial⟩ (fun w hw => ⟨⟨hRZ0.symm, hile, .refl S, hd, hpt.items, hxR.fineI, Nat.le_refl _⟩, Hp.re (H := (b7, .cells #[.int .i64 (x.kind : Int), .int .u64 (x.txn : Int), .int .i64 (x.next : Int), .slice a4 x.items.length c4, .slice a5 x.kids.length c5, .slice a6 x.data.length c6, .slice a7 x.ids.length c7] 125 (0, 0)) :: (fp ++ (gi ++ Hr))) (hw.sub ?_) zRe⟩); exact zSub)
      | (refine N.join (s, S, .slice a76 (x.items.take i ++ x.items.drop (i + 1)).length c76, x.items.take i ++ x.items.drop (i + 1), fp, f76) ⟨rfl, rfl, rfl, rfl, rfl, rfl, rfl, trivial⟩ (fun w hw => ⟨⟨hRZ1.symm, by show i ≤ (x.items.take i ++ x.items.drop (i + 1)).length; omega, .refl S, hd, ho76, hf76, by show (x.items.take i ++ x.items.drop (i + 1)).length ≤ _; omega⟩, Hp.re (H := f76 ++ ((b7, .cells (List.toArray [.int .i64 (x.kind : Int), .int .u64 (x.txn : Int), .int .i64 (x.next : Int), (.slice a76 (x.items.take i ++ x.items.drop (i + 1)).length c76), .slice a5 x.kids.length c5, .slice a6 x.data.length c6, .slice a7 x.ids.length c7]) 125 (0, 0)) :: (fp ++ Hr))) (hw.sub ?_) zRe⟩); exact zSub)
      | (refine N.join (s2, S2, .slice a76 (x.items.take i ++ x.items.drop (i + 1)).length c76, x.items.take i ++ x.items.drop (i + 1), fp2, f76) ⟨rfl, rfl, rfl, rfl, rfl, rfl, rfl, trivial⟩ (fun w hw => ⟨⟨hRZ2.symm, by show i ≤ (x.items.take i ++ x.items.drop (i + 1)).length; omega, le2, hd2, ho76, hf76, by show (x.items.take i ++ x.items.drop (i + 1)).length ≤ _; omega⟩, Hp.re (H := f76 ++ ((b7, .cells (List.toArray [.int .i64 (x.kind : Int), .int .u64 (x.txn : Int), .int .i64 (x.next : Int), (.slice a76 (x.items.take i ++ x.items.drop (i + 1)).length c76), .slice a5 x.kids.length c5, .slice a6 x.data.length c6, .slice a7 x.ids.length c7]) 125 (0, 0)) :: (fp2 ++ Hr))) (hw.sub ?_) zRe⟩); exact zSub)
   ·skip
    refine C.pure (fun hz => ?_)
    obtain ⟨s3, S3, v5, its, fp3, f5⟩ := z
    obtain ⟨hF, hil3, le3, hd3, ho5, hfi5, hl5⟩ := hz
    dsimp only at hF hil3 le3 hd3 ho5 hfi5 hl5 ⊢
    obtain ⟨av5, cv5, rfl⟩ := ho5.form
    have hp3 := hp.mono le3 (fun q hq => hq)
    refine sC (sD (sM rfl ?_))
    refine L.w rfl (V.neqPtr rfl rfl underlying121) ?_
    refine sN ?_
    refine C.cond rfl (fun h79 => ?_) (fun h79 => ?_)
    ·try simp only [sq] at h79
     obtain ⟨pi, hpi⟩ : ∃ pi, put = some pi := by
      cases hput : put with
      | some pi => exact ⟨pi, rfl⟩
      | none => have := hpn.2 hput; simp_all
     rw [hpi] at hp3 hF
     obtain ⟨pb, pc, hpe, hpa, hpc⟩ := hp3
     injection hpe with hpe
     subst hpe
     obtain ⟨pkv, pvv, rfl, hpk, hpv⟩ := hpc
     have hpf2 := hpf pi hpi
     have hil4 : (its.take i ++ [pi] ++ its.drop i).length = its.length + 1 := by rw [List.length_append, List.length_append, List.length_take, List.length_drop, List.length_singleton]; omega
     have hfi87 : FineI (its.take i ++ [pi] ++ its.drop i) := ⟨by omega, fun y hy => by
      have h8 := hfi5.2 y
      rcases List.mem_append.1 hy with h | h
      ·rcases List.mem_append.1 h with h | h
       ·exact h8 (List.mem_of_mem_take h)
       ·rw [List.mem_singleton] at h; subst h; exact hpf2
      ·exact h8 (List.mem_of_mem_drop h)⟩
     refine C.drawC [9] (Hp w0 F S3 ((b7, .cells (List.toArray [.int .i64 (x.kind : Int), .int .u64 (x.txn : Int), .int .i64 (x.next : Int), .slice av5 its.length cv5, .slice a5 x.kids.length c5, .slice a6 x.data.length c6, .slice a7 x.ids.length c7]) 125 (0, 0)) :: Hr)) (fun w h => h.sub zSub) (by kernel_rfl) rfl (fun w hw => hw.drawn _) ?_
     refine D.take 0 (listed' := #[true, false, false, false, false, false, false, false, false, false]) rfl (by kernel_rfl) rfl rfl rfl rfl (V.fa rfl underlying125 rfl rfl sizeOf118) (fun w h => h.sub zSub) ?_
     refine D.take 1 (listed' := #[true, true, false, false, false, false, false, false, false, false]) rfl (by kernel_rfl) rfl rfl rfl rfl (V.load rfl isAgg118 zAt (by rfl)) (fun w h => h.sub zSub) ?_
     refine D.take 2 (listed' := #[true, true, true, false, false, false, false, false, false, false]) rfl (by kernel_rfl) rfl rfl rfl rfl (V.move rfl) (fun w h => h.sub zSub) ?_
     refine D.take 3 (listed' := #[true, true, true, true, false, false, false, false, false, false]) rfl (by kernel_rfl) rfl rfl rfl rfl (V.move rfl) (fun w h => h.sub zSub) ?_
     refine D.take 4 (listed' := #[true, true, true, true, true, false, false, false, false, false]) rfl (by kernel_rfl) rfl rfl rfl rfl (V.nilCheck rfl) (fun w h => h.sub zSub) ?_
     refine D.take 5 (listed' := #[true, true, true, true, true, true, false, false, false, false]) rfl (by kernel_rfl) rfl rfl rfl rfl (V.loadBox rfl isAgg112 sizeOf112 (.tail hpa) rfl) (fun w h => h.sub zSub) ?_
     refine D.step 6 (listed' := #[true, true, true, true, true, true, true, false, false, false]) (by kernel_rfl) rfl rfl (.inr (fun w h => h.sub zSub)) ?_
     refine L.slice1 rfl rfl rfl underlying118 sizeOf112 zeroValue112 rfl (by decide) (by decide) (vs := [pkv, pvv, .int .i64 (pi.size : Int), .int .i64 (pi.more : Int)]) rfl rfl (fun b86 => ?_)
     refine D.back ?_
     refine D.step 7 (listed' := #[true, true, true, true, true, true, true, true, false, false]) (by kernel_rfl) rfl rfl (.inr (fun w h => h.sub zSub)) ?_
     refine L.call rfl rfl rfl call147 rfl (fun w hw => ItemsO.ins (Hr := (b7, .cells (List.toArray [.int .i64 (x.kind : Int), .int .u64 (x.txn : Int), .int .i64 (x.next : Int), .slice av5 its.length cv5, .slice a5 x.kids.length c5, .slice a6 x.data.length c6, .slice a7 x.ids.length c7]) 125 (0, 0)) :: (fp3 ++ Hr)) ho5 ⟨_, _, rfl, hpk, hpv⟩ hil3 (by omega) (hw.re zRe)) ?_
     rintro _ a w hst ⟨v87, f87, rfl, ho87, hw⟩
     refine hst.go rfl hw ?_
     clear hst hw w a
     obtain ⟨a87, c87, rfl⟩ := ho87.form
     refine D.back ?_
     refine D.step 8 (listed' := #[true, true, true, true, true, true, true, true, true, false]) (by kernel_rfl) rfl rfl (.inr (fun w h => h.sub zSub)) ?_
     refine L.w rfl (V.fa rfl underlying125 rfl rfl sizeOf118) ?_
     refine D.back ?_
     refine D.step 9 (listed' := #[true, true, true, true, true, true, true, true, true, true]) (by kernel_rfl) rfl rfl (.inr (fun w h => h.sub zSub)) ?_
     refine L.store rfl rfl rfl sizeOf118 rfl zUp zSet ?_
     refine D.back ?_
     refine D.done (by kernel_rfl) (.inl ⟨9, by simp, rfl⟩) (N.seq ?_)
     refine sC (sD (sM rfl (sM rfl ?_)))
     first
      | (refine L.call rfl rfl rfl call112 rfl (fun w hw => pgDrop_ok (Hr := (b7, .cells (List.toArray [.int .i64 (x.kind : Int), .int .u64 (x.txn : Int), .int .i64 (x.next : Int), .slice a87 (its.take i ++ [pi] ++ its.drop i).length c87, .slice a5 x.kids.length c5, .slice a6 x.data.length c6, .slice a7 x.ids.length c7]) 125 (0, 0)) :: (f87 ++ Hr)) hd3 id (hw.re ?_)) ?_
         ·exact zRe)
      | (refine L.call rfl rfl rfl call112 rfl (fun w hw => pgDrop_ok (Hr := (b7, .cells (List.toArray [.int .i64 (x.kind : Int), .int .u64 (x.txn : Int), .int .i64 (x.next : Int), .slice av5 its.length cv5, .slice a5 x.kids.length c5, .slice a6 x.data.length c6, .slice a7 x.ids.length c7]) 125 (0, 0)) :: (f5 ++ Hr)) hd3 id (hw.re ?_)) ?_
         ·exact zRe)
     rintro _ a w hst ⟨S4, fp4, rfl, le4, hd4, hw⟩
     refine hst.go rfl hw ?_
     clear hst hw w a
     refine sA rfl (sE (sM rfl (sQb rfl (sN ?_))))
     refine C.cond rfl (fun h93 => ?_) (fun h93 => ?_)
     ·try simp only [sq] at h93
      refine sD (sM rfl (sM rfl (sA rfl (sA rfl (sA rfl (sN ?_))))))
      refine R.ret3 results109 rfl rfl rfl (fun w hw => ?_)
      have h93 : (s3.drop id).2 ≠ 0 := h93
      unfold leafEnd at hF
      rw [if_pos h93] at hF
      subst hF
      exact ⟨S4, fp4, _, [], _, _, rfl, le3.trans le4, hd4, .inr ⟨rfl, h93, rfl, rfl⟩, hw.sub zSub⟩
     ·try simp only [sq] at h93
      have h93 : ¬ (s3.drop id).2 ≠ 0 := fun h => h h93
      unfold leafEnd at hF
      rw [if_neg h93] at hF
      refine sK (sD (sM rfl ?_))
      refine L.w rfl (V.fa rfl underlying125 rfl rfl sizeOf118) ?_
      refine L.w rfl (V.load rfl isAgg118 zAt (by rfl)) ?_
      first
       | (refine L.call rfl rfl rfl call55 rfl (fun w hw => leaves_ok (l := its.take i ++ [pi] ++ its.drop i) (Hr := (b7, .cells (List.toArray [.int .i64 (x.kind : Int), .int .u64 (x.txn : Int), .int .i64 (x.next : Int), .slice a87 (its.take i ++ [pi] ++ its.drop i).length c87, .slice a5 x.kids.length c5, .slice a6 x.data.length c6, .slice a7 x.ids.length c7]) 125 (0, 0)) :: (f87 ++ Hr)) hd4 (ho87.c (fun q hq => by simp [hq]) |>.mono le4 (fun q hq => hq)) hfi87 (hw.re ?_)) ?_
          ·exact zRe)
       | (refine L.call rfl rfl rfl call55 rfl (fun w hw => leaves_ok (l := its) (Hr := (b7, .cells (List.toArray [.int .i64 (x.kind : Int), .int .u64 (x.txn : Int), .int .i64 (x.next : Int), .slice av5 its.length cv5, .slice a5 x.kids.length c5, .slice a6 x.data.length c6, .slice a7 x.ids.length c7]) 125 (0, 0)) :: (f5 ++ Hr)) hd4 (ho5.c (fun q hq => by simp [hq]) |>.mono le4 (fun q hq => hq)) hfi5 (hw.re ?_)) ?_
          ·exact zRe)
      rintro _ a w hst ⟨S5, fp5, v5, f5, err, rfl, le5, hd5, hres, hw⟩
      refine hst.go rfl hw ?_
      clear hst hw w a
      refine sM rfl (sX rfl (sX rfl (sA rfl (sA rfl (sE (sM rfl (sM rfl (sM rfl (sA rfl (sA rfl (sA rfl (sN ?_))))))))))))
      refine R.ret3 results109 rfl rfl rfl (fun w hw => ?_)
      subst hF
      refine ⟨S5, fp5, v5, f5, _, err, rfl, le3.trans (le4.trans le5), hd5, ?_, hw.sub zSub⟩
      rcases hres with ⟨ks, h1, h2, h3, h4, h5⟩ | ⟨h1, h2, h3, h4⟩
      ·exact .inl ⟨ks, h1, h2, rfl, h3, h4, by omega⟩
      ·exact .inr ⟨h1, h2, h3, h4⟩
    ·try simp only [sq] at h79
     have hpi : put = none := by
      cases hput : put with
      | none => rfl
      | some pi => rw [hput] at hpn; cases pp <;> simp_all
     rw [hpi] at hF
     refine sK (sC (sD (sM rfl (sM rfl ?_))))
     first
      | (refine L.call rfl rfl rfl call112 rfl (fun w hw => pgDrop_ok (Hr := (b7, .cells (List.toArray [.int .i64 (x.kind : Int), .int .u64 (x.txn : Int), .int .i64 (x.next : Int), .slice a87 (its.take i ++ [pi] ++ its.drop i).length c87, .slice a5 x.kids.length c5, .slice a6 x.data.length c6, .slice a7 x.ids.length c7]) 125 (0, 0)) :: (f87 ++ Hr)) hd3 id (hw.re ?_)) ?_
         ·exact zRe)
      | (refine L.call rfl rfl rfl call112 rfl (fun w hw => pgDrop_ok (Hr := (b7, .cells (List.toArray [.int .i64 (x.kind : Int), .int .u64 (x.txn : Int), .int .i64 (x.next : Int), .slice av5 its.length cv5, .slice a5 x.kids.length c5, .slice a6 x.data.length c6, .slice a7 x.ids.length c7]) 125 (0, 0)) :: (f5 ++ Hr)) hd3 id (hw.re ?_)) ?_
         ·exact zRe)
     rintro _ a w hst ⟨S4, fp4, rfl, le4, hd4, hw⟩
     refine hst.go rfl hw ?_
     clear hst hw w a
     refine sA rfl (sE (sM rfl (sQb rfl (sN ?_))))
     refine C.cond rfl (fun h93 => ?_) (fun h93 => ?_)
     ·try simp only [sq] at h93
      refine sD (sM rfl (sM rfl (sA rfl (sA rfl (sA rfl (sN ?_))))))
      refine R.ret3 results109 rfl rfl rfl (fun w hw => ?_)
      have h93 : (s3.drop id).2 ≠ 0 := h93
      unfold leafEnd at hF
      rw [if_pos h93] at hF
      subst hF
      exact ⟨S4, fp4, _, [], _, _, rfl, le3.trans le4, hd4, .inr ⟨rfl, h93, rfl, rfl⟩, hw.sub zSub⟩
     ·try simp only [sq] at h93
      have h93 : ¬ (s3.drop id).2 ≠ 0 := fun h => h h93
      unfold leafEnd at hF
      rw [if_neg h93] at hF
      refine sK (sD (sM rfl ?_))
      refine L.w rfl (V.fa rfl underlying125 rfl rfl sizeOf118) ?_
      refine L.w rfl (V.load rfl isAgg118 zAt (by rfl)) ?_
      first
       | (refine L.call rfl rfl rfl call55 rfl (fun w hw => leaves_ok (l := its.take i ++ [pi] ++ its.drop i) (Hr := (b7, .cells (List.toArray [.int .i64 (x.kind : Int), .int .u64 (x.txn : Int), .int .i64 (x.next : Int), .slice a87 (its.take i ++ [pi] ++ its.drop i).length c87, .slice a5 x.kids.length c5, .slice a6 x.data.length c6, .slice a7 x.ids.length c7]) 125 (0, 0)) :: (f87 ++ Hr)) hd4 (ho87.c (fun q hq => by simp [hq]) |>.mono le4 (fun q hq => hq)) hfi87 (hw.re ?_)) ?_
          ·exact zRe)
       | (refine L.call rfl rfl rfl call55 rfl (fun w hw => leaves_ok (l := its) (Hr := (b7, .cells (List.toArray [.int .i64 (x.kind : Int), .int .u64 (x.txn : Int), .int .i64 (x.next : Int), .slice av5 its.length cv5, .slice a5 x.kids.length c5, .slice a6 x.data.length c6, .slice a7 x.ids.length c7]) 125 (0, 0)) :: (f5 ++ Hr)) hd4 (ho5.c (fun q hq => by simp [hq]) |>.mono le4 (fun q hq => hq)) hfi5 (hw.re ?_)) ?_
          ·exact zRe)
      rintro _ a w hst ⟨S5, fp5, v5, f5, err, rfl, le5, hd5, hres, hw⟩
      refine hst.go rfl hw ?_
      clear hst hw w a
      refine sM rfl (sX rfl (sX rfl (sA rfl (sA rfl (sE (sM rfl (sM rfl (sM rfl (sA rfl (sA rfl (sA rfl (sN ?_))))))))))))
      refine R.ret3 results109 rfl rfl rfl (fun w hw => ?_)
      subst hF
      refine ⟨S5, fp5, v5, f5, _, err, rfl, le3.trans (le4.trans le5), hd5, ?_, hw.sub zSub⟩
      rcases hres with ⟨ks, h1, h2, h3, h4, h5⟩ | ⟨h1, h2, h3, h4⟩
      ·exact .inl ⟨ks, h1, h2, rfl, h3, h4, by omega⟩
      ·exact .inr ⟨h1, h2, h3, h4⟩
 ·try simp only [sq] at h32
  refine sS rfl (sS rfl (sU rfl (sN (sP rfl (sK ?_)))))
  refine C.join (α := Pr × Store × Value × List Item × Heap × Heap) (fun z => [(0, .pointer (some ⟨b, 0, none⟩)), (1, .int .i64 id), (3, kv), (4, .pointer pp), (7, .pointer (some ⟨b7, 0, none⟩)), (13, .int .i64 (i : Int)), (14, .bool (decide (key ∈ x.items.map (·.key))))])
   (fun z w => (RZ = leafEnd z.1 id (decide (key ∈ x.items.map (·.key))) i put z.2.2.2.1 ∧ i ≤ z.2.2.2.1.length ∧ S.le z.2.1 ∧ PgR z.2.1 b db z.1 z.2.2.2.2.1 ∧ ItemsO z.2.1 z.2.2.1 z.2.2.2.1 z.2.2.2.2.2 ∧ FineI z.2.2.2.1 ∧ z.2.2.2.1.length ≤ x.items.length) ∧ Hp w0 F z.2.1 ((b7, .cells (List.toArray [.int .i64 (x.kind : Int), .int .u64 (x.txn : Int), .int .i64 (x.next : Int), z.2.2.1, .slice a5 x.kids.length c5, .slice a6 x.data.length c6, .slice a7 x.ids.length c7]) 125 (0, 0)) :: (z.2.2.2.2.2 ++ (z.2.2.2.2.1 ++ Hr))) w) ?_ (fun z => ?_)
  ·skip
   refine sD (sM rfl (sN ?_))
   refine C.cond rfl (fun h36 => ?_) (fun h36 => ?_)
   ·try simp only [sq] at h36
    have hkin : key ∈ x.items.map (·.key) := by simpa using h36
    have hil : i < x.items.length := by have := pos_lt_of_mem hkin; rw [hi, List.length_map] at this; exact this
    have hic : Items S gi (.slice a4 x.items.length c4) x.items := hpt.items.c (fun q hq => hq)
    obtain ⟨b4, o4, cs4, T4, fz4, kv4, vv4, ha4, g1, g2, g3, g4, g5, g6⟩ := hic.at hil
    obtain ⟨it, hit⟩ : ∃ it, x.items[i] = it := ⟨_, rfl⟩
    have hio := hxR.items _ (List.getElem_mem hil)
    rw [hit] at g3 g4 g5 hio
    obtain ⟨l1, l2, l3, l4⟩ := hio.lens
    rw [if_pos hkin, List.getElem?_eq_getElem hil, hit] at hRZ
    dsimp only at hRZ
    have g7 := ext_get (vs := [kv4, vv4, .int .i64 (it.size : Int), .int .i64 (it.more : Int)]) g3 (j := 3) (by simp)
    have hdl : (x.items.take i ++ x.items.drop (i + 1)).length = x.items.length - 1 := by rw [List.length_append, List.length_take, List.length_drop]; omega
    have hf76 : FineI (x.items.take i ++ x.items.drop (i + 1)) := ⟨by omega, fun y hy => by
     have h8 := hxR.fineI.2 y
     rcases List.mem_append.1 hy with h | h
     ·exact h8 (List.mem_of_mem_take h)
     ·exact h8 (List.mem_of_mem_drop h)⟩
    refine sC (sD ?_)
    refine L.w rfl (V.fa rfl underlying125 rfl rfl sizeOf118) ?_
    refine L.w rfl (V.load rfl isAgg118 zAt (by rfl)) ?_
    refine sM rfl ?_
    refine L.w rfl (V.indexAddr (b := b4) (off := o4) (m := x.items.length) (c := c4) (j := i) (by rw [← ha4]; rfl) rfl underlying118 sizeOf112 rfl hil) ?_
    refine L.w rfl (V.fa rfl underlying112 rfl rfl sizeOf3) ?_
    refine L.w rfl (V.load rfl isAgg3 (.tail (.apr (.apl g1))) g7) ?_
    refine sQb rfl (sN ?_)
    refine C.cond rfl (fun h43 => ?_) (fun h43 => ?_)
    ·try simp only [sq] at h43
     have hm0 : ¬ it.more = 0 := by omega
     refine sD (sM rfl ?_)
     refine L.w rfl (V.fa rfl underlying125 rfl rfl sizeOf118) ?_
     refine L.w rfl (V.load rfl isAgg118 zAt (by rfl)) ?_
     refine sM rfl ?_
     refine L.w rfl (V.indexAddr (b := b4) (off := o4) (m := x.items.length) (c := c4) (j := i) (by rw [← ha4]; rfl) rfl underlying118 sizeOf112 rfl hil) ?_
     refine L.w rfl (V.loadN rfl isAgg112 sizeOf112 (.tail (.apr (.apl g1))) g2 g3) ?_
     refine L.call rfl rfl rfl call119 rfl (fun w hw => blob_ok (Hr := (b7, .cells #[.int .i64 (x.kind : Int), .int .u64 (x.txn : Int), .int .i64 (x.next : Int), .slice a4 x.items.length c4, .slice a5 x.kids.length c5, .slice a6 x.data.length c6, .slice a7 x.ids.length c7] 125 (0, 0)) :: (gi ++ (gk ++ (gd ++ (gx ++ Hr))))) (x := it) (c := [kv4, vv4, _, _]) hd ⟨_, _, rfl, g4, g5⟩ (by omega) (hw.re zRe)) ?_
     rintro _ a w hst ⟨S1, v1, v2, err, f1, f2, rfl, le1, hd1, hres, hw⟩
     refine hst.go rfl hw ?_
     clear hst hw w a
     obtain ⟨ids, hfr, hids, hidl⟩ : ∃ ids, s.freeIt it = dropsF s err ids ∧ Own 3 1 v2 ids.length ((intL ids).map iv) f2 ∧ ids.length ≤ 100001 := by
      rcases hres with ⟨out, ids, h1, h2, _, h4, h5⟩ | ⟨h1, h2, h3, h4, h5, h6⟩
      ·exact ⟨ids, by unfold Pr.freeIt; rw [if_neg hm0, h1, h2], h4, h5⟩
      ·exact ⟨[], by unfold Pr.freeIt; rw [if_neg hm0, h1]; rfl, by rw [h4, h6]; exact Own.nil _ _, by simp⟩
     clear hres
     obtain ⟨a2, c2, rfl⟩ := hids.form
     have hIs : Is S1 f2 (.slice a2 ids.length c2) (intL ids) := by unfold Is; rw [intL_len]; exact hids.rd (fun q hq => hq)
     refine sM rfl (sX rfl (sX rfl (sX rfl (sA rfl (sA rfl (sA rfl (sN (sC (sD (sM rfl ?_))))))))))
     refine L.w rfl (V.len rfl underlying37) ?_
     refine sM rfl (sN (sB ?_))
     refine C.loop (α := Nat × Pr × Int × Store × Heap) (fun z => [(0, .pointer (some ⟨b, 0, none⟩)), (1, .int .i64 id), (3, kv), (4, .pointer pp), (7, .pointer (some ⟨b7, 0, none⟩)), (13, .int .i64 (i : Int)), (14, .bool (decide (key ∈ x.items.map (·.key)))), (17, .int .i64 z.2.2.1), (55, .slice a2 ids.length c2), (56, .int .i64 (ids.length : Int)), (57, .int .i64 (z.1 : Int))])
      (fun z w => (s.freeIt it = dropsF z.2.1 z.2.2.1 (ids.drop z.1) ∧ z.1 ≤ ids.length ∧ S1.le z.2.2.2.1 ∧ PgR z.2.2.2.1 b db z.2.1 z.2.2.2.2) ∧ Hp w0 F z.2.2.2.1 ((b7, .cells #[.int .i64 (x.kind : Int), .int .u64 (x.txn : Int), .int .i64 (x.next : Int), .slice a4 x.items.length c4, .slice a5 x.kids.length c5, .slice a6 x.data.length c6, .slice a7 x.ids.length c7] 125 (0, 0)) :: (f2 ++ (z.2.2.2.2 ++ (gi ++ (gk ++ (gd ++ (gx ++ Hr))))))) w)
      (fun z => ids.length - z.1) (0, s, err, S1, fp) ⟨rfl, rfl, rfl, rfl, rfl, rfl, rfl, rfl, rfl, rfl, rfl, trivial⟩ (fun w hw => ⟨⟨hfr, Nat.zero_le _, .refl _, hd1⟩, Hp.re (hw.sub (H' := f2 ++ (fp ++ ((b7, .cells #[.int .i64 (x.kind : Int), .int .u64 (x.txn : Int), .int .i64 (x.next : Int), .slice a4 x.items.length c4, .slice a5 x.kids.length c5, .slice a6 x.data.length c6, .slice a7 x.ids.length c7] 125 (0, 0)) :: (gi ++ (gk ++ (gd ++ (gx ++ Hr))))))) zSub) zRe⟩) (fun zz => C.pure (fun hzz => ?_))
     obtain ⟨z, s2, e2, S2, fp2⟩ := zz
     obtain ⟨hF, hz, le2, hd2⟩ := hzz
     dsimp only at hF hz le2 hd2 ⊢
     refine sD (sQc rfl (sN (sC ?_)))
     refine C.cond rfl (fun h58 => ?_) (fun h58 => ?_)
     ·try simp only [sq] at h58
      have hj : z < ids.length := by omega
      obtain ⟨q, hq⟩ : ∃ q, ids[z] = q := ⟨_, rfl⟩
      rw [List.drop_eq_getElem_cons hj, hq, dropsF] at hF
      obtain ⟨b9, o9, cs9, T9, fz9, rfl, r1, r2⟩ := hIs.at (j := z) (by rw [intL_len]; exact hj)
      have r3 : cs9[o9 + z * 1]? = some (.int .i64 (q : Int)) := by rw [r2]; simp [intL, hq]
      refine sK (sC (sB (sD ?_)))
      refine L.w rfl (V.indexAddr rfl rfl underlying37 sizeOf3 rfl (by omega)) ?_
      refine L.w rfl (V.load rfl isAgg3 (.tail (.apl (Sees.le le2 _ _ _ r1))) r3) ?_
      refine sA rfl (sE (sM rfl (sQa rfl (sN ?_))))
      refine C.cond rfl (fun h62 => ?_) (fun h62 => ?_)
      ·try simp only [sq] at h62
       refine sR (sM rfl (sM rfl ?_))
       refine L.call rfl rfl rfl call112 rfl (fun w hw => pgDrop_ok (Hr := (b7, .cells #[.int .i64 (x.kind : Int), .int .u64 (x.txn : Int), .int .i64 (x.next : Int), .slice a4 x.items.length c4, .slice a5 x.kids.length c5, .slice a6 x.data.length c6, .slice a7 x.ids.length c7] 125 (0, 0)) :: (f2 ++ (gi ++ (gk ++ (gd ++ (gx ++ Hr)))))) hd2 (q : Int) (hw.re zRe)) ?_
       rintro _ a w hst ⟨S9, fp9, rfl, le9, hd9, hw⟩
       refine hst.go rfl hw ?_
       clear hst hw w a
       refine sA rfl ?_
       refine L.nil (N.blk (N.seq ?_))
       refine sR ?_
       refine L.w rfl (V.add (c := ((z + 1 : Nat) : Int)) rfl rfl (by rw [w64 (by omega) (by omega)]; omega)) ?_
       refine sM rfl ?_
       refine L.nil ?_
       first
        | exact N.round (z + 1, (s2.drop (q : Int)).1, (s2.drop (q : Int)).2, S9, fp9) (by show ids.length - (z + 1) < ids.length - z; omega) ⟨rfl, rfl, rfl, rfl, rfl, rfl, rfl, rfl, rfl, rfl, rfl, trivial⟩ (fun w hw => ⟨⟨by rw [hF, if_pos h62], by show z + 1 ≤ _; omega, le2.trans le9, hd9⟩, Hp.re hw zRe⟩)
        | exact N.round (z + 1, s2, e2, S2, fp2) (by show ids.length - (z + 1) < ids.length - z; omega) ⟨rfl, rfl, rfl, rfl, rfl, rfl, rfl, rfl, rfl, rfl, rfl, trivial⟩ (fun w hw => ⟨⟨by rw [hF, if_neg h62, dropsF_err h62], by show z + 1 ≤ _; omega, le2, hd2⟩, hw⟩)
      ·try simp only [sq] at h62
       refine C.skip (N.blk (N.seq ?_))
       refine sR ?_
       refine L.w rfl (V.add (c := ((z + 1 : Nat) : Int)) rfl rfl (by rw [w64 (by omega) (by omega)]; omega)) ?_
       refine sM rfl ?_
       refine L.nil ?_
       first
        | exact N.round (z + 1, (s2.drop (q : Int)).1, (s2.drop (q : Int)).2, S9, fp9) (by show ids.length - (z + 1) < ids.length - z; omega) ⟨rfl, rfl, rfl, rfl, rfl, rfl, rfl, rfl, rfl, rfl, rfl, trivial⟩ (fun w hw => ⟨⟨by rw [hF, if_pos h62], by show z + 1 ≤ _; omega, le2.trans le9, hd9⟩, Hp.re hw zRe⟩)
        | exact N.round (z + 1, s2, e2, S2, fp2) (by show ids.length - (z + 1) < ids.length - z; omega) ⟨rfl, rfl, rfl, rfl, rfl, rfl, rfl, rfl, rfl, rfl, rfl, trivial⟩ (fun w hw => ⟨⟨by rw [hF, if_neg h62, dropsF_err h62], by show z + 1 ≤ _; omega, le2, hd2⟩, hw⟩)
     ·try simp only [sq] at h58
      have ez : z = ids.length := by omega
      subst ez
      rw [List.drop_length, dropsF] at hF
      have le2 := le1.trans le2
      refine sZ rfl (sD (sM rfl (sQb rfl (sN ?_))))
      refine C.cond rfl (fun h68 => ?_) (fun h68 => ?_)
      ·try simp only [sq] at h68
       refine sD (sM rfl (sM rfl (sA rfl (sA rfl (sA rfl (sN ?_))))))
       refine R.ret3 results109 rfl rfl rfl (fun w hw => ?_)
       have h68 : e2 ≠ 0 := h68
       rw [hF, if_pos h68] at hRZ
       subst hRZ
       exact ⟨S2, fp2, _, [], _, e2, rfl, le2, hd2, .inr ⟨rfl, h68, rfl, rfl⟩, hw.sub zSub⟩
      ·try simp only [sq] at h68
       have h68 : e2 = 0 := h68
       have hRZ2 : leafEnd s2 id (decide (key ∈ x.items.map (·.key))) i put (x.items.take i ++ x.items.drop (i + 1)) = RZ := by
        rw [← hRZ, hF, decide_eq_true hkin, h68]; rfl
       refine sK (sR ?_)
       refine L.w rfl (V.fa rfl underlying125 rfl rfl sizeOf118) ?_
       refine L.w rfl (V.load rfl isAgg118 zAt (by rfl)) ?_
       refine sM rfl (sM rfl ?_)
       refine L.w rfl (V.add (c := ((i + 1 : Nat) : Int)) rfl rfl (by rw [w64 (by omega) (by omega)]; omega)) ?_
       first
        | refine L.call rfl rfl rfl call146 rfl (fun w hw => ItemsO.del (Hr := (b7, .cells #[.int .i64 (x.kind : Int), .int .u64 (x.txn : Int), .int .i64 (x.next : Int), .slice a4 x.items.length c4, .slice a5 x.kids.length c5, .slice a6 x.data.length c6, .slice a7 x.ids.length c7] 125 (0, 0)) :: (f2 ++ (fp2 ++ (gk ++ (gd ++ (gx ++ Hr)))))) (hpt.items.mono le2) hil (by omega) (hw.re zRe)) ?_
        | refine L.call rfl rfl rfl call146 rfl (fun w hw => ItemsO.del (Hr := (b7, .cells #[.int .i64 (x.kind : Int), .int .u64 (x.txn : Int), .int .i64 (x.next : Int), .slice a4 x.items.length c4, .slice a5 x.kids.length c5, .slice a6 x.data.length c6, .slice a7 x.ids.length c7] 125 (0, 0)) :: (fp ++ (gk ++ (gd ++ (gx ++ Hr))))) hpt.items hil (by omega) (hw.re zRe)) ?_
       rintro _ a w hst ⟨v76, f76, rfl, ho76, hw⟩
       refine hst.go rfl hw ?_
       clear hst hw w a
       obtain ⟨a76, c76, rfl⟩ := ho76.form
       refine L.w rfl (V.fa rfl underlying125 rfl rfl sizeOf118) ?_
       refine L.store rfl rfl rfl sizeOf118 rfl zUp zSet ?_
       refine L.nil ?_
       first
        | (refine N.join (s, S, .slice a4 x.items.length c4, x.items, fp, gi) ⟨rfl, rfl, rfl, rfl, rfl, rfl, rfl, trivial⟩ (fun w hw => ⟨⟨hRZ0.symm, hile, .refl S, hd, hpt.items, hxR.fineI, Nat.le_refl _⟩, Hp.re (H := (b7, .cells #[.int .i64 (x.kind : Int), .int .u64 (x.txn : Int), .int .i64 (x.next : Int), .slice a4 x.items.length c4, .slice a5 x.kids.length c5, .slice a6 x.data.length c6, .slice a7 x.ids.length c7] 125 (0, 0)) :: (fp ++ (gi ++ Hr))) (hw.sub ?_) zRe⟩); exact zSub)
        | (refine N.join (s, S, .slice a76 (x.items.take i ++ x.items.drop (i + 1)).length c76, x.items.take i ++ x.items.drop (i + 1), fp, f76) ⟨rfl, rfl, rfl, rfl, rfl, rfl, rfl, trivial⟩ (fun w hw => ⟨⟨hRZ1.symm, by show i ≤ (x.items.take i ++ x.items.drop (i + 1)).length; omega, .refl S, hd, ho76, hf76, by show (x.items.take i ++ x.items.drop (i + 1)).length ≤ _; omega⟩, Hp.re (H := f76 ++ ((b7, .cells (List.toArray [.int .i64 (x.kind : Int), .int .u64 (x.txn : Int), .int .i64 (x.next : Int), (.slice a76 (x.items.take i ++ x.items.drop (i + 1)).length c76), .slice a5 x.kids.length c5, .slice a6 x.data.length c6, .slice a7 x.ids.length c7]) 125 (0, 0)) :: (fp ++ Hr))) (hw.sub ?_) zRe⟩); exact zSub)
        | (refine N.join (s2, S2, .slice a76 (x.items.take i ++ x.items.drop (i + 1)).length c76, x.items.take i ++ x.items.drop (i + 1), fp2, f76) ⟨rfl, rfl, rfl, rfl, rfl, rfl, rfl, trivial⟩ (fun w hw => ⟨⟨hRZ2.symm, by show i ≤ (x.items.take i ++ x.items.drop (i + 1)).length; omega, le2, hd2, ho76, hf76, by show (x.items.take i ++ x.items.drop (i + 1)).length ≤ _; omega⟩, Hp.re (H := f76 ++ ((b7, .cells (List.toArray [.int .i64 (x.kind : Int), .int .u64 (x.txn : Int), .int .i64 (x.next : Int), (.slice a76 (x.items.take i ++ x.items.drop (i + 1)).length c76), .slice a5 x.kids.length c5, .slice a6 x.data.length c6, .slice a7 x.ids.length c7]) 125 (0, 0)) :: (fp2 ++ Hr))) (hw.sub ?_) zRe⟩); exact zSub)
    ·try simp only [sq] at h43
     have hm0 : it.more = 0 := by omega
     have hfr : s.freeIt it = (s, 0) := if_pos hm0
     have hRZ1 : leafEnd s id (decide (key ∈ x.items.map (·.key))) i put (x.items.take i ++ x.items.drop (i + 1)) = RZ := by
      rw [← hRZ, hfr, decide_eq_true hkin]; rfl
     refine sK (sR ?_)
     refine L.w rfl (V.fa rfl underlying125 rfl rfl sizeOf118) ?_
     refine L.w rfl (V.load rfl isAgg118 zAt (by rfl)) ?_
     refine sM rfl (sM rfl ?_)
     refine L.w rfl (V.add (c := ((i + 1 : Nat) : Int)) rfl rfl (by rw [w64 (by omega) (by omega)]; omega)) ?_
     first
      | refine L.call rfl rfl rfl call146 rfl (fun w hw => ItemsO.del (Hr := (b7, .cells #[.int .i64 (x.kind : Int), .int .u64 (x.txn : Int), .int .i64 (x.next : Int), .slice a4 x.items.length c4, .slice a5 x.kids.length c5, .slice a6 x.data.length c6, .slice a7 x.ids.length c7] 125 (0, 0)) :: (f2 ++ (fp2 ++ (gk ++ (gd ++ (gx ++ Hr)))))) (hpt.items.mono le2) hil (by omega) (hw.re zRe)) ?_
      | refine L.call rfl rfl rfl call146 rfl (fun w hw => ItemsO.del (Hr := (b7, .cells #[.int .i64 (x.kind : Int), .int .u64 (x.txn : Int), .int .i64 (x.next : Int), .slice a4 x.items.length c4, .slice a5 x.kids.length c5, .slice a6 x.data.length c6, .slice a7 x.ids.length c7] 125 (0, 0)) :: (fp ++ (gk ++ (gd ++ (gx ++ Hr))))) hpt.items hil (by omega) (hw.re zRe)) ?_
     rintro _ a w hst ⟨v76, f76, rfl, ho76, hw⟩
     refine hst.go rfl hw ?_
     clear hst hw w a
     obtain ⟨a76, c76, rfl⟩ := ho76.form
     refine L.w rfl (V.fa rfl underlying125 rfl rfl sizeOf118) ?_
     refine L.store rfl rfl rfl sizeOf118 rfl zUp zSet ?_
     refine L.nil ?_
     first
      | (refine N.join (s, S, .slice a4 x.items.length c4, x.items, fp, gi) ⟨rfl, rfl, rfl, rfl, rfl, rfl, rfl, trivial⟩ (fun w hw => ⟨⟨hRZ0.symm, hile, .refl S, hd, hpt.items, hxR.fineI, Nat.le_refl _⟩, Hp.re (H := (b7, .cells #[.int .i64 (x.kind : Int), .int .u64 (x.txn : Int), .int .i64 (x.next : Int), .slice a4 x.items.length c4, .slice a5 x.kids.length c5, .slice a6 x.data.length c6, .slice a7 x.ids.length c7] 125 (0, 0)) :: (fp ++ (gi ++ Hr))) (hw.sub ?_) zRe⟩); exact zSub)
      | (refine N.join (s, S, .slice a76 (x.items.take i ++ x.items.drop (i + 1)).length c76, x.items.take i ++ x.items.drop (i + 1), fp, f76) ⟨rfl, rfl, rfl, rfl, rfl, rfl, rfl, trivial⟩ (fun w hw => ⟨⟨hRZ1.symm, by show i ≤ (x.items.take i ++ x.items.drop (i + 1)).length; omega, .refl S, hd, ho76, hf76, by show (x.items.take i ++ x.items.drop (i + 1)).length ≤ _; omega⟩, Hp.re (H := f76 ++ ((b7, .cells (List.toArray [.int .i64 (x.kind : Int), .int .u64 (x.txn : Int), .int .i64 (x.next : Int), (.slice a76 (x.items.take i ++ x.items.drop (i + 1)).length c76), .slice a5 x.kids.length c5, .slice a6 x.data.length c6, .slice a7 x.ids.length c7]) 125 (0, 0)) :: (fp ++ Hr))) (hw.sub ?_) zRe⟩); exact zSub)
      | (refine N.join (s2, S2, .slice a76 (x.items.take i ++ x.items.drop (i + 1)).length c76, x.items.take i ++ x.items.drop (i + 1), fp2, f76) ⟨rfl, rfl, rfl, rfl, rfl, rfl, rfl, trivial⟩ (fun w hw => ⟨⟨hRZ2.symm, by show i ≤ (x.items.take i ++ x.items.drop (i + 1)).length; omega, le2, hd2, ho76, hf76, by show (x.items.take i ++ x.items.drop (i + 1)).length ≤ _; omega⟩, Hp.re (H := f76 ++ ((b7, .cells (List.toArray [.int .i64 (x.kind : Int), .int .u64 (x.txn : Int), .int .i64 (x.next : Int), (.slice a76 (x.items.take i ++ x.items.drop (i + 1)).length c76), .slice a5 x.kids.length c5, .slice a6 x.data.length c6, .slice a7 x.ids.length c7]) 125 (0, 0)) :: (fp2 ++ Hr))) (hw.sub ?_) zRe⟩); exact zSub)
   ·try simp only [sq] at h36
    have hnk : ¬ key ∈ x.items.map (·.key) := by simpa using h36
    have hRZ0 : leafEnd s id (decide (key ∈ x.items.map (·.key))) i put x.items = RZ := by
     rw [← hRZ, if_neg hnk, decide_eq_false hnk]
     split
     ·rename_i hpn0
      exfalso
      first
       | exact h35 (hpn.2 hpn0)
       | (have := hpn.2 hpn0; simp_all)
     ·rfl
    refine C.skip ?_
    first
     | (refine N.join (s, S, .slice a4 x.items.length c4, x.items, fp, gi) ⟨rfl, rfl, rfl, rfl, rfl, rfl, rfl, trivial⟩ (fun w hw => ⟨⟨hRZ0.symm, hile, .refl S, hd, hpt.items, hxR.fineI, Nat.le_refl _⟩, Hp.re (H := (b7, .cells #[.int .i64 (x.kind : Int), .int .u64 (x.txn : Int), .int .i64 (x.next : Int), .slice a4 x.items.length c4, .slice a5 x.kids.length c5, .slice a6 x.data.length c6, .slice a7 x.ids.length c7] 125 (0, 0)) :: (fp ++ (gi ++ Hr))) (hw.sub ?_) zRe⟩); exact zSub)
     | (refine N.join (s, S, .slice a76 (x.items.take i ++ x.items.drop (i + 1)).length c76, x.items.take i ++ x.items.drop (i + 1), fp, f76) ⟨rfl, rfl, rfl, rfl, rfl, rfl, rfl, trivial⟩ (fun w hw => ⟨⟨hRZ1.symm, by show i ≤ (x.items.take i ++ x.items.drop (i + 1)).length; omega, .refl S, hd, ho76, hf76, by show (x.items.take i ++ x.items.drop (i + 1)).length ≤ _; omega⟩, Hp.re (H := f76 ++ ((b7, .cells (List.toArray [.int .i64 (x.kind : Int), .int .u64 (x.txn : Int), .int .i64 (x.next : Int), (.slice a76 (x.items.take i ++ x.items.drop (i + 1)).length c76), .slice a5 x.kids.length c5, .slice a6 x.data.length c6, .slice a7 x.ids.length c7]) 125 (0, 0)) :: (fp ++ Hr))) (hw.sub ?_) zRe⟩); exact zSub)
     | (refine N.join (s2, S2, .slice a76 (x.items.take i ++ x.items.drop (i + 1)).length c76, x.items.take i ++ x.items.drop (i + 1), fp2, f76) ⟨rfl, rfl, rfl, rfl, rfl, rfl, rfl, trivial⟩ (fun w hw => ⟨⟨hRZ2.symm, by show i ≤ (x.items.take i ++ x.items.drop (i + 1)).length; omega, le2, hd2, ho76, hf76, by show (x.items.take i ++ x.items.drop (i + 1)).length ≤ _; omega⟩, Hp.re (H := f76 ++ ((b7, .cells (List.toArray [.int .i64 (x.kind : Int), .int .u64 (x.txn : Int), .int .i64 (x.next : Int), (.slice a76 (x.items.take i ++ x.items.drop (i + 1)).length c76), .slice a5 x.kids.length c5, .slice a6 x.data.length c6, .slice a7 x.ids.length c7]) 125 (0, 0)) :: (fp2 ++ Hr))) (hw.sub ?_) zRe⟩); exact zSub)
  ·skip
   refine C.pure (fun hz => ?_)
   obtain ⟨s3, S3, v5, its, fp3, f5⟩ := z
   obtain ⟨hF, hil3, le3, hd3, ho5, hfi5, hl5⟩ := hz
   dsimp only at hF hil3 le3 hd3 ho5 hfi5 hl5 ⊢
   obtain ⟨av5, cv5, rfl⟩ := ho5.form
   have hp3 := hp.mono le3 (fun q hq => hq)
   refine sC (sD (sM rfl ?_))
   refine L.w rfl (V.neqPtr rfl rfl underlying121) ?_
   refine sN ?_
   refine C.cond rfl (fun h79 => ?_) (fun h79 => ?_)
   ·try simp only [sq] at h79
    obtain ⟨pi, hpi⟩ : ∃ pi, put = some pi := by
     cases hput : put with
     | some pi => exact ⟨pi, rfl⟩
     | none => have := hpn.2 hput; simp_all
    rw [hpi] at hp3 hF
    obtain ⟨pb, pc, hpe, hpa, hpc⟩ := hp3
    injection hpe with hpe
    subst hpe
    obtain ⟨pkv, pvv, rfl, hpk, hpv⟩ := hpc
    have hpf2 := hpf pi hpi
    have hil4 : (its.take i ++ [pi] ++ its.drop i).length = its.length + 1 := by rw [List.length_append, List.length_append, List.length_take, List.length_drop, List.length_singleton]; omega
    have hfi87 : FineI (its.take i ++ [pi] ++ its.drop i) := ⟨by omega, fun y hy => by
     have h8 := hfi5.2 y
     rcases List.mem_append.1 hy with h | h
     ·rcases List.mem_append.1 h with h | h
      ·exact h8 (List.mem_of_mem_take h)
      ·rw [List.mem_singleton] at h; subst h; exact hpf2
     ·exact h8 (List.mem_of_mem_drop h)⟩
    refine C.drawC [9] (Hp w0 F S3 ((b7, .cells (List.toArray [.int .i64 (x.kind : Int), .int .u64 (x.txn : Int), .int .i64 (x.next : Int), .slice av5 its.length cv5, .slice a5 x.kids.length c5, .slice a6 x.data.length c6, .slice a7 x.ids.length c7]) 125 (0, 0)) :: Hr)) (fun w h => h.sub zSub) (by kernel_rfl) rfl (fun w hw => hw.drawn _) ?_
    refine D.take 0 (listed' := #[true, false, false, false, false, false, false, false, false, false]) rfl (by kernel_rfl) rfl rfl rfl rfl (V.fa rfl underlying125 rfl rfl sizeOf118) (fun w h => h.sub zSub) ?_
    refine D.take 1 (listed' := #[true, true, false, false, false, false, false, false, false, false]) rfl (by kernel_rfl) rfl rfl rfl rfl (V.load rfl isAgg118 zAt (by rfl)) (fun w h => h.sub zSub) ?_
    refine D.take 2 (listed' := #[true, true, true, false, false, false, false, false, false, false]) rfl (by kernel_rfl) rfl rfl rfl rfl (V.move rfl) (fun w h => h.sub zSub) ?_
    refine D.take 3 (listed' := #[true, true, true, true, false, false, false, false, false, false]) rfl (by kernel_rfl) rfl rfl rfl rfl (V.move rfl) (fun w h => h.sub zSub) ?_
    refine D.take 4 (listed' := #[true, true, true, true, true, false, false, false, false, false]) rfl (by kernel_rfl) rfl rfl rfl rfl (V.nilCheck rfl) (fun w h => h.sub zSub) ?_
    refine D.take 5 (listed' := #[true, true, true, true, true, true, false, false, false, false]) rfl (by kernel_rfl) rfl rfl rfl rfl (V.loadBox rfl isAgg112 sizeOf112 (.tail hpa) rfl) (fun w h => h.sub zSub) ?_
    refine D.step 6 (listed' := #[true, true, true, true, true, true, true, false, false, false]) (by kernel_rfl) rfl rfl (.inr (fun w h => h.sub zSub)) ?_
    refine L.slice1 rfl rfl rfl underlying118 sizeOf112 zeroValue112 rfl (by decide) (by decide) (vs := [pkv, pvv, .int .i64 (pi.size : Int), .int .i64 (pi.more : Int)]) rfl rfl (fun b86 => ?_)
    refine D.back ?_
    refine D.step 7 (listed' := #[true, true, true, true, true, true, true, true, false, false]) (by kernel_rfl) rfl rfl (.inr (fun w h => h.sub zSub)) ?_
    refine L.call rfl rfl rfl call147 rfl (fun w hw => ItemsO.ins (Hr := (b7, .cells (List.toArray [.int .i64 (x.kind : Int), .int .u64 (x.txn : Int), .int .i64 (x.next : Int), .slice av5 its.length cv5, .slice a5 x.kids.length c5, .slice a6 x.data.length c6, .slice a7 x.ids.length c7]) 125 (0, 0)) :: (fp3 ++ Hr)) ho5 ⟨_, _, rfl, hpk, hpv⟩ hil3 (by omega) (hw.re zRe)) ?_
    rintro _ a w hst ⟨v87, f87, rfl, ho87, hw⟩
    refine hst.go rfl hw ?_
    clear hst hw w a
    obtain ⟨a87, c87, rfl⟩ := ho87.form
    refine D.back ?_
    refine D.step 8 (listed' := #[true, true, true, true, true, true, true, true, true, false]) (by kernel_rfl) rfl rfl (.inr (fun w h => h.sub zSub)) ?_
    refine L.w rfl (V.fa rfl underlying125 rfl rfl sizeOf118) ?_
    refine D.back ?_
    refine D.step 9 (listed' := #[true, true, true, true, true, true, true, true, true, true]) (by kernel_rfl) rfl rfl (.inr (fun w h => h.sub zSub)) ?_
    refine L.store rfl rfl rfl sizeOf118 rfl zUp zSet ?_
    refine D.back ?_
    refine D.done (by kernel_rfl) (.inl ⟨9, by simp, rfl⟩) (N.seq ?_)
    refine sC (sD (sM rfl (sM rfl ?_)))
    first
     | (refine L.call rfl rfl rfl call112 rfl (fun w hw => pgDrop_ok (Hr := (b7, .cells (List.toArray [.int .i64 (x.kind : Int), .int .u64 (x.txn : Int), .int .i64 (x.next : Int), .slice a87 (its.take i ++ [pi] ++ its.drop i).length c87, .slice a5 x.kids.length c5, .slice a6 x.data.length c6, .slice a7 x.ids.length c7]) 125 (0, 0)) :: (f87 ++ Hr)) hd3 id (hw.re ?_)) ?_
        ·exact zRe)
     | (refine L.call rfl rfl rfl call112 rfl (fun w hw => pgDrop_ok (Hr := (b7, .cells (List.toArray [.int .i64 (x.kind : Int), .int .u64 (x.txn : Int), .int .i64 (x.next : Int), .slice av5 its.length cv5, .slice a5 x.kids.length c5, .slice a6 x.data.length c6, .slice a7 x.ids.length c7]) 125 (0, 0)) :: (f5 ++ Hr)) hd3 id (hw.re ?_)) ?_
        ·exact zRe)
    rintro _ a w hst ⟨S4, fp4, rfl, le4, hd4, hw⟩
    refine hst.go rfl hw ?_
    clear hst hw w a
    refine sA rfl (sE (sM rfl (sQb rfl (sN ?_))))
    refine C.cond rfl (fun h93 => ?_) (fun h93 => ?_)
    ·try simp only [sq] at h93
     refine sD (sM rfl (sM rfl (sA rfl (sA rfl (sA rfl (sN ?_))))))
     refine R.ret3 results109 rfl rfl rfl (fun w hw => ?_)
     have h93 : (s3.drop id).2 ≠ 0 := h93
     unfold leafEnd at hF
     rw [if_pos h93] at hF
     subst hF
     exact ⟨S4, fp4, _, [], _, _, rfl, le3.trans le4, hd4, .inr ⟨rfl, h93, rfl, rfl⟩, hw.sub zSub⟩
    ·try simp only [sq] at h93
     have h93 : ¬ (s3.drop id).2 ≠ 0 := fun h => h h93
     unfold leafEnd at hF
     rw [if_neg h93] at hF
     refine sK (sD (sM rfl ?_))
     refine L.w rfl (V.fa rfl underlying125 rfl rfl sizeOf118) ?_
     refine L.w rfl (V.load rfl isAgg118 zAt (by rfl)) ?_
     first
      | (refine L.call rfl rfl rfl call55 rfl (fun w hw => leaves_ok (l := its.take i ++ [pi] ++ its.drop i) (Hr := (b7, .cells (List.toArray [.int .i64 (x.kind : Int), .int .u64 (x.txn : Int), .int .i64 (x.next : Int), .slice a87 (its.take i ++ [pi] ++ its.drop i).length c87, .slice a5 x.kids.length c5, .slice a6 x.data.length c6, .slice a7 x.ids.length c7]) 125 (0, 0)) :: (f87 ++ Hr)) hd4 (ho87.c (fun q hq => by simp [hq]) |>.mono le4 (fun q hq => hq)) hfi87 (hw.re ?_)) ?_
         ·exact zRe)
      | (refine L.call rfl rfl rfl call55 rfl (fun w hw => leaves_ok (l := its) (Hr := (b7, .cells (List.toArray [.int .i64 (x.kind : Int), .int .u64 (x.txn : Int), .int .i64 (x.next : Int), .slice av5 its.length cv5, .slice a5 x.kids.length c5, .slice a6 x.data.length c6, .slice a7 x.ids.length c7]) 125 (0, 0)) :: (f5 ++ Hr)) hd4 (ho5.c (fun q hq => by simp [hq]) |>.mono le4 (fun q hq => hq)) hfi5 (hw.re ?_)) ?_
         ·exact zRe)
     rintro _ a w hst ⟨S5, fp5, v5, f5, err, rfl, le5, hd5, hres, hw⟩
     refine hst.go rfl hw ?_
     clear hst hw w a
     refine sM rfl (sX rfl (sX rfl (sA rfl (sA rfl (sE (sM rfl (sM rfl (sM rfl (sA rfl (sA rfl (sA rfl (sN ?_))))))))))))
     refine R.ret3 results109 rfl rfl rfl (fun w hw => ?_)
     subst hF
     refine ⟨S5, fp5, v5, f5, _, err, rfl, le3.trans (le4.trans le5), hd5, ?_, hw.sub zSub⟩
     rcases hres with ⟨ks, h1, h2, h3, h4, h5⟩ | ⟨h1, h2, h3, h4⟩
     ·exact .inl ⟨ks, h1, h2, rfl, h3, h4, by omega⟩
     ·exact .inr ⟨h1, h2, h3, h4⟩
   ·try simp only [sq] at h79
    have hpi : put = none := by
     cases hput : put with
     | none => rfl
     | some pi => rw [hput] at hpn; cases pp <;> simp_all
    rw [hpi] at hF
    refine sK (sC (sD (sM rfl (sM rfl ?_))))
    first
     | (refine L.call rfl rfl rfl call112 rfl (fun w hw => pgDrop_ok (Hr := (b7, .cells (List.toArray [.int .i64 (x.kind : Int), .int .u64 (x.txn : Int), .int .i64 (x.next : Int), .slice a87 (its.take i ++ [pi] ++ its.drop i).length c87, .slice a5 x.kids.length c5, .slice a6 x.data.length c6, .slice a7 x.ids.length c7]) 125 (0, 0)) :: (f87 ++ Hr)) hd3 id (hw.re ?_)) ?_
        ·exact zRe)
     | (refine L.call rfl rfl rfl call112 rfl (fun w hw => pgDrop_ok (Hr := (b7, .cells (List.toArray [.int .i64 (x.kind : Int), .int .u64 (x.txn : Int), .int .i64 (x.next : Int), .slice av5 its.length cv5, .slice a5 x.kids.length c5, .slice a6 x.data.length c6, .slice a7 x.ids.length c7]) 125 (0, 0)) :: (f5 ++ Hr)) hd3 id (hw.re ?_)) ?_
        ·exact zRe)
    rintro _ a w hst ⟨S4, fp4, rfl, le4, hd4, hw⟩
    refine hst.go rfl hw ?_
    clear hst hw w a
    refine sA rfl (sE (sM rfl (sQb rfl (sN ?_))))
    refine C.cond rfl (fun h93 => ?_) (fun h93 => ?_)
    ·try simp only [sq] at h93
     refine sD (sM rfl (sM rfl (sA rfl (sA rfl (sA rfl (sN ?_))))))
     refine R.ret3 results109 rfl rfl rfl (fun w hw => ?_)
     have h93 : (s3.drop id).2 ≠ 0 := h93
     unfold leafEnd at hF
     rw [if_pos h93] at hF
     subst hF
     exact ⟨S4, fp4, _, [], _, _, rfl, le3.trans le4, hd4, .inr ⟨rfl, h93, rfl, rfl⟩, hw.sub zSub⟩
    ·try simp only [sq] at h93
     have h93 : ¬ (s3.drop id).2 ≠ 0 := fun h => h h93
     unfold leafEnd at hF
     rw [if_neg h93] at hF
     refine sK (sD (sM rfl ?_))
     refine L.w rfl (V.fa rfl underlying125 rfl rfl sizeOf118) ?_
     refine L.w rfl (V.load rfl isAgg118 zAt (by rfl)) ?_
     first
      | (refine L.call rfl rfl rfl call55 rfl (fun w hw => leaves_ok (l := its.take i ++ [pi] ++ its.drop i) (Hr := (b7, .cells (List.toArray [.int .i64 (x.kind : Int), .int .u64 (x.txn : Int), .int .i64 (x.next : Int), .slice a87 (its.take i ++ [pi] ++ its.drop i).length c87, .slice a5 x.kids.length c5, .slice a6 x.data.length c6, .slice a7 x.ids.length c7]) 125 (0, 0)) :: (f87 ++ Hr)) hd4 (ho87.c (fun q hq => by simp [hq]) |>.mono le4 (fun q hq => hq)) hfi87 (hw.re ?_)) ?_
         ·exact zRe)
      | (refine L.call rfl rfl rfl call55 rfl (fun w hw => leaves_ok (l := its) (Hr := (b7, .cells (List.toArray [.int .i64 (x.kind : Int), .int .u64 (x.txn : Int), .int .i64 (x.next : Int), .slice av5 its.length cv5, .slice a5 x.kids.length c5, .slice a6 x.data.length c6, .slice a7 x.ids.length c7]) 125 (0, 0)) :: (f5 ++ Hr)) hd4 (ho5.c (fun q hq => by simp [hq]) |>.mono le4 (fun q hq => hq)) hfi5 (hw.re ?_)) ?_
         ·exact zRe)
     rintro _ a w hst ⟨S5, fp5, v5, f5, err, rfl, le5, hd5, hres, hw⟩
     refine hst.go rfl hw ?_
     clear hst hw w a
     refine sM rfl (sX rfl (sX rfl (sA rfl (sA rfl (sE (sM rfl (sM rfl (sM rfl (sA rfl (sA rfl (sA rfl (sN ?_))))))))))))
     refine R.ret3 results109 rfl rfl rfl (fun w hw => ?_)
     subst hF
     refine ⟨S5, fp5, v5, f5, _, err, rfl, le3.trans (le4.trans le5), hd5, ?_, hw.sub zSub⟩
     rcases hres with ⟨ks, h1, h2, h3, h4, h5⟩ | ⟨h1, h2, h3, h4⟩
     ·exact .inl ⟨ks, h1, h2, rfl, h3, h4, by omega⟩
     ·exact .inr ⟨h1, h2, h3, h4⟩
end
end Go.Proofs.YtijgbppkdaiikaaGreat

set_option linter.unusedSimpArgs false
set_option linter.unusedVariables false
namespace Go.Proofs.YtijgbppkdaiikaaGreat
open Go.Proofs.Tryz Go.Tk

def kidPage (l : List Kid) (k : Nat) : Nat := ((l[k]?).map (·.page)).getD 0
def kidKey (l : List Kid) (k : Nat) : List UInt8 := ((l[k]?).map (·.key)).getD []
theorem kidPage_at {l : List Kid} {k : Nat} (h : k < l.length) : kidPage l k = l[k].page := by unfold kidPage; rw [List.getElem?_eq_getElem h]; rfl
theorem kidKey_at {l : List Kid} {k : Nat} (h : k < l.length) : kidKey l k = l[k].key := by unfold kidKey; rw [List.getElem?_eq_getElem h]; rfl
def bothP (a c : Page) : Page := ⟨a.kind, 0, 0, a.items ++ c.items, a.kids ++ c.kids, [], []⟩
/-- Two pages become one. -/
noncomputable def Pr.merge (s : Pr) (l : List Kid) (k : Nat) (a c : Page) : Pr × Except Int (List Kid) :=
 if (s.drop (kidPage l k)).2 ≠ 0 then ((s.drop (kidPage l k)).1, .error (s.drop (kidPage l k)).2) else
 if ((s.drop (kidPage l k)).1.drop (kidPage l (k + 1))).2 ≠ 0 then (((s.drop (kidPage l k)).1.drop (kidPage l (k + 1))).1, .error ((s.drop (kidPage l k)).1.drop (kidPage l (k + 1))).2) else
 if (((s.drop (kidPage l k)).1.drop (kidPage l (k + 1))).1.add (bothP a c)).2.2 ≠ 0 then ((((s.drop (kidPage l k)).1.drop (kidPage l (k + 1))).1.add (bothP a c)).1, .error (((s.drop (kidPage l k)).1.drop (kidPage l (k + 1))).1.add (bothP a c)).2.2) else
 ((((s.drop (kidPage l k)).1.drop (kidPage l (k + 1))).1.add (bothP a c)).1, .ok (l.take k ++ [⟨kidKey l k, (((s.drop (kidPage l k)).1.drop (kidPage l (k + 1))).1.add (bothP a c)).2.1.toNat⟩] ++ l.drop (k + 2)))
noncomputable def Pr.join2 (s : Pr) (l : List Kid) (k : Nat) : Pr × Except Int (List Kid) :=
 match s.page (kidPage l k) with
 | none => (s, .error (s.err (kidPage l k)))
 | some a => match s.page (kidPage l (k + 1)) with
   | none => (s, .error (s.err (kidPage l (k + 1))))
   | some c => if a.kind ≠ c.kind ∨ 79 < min (usedN a) (usedN c) ∨ 237 < usedN a + usedN c then (s, .ok l) else s.merge l k a c
/-- Kids in the place of one; a small page is put together with the one beside it. -/
noncomputable def Pr.joined (s : Pr) (l : List Kid) (i : Nat) (kids : List Kid) : Pr × Except Int (List Kid) :=
 if kids.length ≠ 1 ∨ l.length < 2 then (s, .ok (l.take i ++ kids ++ l.drop (i + 1))) else s.join2 (l.take i ++ kids ++ l.drop (i + 1)) (i - 1)

theorem V.maxN {P : Program} {n : Nat} {E : Env} {A : World → Prop} {dd : Option Tmp} {ty : Nat} {pos : String} {aft : Array Edge} {g : Option (Nat × Bool)} {at1 : Array TypeId} {x y : Operand} {kd kd' : IntKind} {a b c : Int} (hx : E.ev x = some (.int kd a)) (hy : E.ev y = some (.int kd' b)) (hc : max a b = c) : V P n E A ⟨dd, .call ⟨.builtin .max, #[x, y], at1⟩, ty, pos, aft, g⟩ (.int kd c) := hc ▸ V.maxI hx hy
theorem Pr.page_small {s : Pr} (h : PrOk s) {id : Int} {p : Page} (hp : s.page id = some p) : Small p := by
 unfold Pr.page pgP at hp
 split at hp
 ·cases hp
 ·split at hp
  ·rename_i q hq; injection hp with hp; subst hp; exact h.small _ _ hq
  ·split at hp
   ·cases hp
   ·exact (decP_some hp).1.small (decP_some hp).2.1
def dAt (s : Pr) (p0 p1 : Int) : Nat → Pr
 | 0 => s
 | 1 => (s.drop p0).1
 | _ => ((s.drop p0).1.drop p1).1
def dE (s : Pr) (p0 p1 : Int) : Nat → Int
 | 0 => (s.drop p0).2
 | _ => ((s.drop p0).1.drop p1).2
def pAt (p0 p1 : Nat) : Nat → Nat
 | 0 => p0
 | _ => p1
theorem dAt_step (s : Pr) (p0 p1 : Nat) {z : Nat} (hz : z < 2) : (dAt s p0 p1 z).drop (pAt p0 p1 z : Int) = (dAt s p0 p1 (z + 1), dE s p0 p1 z) := by
 rcases (by omega : z = 0 ∨ z = 1) with rfl | rfl <;> rfl

theorem Pr.add_id0 {s : Pr} (h : s.list.Ok) (p : Page) : 0 ≤ (s.add p).2.1 ∧ (s.add p).2.1 < 1024 := by
 by_cases he : (s.add p).2.2 = 0
 ·have := Pr.add_id h he
  have := h.s1
  omega
 ·unfold Pr.add at *
  split
  ·exact ⟨Int.le_refl 0, by show (0 : Int) < 1024; decide⟩
  ·split
   ·exact ⟨Int.le_refl 0, by show (0 : Int) < 1024; decide⟩
   ·split
    ·exact ⟨Int.le_refl 0, by show (0 : Int) < 1024; decide⟩
    ·rename_i h1 h2 h3
     rw [if_neg h1, if_neg h2, if_neg h3] at he
     split
     ·exact ⟨Int.le_refl 0, by show (0 : Int) < 1024; decide⟩
     ·rename_i hi; rw [hi] at he; exact absurd rfl he

section
variable {w0 : World} {F : Nat → Prop} {S : Store} {Hr : Heap} {w : World}

theorem KidsO.repl {v vv : Value} {l ks : List Kid} {i j : Nat} {fp fv : Heap} (h : KidsO S v l fp) (hk : KidsO S vv ks fv) (hij : i < j) (hjn : j ≤ l.length) (hl : l.length ≤ 100000) (hkl : ks.length ≤ 100000) (hw : Hp w0 F S (fp ++ (fv ++ Hr)) w) :
 Calls Tryz.prog 148 #[v, .int .i64 (i : Int), .int .i64 (j : Int), vv] w fun e w' => ∃ v' fp', e = .returned v' ∧ KidsO S v' (l.take i ++ ks ++ l.drop j) fp' ∧ Hp w0 F S (fp' ++ (fv ++ Hr)) w' := by
 obtain ⟨rows, ho, ha⟩ := h
 obtain ⟨krows, hko, hka⟩ := hk
 have hr2 := rows2 ha
 refine (repl_ok ho hko hij hjn (by omega) (by omega) (flat_one (fun c x h => kidC_one h) ha) (flat_one (fun c x h => kidC_one h) hka) hw).mono fun e w' ⟨v', fp', h1, h2, h3⟩ => ⟨v', fp', h1, ⟨rows.take i ++ krows ++ rows.drop j, ?_, ((ha.take i).append hka).append (ha.drop j)⟩, h3⟩
 rw [rows_take rows hr2, rows_drop rows hr2] at h2
 rw [List.flatten_append, List.flatten_append, show (l.take i ++ ks ++ l.drop j).length = i + ks.length + (l.length - j) from by rw [List.length_append, List.length_append, List.length_take, List.length_drop]; omega]
 exact h2
theorem FineK.app {l m : List Kid} (h1 : ∀ x ∈ l, x.key.length ≤ 32 ∧ x.page < 2 ^ 32) (h2 : ∀ x ∈ m, x.key.length ≤ 32 ∧ x.page < 2 ^ 32) : ∀ x ∈ l ++ m, x.key.length ≤ 32 ∧ x.page < 2 ^ 32 := fun x hx => (List.mem_append.1 hx).elim (h1 x) (h2 x)

theorem KidsO.atO {v : Value} {l : List Kid} {fp : Heap} (h : KidsO S v l fp) (h0 : 0 < l.length) : ∃ b c, v = .slice (some ⟨b, 0, none⟩) l.length c ∧ l.length ≤ c ∧ ∀ (k : Nat) (hk : k < l.length), ∃ cs T fz kv, At S b (.cells cs T fz) fp ∧ cs[0 + k * 2 + 0]? = some kv ∧ cs[0 + k * 2 + 1]? = some (.int .i64 (l[k].page : Int)) ∧ Bs S [] kv l[k].key := by
 have hc : Kids S fp v l := h.c (fun q hq => hq)
 obtain ⟨rows, ho, ha⟩ := h
 rcases ho with ⟨rfl, h1, _⟩ | ⟨b, c, js, rfl, _, _, _, h4, _⟩
 ·omega
 ·refine ⟨b, c, rfl, h4, fun k hk => ?_⟩
  obtain ⟨b5, o5, cs5, T5, fz5, kv5, e, g1, g2, g3, g4, g5, g6⟩ := hc.at hk
  injection e with e
  injection e with e1 e2
  subst e1 e2
  exact ⟨cs5, T5, fz5, kv5, g1, g5, g6, g4⟩

theorem joined_ok {b db : Nat} {s : Pr} {fp f fk : Heap} {v kv : Value} {l kids : List Kid} {i : Nat} (hd : PgR S b db s fp) (hl : KidsO S v l f) (hk : KidsO S kv kids fk) (hi : i < l.length) (hlf : FineK l) (hkf : FineK kids) (hw : Hp w0 F S (fp ++ (f ++ (fk ++ Hr))) w) :
 Calls Tryz.prog 111 #[.pointer (some ⟨b, 0, none⟩), v, .int .i64 (i : Int), kv] w fun e w' => ∃ S' fp' v' f' err, e = .returned (.tuple #[v', .int .i64 err]) ∧ S.le S' ∧ PgR S' b db (s.joined l i kids).1 fp' ∧
  ((∃ ks, (s.joined l i kids).2 = .ok ks ∧ err = 0 ∧ KidsO S' v' ks f' ∧ (∀ x ∈ ks, x.key.length ≤ 32 ∧ x.page < 2 ^ 32) ∧ ks.length ≤ l.length + kids.length) ∨ ((s.joined l i kids).2 = .error err ∧ err ≠ 0 ∧ f' = [])) ∧ Hp w0 F S' (f' ++ (fp' ++ Hr)) w' := by
 have hl1 := hlf.1
 have hk1 := hkf.1
 obtain ⟨ka, kc, rfl⟩ := hk.form
 obtain ⟨RZ, hRZ⟩ : ∃ R, s.joined l i kids = R := ⟨_, rfl⟩
 rw [hRZ]
 unfold Pr.joined at hRZ
 obtain ⟨l2, hl2⟩ : ∃ l2, l.take i ++ kids ++ l.drop (i + 1) = l2 := ⟨_, rfl⟩
 have hl2l : l2.length = l.length - 1 + kids.length := by rw [← hl2, List.length_append, List.length_append, List.length_take, List.length_drop]; omega
 have hl2f : ∀ x ∈ l2, x.key.length ≤ 32 ∧ x.page < 2 ^ 32 := by
  rw [← hl2]
  exact FineK.app (FineK.app (fun x hx => hlf.2 x (List.mem_of_mem_take hx)) hkf.2) (fun x hx => hlf.2 x (List.mem_of_mem_drop hx))
 refine enterA hw func111 rfl ntmps111 rfl rfl ?_
 refine sD (sA rfl (sA rfl (sE (sM rfl (sM rfl (sM rfl ?_))))))
 refine L.w rfl (V.add (c := ((i + 1 : Nat) : Int)) rfl rfl (by rw [w64 (by omega) (by omega)]; omega)) ?_
 refine sM rfl ?_
 refine L.call rfl rfl rfl call148 rfl (fun w hw => KidsO.repl (Hr := fp ++ Hr) hl hk (Nat.lt_succ_self i) (by omega) (by omega) (by omega) (hw.re zRe)) ?_
 rintro _ a w hst ⟨v23, f23, rfl, ho23, hw⟩
 refine hst.go rfl hw ?_
 clear hst hw w a
 rw [hl2] at ho23 hRZ
 obtain ⟨a23, c23, rfl⟩ := ho23.form
 refine sA rfl (sN (sC (sD (sM rfl ?_))))
 refine L.w rfl (V.len rfl underlying115) ?_
 refine sQb rfl (sM rfl ?_)
 refine L.fork (d := 27) rfl (fun h27 => ?_) (fun h27 => ?_)
 ·try simp only [sq] at h27
  refine sS rfl (sS rfl (sS rfl (sT rfl (sN (sO rfl (sD (sM rfl (sA rfl (sA rfl (sN ?_))))))))))
  refine R.ret2 results111 rfl rfl (fun w hw => ?_)
  rw [if_pos (by first | exact .inl (by omega) | exact .inr (by omega))] at hRZ
  subst hRZ
  exact ⟨S, fp, _, f23, 0, rfl, .refl S, hd, .inl ⟨l2, rfl, rfl, ho23, hl2f, by omega⟩, hw.sub zSub⟩
 ·try simp only [sq] at h27
  refine sM rfl ?_
  refine L.w rfl (V.len rfl underlying115) ?_
  refine sQc rfl (sU rfl (sN ?_))
  refine C.cond rfl (fun h31 => ?_) (fun h31 => ?_)
  ·try simp only [sq] at h31
   refine sD (sM rfl (sA rfl (sA rfl (sN ?_))))
   refine R.ret2 results111 rfl rfl (fun w hw => ?_)
   rw [if_pos (by first | exact .inl (by omega) | exact .inr (by omega))] at hRZ
   subst hRZ
   exact ⟨S, fp, _, f23, 0, rfl, .refl S, hd, .inl ⟨l2, rfl, rfl, ho23, hl2f, by omega⟩, hw.sub zSub⟩
  ·try simp only [sq] at h31
   refine sK (sD (sM rfl ?_))
   refine L.w rfl (V.sub (c := (i : Int) - 1) rfl rfl (by rw [w64 (by omega) (by omega)])) ?_
   rw [if_neg (by omega)] at hRZ
   obtain ⟨k, hke⟩ : ∃ k, i - 1 = k := ⟨_, rfl⟩
   have hkl : k + 1 < l2.length := by omega
   rw [hke] at hRZ
   unfold Pr.join2 at hRZ
   obtain ⟨b23, c23', hve, hc23, hat⟩ := ho23.atO (by omega)
   injection hve with hve1 hve2 hve3
   subst hve1 hve3
   obtain ⟨csA, TA, fzA, kvA, gA1, gA2, gA3, gA4⟩ := hat k (by omega)
   obtain ⟨csB, TB, fzB, kvB, gB1, gB2, gB3, gB4⟩ := hat (k + 1) hkl
   obtain ⟨p0, hp0⟩ : ∃ p, l2[k].page = p := ⟨_, rfl⟩
   obtain ⟨p1, hp1⟩ : ∃ p, l2[k + 1].page = p := ⟨_, rfl⟩
   obtain ⟨hky, hhky⟩ : ∃ p, l2[k].key = p := ⟨_, rfl⟩
   rw [hp0] at gA3
   rw [hhky] at gA4
   rw [hp1] at gB3
   have hkp0 : kidPage l2 k = p0 := by rw [kidPage_at (by omega)]; exact hp0
   have hkp1 : kidPage l2 (k + 1) = p1 := by rw [kidPage_at hkl]; exact hp1
   have hkk : kidKey l2 k = hky := by rw [kidKey_at (by omega)]; exact hhky
   rw [hkp0, hkp1] at hRZ
   refine L.w rfl (V.maxN (c := (k : Int)) rfl rfl (by omega)) ?_
   refine sA rfl (sE (sM rfl (sM rfl (sM rfl ?_))))
   refine L.w rfl (V.indexAddr (j := k) rfl rfl underlying115 sizeOf129 rfl (by omega)) ?_
   refine L.w rfl (V.fa rfl underlying129 rfl rfl sizeOf3) ?_
   refine L.w rfl (V.load rfl isAgg3 (.apl gA1) gA3) ?_
   refine L.call rfl rfl rfl call89 rfl (fun w hw => prRead_ok (Hr := f23 ++ (fk ++ Hr)) hd (p0 : Int) (hw.re zRe)) ?_
   rintro _ a w hst ⟨S1, c1, f1, rfl, le1, hd1, hres1, hw⟩
   refine hst.go rfl hw ?_
   clear hst hw w a
   obtain ⟨y1, y2, y3, y4, y5, y6, y7, hy, hy1⟩ : ∃ y1 y2 y3 y4 y5 y6 y7, c1 = [y1, y2, y3, y4, y5, y6, y7] ∧ [y1, y2, y3, y4, y5, y6, y7].all (·.oneCell') = true := by
    rcases hres1 with ⟨p, _, _, hp⟩ | ⟨_, _, rfl, _⟩
    ·exact pageO_form hp
    ·exact ⟨_, _, _, _, _, _, _, rfl, rfl⟩
   subst hy
   refine sM rfl (sX rfl (sX rfl ?_))
   refine L.allocA rfl rfl zeroValue125 (fun b11 => ?_)
   refine L.storeBox rfl rfl rfl sizeOf125 rfl rfl hy1 zUp ?_
   refine sA rfl (sN (sC (sD (sM rfl (sQb rfl (sN ?_))))))
   refine C.cond rfl (fun h47 => ?_) (fun h47 => ?_)
   ·try simp only [sq] at h47
    refine sD (sM rfl (sA rfl (sA rfl (sN ?_))))
    refine R.ret2 results111 rfl rfl (fun w hw => ?_)
    have h47 : s.err (p0 : Int) ≠ 0 := h47
    obtain ⟨hP, hcz⟩ : s.page (p0 : Int) = none ∧ f1 = [] := by
     rcases hres1 with ⟨p, _, h, _⟩ | ⟨h, _, _, hz⟩
     ·exact absurd h h47
     ·exact ⟨h, hz⟩
    rw [hP] at hRZ
    subst hRZ
    exact ⟨S1, fp, _, [], _, rfl, le1, hd1, .inr ⟨rfl, h47, rfl⟩, hw.sub zSub⟩
   ·try simp only [sq] at h47
    have h47 : s.err (p0 : Int) = 0 := h47
    obtain ⟨pa, hPa, hpoa⟩ : ∃ x, s.page (p0 : Int) = some x ∧ PageO S1 [y1, y2, y3, y4, y5, y6, y7] x f1 := by
     rcases hres1 with ⟨p, h, _, h2⟩ | ⟨_, h, _⟩
     ·exact ⟨p, h, h2⟩
     ·exact absurd h47 h
    clear hres1
    have hRa := Pr.page_right hd.ok hPa
    have hSa := Pr.page_small hd.ok hPa
    rw [hPa] at hRZ
    dsimp only at hRZ
    obtain ⟨qi, qk, qd, qx, gi, gk, gd, gx, he, hpta, rfl⟩ := hpoa
    simp only [List.cons.injEq] at he
    obtain ⟨rfl, rfl, rfl, rfl, rfl, rfl, rfl, _⟩ := he
    obtain ⟨a4, c4, rfl⟩ := hpta.items.form
    obtain ⟨a5, c5, rfl⟩ := hpta.kids.form
    obtain ⟨a6, c6, rfl⟩ := hpta.data.form
    obtain ⟨a7, c7, rfl⟩ := (show ∃ ad c, y7 = .slice ad pa.ids.length c from Own.form hpta.ids)
    refine sK (sD (sM rfl (sM rfl (sM rfl ?_))))
    refine L.w rfl (V.add (c := ((k + 1 : Nat) : Int)) rfl rfl (by rw [w64 (by omega) (by omega)]; omega)) ?_
    refine L.w rfl (V.indexAddr (j := k + 1) rfl rfl underlying115 sizeOf129 rfl hkl) ?_
    refine L.w rfl (V.fa rfl underlying129 rfl rfl sizeOf3) ?_
    refine L.w rfl (V.load rfl isAgg3 (.tail (.apr (.apr (.apl (Sees.le le1 _ _ _ gB1))))) gB3) ?_
    refine L.call rfl rfl rfl call89 rfl (fun w hw => prRead_ok (Hr := (b11, .cells #[.int .i64 (pa.kind : Int), .int .u64 (pa.txn : Int), .int .i64 (pa.next : Int), .slice a4 pa.items.length c4, .slice a5 pa.kids.length c5, .slice a6 pa.data.length c6, .slice a7 pa.ids.length c7] 125 (0, 0)) :: (gi ++ (gk ++ (gd ++ (gx ++ (f23 ++ (fk ++ Hr))))))) hd1 (p1 : Int) (hw.re zRe)) ?_
    rintro _ a w hst ⟨S2, c2, f2, rfl, le2, hd2, hres2, hw⟩
    refine hst.go rfl hw ?_
    clear hst hw w a
    obtain ⟨z1, z2, z3, z4, z5, z6, z7, hz, hz1⟩ : ∃ y1 y2 y3 y4 y5 y6 y7, c2 = [y1, y2, y3, y4, y5, y6, y7] ∧ [y1, y2, y3, y4, y5, y6, y7].all (·.oneCell') = true := by
     rcases hres2 with ⟨p, _, _, hp⟩ | ⟨_, _, rfl, _⟩
     ·exact pageO_form hp
     ·exact ⟨_, _, _, _, _, _, _, rfl, rfl⟩
    subst hz
    refine sM rfl (sX rfl (sX rfl ?_))
    refine L.allocA rfl rfl zeroValue125 (fun b13 => ?_)
    refine L.storeBox rfl rfl rfl sizeOf125 rfl rfl hz1 zUp ?_
    refine sA rfl (sN (sC (sD (sM rfl (sQb rfl (sN ?_))))))
    refine C.cond rfl (fun h61 => ?_) (fun h61 => ?_)
    ·try simp only [sq] at h61
     refine sD (sM rfl (sA rfl (sA rfl (sN ?_))))
     refine R.ret2 results111 rfl rfl (fun w hw => ?_)
     have h61 : s.err (p1 : Int) ≠ 0 := h61
     obtain ⟨hP, hcz⟩ : s.page (p1 : Int) = none ∧ f2 = [] := by
      rcases hres2 with ⟨p, _, h, _⟩ | ⟨h, _, _, hz⟩
      ·exact absurd h h61
      ·exact ⟨h, hz⟩
     rw [hP] at hRZ
     subst hRZ
     exact ⟨S2, fp, _, [], _, rfl, le1.trans le2, hd2, .inr ⟨rfl, h61, rfl⟩, hw.sub zSub⟩
    ·try simp only [sq] at h61
     have h61 : s.err (p1 : Int) = 0 := h61
     obtain ⟨pc, hPc, hpoc⟩ : ∃ x, s.page (p1 : Int) = some x ∧ PageO S2 [z1, z2, z3, z4, z5, z6, z7] x f2 := by
      rcases hres2 with ⟨p, h, _, h2⟩ | ⟨_, h, _⟩
      ·exact ⟨p, h, h2⟩
      ·exact absurd h61 h
     clear hres2
     have hRc := Pr.page_right hd.ok hPc
     have hSc := Pr.page_small hd.ok hPc
     rw [hPc] at hRZ
     dsimp only at hRZ
     obtain ⟨qi, qk, qd, qx, ci, ck, cd, cx, he, hptc, rfl⟩ := hpoc
     simp only [List.cons.injEq] at he
     obtain ⟨rfl, rfl, rfl, rfl, rfl, rfl, rfl, _⟩ := he
     obtain ⟨e4, d4, rfl⟩ := hptc.items.form
     obtain ⟨e5, d5, rfl⟩ := hptc.kids.form
     obtain ⟨e6, d6, rfl⟩ := hptc.data.form
     obtain ⟨e7, d7, rfl⟩ := (show ∃ ad c, z7 = .slice ad pc.ids.length c from Own.form hptc.ids)
     have hpta2 := hpta.mono le2
     simp only [List.append_assoc]
     have hpcA : ∀ H : Heap, (∀ q, q ∈ gi ++ (gk ++ (gd ++ gx)) → q ∈ H) → PageC S2 H _ pa := fun H hh => hpta2.c hh
     have hpcC : ∀ H : Heap, (∀ q, q ∈ ci ++ (ck ++ (cd ++ cx)) → q ∈ H) → PageC S2 H _ pc := fun H hh => hptc.c hh
     have hua := hRa.used
     have huc := hRc.used
     refine sK (sC (sC ?_))
     refine C.quiet (by kernel_rfl) (by kernel_rfl) (fun w hw => hw.drawn _) ?_
     refine Q.v rfl rfl rfl (V.fa rfl underlying125 rfl rfl sizeOf3) ?_
     refine Q.v rfl rfl rfl (V.load rfl isAgg3 zAt (by rfl)) ?_
     refine Q.v rfl rfl rfl (V.fa rfl underlying125 rfl rfl sizeOf3) ?_
     refine Q.v rfl rfl rfl (V.load rfl isAgg3 zAt (by rfl)) ?_
     refine tQb rfl (tM rfl ?_)
     refine Q.fork (d := 68) rfl (fun h68 => ?_) (fun h68 => ?_)
     ·try simp only [sq] at h68
      refine tS rfl (tS rfl (tS rfl (tS rfl (tS rfl (tS rfl (tT rfl (tM rfl (tS rfl (tS rfl (tS rfl (tS rfl (tS rfl (tS rfl ?_)))))))))))))
      refine tT rfl (tN (sO rfl (sD (sM rfl (sA rfl (sA rfl (sN ?_)))))))
      refine R.ret2 results111 rfl rfl (fun w hw => ?_)
      rw [if_pos (by omega)] at hRZ
      subst hRZ
      exact ⟨S2, fp, _, f23, 0, rfl, le1.trans le2, hd2, .inl ⟨l2, rfl, rfl, ho23.mono (le1.trans le2), hl2f, by omega⟩, Hp.re (hw.sub (H' := fp ++ (f23 ++ Hr)) zSub) zRe⟩
     ·try simp only [sq] at h68
      refine Q.v rfl rfl rfl (V.loadBox rfl isAgg125 sizeOf125 zAt (by rfl)) ?_
      refine Q.call (v := .int .i64 (usedN pa : Nat)) rfl rfl rfl rfl call145 rfl (fun w hw => used_ok (hpcA _ (fun q hq => by simp only [List.mem_append, List.mem_cons] at hq ⊢; rcases hq with h | h | h | h <;> simp [h])) hSa hw) ?_
      refine Q.v rfl rfl rfl (V.loadBox rfl isAgg125 sizeOf125 zAt (by rfl)) ?_
      refine Q.call (v := .int .i64 (usedN pc : Nat)) rfl rfl rfl rfl call145 rfl (fun w hw => used_ok (hpcC _ (fun q hq => by simp only [List.mem_append, List.mem_cons] at hq ⊢; rcases hq with h | h | h | h <;> simp [h])) hSc hw) ?_
      refine Q.v rfl rfl rfl (V.minN (c := ((min (usedN pa) (usedN pc) : Nat) : Int)) rfl rfl (by omega)) ?_
      refine tQe rfl (tU rfl (tM rfl ?_))
      refine Q.fork (d := 76) rfl (fun h76 => ?_) (fun h76 => ?_)
      ·try simp only [sq] at h76
       refine tS rfl (tS rfl (tS rfl (tS rfl (tS rfl (tS rfl (tT rfl (tN (sO rfl (sD (sM rfl (sA rfl (sA rfl (sN ?_)))))))))))))
       refine R.ret2 results111 rfl rfl (fun w hw => ?_)
       rw [if_pos (by omega)] at hRZ
       subst hRZ
       exact ⟨S2, fp, _, f23, 0, rfl, le1.trans le2, hd2, .inl ⟨l2, rfl, rfl, ho23.mono (le1.trans le2), hl2f, by omega⟩, Hp.re (hw.sub (H' := fp ++ (f23 ++ Hr)) zSub) zRe⟩
      ·try simp only [sq] at h76
       refine Q.v rfl rfl rfl (V.loadBox rfl isAgg125 sizeOf125 zAt (by rfl)) ?_
       refine Q.call (v := .int .i64 (usedN pa : Nat)) rfl rfl rfl rfl call145 rfl (fun w hw => used_ok (hpcA _ (fun q hq => by simp only [List.mem_append, List.mem_cons] at hq ⊢; rcases hq with h | h | h | h <;> simp [h])) hSa hw) ?_
       refine Q.v rfl rfl rfl (V.loadBox rfl isAgg125 sizeOf125 zAt (by rfl)) ?_
       refine Q.call (v := .int .i64 (usedN pc : Nat)) rfl rfl rfl rfl call145 rfl (fun w hw => used_ok (hpcC _ (fun q hq => by simp only [List.mem_append, List.mem_cons] at hq ⊢; rcases hq with h | h | h | h <;> simp [h])) hSc hw) ?_
       refine Q.v rfl rfl rfl (V.add (c := ((usedN pa + usedN pc : Nat) : Int)) rfl rfl (by rw [w64 (by omega) (by omega)]; omega)) ?_
       refine tQe rfl (tU rfl (tN ?_))
       refine C.cond rfl (fun h83 => ?_) (fun h83 => ?_)
       ·try simp only [sq] at h83
        refine sD (sM rfl (sA rfl (sA rfl (sN ?_))))
        refine R.ret2 results111 rfl rfl (fun w hw => ?_)
        rw [if_pos (by omega)] at hRZ
        subst hRZ
        exact ⟨S2, fp, _, f23, 0, rfl, le1.trans le2, hd2, .inl ⟨l2, rfl, rfl, ho23.mono (le1.trans le2), hl2f, by omega⟩, Hp.re (hw.sub (H' := fp ++ (f23 ++ Hr)) zSub) zRe⟩
       ·try simp only [sq] at h83
        rw [if_neg (by omega)] at hRZ
        unfold Pr.merge at hRZ
        rw [hkp0, hkp1, hkk] at hRZ
        have le := le1.trans le2
        have gA1 := Sees.le le _ _ _ gA1
        have gB1 := Sees.le le _ _ _ gB1
        refine sK (sC (sC ?_))
        refine C.drawC [] (Hp w0 F S2 (f23 ++ Hr)) (fun w h => h.sub zSub) (by kernel_rfl) rfl (fun w hw => hw.drawn _) ?_
        refine D.take 0 (listed' := #[true, false, false, false, false, false, false, false, false, false, false, false, false, false]) rfl (by kernel_rfl) rfl rfl rfl rfl (V.move rfl) (fun w h => h.sub zSub) ?_
        refine D.take 1 (listed' := #[true, true, false, false, false, false, false, false, false, false, false, false, false, false]) rfl (by kernel_rfl) rfl rfl rfl rfl (V.move rfl) (fun w h => h.sub zSub) ?_
        refine D.take 2 (listed' := #[true, true, true, false, false, false, false, false, false, false, false, false, false, false]) rfl (by kernel_rfl) rfl rfl rfl rfl (V.indexAddr (j := k) rfl rfl underlying115 sizeOf129 rfl (by omega)) (fun w h => h.sub zSub) ?_
        refine D.take 3 (listed' := #[true, true, true, true, false, false, false, false, false, false, false, false, false, false]) rfl (by kernel_rfl) rfl rfl rfl rfl (V.fa rfl underlying129 rfl rfl sizeOf3) (fun w h => h.sub zSub) ?_
        refine D.take 4 (listed' := #[true, true, true, true, true, false, false, false, false, false, false, false, false, false]) rfl (by kernel_rfl) rfl rfl rfl rfl (V.load rfl isAgg3 (.apl gA1) gA3) (fun w h => h.sub zSub) ?_
        refine D.take 5 (listed' := #[true, true, true, true, true, true, false, false, false, false, false, false, false, false]) rfl (by kernel_rfl) rfl rfl rfl rfl (V.move rfl) (fun w h => h.sub zSub) ?_
        refine D.take 6 (listed' := #[true, true, true, true, true, true, true, false, false, false, false, false, false, false]) rfl (by kernel_rfl) rfl rfl rfl rfl (V.move rfl) (fun w h => h.sub zSub) ?_
        refine D.take 7 (listed' := #[true, true, true, true, true, true, true, true, false, false, false, false, false, false]) rfl (by kernel_rfl) rfl rfl rfl rfl (V.add (c := ((k + 1 : Nat) : Int)) rfl rfl (by rw [w64 (by omega) (by omega)]; omega)) (fun w h => h.sub zSub) ?_
        refine D.take 8 (listed' := #[true, true, true, true, true, true, true, true, true, false, false, false, false, false]) rfl (by kernel_rfl) rfl rfl rfl rfl (V.indexAddr (j := k + 1) rfl rfl underlying115 sizeOf129 rfl hkl) (fun w h => h.sub zSub) ?_
        refine D.take 9 (listed' := #[true, true, true, true, true, true, true, true, true, true, false, false, false, false]) rfl (by kernel_rfl) rfl rfl rfl rfl (V.fa rfl underlying129 rfl rfl sizeOf3) (fun w h => h.sub zSub) ?_
        refine D.take 10 (listed' := #[true, true, true, true, true, true, true, true, true, true, true, false, false, false]) rfl (by kernel_rfl) rfl rfl rfl rfl (V.load rfl isAgg3 (.apl gB1) gB3) (fun w h => h.sub zSub) ?_
        refine D.take 13 (listed' := #[true, true, true, true, true, true, true, true, true, true, true, false, false, true]) rfl (by kernel_rfl) rfl rfl rfl rfl (V.move rfl) (fun w h => h.sub zSub) ?_
        refine D.step 11 (listed' := #[true, true, true, true, true, true, true, true, true, true, true, true, false, true]) (by kernel_rfl) rfl rfl (.inr (fun w h => h.sub zSub)) ?_
        refine L.sliceF1 rfl rfl rfl underlying37 sizeOf3 zeroValue3 rfl (by decide) (by decide) (Fills.cons (off := 0) rfl rfl rfl zPut (Fills.cons (off := 1) rfl rfl rfl zPut Fills.nil)) (fun b96 => ?_)
        refine D.back ?_
        refine D.step 12 (listed' := #[true, true, true, true, true, true, true, true, true, true, true, true, true, true]) (by kernel_rfl) rfl rfl (.inr (fun w h => h.sub zSub)) ?_
        refine L.w rfl (V.len rfl underlying37) ?_
        refine D.back ?_
        refine D.done (by kernel_rfl) (.inr (fun w h => h.sub zSub)) (N.seq ?_)
        refine sB ?_
        refine C.loop (α := Nat × Store × Heap) (fun z => [(0, .pointer (some ⟨b, 0, none⟩)), (1, .slice (some ⟨b23, 0, none⟩) l2.length c23), (10, .int .i64 (k : Int)), (11, .pointer (some ⟨b11, 0, none⟩)), (13, .pointer (some ⟨b13, 0, none⟩)), (96, .slice (some ⟨b96, 0, none⟩) 2 2), (97, .int .i64 2), (98, .int .i64 (z.1 : Int))])
         (fun z w => (z.1 ≤ 2 ∧ (∀ j, j < z.1 → dE s p0 p1 j = 0) ∧ S2.le z.2.1 ∧ PgR z.2.1 b db (dAt s p0 p1 z.1) z.2.2) ∧ Hp w0 F z.2.1 ((b96, .cells #[.int .i64 (p0 : Int), .int .i64 (p1 : Int)] 3 (0, 0)) :: (b13, .cells #[.int .i64 (pc.kind : Int), .int .u64 (pc.txn : Int), .int .i64 (pc.next : Int), .slice e4 pc.items.length d4, .slice e5 pc.kids.length d5, .slice e6 pc.data.length d6, .slice e7 pc.ids.length d7] 125 (0, 0)) :: (b11, .cells #[.int .i64 (pa.kind : Int), .int .u64 (pa.txn : Int), .int .i64 (pa.next : Int), .slice a4 pa.items.length c4, .slice a5 pa.kids.length c5, .slice a6 pa.data.length c6, .slice a7 pa.ids.length c7] 125 (0, 0)) :: (gi ++ (gk ++ (ci ++ (ck ++ (f23 ++ (z.2.2 ++ Hr))))))) w)
         (fun z => 2 - z.1) (0, S2, fp) ⟨rfl, rfl, rfl, rfl, rfl, rfl, rfl, rfl, trivial⟩ (fun w hw => ⟨⟨by show 0 ≤ 2; omega, (fun j hj => by have : j < 0 := hj; omega), .refl _, hd2⟩, Hp.re (hw.sub (H' := (b96, .cells #[.int .i64 (p0 : Int), .int .i64 (p1 : Int)] 3 (0, 0)) :: (b13, .cells #[.int .i64 (pc.kind : Int), .int .u64 (pc.txn : Int), .int .i64 (pc.next : Int), .slice e4 pc.items.length d4, .slice e5 pc.kids.length d5, .slice e6 pc.data.length d6, .slice e7 pc.ids.length d7] 125 (0, 0)) :: (ci ++ (ck ++ (fp ++ ((b11, .cells #[.int .i64 (pa.kind : Int), .int .u64 (pa.txn : Int), .int .i64 (pa.next : Int), .slice a4 pa.items.length c4, .slice a5 pa.kids.length c5, .slice a6 pa.data.length c6, .slice a7 pa.ids.length c7] 125 (0, 0)) :: (gi ++ (gk ++ (f23 ++ Hr)))))))) zSub) zRe⟩) (fun zz => C.pure (fun hzz => ?_))
        obtain ⟨z, S3, fp3⟩ := zz
        obtain ⟨hz, hze, le3, hd3⟩ := hzz
        dsimp only at hz hze le3 hd3 ⊢
        refine sD (sQc rfl (sN (sC ?_)))
        refine C.cond rfl (fun h99 => ?_) (fun h99 => ?_)
        ·try simp only [sq] at h99
         have hz2 : z < 2 := by omega
         obtain ⟨pz, hpz⟩ : ∃ pz, pAt p0 p1 z = pz := ⟨_, rfl⟩
         have hstep := dAt_step s p0 p1 hz2
         rw [hpz] at hstep
         have hld : (#[.int .i64 (p0 : Int), .int .i64 (p1 : Int)] : Array Value)[0 + z * 1]? = some (.int .i64 (pz : Int)) := by
          rcases (by omega : z = 0 ∨ z = 1) with rfl | rfl
          ·rw [← hpz]; rfl
          ·rw [← hpz]; rfl
         refine sK (sC (sB (sD ?_)))
         refine L.w rfl (V.indexAddr rfl rfl underlying37 sizeOf3 rfl (by omega)) ?_
         refine L.w rfl (V.load rfl isAgg3 .head hld) ?_
         refine sA rfl (sE (sM rfl (sM rfl ?_)))
         refine L.call rfl rfl rfl call112 rfl (fun w hw => pgDrop_ok (Hr := (b96, .cells #[.int .i64 (p0 : Int), .int .i64 (p1 : Int)] 3 (0, 0)) :: (b13, .cells #[.int .i64 (pc.kind : Int), .int .u64 (pc.txn : Int), .int .i64 (pc.next : Int), .slice e4 pc.items.length d4, .slice e5 pc.kids.length d5, .slice e6 pc.data.length d6, .slice e7 pc.ids.length d7] 125 (0, 0)) :: (b11, .cells #[.int .i64 (pa.kind : Int), .int .u64 (pa.txn : Int), .int .i64 (pa.next : Int), .slice a4 pa.items.length c4, .slice a5 pa.kids.length c5, .slice a6 pa.data.length c6, .slice a7 pa.ids.length c7] 125 (0, 0)) :: (gi ++ (gk ++ (ci ++ (ck ++ (f23 ++ Hr)))))) hd3 (pz : Int) (hw.re zRe)) ?_
         rintro _ a w hst ⟨S4, fp4, rfl, le4, hd4, hw⟩
         refine hst.go rfl hw ?_
         clear hst hw w a
         rw [hstep] at hd4 ⊢
         dsimp only at hd4 ⊢
         refine sA rfl (sE (sM rfl (sQb rfl (sN ?_))))
         refine C.cond rfl (fun h106 => ?_) (fun h106 => ?_)
         ·try simp only [sq] at h106
          refine sD (sM rfl (sA rfl (sA rfl (sN ?_))))
          refine R.ret2 results111 rfl rfl (fun w hw => ?_)
          have h106 : dE s p0 p1 z ≠ 0 := h106
          refine ⟨S4, fp4, _, [], _, rfl, le.trans (le3.trans le4), ?_, .inr ⟨?_, h106, rfl⟩, hw.sub zSub⟩
          ·rcases (by omega : z = 0 ∨ z = 1) with rfl | rfl
           ·have h106 : (s.drop (p0 : Int)).2 ≠ 0 := h106
            rw [if_pos h106] at hRZ; rw [← hRZ]; exact hd4
           ·have h0 : (s.drop (p0 : Int)).2 = 0 := hze 0 (by omega)
            have h106 : ((s.drop (p0 : Int)).1.drop (p1 : Int)).2 ≠ 0 := h106
            rw [if_neg (fun h => h h0), if_pos h106] at hRZ; rw [← hRZ]; exact hd4
          ·rcases (by omega : z = 0 ∨ z = 1) with rfl | rfl
           ·have h106 : (s.drop (p0 : Int)).2 ≠ 0 := h106
            rw [if_pos h106] at hRZ; rw [← hRZ]; rfl
           ·have h0 : (s.drop (p0 : Int)).2 = 0 := hze 0 (by omega)
            have h106 : ((s.drop (p0 : Int)).1.drop (p1 : Int)).2 ≠ 0 := h106
            rw [if_neg (fun h => h h0), if_pos h106] at hRZ; rw [← hRZ]; rfl
         ·try simp only [sq] at h106
          have h106 : dE s p0 p1 z = 0 := h106
          refine C.skip (N.blk (N.seq ?_))
          refine sR ?_
          refine L.w rfl (V.add (c := ((z + 1 : Nat) : Int)) rfl rfl (by rw [w64 (by omega) (by omega)]; omega)) ?_
          refine sM rfl ?_
          refine L.nil ?_
          refine N.round (z + 1, S4, fp4) (by show 2 - (z + 1) < 2 - z; omega) ⟨rfl, rfl, rfl, rfl, rfl, rfl, rfl, rfl, trivial⟩ (fun w hw => ⟨⟨by show z + 1 ≤ 2; omega, (fun j hj => ?_), le3.trans le4, hd4⟩, Hp.re hw zRe⟩)
          have hj9 : j < z + 1 := hj
          rcases (by omega : j < z ∨ j = z) with h | rfl
          ·exact hze j h
          ·exact h106
        ·try simp only [sq] at h99
         have ez : z = 2 := by omega
         subst ez
         have e0 : (s.drop (p0 : Int)).2 = 0 := hze 0 (by omega)
         have e1 : ((s.drop (p0 : Int)).1.drop (p1 : Int)).2 = 0 := hze 1 (by omega)
         rw [if_neg (fun h => h e0), if_neg (fun h => h e1)] at hRZ
         have hd3 : PgR S3 b db ((s.drop (p0 : Int)).1.drop (p1 : Int)).1 fp3 := hd3
         obtain ⟨s3, hs3⟩ : ∃ s3, ((s.drop (p0 : Int)).1.drop (p1 : Int)).1 = s3 := ⟨_, rfl⟩
         rw [hs3] at hd3 hRZ
         have hpta3 := hpta2.mono le3
         have hptc3 := hptc.mono le3
         obtain ⟨ra, hora, haa⟩ := hpta3.items
         obtain ⟨rk, hork, hak⟩ := hpta3.kids
         obtain ⟨rc, horc, hac⟩ := hptc3.items
         obtain ⟨rd, hord, had⟩ := hptc3.kids
         obtain ⟨q1, q2, q3, q4⟩ := hRa.lens
         obtain ⟨q5, q6, q7, q8⟩ := hRc.lens
         refine sZ rfl (sC ?_)
         refine C.drawC [] (Hp w0 F S3 ((b13, .cells #[.int .i64 (pc.kind : Int), .int .u64 (pc.txn : Int), .int .i64 (pc.next : Int), .slice e4 pc.items.length d4, .slice e5 pc.kids.length d5, .slice e6 pc.data.length d6, .slice e7 pc.ids.length d7] 125 (0, 0)) :: (b11, .cells #[.int .i64 (pa.kind : Int), .int .u64 (pa.txn : Int), .int .i64 (pa.next : Int), .slice a4 pa.items.length c4, .slice a5 pa.kids.length c5, .slice a6 pa.data.length c6, .slice a7 pa.ids.length c7] 125 (0, 0)) :: Hr)) (fun w h => h.sub zSub) (by kernel_rfl) rfl (fun w hw => hw.drawn _) ?_
         refine D.take 0 (listed' := #[true, false, false, false, false, false, false, false, false, false, false, false, false, false, false, false, false, false, false, false]) rfl (by kernel_rfl) rfl rfl rfl rfl (V.move rfl) (fun w h => h.sub zSub) ?_
         refine D.take 1 (listed' := #[true, true, false, false, false, false, false, false, false, false, false, false, false, false, false, false, false, false, false, false]) rfl (by kernel_rfl) rfl rfl rfl rfl (V.fa rfl underlying125 rfl rfl sizeOf3) (fun w h => h.sub zSub) ?_
         refine D.take 2 (listed' := #[true, true, true, false, false, false, false, false, false, false, false, false, false, false, false, false, false, false, false, false]) rfl (by kernel_rfl) rfl rfl rfl rfl (V.load rfl isAgg3 zAt (by rfl)) (fun w h => h.sub zSub) ?_
         refine D.take 3 (listed' := #[true, true, true, true, false, false, false, false, false, false, false, false, false, false, false, false, false, false, false, false]) rfl (by kernel_rfl) rfl rfl rfl rfl (V.fa rfl underlying125 rfl rfl sizeOf118) (fun w h => h.sub zSub) ?_
         refine D.take 4 (listed' := #[true, true, true, true, true, false, false, false, false, false, false, false, false, false, false, false, false, false, false, false]) rfl (by kernel_rfl) rfl rfl rfl rfl (V.load rfl isAgg118 zAt (by rfl)) (fun w h => h.sub zSub) ?_
         refine D.take 5 (listed' := #[true, true, true, true, true, true, false, false, false, false, false, false, false, false, false, false, false, false, false, false]) rfl (by kernel_rfl) rfl rfl rfl rfl (V.fa rfl underlying125 rfl rfl sizeOf118) (fun w h => h.sub zSub) ?_
         refine D.take 6 (listed' := #[true, true, true, true, true, true, true, false, false, false, false, false, false, false, false, false, false, false, false, false]) rfl (by kernel_rfl) rfl rfl rfl rfl (V.load rfl isAgg118 zAt (by rfl)) (fun w h => h.sub zSub) ?_
         refine D.take 8 (listed' := #[true, true, true, true, true, true, true, false, true, false, false, false, false, false, false, false, false, false, false, false]) rfl (by kernel_rfl) rfl rfl rfl rfl (V.fa rfl underlying125 rfl rfl sizeOf115) (fun w h => h.sub zSub) ?_
         refine D.take 9 (listed' := #[true, true, true, true, true, true, true, false, true, true, false, false, false, false, false, false, false, false, false, false]) rfl (by kernel_rfl) rfl rfl rfl rfl (V.load rfl isAgg115 zAt (by rfl)) (fun w h => h.sub zSub) ?_
         refine D.take 10 (listed' := #[true, true, true, true, true, true, true, false, true, true, true, false, false, false, false, false, false, false, false, false]) rfl (by kernel_rfl) rfl rfl rfl rfl (V.fa rfl underlying125 rfl rfl sizeOf115) (fun w h => h.sub zSub) ?_
         refine D.take 11 (listed' := #[true, true, true, true, true, true, true, false, true, true, true, true, false, false, false, false, false, false, false, false]) rfl (by kernel_rfl) rfl rfl rfl rfl (V.load rfl isAgg115 zAt (by rfl)) (fun w h => h.sub zSub) ?_
         refine D.step 7 (listed' := #[true, true, true, true, true, true, true, true, true, true, true, true, false, false, false, false, false, false, false, false]) (by kernel_rfl) rfl rfl (.inr (fun w h => h.sub zSub)) ?_
         refine L.append (by' := 64) (sz := 4) (l := pc.items.length) (ys := rc.flatten) rfl rfl rfl rfl underlying118 info_item rfl rfl rfl rfl hora (.skip (.skip (.skip .done))) ((horc.rd (H := ci) (fun q hq => hq)).mono (Sees.of (.refl _) (fun q hq => by simp [hq]))) (flat_one (fun c x h => itemC_one h) hac) (by omega) (by omega) (fun v117 f117 ho117 => ?_)
         have ho117 : ItemsO S3 v117 (pa.items ++ pc.items) f117 := ⟨ra ++ rc, by rw [List.flatten_append, List.length_append]; exact ho117, haa.append hac⟩
         obtain ⟨a117, c117, rfl⟩ := ho117.form
         refine D.back ?_
         refine D.step 12 (listed' := #[true, true, true, true, true, true, true, true, true, true, true, true, true, false, false, false, false, false, false, false]) (by kernel_rfl) rfl rfl (.inr (fun w h => by first | (refine h.sub ?_; exact zSub) | (refine (h.less le5).sub ?_; exact zSub))) ?_
         refine L.append (by' := 32) (sz := 2) (l := pc.kids.length) (ys := rd.flatten) rfl rfl rfl rfl underlying115 info_kid rfl rfl rfl rfl hork (.skipl (.skip (.skip (.skip .done)))) ((hord.rd (H := ck) (fun q hq => hq)).mono (Sees.of (.refl _) (fun q hq => by simp [hq]))) (flat_one (fun c x h => kidC_one h) had) (by omega) (by omega) (fun v122 f122 ho122 => ?_)
         have ho122 : KidsO S3 v122 (pa.kids ++ pc.kids) f122 := ⟨rk ++ rd, by rw [List.flatten_append, List.length_append]; exact ho122, hak.append had⟩
         obtain ⟨a122, c122, rfl⟩ := ho122.form
         refine D.back ?_
         refine D.step 13 (listed' := #[true, true, true, true, true, true, true, true, true, true, true, true, true, true, false, false, false, false, false, false]) (by kernel_rfl) rfl rfl (.inr (fun w h => by first | (refine h.sub ?_; exact zSub) | (refine (h.less le5).sub ?_; exact zSub))) ?_
         refine L.w rfl (V.build rfl underlying125 zeroValue125 (pl := [(0, 1), (1, 1), (2, 1), (3, 1), (4, 1), (5, 1), (6, 1)]) (fun w => by kernel_rfl) (Fills.cons rfl rfl rfl zPut (Fills.cons rfl rfl rfl zPut (Fills.cons rfl rfl rfl zPut Fills.nil)))) ?_
         refine D.back ?_
         refine D.step 14 (listed' := #[true, true, true, true, true, true, true, true, true, true, true, true, true, true, true, false, false, false, false, false]) (by kernel_rfl) rfl rfl (.inr (fun w h => by first | (refine h.sub ?_; exact zSub) | (refine (h.less le5).sub ?_; exact zSub))) ?_
         have hbc : PageC S3 (f122 ++ f117) [.int .i64 (pa.kind : Int), .int .u64 0, .int .i64 0, .slice a117 (pa.items ++ pc.items).length c117, .slice a122 (pa.kids ++ pc.kids).length c122, .slice none 0 0, .slice none 0 0] (bothP pa pc) := ⟨_, _, _, _, rfl, ho117.c (fun q hq => List.mem_append_right _ hq), ho122.c (fun q hq => List.mem_append_left _ hq), Rd.nil .., Rd.nil ..⟩
         have hbs : Small (bothP pa pc) := ⟨hSa.kind, by show 0 < 2 ^ 64; decide, by show 0 < 2 ^ 32; decide, by show (pa.items ++ pc.items).length ≤ 100000; rw [List.length_append]; omega, fun x hx => (List.mem_append.1 hx).elim (hSa.item x) (hSc.item x), by show (pa.kids ++ pc.kids).length ≤ 100000; rw [List.length_append]; omega, fun x hx => (List.mem_append.1 hx).elim (hSa.kid x) (hSc.kid x), by show 0 ≤ 100000; decide, by show 0 ≤ 100000; decide, (fun x hx => by cases hx)⟩
         refine L.call rfl rfl rfl call106 rfl (fun w hw => pgAdd_ok (Hr := f122 ++ (f117 ++ ((b96, .cells #[.int .i64 (p0 : Int), .int .i64 (p1 : Int)] 3 (0, 0)) :: (b13, .cells #[.int .i64 (pc.kind : Int), .int .u64 (pc.txn : Int), .int .i64 (pc.next : Int), .slice e4 pc.items.length d4, .slice e5 pc.kids.length d5, .slice e6 pc.data.length d6, .slice e7 pc.ids.length d7] 125 (0, 0)) :: (b11, .cells #[.int .i64 (pa.kind : Int), .int .u64 (pa.txn : Int), .int .i64 (pa.next : Int), .slice a4 pa.items.length c4, .slice a5 pa.kids.length c5, .slice a6 pa.data.length c6, .slice a7 pa.ids.length c7] 125 (0, 0)) :: (ci ++ (ck ++ (f23 ++ Hr)))))) hd3 (hbc.mono (.refl _) (fun q hq => by simp only [List.mem_append, List.mem_cons] at hq ⊢; rcases hq with h | h <;> simp [h])) hbs (hw.re zRe)) ?_
         rintro _ a w hst ⟨S5, fp5, rfl, le5, hd5, hw⟩
         refine hst.go rfl hw ?_
         clear hst hw w a
         have gA9 := Sees.le (le3.trans le5) _ _ _ gA1
         refine D.back ?_
         refine D.step 15 (listed' := #[true, true, true, true, true, true, true, true, true, true, true, true, true, true, true, true, false, false, false, false]) (by kernel_rfl) rfl rfl (.inr (fun w h => by first | (refine h.sub ?_; exact zSub) | (refine (h.less le5).sub ?_; exact zSub))) ?_
         refine sM rfl ?_
         refine D.back ?_
         refine D.take 16 (listed' := #[true, true, true, true, true, true, true, true, true, true, true, true, true, true, true, true, true, false, false, false]) rfl (by kernel_rfl) rfl rfl rfl rfl (V.extract rfl rfl) (fun w h => by first | (refine h.sub ?_; exact zSub) | (refine (h.less le5).sub ?_; exact zSub)) ?_
         refine D.take 17 (listed' := #[true, true, true, true, true, true, true, true, true, true, true, true, true, true, true, true, true, true, false, false]) rfl (by kernel_rfl) rfl rfl rfl rfl (V.extract rfl rfl) (fun w h => by first | (refine h.sub ?_; exact zSub) | (refine (h.less le5).sub ?_; exact zSub)) ?_
         refine D.step 18 (listed' := #[true, true, true, true, true, true, true, true, true, true, true, true, true, true, true, true, true, true, true, false]) (by kernel_rfl) rfl rfl (.inr (fun w h => by first | (refine h.sub ?_; exact zSub) | (refine (h.less le5).sub ?_; exact zSub))) ?_
         refine sA rfl ?_
         refine D.back ?_
         refine D.step 19 (listed' := #[true, true, true, true, true, true, true, true, true, true, true, true, true, true, true, true, true, true, true, true]) (by kernel_rfl) rfl rfl (.inr (fun w h => by first | (refine h.sub ?_; exact zSub) | (refine (h.less le5).sub ?_; exact zSub))) ?_
         refine sA rfl ?_
         refine D.back ?_
         refine D.done (by kernel_rfl) (.inr (fun w h => by first | (refine h.sub ?_; exact zSub) | (refine (h.less le5).sub ?_; exact zSub))) (N.seq ?_)
         refine sD (sM rfl (sM rfl (sM rfl ?_)))
         refine L.w rfl (V.add (c := ((k + 2 : Nat) : Int)) rfl rfl (by rw [w64 (by omega) (by omega)]; omega)) ?_
         refine sM rfl (sM rfl ?_)
         refine L.w rfl (V.indexAddr (j := k) rfl rfl underlying115 sizeOf129 rfl (by omega)) ?_
         refine L.w rfl (V.fa rfl underlying129 rfl rfl sizeOf22) ?_
         refine L.w rfl (V.load rfl isAgg22 (.apr (.apr (.apr (.tail (.tail (.tail (.apr (.apr (.apl gA9))))))))) gA2) ?_
         refine sM rfl ?_
         obtain ⟨ya, yc, rfl, _⟩ := gA4.form
         refine L.w rfl (V.build rfl underlying129 zeroValue129 (pl := [(0, 1), (1, 1)]) (fun w => by kernel_rfl) (Fills.cons rfl rfl rfl zPut (Fills.cons rfl rfl rfl zPut Fills.nil))) ?_
         obtain ⟨nid, hnid⟩ : ∃ nid : Nat, (s3.add (bothP pa pc)).2.1 = (nid : Int) := ⟨(s3.add (bothP pa pc)).2.1.toNat, by rw [Int.toNat_of_nonneg (Pr.add_id0 hd3.fl _).1]⟩
         have hnl := (Pr.add_id0 hd3.fl (bothP pa pc)).2
         rw [hnid] at hnl ⊢
         refine L.slice1 rfl rfl rfl underlying115 sizeOf129 zeroValue129 rfl (by decide) (by decide) (vs := [.slice ya hky.length yc, .int .i64 (nid : Int)]) rfl rfl (fun b138 => ?_)
         have hone : KidsO S5 (.slice (some ⟨b138, 0, none⟩) 1 1) [⟨hky, nid⟩] [(b138, .cells (List.toArray [.slice ya hky.length yc, .int .i64 (nid : Int)]) 129 (0, 0))] := ⟨[[.slice ya hky.length yc, .int .i64 (nid : Int)]], Own.full rfl (by decide), ⟨_, rfl, gA4.mono (Sees.le (le.trans (le3.trans le5)) _)⟩, trivial⟩
         refine L.call rfl rfl rfl call148 rfl (fun w hw => KidsO.repl (i := k) (j := k + 2) (Hr := fp5 ++ Hr) (ho23.mono (le.trans (le3.trans le5))) hone (by omega) (by omega) (by omega) (by rw [List.length_singleton]; omega) (Hp.re (hw.sub (H' := (b138, .cells (List.toArray [.slice ya hky.length yc, .int .i64 (nid : Int)]) 129 (0, 0)) :: (fp5 ++ (f23 ++ Hr))) zSub) zRe)) ?_
         rintro _ a w hst ⟨v139, f139, rfl, ho139, hw⟩
         refine hst.go rfl hw ?_
         clear hst hw w a
         refine sM rfl (sA rfl (sA rfl (sN ?_)))
         refine R.ret2 results111 rfl rfl (fun w hw => ?_)
         have hbnd : ∀ x ∈ l2.take k ++ [(⟨hky, nid⟩ : Kid)] ++ l2.drop (k + 2), x.key.length ≤ 32 ∧ x.page < 2 ^ 32 := FineK.app (FineK.app (fun x hx => hl2f x (List.mem_of_mem_take hx)) (fun x hx => by
          rw [List.mem_singleton] at hx; subst hx
          exact ⟨by rw [← hhky]; exact (hl2f _ (List.getElem_mem _)).1, by show nid < 2 ^ 32; omega⟩)) (fun x hx => hl2f x (List.mem_of_mem_drop hx))
         have hlen9 : (l2.take k ++ [(⟨hky, nid⟩ : Kid)] ++ l2.drop (k + 2)).length ≤ l.length + kids.length := by rw [List.length_append, List.length_append, List.length_take, List.length_drop, List.length_singleton]; omega
         have ht9 : (s3.add (bothP pa pc)).2.1.toNat = nid := by rw [hnid]; rfl
         rw [ht9] at hRZ
         by_cases he9 : (s3.add (bothP pa pc)).2.2 = 0
         ·rw [if_neg (fun h => h he9)] at hRZ
          subst hRZ
          exact ⟨S5, fp5, _, f139, 0, by rw [← he9]; rfl, le.trans (le3.trans le5), hd5, .inl ⟨_, rfl, rfl, ho139, hbnd, hlen9⟩, hw.sub zSub⟩
         ·rw [if_pos he9] at hRZ
          subst hRZ
          exact ⟨S5, fp5, _, [], _, rfl, le.trans (le3.trans le5), hd5, .inr ⟨rfl, he9, rfl⟩, hw.sub zSub⟩
end
end Go.Proofs.YtijgbppkdaiikaaGreat

set_option linter.unusedSimpArgs false
set_option linter.unusedVariables false
namespace Go.Proofs.YtijgbppkdaiikaaGreat
open Go.Proofs.Tryz Go.Tk

noncomputable def branchEnd (id : Int) (x : Page) (i : Nat) (put : Option Item) (r : Pr × Bool × Except Int (List Kid)) : Pr × Bool × Except Int (List Kid) :=
 match r.2.2 with
 | .error e => (r.1, r.2.1, .error e)
 | .ok kids => if put = none ∧ r.2.1 = false then (r.1, false, .ok []) else
   match (r.1.joined x.kids i kids).2 with
   | .error e => ((r.1.joined x.kids i kids).1, r.2.1, .error e)
   | .ok rest => if ((r.1.joined x.kids i kids).1.drop id).2 ≠ 0 then (((r.1.joined x.kids i kids).1.drop id).1, r.2.1, .error ((r.1.joined x.kids i kids).1.drop id).2) else
     ((((r.1.joined x.kids i kids).1.drop id).1.branches rest).1, r.2.1, (((r.1.joined x.kids i kids).1.drop id).1.branches rest).2)
noncomputable def changeF (key : List UInt8) (put : Option Item) : Nat → Pr → Int → Nat → Pr × Bool × Except Int (List Kid)
 | 0, s, _, _ => (s, false, .error 4)
 | f + 1, s, id, depth => match s.node id depth with
   | .error e => (s, false, .error e)
   | .ok x => if x.kind = 1 then s.changeLeaf id x key put else
      branchEnd id x (rt (x.kids.map (·.key)) key) put (changeF key put f s (kidPage x.kids (rt (x.kids.map (·.key)) key)) (depth + 1))
/-- The tree of a page, with an item put, or a key taken away: the kids in its place; was the key there? -/
noncomputable def Pr.change (s : Pr) (id : Int) (key : List UInt8) (put : Option Item) : Pr × Bool × Except Int (List Kid) := changeF key put 18 s id 0

section
variable {w0 : World} {F : Nat → Prop}

theorem change_ok {b db : Nat} {kv pv : Value} {key : List UInt8} {put : Option Item} (hpf : FineP put) : ∀ (f : Nat) {S : Store} {Hr : Heap} {w : World} {s : Pr} {fp : Heap} (id : Int) (depth : Nat), f + depth = 17 → PgR S b db s fp → Bs S Hr kv key → PutV S Hr pv put → Hp w0 F S (fp ++ Hr) w →
 Calls Tryz.prog 56 #[.pointer (some ⟨b, 0, none⟩), .int .i64 id, .int .i64 (depth : Int), kv, pv] w fun e w' => ∃ S' fp' v f' t err, e = .returned (.tuple #[v, .bool t, .int .i64 err]) ∧ S.le S' ∧ PgR S' b db (changeF key put (f + 1) s id depth).1 fp' ∧
  ((∃ ks, (changeF key put (f + 1) s id depth).2.2 = .ok ks ∧ err = 0 ∧ t = (changeF key put (f + 1) s id depth).2.1 ∧ KidsO S' v ks f' ∧ FineK ks ∧ ks.length ≤ 240) ∨ ((changeF key put (f + 1) s id depth).2.2 = .error err ∧ err ≠ 0 ∧ v = .slice none 0 0 ∧ f' = [])) ∧ Hp w0 F S' (f' ++ (fp' ++ Hr)) w' := by
 intro f
 induction f using Nat.strongRecOn with
 | _ f ih =>
   intro S Hr w s fp id depth hfd hd hk hp hw
   obtain ⟨pp, hpv, hpn⟩ : ∃ pp : Option Addr, pv = .pointer pp ∧ (pp.isNone = true ↔ put = none) := by
    cases put with
    | none => exact ⟨none, hp, by simp⟩
    | some y => obtain ⟨pb, c, h, _⟩ := hp; exact ⟨_, h, by simp⟩
   subst hpv
   obtain ⟨RZ, hRZ⟩ : ∃ R, changeF key put (f + 1) s id depth = R := ⟨_, rfl⟩
   rw [hRZ]
   rw [changeF] at hRZ
   refine enterA hw func56 rfl ntmps56 rfl rfl ?_
   refine sD (sA rfl (sA rfl (sA rfl (sE (sM rfl (sM rfl (sM rfl ?_)))))))
   refine L.call rfl rfl rfl call58 rfl (fun w hw => node_ok hd id depth hw) ?_
   rintro _ a w hst ⟨S1, c1, f1, err, rfl, le1, hd1, hres, hw⟩
   refine hst.go rfl hw ?_
   clear hst hw w a
   obtain ⟨y1, y2, y3, y4, y5, y6, y7, hy, hy1⟩ : ∃ y1 y2 y3 y4 y5 y6 y7, c1 = [y1, y2, y3, y4, y5, y6, y7] ∧ [y1, y2, y3, y4, y5, y6, y7].all (·.oneCell') = true := by
    rcases hres with ⟨p, _, _, _, hp⟩ | ⟨_, _, rfl, _⟩
    ·exact pageO_form hp
    ·exact ⟨_, _, _, _, _, _, _, rfl, rfl⟩
   subst hy
   have hk1 := hk.mono (Sees.le le1 _)
   have hp1 := hp.mono le1 (fun q hq => hq)
   refine sM rfl (sX rfl (sX rfl ?_))
   refine L.allocA rfl rfl zeroValue125 (fun b13 => ?_)
   refine L.storeBox rfl rfl rfl sizeOf125 rfl rfl hy1 zUp ?_
   refine sA rfl (sN (sC (sD (sM rfl (sQb rfl (sN ?_))))))
   refine C.cond rfl (fun h28 => ?_) (fun h28 => ?_)
   ·try simp only [sq] at h28
    refine sD (sM rfl (sA rfl (sA rfl (sA rfl (sN ?_)))))
    refine R.ret3 results56 rfl rfl rfl (fun w hw => ?_)
    have h28 : err ≠ 0 := h28
    obtain ⟨hP, hcz⟩ : s.node id depth = .error err ∧ f1 = [] := by
     rcases hres with ⟨p, _, h, _⟩ | ⟨h, _, _, hz⟩
     ·exact absurd h h28
     ·exact ⟨h, hz⟩
    rw [hP] at hRZ
    subst hRZ
    exact ⟨S1, fp, _, [], _, err, rfl, le1, hd1, .inr ⟨rfl, h28, rfl, rfl⟩, hw.sub zSub⟩
   ·try simp only [sq] at h28
    have h28 : err = 0 := h28
    obtain ⟨x, hP, hxR, hpo⟩ : ∃ y, s.node id depth = .ok y ∧ Right y ∧ PageO S1 [y1, y2, y3, y4, y5, y6, y7] y f1 := by
     rcases hres with ⟨p, h, _, h1, h2⟩ | ⟨_, h, _⟩
     ·exact ⟨p, h, h1, h2⟩
     ·exact absurd h28 h
    clear hres
    obtain ⟨hpg, hkd, hdep⟩ := Pr.node_some hP
    rw [hP] at hRZ
    dsimp only at hRZ
    obtain ⟨q1, q2, q3, q4⟩ := hxR.lens
    obtain ⟨qi, qk, qd, qx, gi, gk, gd, gx, he, hpt, rfl⟩ := hpo
    simp only [List.cons.injEq] at he
    obtain ⟨rfl, rfl, rfl, rfl, rfl, rfl, rfl, _⟩ := he
    obtain ⟨a4, c4, rfl⟩ := hpt.items.form
    obtain ⟨a5, c5, rfl⟩ := hpt.kids.form
    obtain ⟨a6, c6, rfl⟩ := hpt.data.form
    obtain ⟨a7, c7, rfl⟩ := (show ∃ ad c, y7 = .slice ad x.ids.length c from Own.form hpt.ids)
    simp only [List.append_assoc]
    refine sK (sC (sD ?_))
    refine L.w rfl (V.fa rfl underlying125 rfl rfl sizeOf3) ?_
    refine L.w rfl (V.load rfl isAgg3 zAt (by rfl)) ?_
    refine sQa rfl (sN ?_)
    refine C.cond rfl (fun h32 => ?_) (fun h32 => ?_)
    ·try simp only [sq] at h32
     refine sD (sM rfl (sM rfl ?_))
     refine L.w rfl (V.loadBox rfl isAgg125 sizeOf125 zAt (by rfl)) ?_
     refine sM rfl (sM rfl ?_)
     have hk9 : x.kind = 1 := by omega
     rw [if_pos hk9] at hRZ
     refine L.call rfl rfl rfl call109 rfl (fun w hw => changeLeaf_ok (f := gi ++ (gk ++ (gd ++ gx))) (Hr := (b13, .cells #[.int .i64 (x.kind : Int), .int .u64 (x.txn : Int), .int .i64 (x.next : Int), .slice a4 x.items.length c4, .slice a5 x.kids.length c5, .slice a6 x.data.length c6, .slice a7 x.ids.length c7] 125 (0, 0)) :: Hr) id hd1 ⟨_, _, _, _, gi, gk, gd, gx, rfl, hpt, rfl⟩ hxR (hk1.mono (Sees.of (.refl _) (fun q hq => by simp [hq]))) (hp1.mono (.refl _) (fun q hq => by simp [hq])) hpf (hw.re zRe)) ?_
     rintro _ a w hst ⟨S2, fp2, v2, f2, t2, err2, rfl, le2, hd2, hres, hw⟩
     refine hst.go rfl hw ?_
     clear hst hw w a
     rw [hRZ] at hd2 hres
     refine sX rfl (sX rfl (sX rfl (sA rfl (sA rfl (sA rfl (sN ?_))))))
     refine R.ret3 results56 rfl rfl rfl (fun w hw => ?_)
     exact ⟨S2, fp2, v2, f2, t2, err2, rfl, le1.trans le2, hd2, hres, hw.sub zSub⟩
    ·try simp only [sq] at h32
     have hk9 : x.kind = 2 := by omega
     rw [if_neg (by omega)] at hRZ
     obtain ⟨j, hj⟩ : ∃ j, rt (x.kids.map (·.key)) key = j := ⟨_, rfl⟩
     have hjl : j < x.kids.length := by have := rt_lt (ks := x.kids.map (·.key)) key (by rw [List.length_map]; exact hxR.kids0 hk9); rw [hj, List.length_map] at this; exact this
     have hkc : Kids S1 gk (.slice a5 x.kids.length c5) x.kids := hpt.kids.c (fun q hq => hq)
     obtain ⟨b5, o5, cs5, T5, fz5, kv5, ha5, g1, g2, g3, g4, g5, g6⟩ := hkc.at hjl
     obtain ⟨kp, hkp⟩ : ∃ kp, x.kids[j].page = kp := ⟨_, rfl⟩
     rw [hkp] at g6
     have hkq : kidPage x.kids j = kp := by rw [kidPage_at hjl]; exact hkp
     rw [hj, hkq] at hRZ
     refine sK (sD ?_)
     refine L.w rfl (V.fa rfl underlying125 rfl rfl sizeOf115) ?_
     refine L.w rfl (V.load rfl isAgg115 zAt (by rfl)) ?_
     refine sM rfl ?_
     refine L.call rfl rfl rfl call59 rfl (fun w hw => route_ok (l := x.kids) (hkc.mono (.refl _) (fun q hq => by simp [hq])) (hk1.mono (Sees.of (.refl _) (fun q hq => by simp [hq]))) (by omega) hxR.kidsRise hw) ?_
     rintro _ a w hst ⟨rfl, hw⟩
     refine hst.go rfl hw ?_
     clear hst hw w a
     rw [hj]
     refine sA rfl (sE (sM rfl ?_))
     refine L.w rfl (V.fa rfl underlying125 rfl rfl sizeOf115) ?_
     refine L.w rfl (V.load rfl isAgg115 zAt (by rfl)) ?_
     refine sM rfl ?_
     refine L.w rfl (V.indexAddr (b := b5) (off := o5) (m := x.kids.length) (c := c5) (j := j) (by rw [← ha5]; rfl) rfl underlying115 sizeOf129 rfl hjl) ?_
     refine L.w rfl (V.fa rfl underlying129 rfl rfl sizeOf3) ?_
     refine L.w rfl (V.load rfl isAgg3 (.tail (.apr (.apl g1))) g6) ?_
     refine sM rfl ?_
     refine L.w rfl (V.add (c := ((depth + 1 : Nat) : Int)) rfl rfl (by rw [w64 (by omega) (by omega)]; omega)) ?_
     refine sM rfl (sM rfl ?_)
     obtain ⟨f, rfl⟩ : ∃ g, f = g + 1 := ⟨f - 1, by omega⟩
     refine L.call rfl rfl rfl call56 rfl (fun w hw => ih f (Nat.lt_succ_self f) (Hr := (b13, .cells #[.int .i64 (x.kind : Int), .int .u64 (x.txn : Int), .int .i64 (x.next : Int), .slice a4 x.items.length c4, .slice a5 x.kids.length c5, .slice a6 x.data.length c6, .slice a7 x.ids.length c7] 125 (0, 0)) :: (gi ++ (gk ++ (gd ++ (gx ++ Hr))))) (kp : Int) (depth + 1) (by omega) hd1 (hk1.mono (Sees.of (.refl _) (fun q hq => by simp [hq]))) (hp1.mono (.refl _) (fun q hq => by simp [hq])) (hw.re zRe)) ?_
     rintro _ a w hst ⟨S2, fp2, v2, f2, t2, err2, rfl, le2, hd2, hres, hw⟩
     refine hst.go rfl hw ?_
     clear hst hw w a
     obtain ⟨r, hr⟩ : ∃ r, changeF key put (f + 1) s (kp : Int) (depth + 1) = r := ⟨_, rfl⟩
     rw [hr] at hRZ hd2 hres
     unfold branchEnd at hRZ
     refine sM rfl (sX rfl (sX rfl (sX rfl (sA rfl (sA rfl (sA rfl (sN (sC (sD (sM rfl (sQb rfl (sM rfl ?_))))))))))))
     refine L.fork (d := 64) rfl (fun h64 => ?_) (fun h64 => ?_)
     ·try simp only [sq] at h64
      have h64 : err2 ≠ 0 := h64
      refine sS rfl (sS rfl (sS rfl (sS rfl (sS rfl (sS rfl (sT rfl (sN (sO rfl (sD (sM rfl (sM rfl (sA rfl (sA rfl ?_)))))))))))))
      refine sA rfl (sN ?_)
      refine R.ret3 results56 rfl rfl rfl (fun w hw => ?_)
      first
       | (rcases hres with ⟨_, _, h, _⟩ | ⟨h1, h2, h3, h4⟩
          ·exact absurd h h64
          ·rw [h1] at hRZ
           subst hRZ
           exact ⟨S2, fp2, _, [], t2, err2, rfl, le1.trans le2, hd2, .inr ⟨rfl, h2, rfl, rfl⟩, hw.sub zSub⟩)
       | (have hnt : r.2.1 = false := by cases hq : r.2.1 <;> simp_all
          have hpn0 : put = none := by first | exact hpn.1 h67 | simp_all
          rw [if_pos ⟨hpn0, hnt⟩] at hRZ
          subst hRZ
          exact ⟨S2, fp2, _, [], r.2.1, err2, rfl, le1.trans le2, hd2, .inl ⟨[], rfl, h64, hnt, ⟨[], Own.nil _ _, trivial⟩, ⟨Nat.zero_le _, fun x hx => by cases hx⟩, Nat.zero_le _⟩, hw.sub zSub⟩)
     ·try simp only [sq] at h64
      have h64 : err2 = 0 := h64
      obtain ⟨kids, hks, ht2, hko, hkf, hkl⟩ : ∃ ks, r.2.2 = .ok ks ∧ t2 = r.2.1 ∧ KidsO S2 v2 ks f2 ∧ FineK ks ∧ ks.length ≤ 240 := by
       rcases hres with ⟨ks, h1, _, h2, h3, h4, h5⟩ | ⟨_, h, _⟩
       ·exact ⟨ks, h1, h2, h3, h4, h5⟩
       ·exact absurd h64 h
      clear hres
      rw [hks] at hRZ
      dsimp only at hRZ
      subst ht2
      refine sM rfl ?_
      refine L.w rfl (V.eqlPtr rfl rfl underlying121) ?_
      refine sM rfl ?_
      refine L.fork (d := 67) rfl (fun h67 => ?_) (fun h67 => ?_)
      ·try simp only [sq] at h67
       refine sM rfl (sV rfl (sT rfl (sU rfl (sN ?_))))
       refine C.cond rfl (fun h71 => ?_) (fun h71 => ?_)
       ·try simp only [sq] at h71
        refine sD (sM rfl (sM rfl (sA rfl (sA rfl (sA rfl (sN ?_))))))
        refine R.ret3 results56 rfl rfl rfl (fun w hw => ?_)
        first
         | (rcases hres with ⟨_, _, h, _⟩ | ⟨h1, h2, h3, h4⟩
            ·exact absurd h h64
            ·rw [h1] at hRZ
             subst hRZ
             exact ⟨S2, fp2, _, [], t2, err2, rfl, le1.trans le2, hd2, .inr ⟨rfl, h2, rfl, rfl⟩, hw.sub zSub⟩)
         | (have hnt : r.2.1 = false := by cases hq : r.2.1 <;> simp_all
            have hpn0 : put = none := by first | exact hpn.1 h67 | simp_all
            rw [if_pos ⟨hpn0, hnt⟩] at hRZ
            subst hRZ
            exact ⟨S2, fp2, _, [], r.2.1, err2, rfl, le1.trans le2, hd2, .inl ⟨[], rfl, h64, hnt, ⟨[], Own.nil _ _, trivial⟩, ⟨Nat.zero_le _, fun x hx => by cases hx⟩, Nat.zero_le _⟩, hw.sub zSub⟩)
       ·try simp only [sq] at h71
        refine sK (sD ?_)
        refine L.w rfl (V.fa rfl underlying125 rfl rfl sizeOf115) ?_
        refine L.w rfl (V.load rfl isAgg115 zAt (by rfl)) ?_
        rw [if_neg (by
         rintro ⟨h1, h2⟩
         first
          | (have := hpn.2 h1; simp_all)
          | simp_all)] at hRZ
        obtain ⟨rows, hrows, hra⟩ := (hpt.kids.mono le2)
        refine L.call rfl rfl rfl call110 rfl (fun w hw => clone_kids (hrows.rd (fun q hq => by simp [hq])) (flat_one (fun c x h => kidC_one h) hra) (by omega) hw) ?_
        rintro _ a w hst ⟨v76, f76, rfl, ho76, hw⟩
        refine hst.go rfl hw ?_
        clear hst hw w a
        have ho76 : KidsO S2 v76 x.kids f76 := ⟨rows, ho76, hra⟩
        refine sA rfl (sN (sC (sD (sM rfl (sM rfl (sM rfl (sM rfl ?_)))))))
        refine L.call rfl rfl rfl call111 rfl (fun w hw => joined_ok (Hr := (b13, .cells #[.int .i64 (x.kind : Int), .int .u64 (x.txn : Int), .int .i64 (x.next : Int), .slice a4 x.items.length c4, .slice a5 x.kids.length c5, .slice a6 x.data.length c6, .slice a7 x.ids.length c7] 125 (0, 0)) :: (gi ++ (gk ++ (gd ++ (gx ++ Hr))))) hd2 ho76 hko hjl hxR.fineK hkf (hw.re zRe)) ?_
        rintro _ a w hst ⟨S3, fp3, v3, f3, err3, rfl, le3, hd3, hres, hw⟩
        refine hst.go rfl hw ?_
        clear hst hw w a
        refine sM rfl (sX rfl (sX rfl (sA rfl (sA rfl (sE (sM rfl (sQb rfl (sN ?_))))))))
        refine C.cond rfl (fun h86 => ?_) (fun h86 => ?_)
        ·try simp only [sq] at h86
         refine sD (sM rfl (sM rfl (sA rfl (sA rfl (sA rfl (sN ?_))))))
         refine R.ret3 results56 rfl rfl rfl (fun w hw => ?_)
         have h86 : err3 ≠ 0 := h86
         have h1 : (r.1.joined x.kids j kids).2 = .error err3 := by
          rcases hres with ⟨_, _, h, _⟩ | ⟨h, _⟩
          ·exact absurd h h86
          ·exact h
         rw [h1] at hRZ
         subst hRZ
         exact ⟨S3, fp3, _, [], _, err3, rfl, le1.trans (le2.trans le3), hd3, .inr ⟨rfl, h86, rfl, rfl⟩, hw.sub zSub⟩
        ·try simp only [sq] at h86
         have h86 : err3 = 0 := h86
         obtain ⟨ks3, hks3, ho3, hf3, hl3⟩ : ∃ ks, (r.1.joined x.kids j kids).2 = .ok ks ∧ KidsO S3 v3 ks f3 ∧ (∀ x ∈ ks, x.key.length ≤ 32 ∧ x.page < 2 ^ 32) ∧ ks.length ≤ x.kids.length + kids.length := by
          rcases hres with ⟨ks, h1, _, h2, h3, h4⟩ | ⟨_, h, _⟩
          ·exact ⟨ks, h1, h2, h3, h4⟩
          ·exact absurd h86 h
         clear hres
         rw [hks3] at hRZ
         dsimp only at hRZ
         obtain ⟨s3, hs3⟩ : ∃ s3, (r.1.joined x.kids j kids).1 = s3 := ⟨_, rfl⟩
         rw [hs3] at hRZ hd3
         refine sK (sC (sD (sM rfl (sM rfl ?_))))
         refine L.call rfl rfl rfl call112 rfl (fun w hw => pgDrop_ok (Hr := f3 ++ ((b13, .cells #[.int .i64 (x.kind : Int), .int .u64 (x.txn : Int), .int .i64 (x.next : Int), .slice a4 x.items.length c4, .slice a5 x.kids.length c5, .slice a6 x.data.length c6, .slice a7 x.ids.length c7] 125 (0, 0)) :: (gi ++ (gk ++ (gd ++ (gx ++ Hr)))))) hd3 id (hw.re zRe)) ?_
         rintro _ a w hst ⟨S4, fp4, rfl, le4, hd4, hw⟩
         refine hst.go rfl hw ?_
         clear hst hw w a
         refine sA rfl (sE (sM rfl (sQb rfl (sN ?_))))
         refine C.cond rfl (fun h93 => ?_) (fun h93 => ?_)
         ·try simp only [sq] at h93
          refine sD (sM rfl (sM rfl (sA rfl (sA rfl (sA rfl (sN ?_))))))
          refine R.ret3 results56 rfl rfl rfl (fun w hw => ?_)
          have h93 : (s3.drop id).2 ≠ 0 := h93
          rw [if_pos h93] at hRZ
          subst hRZ
          exact ⟨S4, fp4, _, [], _, _, rfl, le1.trans (le2.trans (le3.trans le4)), hd4, .inr ⟨rfl, h93, rfl, rfl⟩, hw.sub zSub⟩
         ·try simp only [sq] at h93
          have h93 : (s3.drop id).2 = 0 := h93
          rw [if_neg (fun h => h h93)] at hRZ
          refine sK (sD (sM rfl (sM rfl ?_)))
          refine L.call rfl rfl rfl call113 rfl (fun w hw => branches_ok (l := ks3) (Hr := f3 ++ ((b13, .cells #[.int .i64 (x.kind : Int), .int .u64 (x.txn : Int), .int .i64 (x.next : Int), .slice a4 x.items.length c4, .slice a5 x.kids.length c5, .slice a6 x.data.length c6, .slice a7 x.ids.length c7] 125 (0, 0)) :: (gi ++ (gk ++ (gd ++ (gx ++ Hr)))))) hd4 ((ho3.mono le4).c (fun q hq => by simp [hq])) ⟨by omega, hf3⟩ hw) ?_
          rintro _ a w hst ⟨S5, fp5, v5, f5, err5, rfl, le5, hd5, hres, hw⟩
          refine hst.go rfl hw ?_
          clear hst hw w a
          refine sM rfl (sX rfl (sX rfl (sA rfl (sA rfl (sE (sM rfl (sM rfl (sM rfl (sA rfl (sA rfl (sA rfl (sN ?_))))))))))))
          refine R.ret3 results56 rfl rfl rfl (fun w hw => ?_)
          subst hRZ
          refine ⟨S5, fp5, v5, f5, _, err5, rfl, le1.trans (le2.trans (le3.trans (le4.trans le5))), hd5, ?_, hw.sub zSub⟩
          rcases hres with ⟨ks, h1, h2, h3, h4, h5, _⟩ | ⟨h1, h2, h3, h4⟩
          ·exact .inl ⟨ks, h1, h2, rfl, h3, h4, by omega⟩
          ·exact .inr ⟨h1, h2, h3, h4⟩
      ·try simp only [sq] at h67
       refine sS rfl (sS rfl (sU rfl (sU rfl (sN (sP rfl (sK (sD ?_)))))))
       refine L.w rfl (V.fa rfl underlying125 rfl rfl sizeOf115) ?_
       refine L.w rfl (V.load rfl isAgg115 zAt (by rfl)) ?_
       rw [if_neg (by
        rintro ⟨h1, h2⟩
        first
         | (have := hpn.2 h1; simp_all)
         | simp_all)] at hRZ
       obtain ⟨rows, hrows, hra⟩ := (hpt.kids.mono le2)
       refine L.call rfl rfl rfl call110 rfl (fun w hw => clone_kids (hrows.rd (fun q hq => by simp [hq])) (flat_one (fun c x h => kidC_one h) hra) (by omega) hw) ?_
       rintro _ a w hst ⟨v76, f76, rfl, ho76, hw⟩
       refine hst.go rfl hw ?_
       clear hst hw w a
       have ho76 : KidsO S2 v76 x.kids f76 := ⟨rows, ho76, hra⟩
       refine sA rfl (sN (sC (sD (sM rfl (sM rfl (sM rfl (sM rfl ?_)))))))
       refine L.call rfl rfl rfl call111 rfl (fun w hw => joined_ok (Hr := (b13, .cells #[.int .i64 (x.kind : Int), .int .u64 (x.txn : Int), .int .i64 (x.next : Int), .slice a4 x.items.length c4, .slice a5 x.kids.length c5, .slice a6 x.data.length c6, .slice a7 x.ids.length c7] 125 (0, 0)) :: (gi ++ (gk ++ (gd ++ (gx ++ Hr))))) hd2 ho76 hko hjl hxR.fineK hkf (hw.re zRe)) ?_
       rintro _ a w hst ⟨S3, fp3, v3, f3, err3, rfl, le3, hd3, hres, hw⟩
       refine hst.go rfl hw ?_
       clear hst hw w a
       refine sM rfl (sX rfl (sX rfl (sA rfl (sA rfl (sE (sM rfl (sQb rfl (sN ?_))))))))
       refine C.cond rfl (fun h86 => ?_) (fun h86 => ?_)
       ·try simp only [sq] at h86
        refine sD (sM rfl (sM rfl (sA rfl (sA rfl (sA rfl (sN ?_))))))
        refine R.ret3 results56 rfl rfl rfl (fun w hw => ?_)
        have h86 : err3 ≠ 0 := h86
        have h1 : (r.1.joined x.kids j kids).2 = .error err3 := by
         rcases hres with ⟨_, _, h, _⟩ | ⟨h, _⟩
         ·exact absurd h h86
         ·exact h
        rw [h1] at hRZ
        subst hRZ
        exact ⟨S3, fp3, _, [], _, err3, rfl, le1.trans (le2.trans le3), hd3, .inr ⟨rfl, h86, rfl, rfl⟩, hw.sub zSub⟩
       ·try simp only [sq] at h86
        have h86 : err3 = 0 := h86
        obtain ⟨ks3, hks3, ho3, hf3, hl3⟩ : ∃ ks, (r.1.joined x.kids j kids).2 = .ok ks ∧ KidsO S3 v3 ks f3 ∧ (∀ x ∈ ks, x.key.length ≤ 32 ∧ x.page < 2 ^ 32) ∧ ks.length ≤ x.kids.length + kids.length := by
         rcases hres with ⟨ks, h1, _, h2, h3, h4⟩ | ⟨_, h, _⟩
         ·exact ⟨ks, h1, h2, h3, h4⟩
         ·exact absurd h86 h
        clear hres
        rw [hks3] at hRZ
        dsimp only at hRZ
        obtain ⟨s3, hs3⟩ : ∃ s3, (r.1.joined x.kids j kids).1 = s3 := ⟨_, rfl⟩
        rw [hs3] at hRZ hd3
        refine sK (sC (sD (sM rfl (sM rfl ?_))))
        refine L.call rfl rfl rfl call112 rfl (fun w hw => pgDrop_ok (Hr := f3 ++ ((b13, .cells #[.int .i64 (x.kind : Int), .int .u64 (x.txn : Int), .int .i64 (x.next : Int), .slice a4 x.items.length c4, .slice a5 x.kids.length c5, .slice a6 x.data.length c6, .slice a7 x.ids.length c7] 125 (0, 0)) :: (gi ++ (gk ++ (gd ++ (gx ++ Hr)))))) hd3 id (hw.re zRe)) ?_
        rintro _ a w hst ⟨S4, fp4, rfl, le4, hd4, hw⟩
        refine hst.go rfl hw ?_
        clear hst hw w a
        refine sA rfl (sE (sM rfl (sQb rfl (sN ?_))))
        refine C.cond rfl (fun h93 => ?_) (fun h93 => ?_)
        ·try simp only [sq] at h93
         refine sD (sM rfl (sM rfl (sA rfl (sA rfl (sA rfl (sN ?_))))))
         refine R.ret3 results56 rfl rfl rfl (fun w hw => ?_)
         have h93 : (s3.drop id).2 ≠ 0 := h93
         rw [if_pos h93] at hRZ
         subst hRZ
         exact ⟨S4, fp4, _, [], _, _, rfl, le1.trans (le2.trans (le3.trans le4)), hd4, .inr ⟨rfl, h93, rfl, rfl⟩, hw.sub zSub⟩
        ·try simp only [sq] at h93
         have h93 : (s3.drop id).2 = 0 := h93
         rw [if_neg (fun h => h h93)] at hRZ
         refine sK (sD (sM rfl (sM rfl ?_)))
         refine L.call rfl rfl rfl call113 rfl (fun w hw => branches_ok (l := ks3) (Hr := f3 ++ ((b13, .cells #[.int .i64 (x.kind : Int), .int .u64 (x.txn : Int), .int .i64 (x.next : Int), .slice a4 x.items.length c4, .slice a5 x.kids.length c5, .slice a6 x.data.length c6, .slice a7 x.ids.length c7] 125 (0, 0)) :: (gi ++ (gk ++ (gd ++ (gx ++ Hr)))))) hd4 ((ho3.mono le4).c (fun q hq => by simp [hq])) ⟨by omega, hf3⟩ hw) ?_
         rintro _ a w hst ⟨S5, fp5, v5, f5, err5, rfl, le5, hd5, hres, hw⟩
         refine hst.go rfl hw ?_
         clear hst hw w a
         refine sM rfl (sX rfl (sX rfl (sA rfl (sA rfl (sE (sM rfl (sM rfl (sM rfl (sA rfl (sA rfl (sA rfl (sN ?_))))))))))))
         refine R.ret3 results56 rfl rfl rfl (fun w hw => ?_)
         subst hRZ
         refine ⟨S5, fp5, v5, f5, _, err5, rfl, le1.trans (le2.trans (le3.trans (le4.trans le5))), hd5, ?_, hw.sub zSub⟩
         rcases hres with ⟨ks, h1, h2, h3, h4, h5, _⟩ | ⟨h1, h2, h3, h4⟩
         ·exact .inl ⟨ks, h1, h2, rfl, h3, h4, by omega⟩
         ·exact .inr ⟨h1, h2, h3, h4⟩
end
end Go.Proofs.YtijgbppkdaiikaaGreat

set_option linter.unusedSimpArgs false
set_option linter.unusedVariables false
namespace Go.Proofs.YtijgbppkdaiikaaGreat
open Go.Proofs.Tryz Go.Tk

noncomputable def upF : Nat → Pr → List Kid → Pr × Except Int (List Kid)
 | 0, s, _ => (s, .error 4)
 | f + 1, s, l => if 1 < l.length then
    match (s.branches l).2 with
    | .error e => ((s.branches l).1, .error e)
    | .ok ks => upF f (s.branches l).1 ks
   else (s, .ok l)
noncomputable def downF : Nat → Pr → Nat → Nat → Pr × Except Int Nat
 | 0, s, _, _ => (s, .error 4)
 | f + 1, s, id, depth => match s.node id depth with
   | .error e => (s, .error e)
   | .ok x => if x.kind = 1 ∨ 1 < x.kids.length then (s, .ok id) else
      if (s.drop id).2 ≠ 0 then ((s.drop id).1, .error (s.drop id).2) else downF f (s.drop id).1 (kidPage x.kids 0) (depth + 1)
noncomputable def rootEnd : Pr × Except Int (List Kid) → Pr × Except Int Nat
 | (s, .error e) => (s, .error e)
 | (s, .ok l) => if l.length = 0 then (s, .ok 0) else downF 18 s (kidPage l 0) 0
/-- The root over these kids. -/
noncomputable def Pr.rooted (s : Pr) (l : List Kid) : Pr × Except Int Nat := rootEnd (upF (l.length + 1) s l)
noncomputable def putEnd : Pr × Except Int (List Kid) → Pr × Except Int Nat
 | (s, .error e) => (s, .error e)
 | (s, .ok l) => s.rooted l
noncomputable def putMid (root : Int) (key : List UInt8) : Pr × Except Int Item → Pr × Except Int Nat
 | (s, .error e) => (s, .error e)
 | (s, .ok x) => if root = 0 then putEnd (s.leaves [x]) else putEnd ((s.change root key (some x)).1, (s.change root key (some x)).2.2)
/-- A key has a value. -/
noncomputable def Pr.put (s : Pr) (root : Int) (key val : List UInt8) : Pr × Except Int Nat :=
 if 32 < key.length ∨ 4096 < val.length then (s, .error 5) else putMid root key (s.item key val)
noncomputable def delEnd (root : Int) (r : Pr × Bool × Except Int (List Kid)) : Pr × Except Int (Int × Bool) :=
 match r.2.2 with
 | .error e => (r.1, .error e)
 | .ok l => if r.2.1 = false then (r.1, .ok (root, false)) else match (r.1.rooted l).2 with
   | .error e => ((r.1.rooted l).1, .error e)
   | .ok id => ((r.1.rooted l).1, .ok ((id : Int), true))
/-- A key is gone. -/
noncomputable def Pr.delete (s : Pr) (root : Int) (key : List UInt8) : Pr × Except Int (Int × Bool) :=
 if root = 0 then (s, .ok (0, false)) else delEnd root (s.change root key none)

section
variable {w0 : World} {F : Nat → Prop} {S : Store} {Hr : Heap} {w : World}

theorem rooted_ok {b db : Nat} {s : Pr} {fp f : Heap} {v : Value} {l : List Kid} (hd : PgR S b db s fp) (hl : KidsO S v l f) (hlf : FineK l) (hw : Hp w0 F S (f ++ (fp ++ Hr)) w) :
 Calls Tryz.prog 57 #[.pointer (some ⟨b, 0, none⟩), v] w fun e w' => ∃ S' fp', ∃ (id : Nat) (err : Int), e = .returned (.tuple #[.int .i64 (id : Int), .int .i64 err]) ∧ S.le S' ∧ PgR S' b db (s.rooted l).1 fp' ∧
  (((s.rooted l).2 = .ok id ∧ err = 0) ∨ ((s.rooted l).2 = .error err ∧ err ≠ 0 ∧ id = 0)) ∧ Hp w0 F S' (fp' ++ Hr) w' := by
 obtain ⟨RU, hRU⟩ : ∃ R, upF (l.length + 1) s l = R := ⟨_, rfl⟩
 have e1 : s.rooted l = rootEnd RU := by rw [← hRU]; rfl
 rw [e1]
 refine enterA hw func57 rfl ntmps57 rfl rfl ?_
 refine sD (sA rfl (sA rfl (sN (sC (sB ?_)))))
 refine C.loop (α := Nat × Pr × List Kid × Store × Value × Heap × Heap) (fun z => [(0, .pointer (some ⟨b, 0, none⟩)), (1, z.2.2.2.2.1)])
  (fun z w => (RU = upF z.1 z.2.1 z.2.2.1 ∧ z.2.2.1.length < z.1 ∧ S.le z.2.2.2.1 ∧ PgR z.2.2.2.1 b db z.2.1 z.2.2.2.2.2.1 ∧ KidsO z.2.2.2.1 z.2.2.2.2.1 z.2.2.1 z.2.2.2.2.2.2 ∧ FineK z.2.2.1) ∧ Hp w0 F z.2.2.2.1 (z.2.2.2.2.2.2 ++ (z.2.2.2.2.2.1 ++ Hr)) w)
  (fun z => z.1) (l.length + 1, s, l, S, v, fp, f) ⟨rfl, rfl, trivial⟩ (fun w hw => ⟨⟨hRU.symm, Nat.lt_succ_self _, .refl _, hd, hl, hlf⟩, hw⟩) (fun zz => C.pure (fun hzz => ?_))
 obtain ⟨g, s2, l2, S2, v2, fp2, f2⟩ := zz
 obtain ⟨hF, hg, le2, hd2, ho2, hf2⟩ := hzz
 dsimp only at hF hg le2 hd2 ho2 hf2 ⊢
 obtain ⟨g, rfl⟩ : ∃ q, g = q + 1 := ⟨g - 1, by omega⟩
 rw [upF] at hF
 obtain ⟨a2, c2, rfl⟩ := ho2.form
 have hl2 := hf2.1
 refine sC (sD (sM rfl ?_))
 refine L.w rfl (V.len rfl underlying115) ?_
 refine sQe rfl (sN ?_)
 refine C.cond rfl (fun h15 => ?_) (fun h15 => ?_)
 ·try simp only [sq] at h15
  rw [if_pos (by omega)] at hF
  refine sK (sB (sD (sM rfl (sM rfl ?_))))
  refine L.call rfl rfl rfl call113 rfl (fun w hw => branches_ok (Hr := f2 ++ Hr) hd2 (ho2.c (fun q hq => by simp [hq])) hf2 (hw.re zRe)) ?_
  rintro _ a w hst ⟨S3, fp3, v3, f3, err3, rfl, le3, hd3, hres, hw⟩
  refine hst.go rfl (Hp.re (hw.sub (H' := f3 ++ (fp3 ++ Hr)) zSub) (fun f => rfl)) ?_
  clear hst hw w a
  refine sM rfl (sX rfl (sX rfl (sA rfl (sA rfl (sN (sC (sD (sM rfl (sQb rfl (sN ?_))))))))))
  refine C.cond rfl (fun h23 => ?_) (fun h23 => ?_)
  ·try simp only [sq] at h23
   refine sD (sM rfl (sA rfl (sA rfl (sN ?_))))
   refine R.ret2 results57 rfl rfl (fun w hw => ?_)
   have h23 : err3 ≠ 0 := h23
   have h1 : (s2.branches l2).2 = .error err3 := by
    rcases hres with ⟨_, _, h, _⟩ | ⟨h, _⟩
    ·exact absurd h h23
    ·exact h
   rw [h1] at hF
   subst hF
   exact ⟨S3, fp3, 0, err3, rfl, le2.trans le3, hd3, .inr ⟨rfl, h23, rfl⟩, hw.sub zSub⟩
  ·try simp only [sq] at h23
   have h23 : err3 = 0 := h23
   obtain ⟨ks, hks, ho3, hf3, hl3⟩ : ∃ ks, (s2.branches l2).2 = .ok ks ∧ KidsO S3 v3 ks f3 ∧ FineK ks ∧ ks.length < l2.length := by
    rcases hres with ⟨ks, h1, _, h2, h3, _, h5⟩ | ⟨_, h, _⟩
    ·exact ⟨ks, h1, h2, h3, h5 (by omega)⟩
    ·exact absurd h23 h
   clear hres
   rw [hks] at hF
   dsimp only at hF
   refine sK (sR (sM rfl (sA rfl ?_)))
   refine L.nil (N.blk ?_)
   refine N.round (g, (s2.branches l2).1, ks, S3, v3, fp3, f3) (by show g < g + 1; omega) ⟨rfl, rfl, trivial⟩ (fun w hw => ⟨⟨hF, by show ks.length < g; omega, le2.trans le3, hd3, ho3, hf3⟩, hw.sub zSub⟩)
 ·try simp only [sq] at h15
  rw [if_neg (by omega)] at hF
  subst hF
  obtain ⟨RD, hRD⟩ : ∃ R, rootEnd (s2, (.ok l2 : Except Int (List Kid))) = R := ⟨_, rfl⟩
  rw [hRD]
  unfold rootEnd at hRD
  dsimp only at hRD
  refine sZ rfl (sC (sD (sM rfl ?_)))
  refine L.w rfl (V.len rfl underlying115) ?_
  refine sQa rfl (sN ?_)
  refine C.cond rfl (fun h28 => ?_) (fun h28 => ?_)
  ·try simp only [sq] at h28
   refine sD (sA rfl (sA rfl (sN ?_)))
   refine R.ret2 results57 rfl rfl (fun w hw => ?_)
   rw [if_pos (by omega)] at hRD
   subst hRD
   exact ⟨S2, fp2, 0, 0, rfl, le2, hd2, .inl ⟨rfl, rfl⟩, hw.sub zSub⟩
  ·try simp only [sq] at h28
   rw [if_neg (by omega)] at hRD
   obtain ⟨b23, c23', hve, hc23, hat⟩ := ho2.atO (by omega)
   injection hve with hve1 hve2 hve3
   subst hve1 hve3
   obtain ⟨csA, TA, fzA, kvA, gA1, gA2, gA3, gA4⟩ := hat 0 (by omega)
   obtain ⟨p0, hp0⟩ : ∃ p, l2[0].page = p := ⟨_, rfl⟩
   rw [hp0] at gA3
   have hkp0 : kidPage l2 0 = p0 := by rw [kidPage_at (by omega)]; exact hp0
   rw [hkp0] at hRD
   refine sK (sD (sM rfl ?_))
   refine L.w rfl (V.indexAddr (j := 0) rfl rfl underlying115 sizeOf129 rfl (by omega)) ?_
   refine L.w rfl (V.fa rfl underlying129 rfl rfl sizeOf3) ?_
   refine L.w rfl (V.load rfl isAgg3 (.apl gA1) gA3) ?_
   refine sA rfl (sE (sA rfl (sN (sB ?_))))
   refine C.loop (α := Nat × Pr × Nat × Nat × Store × Heap) (fun z => [(0, .pointer (some ⟨b, 0, none⟩)), (8, .int .i64 (z.2.2.1 : Int)), (9, .int .i64 (z.2.2.2.1 : Int))])
    (fun z w => (RD = downF z.1 z.2.1 z.2.2.1 z.2.2.2.1 ∧ z.1 + z.2.2.2.1 = 18 ∧ 1 ≤ z.1 ∧ S.le z.2.2.2.2.1 ∧ PgR z.2.2.2.2.1 b db z.2.1 z.2.2.2.2.2) ∧ Hp w0 F z.2.2.2.2.1 (z.2.2.2.2.2 ++ Hr) w)
    (fun z => z.1) (18, s2, p0, 0, S2, fp2) ⟨rfl, rfl, rfl, trivial⟩ (fun w hw => ⟨⟨hRD.symm, rfl, by show 1 ≤ 18; decide, le2, hd2⟩, hw.sub zSub⟩) (fun zz => C.pure (fun hzz => ?_))
   obtain ⟨g, s3, id, depth, S3, fp3⟩ := zz
   obtain ⟨hF, hg, hg1, le3, hd3⟩ := hzz
   dsimp only at hF hg hg1 le3 hd3 ⊢
   obtain ⟨g, rfl⟩ : ∃ q, g = q + 1 := ⟨g - 1, by omega⟩
   rw [downF] at hF
   refine sC (sB (sD (sM rfl (sM rfl (sM rfl ?_)))))
   refine L.call rfl rfl rfl call58 rfl (fun w hw => node_ok hd3 (id : Int) depth hw) ?_
   rintro _ a w hst ⟨S4, c1, f1, err, rfl, le4, hd4, hres, hw⟩
   refine hst.go rfl hw ?_
   clear hst hw w a
   obtain ⟨y1, y2, y3, y4, y5, y6, y7, hy, hy1⟩ : ∃ y1 y2 y3 y4 y5 y6 y7, c1 = [y1, y2, y3, y4, y5, y6, y7] ∧ [y1, y2, y3, y4, y5, y6, y7].all (·.oneCell') = true := by
    rcases hres with ⟨p, _, _, _, hp⟩ | ⟨_, _, rfl, _⟩
    ·exact pageO_form hp
    ·exact ⟨_, _, _, _, _, _, _, rfl, rfl⟩
   subst hy
   refine sM rfl (sX rfl (sX rfl ?_))
   refine L.allocA rfl rfl zeroValue125 (fun b10 => ?_)
   refine L.storeBox rfl rfl rfl sizeOf125 rfl rfl hy1 zUp ?_
   refine sA rfl (sN (sC (sD (sM rfl (sQb rfl (sN ?_))))))
   refine C.cond rfl (fun h43 => ?_) (fun h43 => ?_)
   ·try simp only [sq] at h43
    refine sD (sM rfl (sA rfl (sA rfl (sN ?_))))
    refine R.ret2 results57 rfl rfl (fun w hw => ?_)
    have h43 : err ≠ 0 := h43
    obtain ⟨hP, hcz⟩ : s3.node (id : Int) depth = .error err ∧ f1 = [] := by
     rcases hres with ⟨p, _, h, _⟩ | ⟨h, _, _, hz⟩
     ·exact absurd h h43
     ·exact ⟨h, hz⟩
    rw [hP] at hF
    subst hF
    exact ⟨S4, fp3, 0, err, rfl, le3.trans le4, hd4, .inr ⟨rfl, h43, rfl⟩, hw.sub zSub⟩
   ·try simp only [sq] at h43
    have h43 : err = 0 := h43
    obtain ⟨x, hP, hxR, hpo⟩ : ∃ y, s3.node (id : Int) depth = .ok y ∧ Right y ∧ PageO S4 [y1, y2, y3, y4, y5, y6, y7] y f1 := by
     rcases hres with ⟨p, h, _, h1, h2⟩ | ⟨_, h, _⟩
     ·exact ⟨p, h, h1, h2⟩
     ·exact absurd h43 h
    clear hres
    obtain ⟨hpg, hkd, hdep⟩ := Pr.node_some hP
    rw [hP] at hF
    dsimp only at hF
    obtain ⟨q1, q2, q3, q4⟩ := hxR.lens
    obtain ⟨qi, qk, qd, qx, gi, gk, gd, gx, he, hpt, rfl⟩ := hpo
    simp only [List.cons.injEq] at he
    obtain ⟨rfl, rfl, rfl, rfl, rfl, rfl, rfl, _⟩ := he
    obtain ⟨a4, c4, rfl⟩ := hpt.items.form
    obtain ⟨a5, c5, rfl⟩ := hpt.kids.form
    obtain ⟨a6, c6, rfl⟩ := hpt.data.form
    obtain ⟨a7, c7, rfl⟩ := (show ∃ ad c, y7 = .slice ad x.ids.length c from Own.form hpt.ids)
    simp only [List.append_assoc]
    refine sK (sC (sD ?_))
    refine L.w rfl (V.fa rfl underlying125 rfl rfl sizeOf3) ?_
    refine L.w rfl (V.load rfl isAgg3 zAt (by rfl)) ?_
    refine sQa rfl (sM rfl ?_)
    refine L.fork (d := 48) rfl (fun h48 => ?_) (fun h48 => ?_)
    ·try simp only [sq] at h48
     refine sS rfl (sS rfl (sS rfl (sS rfl (sT rfl (sN (sO rfl (sD (sM rfl (sA rfl (sA rfl (sN ?_)))))))))))
     refine R.ret2 results57 rfl rfl (fun w hw => ?_)
     rw [if_pos (by omega)] at hF
     subst hF
     exact ⟨S4, fp3, id, 0, rfl, le3.trans le4, hd4, .inl ⟨rfl, rfl⟩, hw.sub zSub⟩
    ·try simp only [sq] at h48
     refine L.w rfl (V.fa rfl underlying125 rfl rfl sizeOf115) ?_
     refine L.w rfl (V.load rfl isAgg115 zAt (by rfl)) ?_
     refine L.w rfl (V.len rfl underlying115) ?_
     refine sQe rfl (sU rfl (sN ?_))
     refine C.cond rfl (fun h53 => ?_) (fun h53 => ?_)
     ·try simp only [sq] at h53
      refine sD (sM rfl (sA rfl (sA rfl (sN ?_))))
      refine R.ret2 results57 rfl rfl (fun w hw => ?_)
      rw [if_pos (by omega)] at hF
      subst hF
      exact ⟨S4, fp3, id, 0, rfl, le3.trans le4, hd4, .inl ⟨rfl, rfl⟩, hw.sub zSub⟩
     ·try simp only [sq] at h53
      refine sK (sC (sD (sM rfl (sM rfl ?_))))
      rw [if_neg (by omega)] at hF
      have hk9 : x.kind = 2 := by omega
      have hkl := hxR.kids0 hk9
      have hkc : Kids S4 gk (.slice a5 x.kids.length c5) x.kids := hpt.kids.c (fun q hq => hq)
      obtain ⟨b5, o5, cs5, T5, fz5, kv5, ha5, g1, g2, g3, g4, g5, g6⟩ := hkc.at hkl
      obtain ⟨kp, hkp⟩ : ∃ kp, x.kids[0].page = kp := ⟨_, rfl⟩
      rw [hkp] at g6
      have hkq : kidPage x.kids 0 = kp := by rw [kidPage_at hkl]; exact hkp
      rw [hkq] at hF
      refine L.call rfl rfl rfl call112 rfl (fun w hw => pgDrop_ok (Hr := (b10, .cells #[.int .i64 (x.kind : Int), .int .u64 (x.txn : Int), .int .i64 (x.next : Int), .slice a4 x.items.length c4, .slice a5 x.kids.length c5, .slice a6 x.data.length c6, .slice a7 x.ids.length c7] 125 (0, 0)) :: (gi ++ (gk ++ (gd ++ (gx ++ Hr))))) hd4 (id : Int) (hw.re zRe)) ?_
      rintro _ a w hst ⟨S5, fp5, rfl, le5, hd5, hw⟩
      refine hst.go rfl hw ?_
      clear hst hw w a
      refine sA rfl (sE (sM rfl (sQb rfl (sN ?_))))
      refine C.cond rfl (fun h59 => ?_) (fun h59 => ?_)
      ·try simp only [sq] at h59
       refine sD (sM rfl (sA rfl (sA rfl (sN ?_))))
       refine R.ret2 results57 rfl rfl (fun w hw => ?_)
       have h59 : (s3.drop (id : Int)).2 ≠ 0 := h59
       rw [if_pos h59] at hF
       subst hF
       exact ⟨S5, fp5, 0, _, rfl, le3.trans (le4.trans le5), hd5, .inr ⟨rfl, h59, rfl⟩, hw.sub zSub⟩
      ·try simp only [sq] at h59
       have h59 : (s3.drop (id : Int)).2 = 0 := h59
       rw [if_neg (fun h => h h59)] at hF
       refine sK (sR ?_)
       refine L.w rfl (V.fa rfl underlying125 rfl rfl sizeOf115) ?_
       refine L.w rfl (V.load rfl isAgg115 zAt (by rfl)) ?_
       refine L.w rfl (V.indexAddr (b := b5) (off := o5) (m := x.kids.length) (c := c5) (j := 0) (by rw [← ha5]; rfl) rfl underlying115 sizeOf129 rfl hkl) ?_
       refine L.w rfl (V.fa rfl underlying129 rfl rfl sizeOf3) ?_
       refine L.w rfl (V.load rfl isAgg3 (.apr (.tail (.apr (.apl (Sees.le le5 _ _ _ g1))))) g6) ?_
       refine sA rfl ?_
       refine L.nil (N.blk (N.seq ?_))
       refine sR (sM rfl ?_)
       refine L.w rfl (V.add (c := ((depth + 1 : Nat) : Int)) rfl rfl (by rw [w64 (by omega) (by omega)]; omega)) ?_
       refine sA rfl ?_
       refine L.nil ?_
       refine N.round (g, (s3.drop (id : Int)).1, kp, depth + 1, S5, fp5) (by show g < g + 1; omega) ⟨rfl, rfl, rfl, trivial⟩ (fun w hw => ⟨⟨hF, by show g + (depth + 1) = 18; omega, by show 1 ≤ g; omega, le3.trans (le4.trans le5), hd5⟩, hw.sub zSub⟩)

theorem treePut_ok {b db : Nat} {s : Pr} {fp : Heap} {kv vv : Value} {key val : List UInt8} (hd : PgR S b db s fp) (root : Int) (hk : Bs S Hr kv key) (hv : Bs S Hr vv val) (hw : Hp w0 F S (fp ++ Hr) w) :
 Calls Tryz.prog 14 #[.pointer (some ⟨b, 0, none⟩), .int .i64 root, kv, vv] w fun e w' => ∃ S' fp', ∃ (id : Nat) (err : Int), e = .returned (.tuple #[.int .i64 (id : Int), .int .i64 err]) ∧ S.le S' ∧ PgR S' b db (s.put root key val).1 fp' ∧
  (((s.put root key val).2 = .ok id ∧ err = 0) ∨ ((s.put root key val).2 = .error err ∧ err ≠ 0 ∧ id = 0)) ∧ Hp w0 F S' (fp' ++ Hr) w' := by
 obtain ⟨ka, kc, rfl, _⟩ := hk.form
 obtain ⟨va, vc, rfl, _⟩ := hv.form
 obtain ⟨RZ, hRZ⟩ : ∃ R, s.put root key val = R := ⟨_, rfl⟩
 rw [hRZ]
 unfold Pr.put at hRZ
 refine enterA hw func14 rfl ntmps14 rfl rfl ?_
 refine sD (sA rfl (sA rfl (sN (sC (sD (sM rfl ?_))))))
 refine L.w rfl (V.len rfl underlying22) ?_
 refine sQe rfl (sM rfl ?_)
 refine L.fork (d := 16) rfl (fun h16 => ?_) (fun h16 => ?_)
 ·try simp only [sq] at h16
  refine sS rfl (sS rfl (sS rfl (sT rfl (sN (sO rfl (sD (sA rfl (sA rfl (sN ?_)))))))))
  refine R.ret2 results14 rfl rfl (fun w hw => ?_)
  rw [if_pos (by omega)] at hRZ
  subst hRZ
  exact ⟨S, fp, 0, 5, rfl, .refl S, hd, .inr ⟨rfl, by decide, rfl⟩, hw⟩
 ·try simp only [sq] at h16
  refine sM rfl ?_
  refine L.w rfl (V.len rfl underlying22) ?_
  refine sQe rfl (sU rfl (sN ?_))
  refine C.cond rfl (fun h20 => ?_) (fun h20 => ?_)
  ·try simp only [sq] at h20
   refine sD (sA rfl (sA rfl (sN ?_)))
   refine R.ret2 results14 rfl rfl (fun w hw => ?_)
   rw [if_pos (by omega)] at hRZ
   subst hRZ
   exact ⟨S, fp, 0, 5, rfl, .refl S, hd, .inr ⟨rfl, by decide, rfl⟩, hw⟩
  ·try simp only [sq] at h20
   refine sK (sD (sM rfl (sM rfl (sM rfl ?_))))
   rw [if_neg (by omega)] at hRZ
   refine L.call rfl rfl rfl call54 rfl (fun w hw => treeItem_ok hd hk hv (by omega) (by omega) hw) ?_
   rintro _ a w hst ⟨S1, fp1, y1, y2, y3, y4, err, rfl, le1, hd1, hy1, hres, hw⟩
   refine hst.go rfl hw ?_
   clear hst hw w a
   obtain ⟨ri, hri⟩ : ∃ r, s.item key val = r := ⟨_, rfl⟩
   rw [hri] at hRZ hd1 hres
   obtain ⟨s1, ri2⟩ := ri
   dsimp only at hd1 hres
   have hk1 := hk.mono (Sees.le le1 _)
   refine sM rfl (sX rfl (sX rfl ?_))
   refine L.allocA rfl rfl zeroValue112 (fun b10 => ?_)
   refine L.storeBox rfl rfl rfl sizeOf112 rfl rfl hy1 zUp ?_
   refine sA rfl (sN (sC (sD (sM rfl (sQb rfl (sN ?_))))))
   refine C.cond rfl (fun h29 => ?_) (fun h29 => ?_)
   ·try simp only [sq] at h29
    refine sD (sM rfl (sA rfl (sA rfl (sN ?_))))
    refine R.ret2 results14 rfl rfl (fun w hw => ?_)
    have h29 : err ≠ 0 := h29
    have h1 : ri2 = .error err := by
     rcases hres with ⟨_, _, h, _⟩ | ⟨h, _⟩
     ·exact absurd h h29
     ·exact h
    subst h1
    unfold putMid at hRZ
    subst hRZ
    exact ⟨S1, fp1, 0, err, rfl, le1, hd1, .inr ⟨rfl, h29, rfl⟩, hw.drop⟩
   ·try simp only [sq] at h29
    have h29 : err = 0 := h29
    obtain ⟨x, rfl, hxc, hxk, hxv, hxs, hxm⟩ : ∃ x, ri2 = .ok x ∧ ItemC S1 [y1, y2, y3, y4] x ∧ x.key = key ∧ x.val.length ≤ 64 ∧ x.size = val.length ∧ x.more < 2 ^ 32 := by
     rcases hres with ⟨x, h1, _, h2⟩ | ⟨_, h⟩
     ·exact ⟨x, h1, h2⟩
     ·exact absurd h29 h
    clear hres
    have hfx : x.key.length ≤ 32 ∧ x.val.length ≤ 64 ∧ x.size < 2 ^ 32 ∧ x.more < 2 ^ 32 := ⟨by rw [hxk]; omega, hxv, by omega, hxm⟩
    unfold putMid at hRZ
    dsimp only at hRZ
    refine sK (sD (sA rfl (sN ?_)))
    refine C.join (α := Pr × Store × Value × Heap × Heap × Int × Except Int (List Kid)) (fun z => [(0, .pointer (some ⟨b, 0, none⟩)), (11, .int .i64 z.2.2.2.2.2.1), (12, z.2.2.1)])
     (fun z w => (RZ = putEnd (z.1, z.2.2.2.2.2.2) ∧ S.le z.2.1 ∧ PgR z.2.1 b db z.1 z.2.2.2.1 ∧ ((∃ ks, z.2.2.2.2.2.2 = .ok ks ∧ z.2.2.2.2.2.1 = 0 ∧ KidsO z.2.1 z.2.2.1 ks z.2.2.2.2.1 ∧ FineK ks) ∨ (z.2.2.2.2.2.2 = .error z.2.2.2.2.2.1 ∧ z.2.2.2.2.2.1 ≠ 0))) ∧ Hp w0 F z.2.1 (z.2.2.2.2.1 ++ (z.2.2.2.1 ++ Hr)) w) ?_ (fun z => ?_)
    ·skip
     refine sD (sM rfl (sQa rfl (sN ?_)))
     refine C.cond rfl (fun h32 => ?_) (fun h32 => ?_)
     ·try simp only [sq] at h32
      refine sR (sM rfl ?_)
      refine L.w rfl (V.loadBox rfl isAgg112 sizeOf112 zAt (by rfl)) ?_
      refine L.slice1 rfl rfl rfl underlying118 sizeOf112 zeroValue112 rfl (by decide) (by decide) (vs := [y1, y2, y3, y4]) rfl rfl (fun b36 => ?_)
      rw [if_pos (by omega)] at hRZ
      have hio : ItemsO S1 (.slice (some ⟨b36, 0, none⟩) 1 1) [x] [(b36, .cells (List.toArray [y1, y2, y3, y4]) 112 (0, 0))] := ⟨[[y1, y2, y3, y4]], Own.full rfl (by decide), hxc, trivial⟩
      refine L.call rfl rfl rfl call55 rfl (fun w hw => leaves_ok (l := [x]) (Hr := (b36, .cells (List.toArray [y1, y2, y3, y4]) 112 (0, 0)) :: (b10, .cells (List.toArray [y1, y2, y3, y4]) 112 (0, 0)) :: Hr) hd1 (hio.c (fun q hq => by simp at hq; simp [hq])) ⟨by simp, fun y hy => by rw [List.mem_singleton] at hy; subst hy; exact hfx⟩ (hw.re zRe)) ?_
      rintro _ a w hst ⟨S2, fp2, v2, f2, err2, rfl, le2, hd2, hres, hw⟩
      refine hst.go rfl hw ?_
      clear hst hw w a
      obtain ⟨s2, hs2⟩ : ∃ q, (s1.leaves [x]).1 = q := ⟨_, rfl⟩
      obtain ⟨r2, hr2⟩ : ∃ q, (s1.leaves [x]).2 = q := ⟨_, rfl⟩
      have hpr : s1.leaves [x] = (s2, r2) := by rw [← hs2, ← hr2]
      rw [hpr] at hRZ hd2 hres
      have hres2 : (∃ ks, r2 = .ok ks ∧ err2 = 0 ∧ KidsO S2 v2 ks f2 ∧ FineK ks) ∨ (r2 = .error err2 ∧ err2 ≠ 0) := by
       rcases hres with ⟨ks, h1, h2, h3, h4, _⟩ | ⟨h1, h2, _⟩
       ·exact .inl ⟨ks, h1, h2, h3, h4⟩
       ·exact .inr ⟨h1, h2⟩
      refine sM rfl (sX rfl (sX rfl (sA rfl (sA rfl ?_))))
      refine L.nil ?_
      refine N.join (s2, S2, v2, fp2, f2, err2, r2) ⟨rfl, rfl, rfl, trivial⟩ (fun w hw => ⟨⟨hRZ.symm, le1.trans le2, hd2, hres2⟩, hw.sub zSub⟩)
     ·try simp only [sq] at h32
      refine sR (sM rfl (sM rfl (sM rfl ?_)))
      rw [if_neg (by omega)] at hRZ
      refine L.call rfl rfl rfl call56 rfl (fun w hw => change_ok (put := some x) (fun y hy => by injection hy with hy; subst hy; exact hfx) 17 (Hr := (b10, .cells (List.toArray [y1, y2, y3, y4]) 112 (0, 0)) :: Hr) root 0 rfl hd1 (hk1.mono (Sees.of (.refl _) (fun q hq => by simp [hq]))) ⟨b10, _, rfl, .head, hxc⟩ (hw.re zRe)) ?_
      rintro _ a w hst ⟨S2, fp2, v2, f2, t2, err2, rfl, le2, hd2, hres, hw⟩
      refine hst.go rfl hw ?_
      clear hst hw w a
      obtain ⟨s2, hs2⟩ : ∃ q, (s1.change root key (some x)).1 = q := ⟨_, rfl⟩
      obtain ⟨r2, hr2⟩ : ∃ q, (s1.change root key (some x)).2.2 = q := ⟨_, rfl⟩
      rw [hs2, hr2] at hRZ
      have hd2 : PgR S2 b db s2 fp2 := hs2 ▸ hd2
      have hres2 : (∃ ks, r2 = .ok ks ∧ err2 = 0 ∧ KidsO S2 v2 ks f2 ∧ FineK ks) ∨ (r2 = .error err2 ∧ err2 ≠ 0) := by
       rw [← hr2]
       rcases hres with ⟨ks, h1, h2, _, h3, h4, _⟩ | ⟨h1, h2, _⟩
       ·exact .inl ⟨ks, h1, h2, h3, h4⟩
       ·exact .inr ⟨h1, h2⟩
      refine sM rfl (sX rfl (sX rfl (sX rfl (sA rfl (sA rfl ?_)))))
      refine L.nil ?_
      refine N.join (s2, S2, v2, fp2, f2, err2, r2) ⟨rfl, rfl, rfl, trivial⟩ (fun w hw => ⟨⟨hRZ.symm, le1.trans le2, hd2, hres2⟩, hw.sub zSub⟩)
    ·skip
     refine C.pure (fun hz => ?_)
     obtain ⟨s2, S2, v2, fp2, f2, err2, r2⟩ := z
     obtain ⟨hF, le2, hd2, hres⟩ := hz
     dsimp only at hF le2 hd2 hres ⊢
     refine sC (sD (sM rfl (sQb rfl (sN ?_))))
     refine C.cond rfl (fun h49 => ?_) (fun h49 => ?_)
     ·try simp only [sq] at h49
      refine sD (sM rfl (sA rfl (sA rfl (sN ?_))))
      refine R.ret2 results14 rfl rfl (fun w hw => ?_)
      have h49 : err2 ≠ 0 := h49
      have h1 : r2 = .error err2 := by
       rcases hres with ⟨_, _, h, _⟩ | ⟨h, _⟩
       ·exact absurd h h49
       ·exact h
      subst h1
      unfold putEnd at hF
      subst hF
      exact ⟨S2, fp2, 0, err2, rfl, le2, hd2, .inr ⟨rfl, h49, rfl⟩, hw.sub zSub⟩
     ·try simp only [sq] at h49
      refine sK (sD (sM rfl (sM rfl ?_)))
      have h49 : err2 = 0 := h49
      obtain ⟨ks, rfl, ho2, hf2⟩ : ∃ ks, r2 = .ok ks ∧ KidsO S2 v2 ks f2 ∧ FineK ks := by
       rcases hres with ⟨ks, h1, _, h2, h3⟩ | ⟨_, h⟩
       ·exact ⟨ks, h1, h2, h3⟩
       ·exact absurd h49 h
      unfold putEnd at hF
      dsimp only at hF
      refine L.call rfl rfl rfl call57 rfl (fun w hw => rooted_ok hd2 ho2 hf2 hw) ?_
      rintro _ a w hst ⟨S3, fp3, id, err3, rfl, le3, hd3, hres3, hw⟩
      refine hst.go rfl hw ?_
      clear hst hw w a
      refine sX rfl (sX rfl (sA rfl (sA rfl (sN ?_))))
      refine R.ret2 results14 rfl rfl (fun w hw => ?_)
      subst hF
      exact ⟨S3, fp3, id, err3, rfl, le2.trans le3, hd3, hres3, hw⟩

theorem treeDelete_ok {b db : Nat} {s : Pr} {fp : Heap} {kv : Value} {key : List UInt8} (hd : PgR S b db s fp) (root : Int) (hk : Bs S Hr kv key) (hw : Hp w0 F S (fp ++ Hr) w) :
 Calls Tryz.prog 30 #[.pointer (some ⟨b, 0, none⟩), .int .i64 root, kv] w fun e w' => ∃ S' fp', ∃ (id : Int) (t : Bool) (err : Int), e = .returned (.tuple #[.int .i64 id, .bool t, .int .i64 err]) ∧ S.le S' ∧ PgR S' b db (s.delete root key).1 fp' ∧
  (((s.delete root key).2 = .ok (id, t) ∧ err = 0) ∨ ((s.delete root key).2 = .error err ∧ err ≠ 0 ∧ id = 0 ∧ t = false)) ∧ Hp w0 F S' (fp' ++ Hr) w' := by
 obtain ⟨ka, kc, rfl, _⟩ := hk.form
 obtain ⟨RZ, hRZ⟩ : ∃ R, s.delete root key = R := ⟨_, rfl⟩
 rw [hRZ]
 unfold Pr.delete at hRZ
 refine enterA hw func30 rfl ntmps30 rfl rfl ?_
 refine sD (sA rfl (sA rfl (sA rfl (sN (sC (sD (sM rfl (sQa rfl (sN ?_)))))))))
 refine C.cond rfl (fun h14 => ?_) (fun h14 => ?_)
 ·try simp only [sq] at h14
  refine sD (sA rfl (sA rfl (sA rfl (sN ?_))))
  refine R.ret3 results30 rfl rfl rfl (fun w hw => ?_)
  rw [if_pos h14] at hRZ
  subst hRZ
  exact ⟨S, fp, 0, false, 0, rfl, .refl S, hd, .inl ⟨rfl, rfl⟩, hw⟩
 ·try simp only [sq] at h14
  refine sK (sD (sM rfl (sM rfl (sM rfl ?_))))
  rw [if_neg h14] at hRZ
  refine L.call rfl rfl rfl call56 rfl (fun w hw => change_ok (put := none) (fun y hy => by cases hy) 17 root 0 rfl hd hk rfl hw) ?_
  rintro _ a w hst ⟨S2, fp2, v2, f2, t2, err2, rfl, le2, hd2, hres, hw⟩
  refine hst.go rfl hw ?_
  clear hst hw w a
  obtain ⟨r, hr⟩ : ∃ r, s.change root key none = r := ⟨_, rfl⟩
  rw [hr] at hRZ
  have hr : changeF key none (17 + 1) s root 0 = r := hr
  rw [hr] at hd2 hres
  unfold delEnd at hRZ
  refine sM rfl (sX rfl (sX rfl (sX rfl (sA rfl (sA rfl (sA rfl (sN (sC (sD (sM rfl (sQb rfl (sN ?_))))))))))))
  refine C.cond rfl (fun h24 => ?_) (fun h24 => ?_)
  ·try simp only [sq] at h24
   refine sD (sM rfl (sA rfl (sA rfl (sA rfl (sN ?_)))))
   refine R.ret3 results30 rfl rfl rfl (fun w hw => ?_)
   have h24 : err2 ≠ 0 := h24
   have h1 : r.2.2 = .error err2 := by
    rcases hres with ⟨_, _, h, _⟩ | ⟨h, _⟩
    ·exact absurd h h24
    ·exact h
   rw [h1] at hRZ
   subst hRZ
   exact ⟨S2, fp2, 0, false, err2, rfl, le2, hd2, .inr ⟨rfl, h24, rfl, rfl⟩, hw.sub zSub⟩
  ·try simp only [sq] at h24
   have h24 : err2 = 0 := h24
   obtain ⟨ks, hks, ht2, ho2, hf2⟩ : ∃ ks, r.2.2 = .ok ks ∧ t2 = r.2.1 ∧ KidsO S2 v2 ks f2 ∧ FineK ks := by
    rcases hres with ⟨ks, h1, _, h2, h3, h4, _⟩ | ⟨_, h, _⟩
    ·exact ⟨ks, h1, h2, h3, h4⟩
    ·exact absurd h24 h
   clear hres
   rw [hks] at hRZ
   dsimp only at hRZ
   subst ht2
   refine sK (sC (sD (sM rfl (sV rfl (sN ?_)))))
   refine C.cond rfl (fun h27 => ?_) (fun h27 => ?_)
   ·try simp only [sq] at h27
    refine sD (sM rfl (sA rfl (sA rfl (sA rfl (sN ?_)))))
    refine R.ret3 results30 rfl rfl rfl (fun w hw => ?_)
    rw [if_pos (by cases hq : r.2.1 <;> simp_all)] at hRZ
    subst hRZ
    exact ⟨S2, fp2, root, false, 0, rfl, le2, hd2, .inl ⟨rfl, rfl⟩, hw.sub zSub⟩
   ·try simp only [sq] at h27
    refine sK (sD (sM rfl (sM rfl ?_)))
    rw [if_neg (by cases hq : r.2.1 <;> simp_all)] at hRZ
    refine L.call rfl rfl rfl call57 rfl (fun w hw => rooted_ok hd2 ho2 hf2 hw) ?_
    rintro _ a w hst ⟨S3, fp3, id, err3, rfl, le3, hd3, hres3, hw⟩
    refine hst.go rfl hw ?_
    clear hst hw w a
    refine sM rfl (sX rfl (sX rfl (sA rfl (sA rfl (sE (sM rfl (sM rfl (sQa rfl (sM rfl (sA rfl (sA rfl (sA rfl (sN ?_)))))))))))))
    refine R.ret3 results30 rfl rfl rfl (fun w hw => ?_)
    rcases hres3 with ⟨h1, h2⟩ | ⟨h1, h2, h3⟩
    ·rw [h1] at hRZ
     subst hRZ
     exact ⟨S3, fp3, id, true, err3, by rw [h2]; rfl, le2.trans le3, hd3, .inl ⟨rfl, h2⟩, hw⟩
    ·rw [h1] at hRZ
     subst hRZ
     subst h3
     exact ⟨S3, fp3, 0, false, err3, by rw [show (err3 == (0 : Int)) = false from by simpa using h2]; rfl, le2.trans le3, hd3, .inr ⟨rfl, h2, rfl, rfl⟩, hw⟩
end
end Go.Proofs.YtijgbppkdaiikaaGreat
