/- The walks, joined. -/
import Derived.Test.YtijgbppkdaiikaaGreatCw5
set_option linter.unusedSimpArgs false
set_option linter.unusedVariables false
namespace Go.Proofs.YtijgbppkdaiikaaGreat
open Go.Proofs.Tryz Go.Tk

/-- A key out of a range. -/
def Out (from' : List UInt8) (to : Option (List UInt8)) (k : List UInt8) : Prop := cb k from' < 0 ∨ ∃ t, to = some t ∧ ¬ cb k t < 0
def seeAll : List Int → List Nat → List Int × Bool
 | seen, [] => (seen, true)
 | seen, i :: r => if (i : Int) ∈ seen then (seen, false) else seeAll (seen ++ [(i : Int)]) r
open Classical in
noncomputable def lookItems (s : Pr) (from' : List UInt8) (to : Option (List UInt8)) : List Item → List Int → List Int × Int
 | [], seen => (seen, 0)
 | y :: r, seen => if Out from' to y.key then (seen, 4) else if y.more = 0 then lookItems s from' to r seen else
    match s.blob y with
    | .error e => (seen, e)
    | .ok q => if (seeAll seen q.2).2 then lookItems s from' to r (seeAll seen q.2).1 else ((seeAll seen q.2).1, 4)
open Classical in
noncomputable def lookKids (rec : Int → List UInt8 → Option (List UInt8) → List Int → List Int × Except Int Nat) (from' : List UInt8) (to : Option (List UInt8)) : List Kid → Bool → Nat → List Int → List Int × Except Int Nat
 | [], _, high, seen => (seen, .ok high)
 | y :: r, first, high, seen => if Out from' to y.key then (seen, .error 4) else
    match (rec y.page y.key (if r = [] then to else some ((r.head?.map (·.key)).getD [])) seen).2 with
    | .error e => ((rec y.page y.key (if r = [] then to else some ((r.head?.map (·.key)).getD [])) seen).1, .error e)
    | .ok h => if first = false ∧ h ≠ high then ((rec y.page y.key (if r = [] then to else some ((r.head?.map (·.key)).getD [])) seen).1, .error 4) else
       lookKids rec from' to r false h (rec y.page y.key (if r = [] then to else some ((r.head?.map (·.key)).getD [])) seen).1
def lookEnd : List Int × Except Int Nat → List Int × Except Int Nat
 | (seen, .error e) => (seen, .error e)
 | (seen, .ok h) => (seen, .ok (h + 1))
/-- All pages of a tree, and how high it is. -/
noncomputable def lookF (s : Pr) : Nat → Nat → Int → List UInt8 → Option (List UInt8) → List Int → List Int × Except Int Nat
 | 0, _, _, _, _, seen => (seen, .error 4)
 | f + 1, depth, id, from', to, seen => if id ∈ seen then (seen, .error 4) else
    match s.node id depth with
    | .error e => (seen ++ [id], .error e)
    | .ok x => if (lookItems s from' to x.items (seen ++ [id])).2 ≠ 0 then ((lookItems s from' to x.items (seen ++ [id])).1, .error (lookItems s from' to x.items (seen ++ [id])).2) else
       lookEnd (lookKids (lookF s f (depth + 1)) from' to x.kids true 0 (lookItems s from' to x.items (seen ++ [id])).1)

theorem cb_nil (a : List UInt8) : ¬ cb a [] < 0 := by
 cases a with
 | nil => decide
 | cons x r => show ¬ (1 : Int) < 0; decide
/-- A set of numbers in memory. -/
structure MapN (l : List Ent) (ck : Nat) (seen : List Int) : Prop where
 ok : MapOk l ck
 keys : l.map (·.key) = seen
 vals : ∀ e ∈ l, e.val = .bool true
theorem MapN.find {l : List Ent} {ck : Nat} {seen : List Int} (h : MapN l ck seen) (j : Int) : (mfind l j).getD (.bool false) = .bool (decide (j ∈ seen)) := by
 cases hf : mfind l j with
 | none =>
   have := mfind_none.1 hf
   rw [decide_eq_false]
   ·rfl
   ·intro hj
    rw [← h.keys] at hj
    obtain ⟨e, he, hk⟩ := List.mem_map.1 hj
    exact this e he hk
 | some v =>
   obtain ⟨e, he, hk, hv⟩ := mfind_mem hf
   rw [decide_eq_true (by rw [← h.keys, ← hk]; exact List.mem_map_of_mem he), ← hv, h.vals e he]; rfl
theorem MapN.put {l : List Ent} {ck : Nat} {seen : List Int} (h : MapN l ck seen) {j : Int} (hj : j ∉ seen) : MapN (mput l j (.bool true) ck) (mck l j ck) (seen ++ [j]) := by
 refine ⟨h.ok.put j _, ?_, fun e he => ?_⟩
 ·rw [mput_map, if_neg, h.keys]
  intro ha
  rw [List.any_eq_true] at ha
  obtain ⟨e, he, hk⟩ := ha
  exact hj (by rw [← h.keys, beq_iff_eq.1 hk]; exact List.mem_map_of_mem he)
 ·rcases mput_keys l j _ ck e he with ⟨_, h2⟩ | h2
  ·exact h2
  ·exact h.vals e h2
/-- A range's end: none, or bytes that are there. -/
def ToV (S : Store) (H : Heap) (v : Value) (to : Option (List UInt8)) : Prop := match to with
 | none => v = .slice none 0 0
 | some k => ∃ a c, v = .slice (some a) k.length c ∧ Bs S H v k
theorem ToV.mono {S S' : Store} {H H' : Heap} {v : Value} {to : Option (List UInt8)} (h : ToV S H v to) (s : Sees S H S' H') : ToV S' H' v to := by
 cases to with
 | none => exact h
 | some k => obtain ⟨a, c, h1, h2⟩ := h; exact ⟨a, c, h1, h2.mono s⟩
theorem ToV.form {S : Store} {H : Heap} {v : Value} {to : Option (List UInt8)} (h : ToV S H v to) : ∃ ad m c, v = .slice ad m c ∧ (ad.isSome = true ↔ ∃ k, to = some k) := by
 cases to with
 | none => exact ⟨none, 0, 0, h, by simp⟩
 | some k => obtain ⟨a, c, h1, h2⟩ := h; exact ⟨some a, _, c, h1, by simp⟩
theorem ToV.bs {S : Store} {H : Heap} {v : Value} {k : List UInt8} (h : ToV S H v (some k)) : Bs S H v k := by obtain ⟨_, _, _, h⟩ := h; exact h
theorem Bs.toV {S : Store} {H : Heap} {v : Value} {k : List UInt8} (h : Bs S H v k) (hk : k ≠ []) : ToV S H v (some k) := by
 have h0 := h
 obtain ⟨ad, c, rfl, _⟩ := h.form
 obtain ⟨b, off, cs, T, fz, rfl, _⟩ := Rd.pos h (List.length_pos_iff.2 hk)
 exact ⟨_, c, rfl, h0⟩

section
variable {w0 : World} {F : Nat → Prop}

theorem look_ok {b db mb : Nat} {s : Pr} {fp : Heap} : ∀ (f : Nat) {S : Store} {Hr : Heap} {w : World} {fv tv : Value} {from' : List UInt8} {to : Option (List UInt8)} {l : List Ent} {ck : Nat} {seen : List Int} (id : Int) (depth : Nat), f + depth = 17 → PgR S b db s fp → Bs S Hr fv from' → ToV S Hr tv to → MapN l ck seen → Hp w0 F S (fp ++ ((mb, mobj l ck) :: Hr)) w →
 Calls Tryz.prog 62 #[.pointer (some ⟨b, 0, none⟩), .int .i64 id, .int .i64 (depth : Int), fv, tv, .map (some mb)] w fun e w' => ∃ S' l' ck', ∃ (high : Nat) (err : Int), e = .returned (.tuple #[.int .i64 (high : Int), .int .i64 err]) ∧ S.le S' ∧ MapN l' ck' (lookF s (f + 1) depth id from' to seen).1 ∧
  (((lookF s (f + 1) depth id from' to seen).2 = .ok high ∧ err = 0) ∨ ((lookF s (f + 1) depth id from' to seen).2 = .error err ∧ err ≠ 0)) ∧ high ≤ f + 1 ∧ Hp w0 F S' (fp ++ ((mb, mobj l' ck') :: Hr)) w' := by
 intro f
 induction f using Nat.strongRecOn with
 | _ f ih =>
   intro S Hr w fv tv from' to l ck seen id depth hfd hd hfr hto hm hw
   obtain ⟨ta, tm, tc, rfl, htn⟩ := hto.form
   obtain ⟨RZ, hRZ⟩ : ∃ R, lookF s (f + 1) depth id from' to seen = R := ⟨_, rfl⟩
   rw [hRZ]
   rw [lookF] at hRZ
   refine enterA hw func62 rfl ntmps62 rfl rfl ?_
   refine sD (sA rfl (sA rfl (sN (sC (sD (sM rfl (sM rfl ?_)))))))
   refine L.w rfl (V.lookup (v := .bool (decide (id ∈ seen))) rfl rfl underlying135 underlying3 zeroValue4 (.apr .head) (hm.find id)) ?_
   refine sN ?_
   refine C.cond rfl (fun h31 => ?_) (fun h31 => ?_)
   ·try simp only [sq] at h31
    refine sD (sA rfl (sA rfl (sN ?_)))
    refine R.ret2 results62 rfl rfl (fun w hw => ?_)
    rw [if_pos (by simpa using h31)] at hRZ
    subst hRZ
    exact ⟨S, l, ck, 0, 4, rfl, .refl S, hm, .inr ⟨rfl, by decide⟩, Nat.zero_le _, hw⟩
   ·try simp only [sq] at h31
    refine sK (sD (sM rfl (sM rfl ?_)))
    have h31' : id ∉ seen := by simpa using h31
    rw [if_neg h31'] at hRZ
    have hm1 := hm.put h31'
    refine L.mapUpdate rfl rfl rfl rfl underlying135 underlying3 zUp ?_
    obtain ⟨l1, hl1⟩ : ∃ q, mput l id (.bool true) ck = q := ⟨_, rfl⟩
    obtain ⟨ck1, hck1⟩ : ∃ q, mck l id ck = q := ⟨_, rfl⟩
    obtain ⟨seen1, hseen1⟩ : ∃ q, seen ++ [id] = q := ⟨_, rfl⟩
    rw [hl1, hck1] at hm1 ⊢
    rw [hseen1] at hm1 hRZ
    refine sE (sM rfl (sM rfl (sM rfl ?_)))
    refine L.call rfl rfl rfl call58 rfl (fun w hw => node_ok hd id depth hw) ?_
    rintro _ a w hst ⟨S1, c1, f1, err, rfl, le1, hd1, hres, hw⟩
    refine hst.go rfl hw ?_
    clear hst hw w a
    obtain ⟨y1, y2, y3, y4, y5, y6, y7, hy, hy1⟩ : ∃ y1 y2 y3 y4 y5 y6 y7, c1 = [y1, y2, y3, y4, y5, y6, y7] ∧ [y1, y2, y3, y4, y5, y6, y7].all (·.oneCell') = true := by
     rcases hres with ⟨p, _, _, _, hp⟩ | ⟨_, _, rfl, _⟩
     ·exact pageO_form hp
     ·exact ⟨_, _, _, _, _, _, _, rfl, rfl⟩
    subst hy
    refine sM rfl (sX rfl (sX rfl ?_))
    refine L.allocA rfl rfl zeroValue125 (fun b14 => ?_)
    refine L.storeBox rfl rfl rfl sizeOf125 rfl rfl hy1 zUp ?_
    refine sA rfl (sN (sC (sD (sM rfl (sQb rfl (sN ?_))))))
    refine C.cond rfl (fun h42 => ?_) (fun h42 => ?_)
    ·try simp only [sq] at h42
     refine sD (sM rfl (sA rfl (sA rfl (sN ?_))))
     refine R.ret2 results62 rfl rfl (fun w hw => ?_)
     have h42 : err ≠ 0 := h42
     obtain ⟨hP, hcz⟩ : s.node id depth = .error err ∧ f1 = [] := by
      rcases hres with ⟨p, _, h, _⟩ | ⟨h, _, _, hz⟩
      ·exact absurd h h42
      ·exact ⟨h, hz⟩
     rw [hP] at hRZ
     subst hRZ
     exact ⟨S1, l1, ck1, 0, err, rfl, le1, hm1, .inr ⟨rfl, h42⟩, Nat.zero_le _, hw.sub zSub⟩
    ·try simp only [sq] at h42
     have h42 : err = 0 := h42
     obtain ⟨x, hP, hxR, hpo⟩ : ∃ y, s.node id depth = .ok y ∧ Right y ∧ PageO S1 [y1, y2, y3, y4, y5, y6, y7] y f1 := by
      rcases hres with ⟨p, h, _, h1, h2⟩ | ⟨_, h, _⟩
      ·exact ⟨p, h, h1, h2⟩
      ·exact absurd h42 h
     clear hres
     obtain ⟨hpg, hkd, hdep⟩ := Pr.node_some hP
     rw [hP] at hRZ
     dsimp only at hRZ
     obtain ⟨q1, q2, q3, q4⟩ := hxR.lens
     obtain ⟨qi, qk, qd, qx, gi, gk, gd, gx, he, hpt, rfl⟩ := hpo
     simp only [List.cons.injEq] at he
     obtain ⟨rfl, rfl, rfl, rfl, rfl, rfl, rfl, _⟩ := he
     obtain ⟨a4, c4, rfl⟩ := hpt.items.form
     obtain ⟨a5, c5, rfl⟩ := hpt.kids.form
     obtain ⟨a6, c6, rfl⟩ := hpt.data.form
     obtain ⟨a7, c7, rfl⟩ := (show ∃ ad c, y7 = .slice ad x.ids.length c from Own.form hpt.ids)
     simp only [List.append_assoc]
     obtain ⟨RI, hRI⟩ : ∃ R, lookItems s from' to x.items seen1 = R := ⟨_, rfl⟩
     rw [hRI] at hRZ
     have hic : Items S1 gi (.slice a4 x.items.length c4) x.items := hpt.items.c (fun q hq => hq)
     have hkc : Kids S1 gk (.slice a5 x.kids.length c5) x.kids := hpt.kids.c (fun q hq => hq)
     refine sK (sC (sD ?_))
     refine L.w rfl (V.fa rfl underlying125 rfl rfl sizeOf118) ?_
     refine L.w rfl (V.load rfl isAgg118 zAt (by rfl)) ?_
     refine L.w rfl (V.len rfl underlying118) ?_
     refine sM rfl (sN (sB ?_))
     refine C.loop (α := Nat × List Int × List Ent × Nat × Store) (fun z => [(0, .pointer (some ⟨b, 0, none⟩)), (2, .int .i64 (depth : Int)), (3, fv), (4, .slice ta tm tc), (5, .map (some mb)), (14, .pointer (some ⟨b14, 0, none⟩)), (45, .slice a4 x.items.length c4), (46, .int .i64 (x.items.length : Int)), (47, .int .i64 (z.1 : Int))])
      (fun z w => (RI = lookItems s from' to (x.items.drop z.1) z.2.1 ∧ z.1 ≤ x.items.length ∧ MapN z.2.2.1 z.2.2.2.1 z.2.1 ∧ S1.le z.2.2.2.2) ∧ Hp w0 F z.2.2.2.2 ((b14, .cells #[.int .i64 (x.kind : Int), .int .u64 (x.txn : Int), .int .i64 (x.next : Int), .slice a4 x.items.length c4, .slice a5 x.kids.length c5, .slice a6 x.data.length c6, .slice a7 x.ids.length c7] 125 (0, 0)) :: (gi ++ (gk ++ (fp ++ ((mb, mobj z.2.2.1 z.2.2.2.1) :: Hr))))) w)
      (fun z => x.items.length - z.1) (0, seen1, l1, ck1, S1) ⟨rfl, rfl, rfl, rfl, rfl, rfl, rfl, rfl, rfl, trivial⟩ (fun w hw => ⟨⟨hRI.symm, Nat.zero_le _, hm1, .refl _⟩, hw.sub zSub⟩) (fun zz => C.pure (fun hzz => ?_))
     obtain ⟨z, seen2, l2, ck2, S2⟩ := zz
     obtain ⟨hF, hz, hm2, le2⟩ := hzz
     dsimp only at hF hz hm2 le2 ⊢
     have hd2 := hd1.mono le2
     have hfr2 := hfr.mono (Sees.le (le1.trans le2) _)
     have hto2 := hto.mono (Sees.le (le1.trans le2) _)
     refine sD (sQc rfl (sN (sC ?_)))
     refine C.cond rfl (fun h48 => ?_) (fun h48 => ?_)
     ·try simp only [sq] at h48
      have hj : z < x.items.length := by omega
      obtain ⟨b4, o4, cs4, T4, fz4, kv4, vv4, ha4, g1, g2, g3, g4, g5, g6⟩ := hic.at hj
      obtain ⟨it, hit⟩ : ∃ it, x.items[z] = it := ⟨_, rfl⟩
      have hio := hxR.items _ (List.getElem_mem hj)
      rw [List.drop_eq_getElem_cons hj, lookItems] at hF
      rw [hit] at g3 g4 g5 hio hF
      obtain ⟨l1', l2', l3', l4'⟩ := hio.lens
      have hxc : ItemC S1 [kv4, vv4, .int .i64 (it.size : Int), .int .i64 (it.more : Int)] it := ⟨_, _, rfl, g4, g5⟩
      obtain ⟨ka, kc, rfl, _⟩ := g4.form
      obtain ⟨va, vc, rfl, _⟩ := g5.form
      refine sK (sC (sB (sD ?_)))
      refine L.w rfl (V.indexAddr (b := b4) (off := o4) (m := x.items.length) (c := c4) (j := z) (by rw [← ha4]; rfl) rfl underlying118 sizeOf112 rfl hj) ?_
      refine L.w rfl (V.loadN rfl isAgg112 sizeOf112 (.tail (.apl (Sees.le le2 _ _ _ g1))) g2 g3) ?_
      refine L.allocA rfl rfl zeroValue112 (fun b17 => ?_)
      refine L.storeBox rfl rfl rfl sizeOf112 rfl rfl (by rfl) zUp ?_
      refine sN (sC (sD ?_))
      refine L.w rfl (V.fa rfl underlying112 rfl rfl sizeOf22) ?_
      refine L.w rfl (V.load rfl isAgg22 zAt (by rfl)) ?_
      refine sM rfl ?_
      refine L.call rfl rfl rfl call116 rfl (fun w hw => compare_ok ((g4.mono (Sees.le le2 _)).lift _) (hfr2.mono (Sees.of (.refl _) (fun q hq => by simp [hq]))) hw) ?_
      rintro _ a w hst ⟨rfl, hw⟩
      refine hst.go rfl hw ?_
      clear hst hw w a
      refine sQc rfl (sM rfl ?_)
      refine L.fork (d := 56) rfl (fun h56 => ?_) (fun h56 => ?_)
      ·try simp only [sq] at h56
       refine sS rfl (sS rfl (sS rfl (sS rfl (sS rfl (sS rfl (sS rfl (sS rfl (sS rfl (sT rfl (sN (sO rfl (sD (sA rfl ?_)))))))))))))
       refine sA rfl (sN ?_)
       refine R.ret2 results62 rfl rfl (fun w hw => ?_)
       have hout : Out from' to it.key := by
        first
         | exact .inl h56
         | exact .inr ⟨tk, htk, Int.not_lt.2 h66⟩
       rw [if_pos hout] at hF
       rw [hF] at hRZ
       have hRZ2 : RZ = (seen2, .error 4) := by rw [← hRZ]; rfl
       rw [hRZ2]
       exact ⟨S2, l2, ck2, 0, 4, rfl, le1.trans le2, hm2, .inr ⟨rfl, by decide⟩, Nat.zero_le _, hw.sub zSub⟩
      ·try simp only [sq] at h56
       refine sM rfl ?_
       refine L.w rfl (V.neqNil rfl rfl underlying22) ?_
       refine sM rfl ?_
       refine L.fork (d := 59) rfl (fun h59 => ?_) (fun h59 => ?_)
       ·try simp only [sq] at h59
        obtain ⟨tk, htk⟩ := htn.1 h59
        have htb : Bs S2 Hr (.slice ta tm tc) tk := by rw [htk] at hto2; exact hto2.bs
        refine L.w rfl (V.fa rfl underlying112 rfl rfl sizeOf22) ?_
        refine L.w rfl (V.load rfl isAgg22 zAt (by rfl)) ?_
        refine sM rfl ?_
        refine L.call rfl rfl rfl call116 rfl (fun w hw => compare_ok ((g4.mono (Sees.le le2 _)).lift _) (htb.mono (Sees.of (.refl _) (fun q hq => by simp [hq]))) hw) ?_
        rintro _ a w hst ⟨rfl, hw⟩
        refine hst.go rfl hw ?_
        clear hst hw w a
        refine sQf rfl (sT rfl (sU rfl (sN ?_)))
        refine C.cond rfl (fun h66 => ?_) (fun h66 => ?_)
        ·try simp only [sq] at h66
         refine sD (sA rfl (sA rfl (sN ?_)))
         refine R.ret2 results62 rfl rfl (fun w hw => ?_)
         have hout : Out from' to it.key := by
          first
           | exact .inl h56
           | exact .inr ⟨tk, htk, Int.not_lt.2 h66⟩
         rw [if_pos hout] at hF
         rw [hF] at hRZ
         have hRZ2 : RZ = (seen2, .error 4) := by rw [← hRZ]; rfl
         rw [hRZ2]
         exact ⟨S2, l2, ck2, 0, 4, rfl, le1.trans le2, hm2, .inr ⟨rfl, by decide⟩, Nat.zero_le _, hw.sub zSub⟩
        ·try simp only [sq] at h66
         refine sK (sC (sD ?_))
         have hout : ¬ Out from' to it.key := by
          rintro (h | ⟨t9, ht9, h⟩)
          ·exact absurd h (Int.not_lt.2 h56)
          ·first
            | (rw [htk] at ht9
               injection ht9 with ht9
               subst ht9
               exact h h66)
            | (have := htn.2 ⟨t9, ht9⟩; simp_all)
         rw [if_neg hout] at hF
         refine L.w rfl (V.fa rfl underlying112 rfl rfl sizeOf3) ?_
         refine L.w rfl (V.load rfl isAgg3 zAt (by rfl)) ?_
         refine sQa rfl (sN ?_)
         refine C.cond rfl (fun h69 => ?_) (fun h69 => ?_)
         ·try simp only [sq] at h69
          have hF2 : RI = lookItems s from' to (x.items.drop (z + 1)) seen2 := by rw [hF, if_pos (by omega)]
          refine sZ rfl (sR ?_)
          refine L.w rfl (V.add (c := ((z + 1 : Nat) : Int)) rfl rfl (by rw [w64 (by omega) (by omega)]; omega)) ?_
          refine sM rfl ?_
          refine L.nil ?_
          first
           | (refine N.round (z + 1, seen2, l2, ck2, S2) (by show x.items.length - (z + 1) < x.items.length - z; omega) ⟨rfl, rfl, rfl, rfl, rfl, rfl, rfl, rfl, rfl, trivial⟩ (fun w hw => ⟨⟨hF2, by show z + 1 ≤ _; omega, hm2, le2⟩, hw.sub ?_⟩); exact zSub)
           | (refine N.round (z + 1, seen3, l3, ck3, S3) (by show x.items.length - (z + 1) < x.items.length - z; omega) ⟨rfl, rfl, rfl, rfl, rfl, rfl, rfl, rfl, rfl, trivial⟩ (fun w hw => ⟨⟨hF3, by show z + 1 ≤ _; omega, hm3, le2.trans le3⟩, Hp.re (H := fp ++ ((b14, .cells #[.int .i64 (x.kind : Int), .int .u64 (x.txn : Int), .int .i64 (x.next : Int), .slice a4 x.items.length c4, .slice a5 x.kids.length c5, .slice a6 x.data.length c6, .slice a7 x.ids.length c7] 125 (0, 0)) :: (gi ++ (gk ++ ((mb, mobj l3 ck3) :: Hr))))) (hw.sub ?_) zRe⟩); exact zSub)
         ·try simp only [sq] at h69
          rw [if_neg (by omega)] at hF
          refine sK (sD (sM rfl ?_))
          refine L.w rfl (V.loadBox rfl isAgg112 sizeOf112 zAt (by rfl)) ?_
          refine L.call rfl rfl rfl call119 rfl (fun w hw => blob_ok (Hr := (b17, .cells #[.slice ka it.key.length kc, .slice va it.val.length vc, .int .i64 (it.size : Int), .int .i64 (it.more : Int)] 112 (0, 0)) :: (b14, .cells #[.int .i64 (x.kind : Int), .int .u64 (x.txn : Int), .int .i64 (x.next : Int), .slice a4 x.items.length c4, .slice a5 x.kids.length c5, .slice a6 x.data.length c6, .slice a7 x.ids.length c7] 125 (0, 0)) :: (gi ++ (gk ++ ((mb, mobj l2 ck2) :: Hr)))) (x := it) (c := [.slice ka it.key.length kc, .slice va it.val.length vc, .int .i64 (it.size : Int), .int .i64 (it.more : Int)]) hd2 (hxc.mono le2) (by omega) (hw.re zRe)) ?_
          rintro _ a w hst ⟨S3, v1, v2, err, f1, f2, rfl, le3, hd3, hres, hw⟩
          refine hst.go rfl hw ?_
          clear hst hw w a
          refine sM rfl (sX rfl (sX rfl (sX rfl (sA rfl (sA rfl (sA rfl (sN (sC (sD (sM rfl (sQb rfl (sN ?_))))))))))))
          refine C.cond rfl (fun h78 => ?_) (fun h78 => ?_)
          ·try simp only [sq] at h78
           refine sD (sM rfl (sA rfl (sA rfl (sN ?_))))
           refine R.ret2 results62 rfl rfl (fun w hw => ?_)
           have h78 : err ≠ 0 := h78
           have h1 : s.blob it = .error err := by
            rcases hres with ⟨_, _, _, h, _⟩ | ⟨h, _⟩
            ·exact absurd h h78
            ·exact h
           rw [h1] at hF
           rw [hF, if_pos h78] at hRZ
           subst hRZ
           exact ⟨S3, l2, ck2, 0, err, rfl, le1.trans (le2.trans le3), hm2, .inr ⟨rfl, h78⟩, Nat.zero_le _, hw.sub zSub⟩
          ·try simp only [sq] at h78
           have h78 : err = 0 := h78
           obtain ⟨out, ids, hb1, hids, hidl⟩ : ∃ out ids, s.blob it = .ok (out, ids) ∧ Own 3 1 v2 ids.length ((intL ids).map iv) f2 ∧ ids.length ≤ 100001 := by
            rcases hres with ⟨out, ids, h1, h2, _, h4, h5⟩ | ⟨h1, h2, _⟩
            ·exact ⟨out, ids, h1, h4, h5⟩
            ·exact absurd h78 h2
           clear hres
           rw [hb1] at hF
           dsimp only at hF
           obtain ⟨a2, c2, rfl⟩ := hids.form
           have hIs : Is S3 f2 (.slice a2 ids.length c2) (intL ids) := by unfold Is; rw [intL_len]; exact hids.rd (fun q hq => hq)
           obtain ⟨RS, hRS⟩ : ∃ R, seeAll seen2 ids = R := ⟨_, rfl⟩
           rw [hRS] at hF
           refine sK (sD (sM rfl ?_))
           refine L.w rfl (V.len rfl underlying37) ?_
           refine sM rfl (sN (sB ?_))
           refine C.loop (α := Nat × List Int × List Ent × Nat) (fun z' => [(0, .pointer (some ⟨b, 0, none⟩)), (2, .int .i64 (depth : Int)), (3, fv), (4, .slice ta tm tc), (5, .map (some mb)), (14, .pointer (some ⟨b14, 0, none⟩)), (45, .slice a4 x.items.length c4), (46, .int .i64 (x.items.length : Int)), (47, .int .i64 (z : Int)), (80, .slice a2 ids.length c2), (81, .int .i64 (ids.length : Int)), (82, .int .i64 (z'.1 : Int))])
            (fun z' w => (RS = seeAll z'.2.1 (ids.drop z'.1) ∧ z'.1 ≤ ids.length ∧ MapN z'.2.2.1 z'.2.2.2 z'.2.1) ∧ Hp w0 F S3 (f2 ++ (fp ++ ((b14, .cells #[.int .i64 (x.kind : Int), .int .u64 (x.txn : Int), .int .i64 (x.next : Int), .slice a4 x.items.length c4, .slice a5 x.kids.length c5, .slice a6 x.data.length c6, .slice a7 x.ids.length c7] 125 (0, 0)) :: (gi ++ (gk ++ ((mb, mobj z'.2.2.1 z'.2.2.2) :: Hr)))))) w)
            (fun z' => ids.length - z'.1) (0, seen2, l2, ck2) ⟨rfl, rfl, rfl, rfl, rfl, rfl, rfl, rfl, rfl, rfl, rfl, rfl, trivial⟩ (fun w hw => ⟨⟨hRS.symm, Nat.zero_le _, hm2⟩, hw.sub zSub⟩) (fun zz => C.pure (fun hzz => ?_))
           obtain ⟨y, seen3, l3, ck3⟩ := zz
           obtain ⟨hG, hy', hm3⟩ := hzz
           dsimp only at hG hy' hm3 ⊢
           refine sD (sQc rfl (sN (sC ?_)))
           refine C.cond rfl (fun h83 => ?_) (fun h83 => ?_)
           ·try simp only [sq] at h83
            have hj2 : y < ids.length := by omega
            obtain ⟨q, hq⟩ : ∃ q, ids[y] = q := ⟨_, rfl⟩
            rw [List.drop_eq_getElem_cons hj2, hq, seeAll] at hG
            obtain ⟨b9, o9, cs9, T9, fz9, ha2, r1, r2⟩ := hIs.at (j := y) (by rw [intL_len]; exact hj2)
            have r3 : cs9[o9 + y * 1]? = some (.int .i64 (q : Int)) := by rw [r2]; simp [intL, hq]
            refine sK (sC (sB (sD ?_)))
            refine L.w rfl (V.indexAddr (b := b9) (off := o9) (m := ids.length) (c := c2) (j := y) (by rw [← ha2]; rfl) rfl underlying37 sizeOf3 rfl hj2) ?_
            refine L.w rfl (V.load rfl isAgg3 (.apl r1) r3) ?_
            refine sA rfl (sN (sC (sD (sM rfl (sM rfl ?_)))))
            refine L.w rfl (V.lookup (v := .bool (decide ((q : Int) ∈ seen3))) rfl rfl underlying135 underlying3 zeroValue4 (.apr (.apr (.tail (.apr (.apr .head))))) (hm3.find q)) ?_
            refine sN ?_
            refine C.cond rfl (fun h88 => ?_) (fun h88 => ?_)
            ·try simp only [sq] at h88
             refine sD (sA rfl (sA rfl (sN ?_)))
             refine R.ret2 results62 rfl rfl (fun w hw => ?_)
             have h88' : (q : Int) ∈ seen3 := by simpa using h88
             rw [if_pos h88'] at hG
             rw [hG] at hF
             have hF9 : RI = (seen3, 4) := by rw [hF]; rfl
             rw [hF9] at hRZ
             have hRZ2 : RZ = (seen3, .error 4) := by rw [← hRZ]; rfl
             rw [hRZ2]
             exact ⟨S3, l3, ck3, 0, 4, rfl, le1.trans (le2.trans le3), hm3, .inr ⟨rfl, by decide⟩, Nat.zero_le _, hw.sub zSub⟩
            ·try simp only [sq] at h88
             have h88' : (q : Int) ∉ seen3 := by simpa using h88
             refine sK (sR (sM rfl (sM rfl ?_)))
             refine L.mapUpdate rfl rfl rfl rfl underlying135 underlying3 zUp ?_
             refine L.nil (N.blk (N.seq ?_))
             refine sR ?_
             refine L.w rfl (V.add (c := ((y + 1 : Nat) : Int)) rfl rfl (by rw [w64 (by omega) (by omega)]; omega)) ?_
             refine sM rfl ?_
             refine L.nil ?_
             refine N.round (y + 1, seen3 ++ [(q : Int)], mput l3 q (.bool true) ck3, mck l3 q ck3) (by show ids.length - (y + 1) < ids.length - y; omega) ⟨rfl, rfl, rfl, rfl, rfl, rfl, rfl, rfl, rfl, rfl, rfl, rfl, trivial⟩ (fun w hw => ⟨⟨by rw [hG, if_neg h88'], by show y + 1 ≤ _; omega, hm3.put h88'⟩, hw⟩)
           ·try simp only [sq] at h83
            have ey : y = ids.length := by omega
            subst ey
            rw [List.drop_length, seeAll] at hG
            have hF3 : RI = lookItems s from' to (x.items.drop (z + 1)) seen3 := by rw [hF, hG]; rfl
            refine C.exit rfl (N.blk (N.seq ?_))
            refine sR ?_
            refine L.w rfl (V.add (c := ((z + 1 : Nat) : Int)) rfl rfl (by rw [w64 (by omega) (by omega)]; omega)) ?_
            refine sM rfl ?_
            refine L.nil ?_
            first
             | (refine N.round (z + 1, seen2, l2, ck2, S2) (by show x.items.length - (z + 1) < x.items.length - z; omega) ⟨rfl, rfl, rfl, rfl, rfl, rfl, rfl, rfl, rfl, trivial⟩ (fun w hw => ⟨⟨hF2, by show z + 1 ≤ _; omega, hm2, le2⟩, hw.sub ?_⟩); exact zSub)
             | (refine N.round (z + 1, seen3, l3, ck3, S3) (by show x.items.length - (z + 1) < x.items.length - z; omega) ⟨rfl, rfl, rfl, rfl, rfl, rfl, rfl, rfl, rfl, trivial⟩ (fun w hw => ⟨⟨hF3, by show z + 1 ≤ _; omega, hm3, le2.trans le3⟩, Hp.re (H := fp ++ ((b14, .cells #[.int .i64 (x.kind : Int), .int .u64 (x.txn : Int), .int .i64 (x.next : Int), .slice a4 x.items.length c4, .slice a5 x.kids.length c5, .slice a6 x.data.length c6, .slice a7 x.ids.length c7] 125 (0, 0)) :: (gi ++ (gk ++ ((mb, mobj l3 ck3) :: Hr))))) (hw.sub ?_) zRe⟩); exact zSub)
       ·try simp only [sq] at h59
        refine sS rfl (sS rfl (sS rfl (sS rfl (sS rfl (sU rfl (sU rfl (sN (sP rfl (sK (sC (sD ?_)))))))))))
        have hout : ¬ Out from' to it.key := by
         rintro (h | ⟨t9, ht9, h⟩)
         ·exact absurd h (Int.not_lt.2 h56)
         ·first
           | (rw [htk] at ht9
              injection ht9 with ht9
              subst ht9
              exact h h66)
           | (have := htn.2 ⟨t9, ht9⟩; simp_all)
        rw [if_neg hout] at hF
        refine L.w rfl (V.fa rfl underlying112 rfl rfl sizeOf3) ?_
        refine L.w rfl (V.load rfl isAgg3 zAt (by rfl)) ?_
        refine sQa rfl (sN ?_)
        refine C.cond rfl (fun h69 => ?_) (fun h69 => ?_)
        ·try simp only [sq] at h69
         have hF2 : RI = lookItems s from' to (x.items.drop (z + 1)) seen2 := by rw [hF, if_pos (by omega)]
         refine sZ rfl (sR ?_)
         refine L.w rfl (V.add (c := ((z + 1 : Nat) : Int)) rfl rfl (by rw [w64 (by omega) (by omega)]; omega)) ?_
         refine sM rfl ?_
         refine L.nil ?_
         first
          | (refine N.round (z + 1, seen2, l2, ck2, S2) (by show x.items.length - (z + 1) < x.items.length - z; omega) ⟨rfl, rfl, rfl, rfl, rfl, rfl, rfl, rfl, rfl, trivial⟩ (fun w hw => ⟨⟨hF2, by show z + 1 ≤ _; omega, hm2, le2⟩, hw.sub ?_⟩); exact zSub)
          | (refine N.round (z + 1, seen3, l3, ck3, S3) (by show x.items.length - (z + 1) < x.items.length - z; omega) ⟨rfl, rfl, rfl, rfl, rfl, rfl, rfl, rfl, rfl, trivial⟩ (fun w hw => ⟨⟨hF3, by show z + 1 ≤ _; omega, hm3, le2.trans le3⟩, Hp.re (H := fp ++ ((b14, .cells #[.int .i64 (x.kind : Int), .int .u64 (x.txn : Int), .int .i64 (x.next : Int), .slice a4 x.items.length c4, .slice a5 x.kids.length c5, .slice a6 x.data.length c6, .slice a7 x.ids.length c7] 125 (0, 0)) :: (gi ++ (gk ++ ((mb, mobj l3 ck3) :: Hr))))) (hw.sub ?_) zRe⟩); exact zSub)
        ·try simp only [sq] at h69
         rw [if_neg (by omega)] at hF
         refine sK (sD (sM rfl ?_))
         refine L.w rfl (V.loadBox rfl isAgg112 sizeOf112 zAt (by rfl)) ?_
         refine L.call rfl rfl rfl call119 rfl (fun w hw => blob_ok (Hr := (b17, .cells #[.slice ka it.key.length kc, .slice va it.val.length vc, .int .i64 (it.size : Int), .int .i64 (it.more : Int)] 112 (0, 0)) :: (b14, .cells #[.int .i64 (x.kind : Int), .int .u64 (x.txn : Int), .int .i64 (x.next : Int), .slice a4 x.items.length c4, .slice a5 x.kids.length c5, .slice a6 x.data.length c6, .slice a7 x.ids.length c7] 125 (0, 0)) :: (gi ++ (gk ++ ((mb, mobj l2 ck2) :: Hr)))) (x := it) (c := [.slice ka it.key.length kc, .slice va it.val.length vc, .int .i64 (it.size : Int), .int .i64 (it.more : Int)]) hd2 (hxc.mono le2) (by omega) (hw.re zRe)) ?_
         rintro _ a w hst ⟨S3, v1, v2, err, f1, f2, rfl, le3, hd3, hres, hw⟩
         refine hst.go rfl hw ?_
         clear hst hw w a
         refine sM rfl (sX rfl (sX rfl (sX rfl (sA rfl (sA rfl (sA rfl (sN (sC (sD (sM rfl (sQb rfl (sN ?_))))))))))))
         refine C.cond rfl (fun h78 => ?_) (fun h78 => ?_)
         ·try simp only [sq] at h78
          refine sD (sM rfl (sA rfl (sA rfl (sN ?_))))
          refine R.ret2 results62 rfl rfl (fun w hw => ?_)
          have h78 : err ≠ 0 := h78
          have h1 : s.blob it = .error err := by
           rcases hres with ⟨_, _, _, h, _⟩ | ⟨h, _⟩
           ·exact absurd h h78
           ·exact h
          rw [h1] at hF
          rw [hF, if_pos h78] at hRZ
          subst hRZ
          exact ⟨S3, l2, ck2, 0, err, rfl, le1.trans (le2.trans le3), hm2, .inr ⟨rfl, h78⟩, Nat.zero_le _, hw.sub zSub⟩
         ·try simp only [sq] at h78
          have h78 : err = 0 := h78
          obtain ⟨out, ids, hb1, hids, hidl⟩ : ∃ out ids, s.blob it = .ok (out, ids) ∧ Own 3 1 v2 ids.length ((intL ids).map iv) f2 ∧ ids.length ≤ 100001 := by
           rcases hres with ⟨out, ids, h1, h2, _, h4, h5⟩ | ⟨h1, h2, _⟩
           ·exact ⟨out, ids, h1, h4, h5⟩
           ·exact absurd h78 h2
          clear hres
          rw [hb1] at hF
          dsimp only at hF
          obtain ⟨a2, c2, rfl⟩ := hids.form
          have hIs : Is S3 f2 (.slice a2 ids.length c2) (intL ids) := by unfold Is; rw [intL_len]; exact hids.rd (fun q hq => hq)
          obtain ⟨RS, hRS⟩ : ∃ R, seeAll seen2 ids = R := ⟨_, rfl⟩
          rw [hRS] at hF
          refine sK (sD (sM rfl ?_))
          refine L.w rfl (V.len rfl underlying37) ?_
          refine sM rfl (sN (sB ?_))
          refine C.loop (α := Nat × List Int × List Ent × Nat) (fun z' => [(0, .pointer (some ⟨b, 0, none⟩)), (2, .int .i64 (depth : Int)), (3, fv), (4, .slice ta tm tc), (5, .map (some mb)), (14, .pointer (some ⟨b14, 0, none⟩)), (45, .slice a4 x.items.length c4), (46, .int .i64 (x.items.length : Int)), (47, .int .i64 (z : Int)), (80, .slice a2 ids.length c2), (81, .int .i64 (ids.length : Int)), (82, .int .i64 (z'.1 : Int))])
           (fun z' w => (RS = seeAll z'.2.1 (ids.drop z'.1) ∧ z'.1 ≤ ids.length ∧ MapN z'.2.2.1 z'.2.2.2 z'.2.1) ∧ Hp w0 F S3 (f2 ++ (fp ++ ((b14, .cells #[.int .i64 (x.kind : Int), .int .u64 (x.txn : Int), .int .i64 (x.next : Int), .slice a4 x.items.length c4, .slice a5 x.kids.length c5, .slice a6 x.data.length c6, .slice a7 x.ids.length c7] 125 (0, 0)) :: (gi ++ (gk ++ ((mb, mobj z'.2.2.1 z'.2.2.2) :: Hr)))))) w)
           (fun z' => ids.length - z'.1) (0, seen2, l2, ck2) ⟨rfl, rfl, rfl, rfl, rfl, rfl, rfl, rfl, rfl, rfl, rfl, rfl, trivial⟩ (fun w hw => ⟨⟨hRS.symm, Nat.zero_le _, hm2⟩, hw.sub zSub⟩) (fun zz => C.pure (fun hzz => ?_))
          obtain ⟨y, seen3, l3, ck3⟩ := zz
          obtain ⟨hG, hy', hm3⟩ := hzz
          dsimp only at hG hy' hm3 ⊢
          refine sD (sQc rfl (sN (sC ?_)))
          refine C.cond rfl (fun h83 => ?_) (fun h83 => ?_)
          ·try simp only [sq] at h83
           have hj2 : y < ids.length := by omega
           obtain ⟨q, hq⟩ : ∃ q, ids[y] = q := ⟨_, rfl⟩
           rw [List.drop_eq_getElem_cons hj2, hq, seeAll] at hG
           obtain ⟨b9, o9, cs9, T9, fz9, ha2, r1, r2⟩ := hIs.at (j := y) (by rw [intL_len]; exact hj2)
           have r3 : cs9[o9 + y * 1]? = some (.int .i64 (q : Int)) := by rw [r2]; simp [intL, hq]
           refine sK (sC (sB (sD ?_)))
           refine L.w rfl (V.indexAddr (b := b9) (off := o9) (m := ids.length) (c := c2) (j := y) (by rw [← ha2]; rfl) rfl underlying37 sizeOf3 rfl hj2) ?_
           refine L.w rfl (V.load rfl isAgg3 (.apl r1) r3) ?_
           refine sA rfl (sN (sC (sD (sM rfl (sM rfl ?_)))))
           refine L.w rfl (V.lookup (v := .bool (decide ((q : Int) ∈ seen3))) rfl rfl underlying135 underlying3 zeroValue4 (.apr (.apr (.tail (.apr (.apr .head))))) (hm3.find q)) ?_
           refine sN ?_
           refine C.cond rfl (fun h88 => ?_) (fun h88 => ?_)
           ·try simp only [sq] at h88
            refine sD (sA rfl (sA rfl (sN ?_)))
            refine R.ret2 results62 rfl rfl (fun w hw => ?_)
            have h88' : (q : Int) ∈ seen3 := by simpa using h88
            rw [if_pos h88'] at hG
            rw [hG] at hF
            have hF9 : RI = (seen3, 4) := by rw [hF]; rfl
            rw [hF9] at hRZ
            have hRZ2 : RZ = (seen3, .error 4) := by rw [← hRZ]; rfl
            rw [hRZ2]
            exact ⟨S3, l3, ck3, 0, 4, rfl, le1.trans (le2.trans le3), hm3, .inr ⟨rfl, by decide⟩, Nat.zero_le _, hw.sub zSub⟩
           ·try simp only [sq] at h88
            have h88' : (q : Int) ∉ seen3 := by simpa using h88
            refine sK (sR (sM rfl (sM rfl ?_)))
            refine L.mapUpdate rfl rfl rfl rfl underlying135 underlying3 zUp ?_
            refine L.nil (N.blk (N.seq ?_))
            refine sR ?_
            refine L.w rfl (V.add (c := ((y + 1 : Nat) : Int)) rfl rfl (by rw [w64 (by omega) (by omega)]; omega)) ?_
            refine sM rfl ?_
            refine L.nil ?_
            refine N.round (y + 1, seen3 ++ [(q : Int)], mput l3 q (.bool true) ck3, mck l3 q ck3) (by show ids.length - (y + 1) < ids.length - y; omega) ⟨rfl, rfl, rfl, rfl, rfl, rfl, rfl, rfl, rfl, rfl, rfl, rfl, trivial⟩ (fun w hw => ⟨⟨by rw [hG, if_neg h88'], by show y + 1 ≤ _; omega, hm3.put h88'⟩, hw⟩)
          ·try simp only [sq] at h83
           have ey : y = ids.length := by omega
           subst ey
           rw [List.drop_length, seeAll] at hG
           have hF3 : RI = lookItems s from' to (x.items.drop (z + 1)) seen3 := by rw [hF, hG]; rfl
           refine C.exit rfl (N.blk (N.seq ?_))
           refine sR ?_
           refine L.w rfl (V.add (c := ((z + 1 : Nat) : Int)) rfl rfl (by rw [w64 (by omega) (by omega)]; omega)) ?_
           refine sM rfl ?_
           refine L.nil ?_
           first
            | (refine N.round (z + 1, seen2, l2, ck2, S2) (by show x.items.length - (z + 1) < x.items.length - z; omega) ⟨rfl, rfl, rfl, rfl, rfl, rfl, rfl, rfl, rfl, trivial⟩ (fun w hw => ⟨⟨hF2, by show z + 1 ≤ _; omega, hm2, le2⟩, hw.sub ?_⟩); exact zSub)
            | (refine N.round (z + 1, seen3, l3, ck3, S3) (by show x.items.length - (z + 1) < x.items.length - z; omega) ⟨rfl, rfl, rfl, rfl, rfl, rfl, rfl, rfl, rfl, trivial⟩ (fun w hw => ⟨⟨hF3, by show z + 1 ≤ _; omega, hm3, le2.trans le3⟩, Hp.re (H := fp ++ ((b14, .cells #[.int .i64 (x.kind : Int), .int .u64 (x.txn : Int), .int .i64 (x.next : Int), .slice a4 x.items.length c4, .slice a5 x.kids.length c5, .slice a6 x.data.length c6, .slice a7 x.ids.length c7] 125 (0, 0)) :: (gi ++ (gk ++ ((mb, mobj l3 ck3) :: Hr))))) (hw.sub ?_) zRe⟩); exact zSub)
     ·try simp only [sq] at h48
      have ez : z = x.items.length := by omega
      subst ez
      rw [List.drop_length, lookItems] at hF
      rw [hF] at hRZ
      obtain ⟨RK, hRK⟩ : ∃ R, lookKids (lookF s f (depth + 1)) from' to x.kids true 0 seen2 = R := ⟨_, rfl⟩
      have hRZK : lookEnd RK = RZ := by rw [← hRZ, ← hRK]; rfl
      refine sZ rfl (sD (sA rfl (sN (sC (sD ?_)))))
      refine L.w rfl (V.fa rfl underlying125 rfl rfl sizeOf115) ?_
      refine L.w rfl (V.load rfl isAgg115 zAt (by rfl)) ?_
      refine L.w rfl (V.len rfl underlying115) ?_
      refine sM rfl (sN (sB ?_))
      refine C.loop (α := Nat × Nat × List Int × List Ent × Nat × Store) (fun z => [(0, .pointer (some ⟨b, 0, none⟩)), (2, .int .i64 (depth : Int)), (3, fv), (4, .slice ta tm tc), (5, .map (some mb)), (14, .pointer (some ⟨b14, 0, none⟩)), (23, .int .i64 (z.2.1 : Int)), (94, .slice a5 x.kids.length c5), (95, .int .i64 (x.kids.length : Int)), (96, .int .i64 (z.1 : Int))])
       (fun z w => (RK = lookKids (lookF s f (depth + 1)) from' to (x.kids.drop z.1) (decide (z.1 = 0)) z.2.1 z.2.2.1 ∧ z.1 ≤ x.kids.length ∧ z.2.1 ≤ f ∧ MapN z.2.2.2.1 z.2.2.2.2.1 z.2.2.1 ∧ S2.le z.2.2.2.2.2) ∧ Hp w0 F z.2.2.2.2.2 ((b14, .cells #[.int .i64 (x.kind : Int), .int .u64 (x.txn : Int), .int .i64 (x.next : Int), .slice a4 x.items.length c4, .slice a5 x.kids.length c5, .slice a6 x.data.length c6, .slice a7 x.ids.length c7] 125 (0, 0)) :: (gi ++ (gk ++ (fp ++ ((mb, mobj z.2.2.2.1 z.2.2.2.2.1) :: Hr))))) w)
       (fun z => x.kids.length - z.1) (0, 0, seen2, l2, ck2, S2) ⟨rfl, rfl, rfl, rfl, rfl, rfl, rfl, rfl, rfl, rfl, trivial⟩ (fun w hw => ⟨⟨hRK.symm, Nat.zero_le _, Nat.zero_le _, hm2, .refl _⟩, hw⟩) (fun zz => C.pure (fun hzz => ?_))
      clear hF
      obtain ⟨z, high, seen3, l3, ck3, S3⟩ := zz
      obtain ⟨hF, hz, hhi, hm3, le3⟩ := hzz
      dsimp only at hF hz hhi hm3 le3 ⊢
      have hd3 := hd2.mono le3
      have hfr3 := hfr2.mono (Sees.le le3 _)
      have hto3 := hto2.mono (Sees.le le3 _)
      refine sD (sQc rfl (sN (sC ?_)))
      refine C.cond rfl (fun h97 => ?_) (fun h97 => ?_)
      ·try simp only [sq] at h97
       have hj : z < x.kids.length := by omega
       obtain ⟨b5, o5, cs5, T5, fz5, kv5, ha5, g1, g2, g3, g4, g5, g6⟩ := hkc.at hj
       obtain ⟨ki, hki⟩ : ∃ ki, x.kids[z] = ki := ⟨_, rfl⟩
       rw [List.drop_eq_getElem_cons hj, lookKids] at hF
       rw [hki] at g3 g4 g6 hF
       have le23 := le2.trans le3
       have g4 := g4.mono (Sees.le le23 _)
       obtain ⟨ka, kc, rfl, _⟩ := g4.form
       obtain ⟨kp, hkp⟩ : ∃ kp, ki.page = kp := ⟨_, rfl⟩
       rw [hkp] at g3 g6 hF
       obtain ⟨nt, hnt⟩ : ∃ nt, (if x.kids.drop (z + 1) = [] then to else some (((x.kids.drop (z + 1)).head?.map (·.key)).getD [])) = nt := ⟨_, rfl⟩
       rw [hnt] at hF
       refine sK (sC (sB (sD (sM rfl ?_))))
       refine L.w rfl (V.indexAddr (b := b5) (off := o5) (m := x.kids.length) (c := c5) (j := z) (by rw [← ha5]; rfl) rfl underlying115 sizeOf129 rfl hj) ?_
       refine L.w rfl (V.loadN rfl isAgg129 sizeOf129 (.tail (.apr (.apl (Sees.le le23 _ _ _ g1)))) g2 g3) ?_
       refine L.allocA rfl rfl zeroValue129 (fun b25 => ?_)
       refine sA rfl ?_
       refine L.storeBox rfl rfl rfl sizeOf129 rfl rfl (by rfl) zUp ?_
       refine sE (sM rfl (sA rfl (sN (sC (sD (sM rfl ?_))))))
       refine L.w rfl (V.add (c := ((z + 1 : Nat) : Int)) rfl rfl (by rw [w64 (by omega) (by omega)]; omega)) ?_
       refine L.w rfl (V.fa rfl underlying125 rfl rfl sizeOf115) ?_
       refine L.w rfl (V.load rfl isAgg115 zAt (by rfl)) ?_
       refine L.w rfl (V.len rfl underlying115) ?_
       refine sQc rfl (sN ?_)
       refine C.cond rfl (fun h107 => ?_) (fun h107 => ?_)
       ·try simp only [sq] at h107
        have hj1 : z + 1 < x.kids.length := by omega
        obtain ⟨b6, o6, cs6, T6, fz6, kv6, ha6, r1, r2, r3, r4, r5, r6⟩ := hkc.at hj1
        have hrise : cb x.kids[z].key x.kids[z + 1].key < 0 := by
         have h8 := hxR.kidsRise.lt (i := z) (j := z + 1) (by rw [List.length_map]; exact hj1) (Nat.lt_succ_self z)
         simpa using h8
        obtain ⟨kn, hkn⟩ : ∃ kn, x.kids[z + 1] = kn := ⟨_, rfl⟩
        rw [hkn] at r3 r4 r6 hrise
        have hkne : kn.key ≠ [] := fun e => by rw [e] at hrise; exact cb_nil _ hrise
        have r4 := r4.mono (Sees.le le23 _)
        have hnt2 : nt = some kn.key := by
         rw [← hnt, List.drop_eq_getElem_cons hj1, hkn]; rfl
        have hT26 : ∀ H : Heap, (∀ q, q ∈ Hr → q ∈ H) → ToV S3 H kv6 nt := fun H _ => by rw [hnt2]; exact Bs.toV (r4.lift H) hkne
        refine sR ?_
        refine L.w rfl (V.fa rfl underlying125 rfl rfl sizeOf115) ?_
        refine L.w rfl (V.load rfl isAgg115 zAt (by rfl)) ?_
        refine sM rfl ?_
        refine L.w rfl (V.add (c := ((z + 1 : Nat) : Int)) rfl rfl (by rw [w64 (by omega) (by omega)]; omega)) ?_
        refine L.w rfl (V.indexAddr (b := b6) (off := o6) (m := x.kids.length) (c := c5) (j := z + 1) (by rw [← ha6]; rfl) rfl underlying115 sizeOf129 rfl hj1) ?_
        refine L.w rfl (V.fa rfl underlying129 rfl rfl sizeOf22) ?_
        refine L.w rfl (V.load rfl isAgg22 (.tail (.tail (.apr (.apl (Sees.le le23 _ _ _ r1))))) r5) ?_
        refine sA rfl (sN (sC (sD ?_)))
        refine L.w rfl (V.fa rfl underlying129 rfl rfl sizeOf22) ?_
        refine L.w rfl (V.load rfl isAgg22 zAt (by rfl)) ?_
        refine sM rfl ?_
        refine L.call rfl rfl rfl call116 rfl (fun w hw => compare_ok (g4.lift _) (hfr3.mono (Sees.of (.refl _) (fun q hq => by simp [hq]))) hw) ?_
        rintro _ a w hst ⟨rfl, hw⟩
        refine hst.go rfl hw ?_
        clear hst hw w a
        refine sQc rfl (sM rfl ?_)
        refine L.fork (d := 120) rfl (fun h120 => ?_) (fun h120 => ?_)
        ·try simp only [sq] at h120
         refine sS rfl (sS rfl (sS rfl (sS rfl (sS rfl (sS rfl (sS rfl (sS rfl (sS rfl (sT rfl (sN (sO rfl (sD (sA rfl ?_)))))))))))))
         refine sA rfl (sN ?_)
         refine R.ret2 results62 rfl rfl (fun w hw => ?_)
         have hout : Out from' to ki.key := by
          first
           | exact .inl h120
           | exact .inr ⟨tk, htk, Int.not_lt.2 h130⟩
         rw [if_pos hout] at hF
         rw [hF] at hRZK
         have hRZ2 : RZ = (seen3, .error 4) := by rw [← hRZK]; rfl
         rw [hRZ2]
         exact ⟨S3, l3, ck3, 0, 4, rfl, le1.trans (le2.trans le3), hm3, .inr ⟨rfl, by decide⟩, Nat.zero_le _, hw.sub zSub⟩
        ·try simp only [sq] at h120
         refine sM rfl ?_
         refine L.w rfl (V.neqNil rfl rfl underlying22) ?_
         refine sM rfl ?_
         refine L.fork (d := 123) rfl (fun h123 => ?_) (fun h123 => ?_)
         ·try simp only [sq] at h123
          obtain ⟨tk, htk⟩ := htn.1 h123
          have htb : Bs S3 Hr (.slice ta tm tc) tk := by rw [htk] at hto3; exact hto3.bs
          refine L.w rfl (V.fa rfl underlying129 rfl rfl sizeOf22) ?_
          refine L.w rfl (V.load rfl isAgg22 zAt (by rfl)) ?_
          refine sM rfl ?_
          refine L.call rfl rfl rfl call116 rfl (fun w hw => compare_ok (g4.lift _) (htb.mono (Sees.of (.refl _) (fun q hq => by simp [hq]))) hw) ?_
          rintro _ a w hst ⟨rfl, hw⟩
          refine hst.go rfl hw ?_
          clear hst hw w a
          refine sQf rfl (sT rfl (sU rfl (sN ?_)))
          refine C.cond rfl (fun h130 => ?_) (fun h130 => ?_)
          ·try simp only [sq] at h130
           refine sD (sA rfl (sA rfl (sN ?_)))
           refine R.ret2 results62 rfl rfl (fun w hw => ?_)
           have hout : Out from' to ki.key := by
            first
             | exact .inl h120
             | exact .inr ⟨tk, htk, Int.not_lt.2 h130⟩
           rw [if_pos hout] at hF
           rw [hF] at hRZK
           have hRZ2 : RZ = (seen3, .error 4) := by rw [← hRZK]; rfl
           rw [hRZ2]
           exact ⟨S3, l3, ck3, 0, 4, rfl, le1.trans (le2.trans le3), hm3, .inr ⟨rfl, by decide⟩, Nat.zero_le _, hw.sub zSub⟩
          ·try simp only [sq] at h130
           refine sK (sD ?_)
           have hout : ¬ Out from' to ki.key := by
            rintro (h | ⟨t9, ht9, h⟩)
            ·exact absurd h (Int.not_lt.2 h120)
            ·first
              | (rw [htk] at ht9
                 injection ht9 with ht9
                 subst ht9
                 exact h h130)
              | (have := htn.2 ⟨t9, ht9⟩; simp_all)
           rw [if_neg hout] at hF
           refine sM rfl ?_
           refine L.w rfl (V.fa rfl underlying129 rfl rfl sizeOf3) ?_
           refine L.w rfl (V.load rfl isAgg3 zAt (by rfl)) ?_
           refine sM rfl ?_
           refine L.w rfl (V.add (c := ((depth + 1 : Nat) : Int)) rfl rfl (by rw [w64 (by omega) (by omega)]; omega)) ?_
           refine L.w rfl (V.fa rfl underlying129 rfl rfl sizeOf22) ?_
           refine L.w rfl (V.load rfl isAgg22 zAt (by rfl)) ?_
           refine sM rfl (sM rfl ?_)
           obtain ⟨f, rfl⟩ : ∃ g, f = g + 1 := ⟨f - 1, by omega⟩
           refine L.call rfl rfl rfl call62 rfl (fun w hw => ih f (Nat.lt_succ_self f) (Hr := (b25, .cells #[.slice ka ki.key.length kc, .int .i64 (kp : Int)] 129 (0, 0)) :: (b14, .cells #[.int .i64 (x.kind : Int), .int .u64 (x.txn : Int), .int .i64 (x.next : Int), .slice a4 x.items.length c4, .slice a5 x.kids.length c5, .slice a6 x.data.length c6, .slice a7 x.ids.length c7] 125 (0, 0)) :: (gi ++ (gk ++ Hr))) (kp : Int) (depth + 1) (by omega) hd3 (g4.lift _) (hT26 _ (fun q hq => by simp [hq])) hm3 (hw.re zRe)) ?_
           rintro _ a w hst ⟨S4, l4, ck4, h9, err9, rfl, le4, hm4, hres, hh9, hw⟩
           refine hst.go rfl hw ?_
           clear hst hw w a
           obtain ⟨r9, hr9⟩ : ∃ r, lookF s (f + 1) (depth + 1) (kp : Int) ki.key nt seen3 = r := ⟨_, rfl⟩
           rw [hr9] at hm4 hres hF
           obtain ⟨seen4, r9⟩ := r9
           dsimp only at hm4 hres hF
           refine sM rfl (sX rfl (sX rfl (sA rfl (sA rfl (sN (sC (sD (sM rfl (sQb rfl (sN ?_))))))))))
           refine C.cond rfl (fun h145 => ?_) (fun h145 => ?_)
           ·try simp only [sq] at h145
            refine sD (sM rfl (sA rfl (sA rfl (sN ?_))))
            refine R.ret2 results62 rfl rfl (fun w hw => ?_)
            have h145 : err9 ≠ 0 := h145
            have h1 : r9 = .error err9 := by
             rcases hres with ⟨_, h⟩ | ⟨h, _⟩
             ·exact absurd h h145
             ·exact h
            rw [h1] at hF
            rw [hF] at hRZK
            have hRZ2 : RZ = (seen4, .error err9) := by rw [← hRZK]; rfl
            rw [hRZ2]
            exact ⟨S4, l4, ck4, 0, err9, rfl, le1.trans (le2.trans (le3.trans le4)), hm4, .inr ⟨rfl, h145⟩, Nat.zero_le _, hw.sub zSub⟩
           ·try simp only [sq] at h145
            have h145 : err9 = 0 := h145
            have h1 : r9 = .ok h9 := by
             rcases hres with ⟨h, _⟩ | ⟨_, h⟩
             ·exact h
             ·exact absurd h145 h
            rw [h1] at hF
            dsimp only at hF
            refine sK (sC (sD (sM rfl (sQe rfl (sM rfl ?_)))))
            refine L.fork (d := 149) rfl (fun h149 => ?_) (fun h149 => ?_)
            ·try simp only [sq] at h149
             refine sM rfl (sM rfl (sQb rfl (sT rfl (sN ?_))))
             refine C.cond rfl (fun h153 => ?_) (fun h153 => ?_)
             ·try simp only [sq] at h153
              refine sD (sA rfl (sA rfl (sN ?_)))
              refine R.ret2 results62 rfl rfl (fun w hw => ?_)
              rw [if_pos ⟨decide_eq_false (by omega), by omega⟩] at hF
              rw [hF] at hRZK
              have hRZ2 : RZ = (seen4, .error 4) := by rw [← hRZK]; rfl
              rw [hRZ2]
              exact ⟨S4, l4, ck4, 0, 4, rfl, le1.trans (le2.trans (le3.trans le4)), hm4, .inr ⟨rfl, by decide⟩, Nat.zero_le _, hw.sub zSub⟩
             ·try simp only [sq] at h153
              refine sK (sR ?_)
              have hF4 : RK = lookKids (lookF s (f + 1) (depth + 1)) from' to (x.kids.drop (z + 1)) (decide (z + 1 = 0)) h9 seen4 := by
               rw [hF, if_neg (by
                rintro ⟨h1, h2⟩
                have : ¬ z = 0 := of_decide_eq_false h1
                omega), decide_eq_false (Nat.succ_ne_zero z)]
              refine sM rfl (sA rfl ?_)
              refine L.nil (N.blk (N.seq ?_))
              refine sR ?_
              refine L.w rfl (V.add (c := ((z + 1 : Nat) : Int)) rfl rfl (by rw [w64 (by omega) (by omega)]; omega)) ?_
              refine sM rfl ?_
              refine L.nil ?_
              refine N.round (z + 1, h9, seen4, l4, ck4, S4) (by show x.kids.length - (z + 1) < x.kids.length - z; omega) ⟨rfl, rfl, rfl, rfl, rfl, rfl, rfl, rfl, rfl, rfl, trivial⟩ (fun w hw => ⟨⟨hF4, by show z + 1 ≤ _; omega, hh9, hm4, le3.trans le4⟩, Hp.re (hw.sub (H' := fp ++ ((mb, mobj l4 ck4) :: ((b14, .cells #[.int .i64 (x.kind : Int), .int .u64 (x.txn : Int), .int .i64 (x.next : Int), .slice a4 x.items.length c4, .slice a5 x.kids.length c5, .slice a6 x.data.length c6, .slice a7 x.ids.length c7] 125 (0, 0)) :: (gi ++ (gk ++ Hr))))) zSub) zRe⟩)
            ·try simp only [sq] at h149
             refine sS rfl (sS rfl (sS rfl (sU rfl (sN (sP rfl (sK (sR ?_)))))))
             have hF4 : RK = lookKids (lookF s (f + 1) (depth + 1)) from' to (x.kids.drop (z + 1)) (decide (z + 1 = 0)) h9 seen4 := by
              rw [hF, if_neg (by
               rintro ⟨h1, h2⟩
               have : ¬ z = 0 := of_decide_eq_false h1
               omega), decide_eq_false (Nat.succ_ne_zero z)]
             refine sM rfl (sA rfl ?_)
             refine L.nil (N.blk (N.seq ?_))
             refine sR ?_
             refine L.w rfl (V.add (c := ((z + 1 : Nat) : Int)) rfl rfl (by rw [w64 (by omega) (by omega)]; omega)) ?_
             refine sM rfl ?_
             refine L.nil ?_
             refine N.round (z + 1, h9, seen4, l4, ck4, S4) (by show x.kids.length - (z + 1) < x.kids.length - z; omega) ⟨rfl, rfl, rfl, rfl, rfl, rfl, rfl, rfl, rfl, rfl, trivial⟩ (fun w hw => ⟨⟨hF4, by show z + 1 ≤ _; omega, hh9, hm4, le3.trans le4⟩, Hp.re (hw.sub (H' := fp ++ ((mb, mobj l4 ck4) :: ((b14, .cells #[.int .i64 (x.kind : Int), .int .u64 (x.txn : Int), .int .i64 (x.next : Int), .slice a4 x.items.length c4, .slice a5 x.kids.length c5, .slice a6 x.data.length c6, .slice a7 x.ids.length c7] 125 (0, 0)) :: (gi ++ (gk ++ Hr))))) zSub) zRe⟩)
         ·try simp only [sq] at h123
          refine sS rfl (sS rfl (sS rfl (sS rfl (sS rfl (sU rfl (sU rfl (sN (sP rfl (sK (sD ?_))))))))))
          have hout : ¬ Out from' to ki.key := by
           rintro (h | ⟨t9, ht9, h⟩)
           ·exact absurd h (Int.not_lt.2 h120)
           ·first
             | (rw [htk] at ht9
                injection ht9 with ht9
                subst ht9
                exact h h130)
             | (have := htn.2 ⟨t9, ht9⟩; simp_all)
          rw [if_neg hout] at hF
          refine sM rfl ?_
          refine L.w rfl (V.fa rfl underlying129 rfl rfl sizeOf3) ?_
          refine L.w rfl (V.load rfl isAgg3 zAt (by rfl)) ?_
          refine sM rfl ?_
          refine L.w rfl (V.add (c := ((depth + 1 : Nat) : Int)) rfl rfl (by rw [w64 (by omega) (by omega)]; omega)) ?_
          refine L.w rfl (V.fa rfl underlying129 rfl rfl sizeOf22) ?_
          refine L.w rfl (V.load rfl isAgg22 zAt (by rfl)) ?_
          refine sM rfl (sM rfl ?_)
          obtain ⟨f, rfl⟩ : ∃ g, f = g + 1 := ⟨f - 1, by omega⟩
          refine L.call rfl rfl rfl call62 rfl (fun w hw => ih f (Nat.lt_succ_self f) (Hr := (b25, .cells #[.slice ka ki.key.length kc, .int .i64 (kp : Int)] 129 (0, 0)) :: (b14, .cells #[.int .i64 (x.kind : Int), .int .u64 (x.txn : Int), .int .i64 (x.next : Int), .slice a4 x.items.length c4, .slice a5 x.kids.length c5, .slice a6 x.data.length c6, .slice a7 x.ids.length c7] 125 (0, 0)) :: (gi ++ (gk ++ Hr))) (kp : Int) (depth + 1) (by omega) hd3 (g4.lift _) (hT26 _ (fun q hq => by simp [hq])) hm3 (hw.re zRe)) ?_
          rintro _ a w hst ⟨S4, l4, ck4, h9, err9, rfl, le4, hm4, hres, hh9, hw⟩
          refine hst.go rfl hw ?_
          clear hst hw w a
          obtain ⟨r9, hr9⟩ : ∃ r, lookF s (f + 1) (depth + 1) (kp : Int) ki.key nt seen3 = r := ⟨_, rfl⟩
          rw [hr9] at hm4 hres hF
          obtain ⟨seen4, r9⟩ := r9
          dsimp only at hm4 hres hF
          refine sM rfl (sX rfl (sX rfl (sA rfl (sA rfl (sN (sC (sD (sM rfl (sQb rfl (sN ?_))))))))))
          refine C.cond rfl (fun h145 => ?_) (fun h145 => ?_)
          ·try simp only [sq] at h145
           refine sD (sM rfl (sA rfl (sA rfl (sN ?_))))
           refine R.ret2 results62 rfl rfl (fun w hw => ?_)
           have h145 : err9 ≠ 0 := h145
           have h1 : r9 = .error err9 := by
            rcases hres with ⟨_, h⟩ | ⟨h, _⟩
            ·exact absurd h h145
            ·exact h
           rw [h1] at hF
           rw [hF] at hRZK
           have hRZ2 : RZ = (seen4, .error err9) := by rw [← hRZK]; rfl
           rw [hRZ2]
           exact ⟨S4, l4, ck4, 0, err9, rfl, le1.trans (le2.trans (le3.trans le4)), hm4, .inr ⟨rfl, h145⟩, Nat.zero_le _, hw.sub zSub⟩
          ·try simp only [sq] at h145
           have h145 : err9 = 0 := h145
           have h1 : r9 = .ok h9 := by
            rcases hres with ⟨h, _⟩ | ⟨_, h⟩
            ·exact h
            ·exact absurd h145 h
           rw [h1] at hF
           dsimp only at hF
           refine sK (sC (sD (sM rfl (sQe rfl (sM rfl ?_)))))
           refine L.fork (d := 149) rfl (fun h149 => ?_) (fun h149 => ?_)
           ·try simp only [sq] at h149
            refine sM rfl (sM rfl (sQb rfl (sT rfl (sN ?_))))
            refine C.cond rfl (fun h153 => ?_) (fun h153 => ?_)
            ·try simp only [sq] at h153
             refine sD (sA rfl (sA rfl (sN ?_)))
             refine R.ret2 results62 rfl rfl (fun w hw => ?_)
             rw [if_pos ⟨decide_eq_false (by omega), by omega⟩] at hF
             rw [hF] at hRZK
             have hRZ2 : RZ = (seen4, .error 4) := by rw [← hRZK]; rfl
             rw [hRZ2]
             exact ⟨S4, l4, ck4, 0, 4, rfl, le1.trans (le2.trans (le3.trans le4)), hm4, .inr ⟨rfl, by decide⟩, Nat.zero_le _, hw.sub zSub⟩
            ·try simp only [sq] at h153
             refine sK (sR ?_)
             have hF4 : RK = lookKids (lookF s (f + 1) (depth + 1)) from' to (x.kids.drop (z + 1)) (decide (z + 1 = 0)) h9 seen4 := by
              rw [hF, if_neg (by
               rintro ⟨h1, h2⟩
               have : ¬ z = 0 := of_decide_eq_false h1
               omega), decide_eq_false (Nat.succ_ne_zero z)]
             refine sM rfl (sA rfl ?_)
             refine L.nil (N.blk (N.seq ?_))
             refine sR ?_
             refine L.w rfl (V.add (c := ((z + 1 : Nat) : Int)) rfl rfl (by rw [w64 (by omega) (by omega)]; omega)) ?_
             refine sM rfl ?_
             refine L.nil ?_
             refine N.round (z + 1, h9, seen4, l4, ck4, S4) (by show x.kids.length - (z + 1) < x.kids.length - z; omega) ⟨rfl, rfl, rfl, rfl, rfl, rfl, rfl, rfl, rfl, rfl, trivial⟩ (fun w hw => ⟨⟨hF4, by show z + 1 ≤ _; omega, hh9, hm4, le3.trans le4⟩, Hp.re (hw.sub (H' := fp ++ ((mb, mobj l4 ck4) :: ((b14, .cells #[.int .i64 (x.kind : Int), .int .u64 (x.txn : Int), .int .i64 (x.next : Int), .slice a4 x.items.length c4, .slice a5 x.kids.length c5, .slice a6 x.data.length c6, .slice a7 x.ids.length c7] 125 (0, 0)) :: (gi ++ (gk ++ Hr))))) zSub) zRe⟩)
           ·try simp only [sq] at h149
            refine sS rfl (sS rfl (sS rfl (sU rfl (sN (sP rfl (sK (sR ?_)))))))
            have hF4 : RK = lookKids (lookF s (f + 1) (depth + 1)) from' to (x.kids.drop (z + 1)) (decide (z + 1 = 0)) h9 seen4 := by
             rw [hF, if_neg (by
              rintro ⟨h1, h2⟩
              have : ¬ z = 0 := of_decide_eq_false h1
              omega), decide_eq_false (Nat.succ_ne_zero z)]
            refine sM rfl (sA rfl ?_)
            refine L.nil (N.blk (N.seq ?_))
            refine sR ?_
            refine L.w rfl (V.add (c := ((z + 1 : Nat) : Int)) rfl rfl (by rw [w64 (by omega) (by omega)]; omega)) ?_
            refine sM rfl ?_
            refine L.nil ?_
            refine N.round (z + 1, h9, seen4, l4, ck4, S4) (by show x.kids.length - (z + 1) < x.kids.length - z; omega) ⟨rfl, rfl, rfl, rfl, rfl, rfl, rfl, rfl, rfl, rfl, trivial⟩ (fun w hw => ⟨⟨hF4, by show z + 1 ≤ _; omega, hh9, hm4, le3.trans le4⟩, Hp.re (hw.sub (H' := fp ++ ((mb, mobj l4 ck4) :: ((b14, .cells #[.int .i64 (x.kind : Int), .int .u64 (x.txn : Int), .int .i64 (x.next : Int), .slice a4 x.items.length c4, .slice a5 x.kids.length c5, .slice a6 x.data.length c6, .slice a7 x.ids.length c7] 125 (0, 0)) :: (gi ++ (gk ++ Hr))))) zSub) zRe⟩)
       ·try simp only [sq] at h107
        have hnt2 : nt = to := by rw [← hnt, if_pos (List.drop_eq_nil_of_le (by omega))]
        have hT26 : ∀ H : Heap, (∀ q, q ∈ Hr → q ∈ H) → ToV S3 H (.slice ta tm tc) nt := fun H hh => by rw [hnt2]; exact hto3.mono (Sees.of (.refl _) hh)
        refine sK (sC (sD ?_))
        refine L.w rfl (V.fa rfl underlying129 rfl rfl sizeOf22) ?_
        refine L.w rfl (V.load rfl isAgg22 zAt (by rfl)) ?_
        refine sM rfl ?_
        refine L.call rfl rfl rfl call116 rfl (fun w hw => compare_ok (g4.lift _) (hfr3.mono (Sees.of (.refl _) (fun q hq => by simp [hq]))) hw) ?_
        rintro _ a w hst ⟨rfl, hw⟩
        refine hst.go rfl hw ?_
        clear hst hw w a
        refine sQc rfl (sM rfl ?_)
        refine L.fork (d := 120) rfl (fun h120 => ?_) (fun h120 => ?_)
        ·try simp only [sq] at h120
         refine sS rfl (sS rfl (sS rfl (sS rfl (sS rfl (sS rfl (sS rfl (sS rfl (sS rfl (sT rfl (sN (sO rfl (sD (sA rfl ?_)))))))))))))
         refine sA rfl (sN ?_)
         refine R.ret2 results62 rfl rfl (fun w hw => ?_)
         have hout : Out from' to ki.key := by
          first
           | exact .inl h120
           | exact .inr ⟨tk, htk, Int.not_lt.2 h130⟩
         rw [if_pos hout] at hF
         rw [hF] at hRZK
         have hRZ2 : RZ = (seen3, .error 4) := by rw [← hRZK]; rfl
         rw [hRZ2]
         exact ⟨S3, l3, ck3, 0, 4, rfl, le1.trans (le2.trans le3), hm3, .inr ⟨rfl, by decide⟩, Nat.zero_le _, hw.sub zSub⟩
        ·try simp only [sq] at h120
         refine sM rfl ?_
         refine L.w rfl (V.neqNil rfl rfl underlying22) ?_
         refine sM rfl ?_
         refine L.fork (d := 123) rfl (fun h123 => ?_) (fun h123 => ?_)
         ·try simp only [sq] at h123
          obtain ⟨tk, htk⟩ := htn.1 h123
          have htb : Bs S3 Hr (.slice ta tm tc) tk := by rw [htk] at hto3; exact hto3.bs
          refine L.w rfl (V.fa rfl underlying129 rfl rfl sizeOf22) ?_
          refine L.w rfl (V.load rfl isAgg22 zAt (by rfl)) ?_
          refine sM rfl ?_
          refine L.call rfl rfl rfl call116 rfl (fun w hw => compare_ok (g4.lift _) (htb.mono (Sees.of (.refl _) (fun q hq => by simp [hq]))) hw) ?_
          rintro _ a w hst ⟨rfl, hw⟩
          refine hst.go rfl hw ?_
          clear hst hw w a
          refine sQf rfl (sT rfl (sU rfl (sN ?_)))
          refine C.cond rfl (fun h130 => ?_) (fun h130 => ?_)
          ·try simp only [sq] at h130
           refine sD (sA rfl (sA rfl (sN ?_)))
           refine R.ret2 results62 rfl rfl (fun w hw => ?_)
           have hout : Out from' to ki.key := by
            first
             | exact .inl h120
             | exact .inr ⟨tk, htk, Int.not_lt.2 h130⟩
           rw [if_pos hout] at hF
           rw [hF] at hRZK
           have hRZ2 : RZ = (seen3, .error 4) := by rw [← hRZK]; rfl
           rw [hRZ2]
           exact ⟨S3, l3, ck3, 0, 4, rfl, le1.trans (le2.trans le3), hm3, .inr ⟨rfl, by decide⟩, Nat.zero_le _, hw.sub zSub⟩
          ·try simp only [sq] at h130
           refine sK (sD ?_)
           have hout : ¬ Out from' to ki.key := by
            rintro (h | ⟨t9, ht9, h⟩)
            ·exact absurd h (Int.not_lt.2 h120)
            ·first
              | (rw [htk] at ht9
                 injection ht9 with ht9
                 subst ht9
                 exact h h130)
              | (have := htn.2 ⟨t9, ht9⟩; simp_all)
           rw [if_neg hout] at hF
           refine sM rfl ?_
           refine L.w rfl (V.fa rfl underlying129 rfl rfl sizeOf3) ?_
           refine L.w rfl (V.load rfl isAgg3 zAt (by rfl)) ?_
           refine sM rfl ?_
           refine L.w rfl (V.add (c := ((depth + 1 : Nat) : Int)) rfl rfl (by rw [w64 (by omega) (by omega)]; omega)) ?_
           refine L.w rfl (V.fa rfl underlying129 rfl rfl sizeOf22) ?_
           refine L.w rfl (V.load rfl isAgg22 zAt (by rfl)) ?_
           refine sM rfl (sM rfl ?_)
           obtain ⟨f, rfl⟩ : ∃ g, f = g + 1 := ⟨f - 1, by omega⟩
           refine L.call rfl rfl rfl call62 rfl (fun w hw => ih f (Nat.lt_succ_self f) (Hr := (b25, .cells #[.slice ka ki.key.length kc, .int .i64 (kp : Int)] 129 (0, 0)) :: (b14, .cells #[.int .i64 (x.kind : Int), .int .u64 (x.txn : Int), .int .i64 (x.next : Int), .slice a4 x.items.length c4, .slice a5 x.kids.length c5, .slice a6 x.data.length c6, .slice a7 x.ids.length c7] 125 (0, 0)) :: (gi ++ (gk ++ Hr))) (kp : Int) (depth + 1) (by omega) hd3 (g4.lift _) (hT26 _ (fun q hq => by simp [hq])) hm3 (hw.re zRe)) ?_
           rintro _ a w hst ⟨S4, l4, ck4, h9, err9, rfl, le4, hm4, hres, hh9, hw⟩
           refine hst.go rfl hw ?_
           clear hst hw w a
           obtain ⟨r9, hr9⟩ : ∃ r, lookF s (f + 1) (depth + 1) (kp : Int) ki.key nt seen3 = r := ⟨_, rfl⟩
           rw [hr9] at hm4 hres hF
           obtain ⟨seen4, r9⟩ := r9
           dsimp only at hm4 hres hF
           refine sM rfl (sX rfl (sX rfl (sA rfl (sA rfl (sN (sC (sD (sM rfl (sQb rfl (sN ?_))))))))))
           refine C.cond rfl (fun h145 => ?_) (fun h145 => ?_)
           ·try simp only [sq] at h145
            refine sD (sM rfl (sA rfl (sA rfl (sN ?_))))
            refine R.ret2 results62 rfl rfl (fun w hw => ?_)
            have h145 : err9 ≠ 0 := h145
            have h1 : r9 = .error err9 := by
             rcases hres with ⟨_, h⟩ | ⟨h, _⟩
             ·exact absurd h h145
             ·exact h
            rw [h1] at hF
            rw [hF] at hRZK
            have hRZ2 : RZ = (seen4, .error err9) := by rw [← hRZK]; rfl
            rw [hRZ2]
            exact ⟨S4, l4, ck4, 0, err9, rfl, le1.trans (le2.trans (le3.trans le4)), hm4, .inr ⟨rfl, h145⟩, Nat.zero_le _, hw.sub zSub⟩
           ·try simp only [sq] at h145
            have h145 : err9 = 0 := h145
            have h1 : r9 = .ok h9 := by
             rcases hres with ⟨h, _⟩ | ⟨_, h⟩
             ·exact h
             ·exact absurd h145 h
            rw [h1] at hF
            dsimp only at hF
            refine sK (sC (sD (sM rfl (sQe rfl (sM rfl ?_)))))
            refine L.fork (d := 149) rfl (fun h149 => ?_) (fun h149 => ?_)
            ·try simp only [sq] at h149
             refine sM rfl (sM rfl (sQb rfl (sT rfl (sN ?_))))
             refine C.cond rfl (fun h153 => ?_) (fun h153 => ?_)
             ·try simp only [sq] at h153
              refine sD (sA rfl (sA rfl (sN ?_)))
              refine R.ret2 results62 rfl rfl (fun w hw => ?_)
              rw [if_pos ⟨decide_eq_false (by omega), by omega⟩] at hF
              rw [hF] at hRZK
              have hRZ2 : RZ = (seen4, .error 4) := by rw [← hRZK]; rfl
              rw [hRZ2]
              exact ⟨S4, l4, ck4, 0, 4, rfl, le1.trans (le2.trans (le3.trans le4)), hm4, .inr ⟨rfl, by decide⟩, Nat.zero_le _, hw.sub zSub⟩
             ·try simp only [sq] at h153
              refine sK (sR ?_)
              have hF4 : RK = lookKids (lookF s (f + 1) (depth + 1)) from' to (x.kids.drop (z + 1)) (decide (z + 1 = 0)) h9 seen4 := by
               rw [hF, if_neg (by
                rintro ⟨h1, h2⟩
                have : ¬ z = 0 := of_decide_eq_false h1
                omega), decide_eq_false (Nat.succ_ne_zero z)]
              refine sM rfl (sA rfl ?_)
              refine L.nil (N.blk (N.seq ?_))
              refine sR ?_
              refine L.w rfl (V.add (c := ((z + 1 : Nat) : Int)) rfl rfl (by rw [w64 (by omega) (by omega)]; omega)) ?_
              refine sM rfl ?_
              refine L.nil ?_
              refine N.round (z + 1, h9, seen4, l4, ck4, S4) (by show x.kids.length - (z + 1) < x.kids.length - z; omega) ⟨rfl, rfl, rfl, rfl, rfl, rfl, rfl, rfl, rfl, rfl, trivial⟩ (fun w hw => ⟨⟨hF4, by show z + 1 ≤ _; omega, hh9, hm4, le3.trans le4⟩, Hp.re (hw.sub (H' := fp ++ ((mb, mobj l4 ck4) :: ((b14, .cells #[.int .i64 (x.kind : Int), .int .u64 (x.txn : Int), .int .i64 (x.next : Int), .slice a4 x.items.length c4, .slice a5 x.kids.length c5, .slice a6 x.data.length c6, .slice a7 x.ids.length c7] 125 (0, 0)) :: (gi ++ (gk ++ Hr))))) zSub) zRe⟩)
            ·try simp only [sq] at h149
             refine sS rfl (sS rfl (sS rfl (sU rfl (sN (sP rfl (sK (sR ?_)))))))
             have hF4 : RK = lookKids (lookF s (f + 1) (depth + 1)) from' to (x.kids.drop (z + 1)) (decide (z + 1 = 0)) h9 seen4 := by
              rw [hF, if_neg (by
               rintro ⟨h1, h2⟩
               have : ¬ z = 0 := of_decide_eq_false h1
               omega), decide_eq_false (Nat.succ_ne_zero z)]
             refine sM rfl (sA rfl ?_)
             refine L.nil (N.blk (N.seq ?_))
             refine sR ?_
             refine L.w rfl (V.add (c := ((z + 1 : Nat) : Int)) rfl rfl (by rw [w64 (by omega) (by omega)]; omega)) ?_
             refine sM rfl ?_
             refine L.nil ?_
             refine N.round (z + 1, h9, seen4, l4, ck4, S4) (by show x.kids.length - (z + 1) < x.kids.length - z; omega) ⟨rfl, rfl, rfl, rfl, rfl, rfl, rfl, rfl, rfl, rfl, trivial⟩ (fun w hw => ⟨⟨hF4, by show z + 1 ≤ _; omega, hh9, hm4, le3.trans le4⟩, Hp.re (hw.sub (H' := fp ++ ((mb, mobj l4 ck4) :: ((b14, .cells #[.int .i64 (x.kind : Int), .int .u64 (x.txn : Int), .int .i64 (x.next : Int), .slice a4 x.items.length c4, .slice a5 x.kids.length c5, .slice a6 x.data.length c6, .slice a7 x.ids.length c7] 125 (0, 0)) :: (gi ++ (gk ++ Hr))))) zSub) zRe⟩)
         ·try simp only [sq] at h123
          refine sS rfl (sS rfl (sS rfl (sS rfl (sS rfl (sU rfl (sU rfl (sN (sP rfl (sK (sD ?_))))))))))
          have hout : ¬ Out from' to ki.key := by
           rintro (h | ⟨t9, ht9, h⟩)
           ·exact absurd h (Int.not_lt.2 h120)
           ·first
             | (rw [htk] at ht9
                injection ht9 with ht9
                subst ht9
                exact h h130)
             | (have := htn.2 ⟨t9, ht9⟩; simp_all)
          rw [if_neg hout] at hF
          refine sM rfl ?_
          refine L.w rfl (V.fa rfl underlying129 rfl rfl sizeOf3) ?_
          refine L.w rfl (V.load rfl isAgg3 zAt (by rfl)) ?_
          refine sM rfl ?_
          refine L.w rfl (V.add (c := ((depth + 1 : Nat) : Int)) rfl rfl (by rw [w64 (by omega) (by omega)]; omega)) ?_
          refine L.w rfl (V.fa rfl underlying129 rfl rfl sizeOf22) ?_
          refine L.w rfl (V.load rfl isAgg22 zAt (by rfl)) ?_
          refine sM rfl (sM rfl ?_)
          obtain ⟨f, rfl⟩ : ∃ g, f = g + 1 := ⟨f - 1, by omega⟩
          refine L.call rfl rfl rfl call62 rfl (fun w hw => ih f (Nat.lt_succ_self f) (Hr := (b25, .cells #[.slice ka ki.key.length kc, .int .i64 (kp : Int)] 129 (0, 0)) :: (b14, .cells #[.int .i64 (x.kind : Int), .int .u64 (x.txn : Int), .int .i64 (x.next : Int), .slice a4 x.items.length c4, .slice a5 x.kids.length c5, .slice a6 x.data.length c6, .slice a7 x.ids.length c7] 125 (0, 0)) :: (gi ++ (gk ++ Hr))) (kp : Int) (depth + 1) (by omega) hd3 (g4.lift _) (hT26 _ (fun q hq => by simp [hq])) hm3 (hw.re zRe)) ?_
          rintro _ a w hst ⟨S4, l4, ck4, h9, err9, rfl, le4, hm4, hres, hh9, hw⟩
          refine hst.go rfl hw ?_
          clear hst hw w a
          obtain ⟨r9, hr9⟩ : ∃ r, lookF s (f + 1) (depth + 1) (kp : Int) ki.key nt seen3 = r := ⟨_, rfl⟩
          rw [hr9] at hm4 hres hF
          obtain ⟨seen4, r9⟩ := r9
          dsimp only at hm4 hres hF
          refine sM rfl (sX rfl (sX rfl (sA rfl (sA rfl (sN (sC (sD (sM rfl (sQb rfl (sN ?_))))))))))
          refine C.cond rfl (fun h145 => ?_) (fun h145 => ?_)
          ·try simp only [sq] at h145
           refine sD (sM rfl (sA rfl (sA rfl (sN ?_))))
           refine R.ret2 results62 rfl rfl (fun w hw => ?_)
           have h145 : err9 ≠ 0 := h145
           have h1 : r9 = .error err9 := by
            rcases hres with ⟨_, h⟩ | ⟨h, _⟩
            ·exact absurd h h145
            ·exact h
           rw [h1] at hF
           rw [hF] at hRZK
           have hRZ2 : RZ = (seen4, .error err9) := by rw [← hRZK]; rfl
           rw [hRZ2]
           exact ⟨S4, l4, ck4, 0, err9, rfl, le1.trans (le2.trans (le3.trans le4)), hm4, .inr ⟨rfl, h145⟩, Nat.zero_le _, hw.sub zSub⟩
          ·try simp only [sq] at h145
           have h145 : err9 = 0 := h145
           have h1 : r9 = .ok h9 := by
            rcases hres with ⟨h, _⟩ | ⟨_, h⟩
            ·exact h
            ·exact absurd h145 h
           rw [h1] at hF
           dsimp only at hF
           refine sK (sC (sD (sM rfl (sQe rfl (sM rfl ?_)))))
           refine L.fork (d := 149) rfl (fun h149 => ?_) (fun h149 => ?_)
           ·try simp only [sq] at h149
            refine sM rfl (sM rfl (sQb rfl (sT rfl (sN ?_))))
            refine C.cond rfl (fun h153 => ?_) (fun h153 => ?_)
            ·try simp only [sq] at h153
             refine sD (sA rfl (sA rfl (sN ?_)))
             refine R.ret2 results62 rfl rfl (fun w hw => ?_)
             rw [if_pos ⟨decide_eq_false (by omega), by omega⟩] at hF
             rw [hF] at hRZK
             have hRZ2 : RZ = (seen4, .error 4) := by rw [← hRZK]; rfl
             rw [hRZ2]
             exact ⟨S4, l4, ck4, 0, 4, rfl, le1.trans (le2.trans (le3.trans le4)), hm4, .inr ⟨rfl, by decide⟩, Nat.zero_le _, hw.sub zSub⟩
            ·try simp only [sq] at h153
             refine sK (sR ?_)
             have hF4 : RK = lookKids (lookF s (f + 1) (depth + 1)) from' to (x.kids.drop (z + 1)) (decide (z + 1 = 0)) h9 seen4 := by
              rw [hF, if_neg (by
               rintro ⟨h1, h2⟩
               have : ¬ z = 0 := of_decide_eq_false h1
               omega), decide_eq_false (Nat.succ_ne_zero z)]
             refine sM rfl (sA rfl ?_)
             refine L.nil (N.blk (N.seq ?_))
             refine sR ?_
             refine L.w rfl (V.add (c := ((z + 1 : Nat) : Int)) rfl rfl (by rw [w64 (by omega) (by omega)]; omega)) ?_
             refine sM rfl ?_
             refine L.nil ?_
             refine N.round (z + 1, h9, seen4, l4, ck4, S4) (by show x.kids.length - (z + 1) < x.kids.length - z; omega) ⟨rfl, rfl, rfl, rfl, rfl, rfl, rfl, rfl, rfl, rfl, trivial⟩ (fun w hw => ⟨⟨hF4, by show z + 1 ≤ _; omega, hh9, hm4, le3.trans le4⟩, Hp.re (hw.sub (H' := fp ++ ((mb, mobj l4 ck4) :: ((b14, .cells #[.int .i64 (x.kind : Int), .int .u64 (x.txn : Int), .int .i64 (x.next : Int), .slice a4 x.items.length c4, .slice a5 x.kids.length c5, .slice a6 x.data.length c6, .slice a7 x.ids.length c7] 125 (0, 0)) :: (gi ++ (gk ++ Hr))))) zSub) zRe⟩)
           ·try simp only [sq] at h149
            refine sS rfl (sS rfl (sS rfl (sU rfl (sN (sP rfl (sK (sR ?_)))))))
            have hF4 : RK = lookKids (lookF s (f + 1) (depth + 1)) from' to (x.kids.drop (z + 1)) (decide (z + 1 = 0)) h9 seen4 := by
             rw [hF, if_neg (by
              rintro ⟨h1, h2⟩
              have : ¬ z = 0 := of_decide_eq_false h1
              omega), decide_eq_false (Nat.succ_ne_zero z)]
            refine sM rfl (sA rfl ?_)
            refine L.nil (N.blk (N.seq ?_))
            refine sR ?_
            refine L.w rfl (V.add (c := ((z + 1 : Nat) : Int)) rfl rfl (by rw [w64 (by omega) (by omega)]; omega)) ?_
            refine sM rfl ?_
            refine L.nil ?_
            refine N.round (z + 1, h9, seen4, l4, ck4, S4) (by show x.kids.length - (z + 1) < x.kids.length - z; omega) ⟨rfl, rfl, rfl, rfl, rfl, rfl, rfl, rfl, rfl, rfl, trivial⟩ (fun w hw => ⟨⟨hF4, by show z + 1 ≤ _; omega, hh9, hm4, le3.trans le4⟩, Hp.re (hw.sub (H' := fp ++ ((mb, mobj l4 ck4) :: ((b14, .cells #[.int .i64 (x.kind : Int), .int .u64 (x.txn : Int), .int .i64 (x.next : Int), .slice a4 x.items.length c4, .slice a5 x.kids.length c5, .slice a6 x.data.length c6, .slice a7 x.ids.length c7] 125 (0, 0)) :: (gi ++ (gk ++ Hr))))) zSub) zRe⟩)
      ·try simp only [sq] at h97
       have ez : z = x.kids.length := by omega
       subst ez
       rw [List.drop_length, lookKids] at hF
       have hRZ2 : RZ = (seen3, .ok (high + 1)) := by rw [← hRZK, hF]; rfl
       refine sZ rfl (sD (sM rfl ?_))
       refine L.w rfl (V.add (c := ((high + 1 : Nat) : Int)) rfl rfl (by rw [w64 (by omega) (by omega)]; omega)) ?_
       refine sA rfl (sA rfl (sN ?_))
       refine R.ret2 results62 rfl rfl (fun w hw => ?_)
       rw [hRZ2]
       exact ⟨S3, l3, ck3, high + 1, 0, rfl, le1.trans (le2.trans le3), hm3, .inl ⟨rfl, rfl⟩, by omega, Hp.re (hw.sub (H' := (fp ++ ((mb, mobj l3 ck3) :: Hr))) zSub) (fun f => rfl)⟩
end
end Go.Proofs.YtijgbppkdaiikaaGreat

set_option linter.unusedSimpArgs false
set_option linter.unusedVariables false
namespace Go.Proofs.YtijgbppkdaiikaaGreat
open Go.Proofs.Tryz Go.Tk

theorem Pr.page_in {s : Pr} {id : Int} {p : Page} (h : s.page id = some p) : s.dead = false ∧ 2 ≤ id ∧ id < (s.m.size : Int) := by
 unfold Pr.page pgP at h
 split at h
 ·cases h
 ·rename_i hc
  unfold pgChk at hc
  cases hd : s.dead with
  | true => rw [hd] at hc; simp at hc
  | false =>
    rw [hd] at hc
    simp only [Bool.false_eq_true, if_false] at hc
    split at hc
    ·simp at hc
    ·rename_i h2; exact ⟨rfl, by omega, by omega⟩
theorem blobF_ids {s : Pr} {size : Nat} : ∀ {f i : Nat} {out : List UInt8} {ids : List Nat} {r : List UInt8 × List Nat}, blobF s size f i out ids = .ok r → (∀ j ∈ ids, ∃ p, s.page (j : Int) = some p) → ∀ j ∈ r.2, ∃ p, s.page (j : Int) = some p
 | 0, _, _, _, _, h, _ => by cases h
 | f + 1, i, out, ids, r, h, hi => by
   rw [blobF] at h
   split at h
   ·cases hp : s.page (i : Int) with
    | none => rw [hp] at h; cases h
    | some y =>
      rw [hp] at h
      dsimp only at h
      split at h
      ·cases h
      ·split at h
       ·cases h
       ·exact blobF_ids h (fun j hj => (List.mem_append.1 hj).elim (hi j) (fun hj => by rw [List.mem_singleton.1 hj]; exact ⟨y, hp⟩))
   ·split at h
    ·cases h
    ·injection h with h; subst h; exact hi
theorem Pr.blob_ids {s : Pr} {x : Item} {r : List UInt8 × List Nat} (h : s.blob x = .ok r) : ∀ j ∈ r.2, ∃ p, s.page (j : Int) = some p := blobF_ids h (fun j hj => by cases hj)

/-- More numbers, each once, and none beyond reason. -/
def Seen (seen seen' : List Int) : Prop := (seen.Nodup → seen'.Nodup) ∧ ∀ i ∈ seen', i ∈ seen ∨ (0 ≤ i ∧ i < 1024)
theorem Seen.refl (l : List Int) : Seen l l := ⟨id, fun i h => .inl h⟩
theorem Seen.trans {a b c : List Int} (h : Seen a b) (h' : Seen b c) : Seen a c := ⟨fun n => h'.1 (h.1 n), fun i hi => (h'.2 i hi).elim (h.2 i) .inr⟩
theorem nodup_snoc {l : List Int} {i : Int} (h : l.Nodup) (hi : i ∉ l) : (l ++ [i]).Nodup := by
 rw [List.nodup_append]
 refine ⟨h, by simp, fun a ha b hb => ?_⟩
 rw [List.mem_singleton.1 hb]; rintro rfl; exact hi ha
theorem Seen.snoc {l : List Int} {i : Int} (hi : i ∉ l) (h0 : 0 ≤ i) (h1 : i < 1024) : Seen l (l ++ [i]) :=
 ⟨fun n => nodup_snoc n hi, fun j hj => (List.mem_append.1 hj).elim .inl (fun h => .inr (by rw [List.mem_singleton.1 h]; exact ⟨h0, h1⟩))⟩
theorem seeAll_seen : ∀ (ids : List Nat) (seen : List Int), (∀ i ∈ ids, i < 1024) → Seen seen (seeAll seen ids).1
 | [], seen, _ => Seen.refl _
 | i :: r, seen, h => by
   unfold seeAll
   split
   ·exact Seen.refl _
   ·rename_i hn
    exact (Seen.snoc hn (by omega) (by have := h i (List.mem_cons_self ..); omega)).trans (seeAll_seen r _ (fun j hj => h j (List.mem_cons_of_mem _ hj)))
theorem lookItems_seen {s : Pr} (hs : s.m.size ≤ 1024) {from' : List UInt8} {to : Option (List UInt8)} : ∀ (l : List Item) (seen : List Int), Seen seen (lookItems s from' to l seen).1
 | [], seen => Seen.refl _
 | y :: r, seen => by
   unfold lookItems
   split
   ·exact Seen.refl _
   ·split
    ·exact lookItems_seen hs r seen
    ·cases hb : s.blob y with
     | error e => exact Seen.refl _
     | ok q =>
       have h1 := seeAll_seen q.2 seen (fun i hi => by obtain ⟨p, hp⟩ := Pr.blob_ids hb i hi; have := Pr.page_in hp; omega)
       dsimp only
       split
       ·exact h1.trans (lookItems_seen hs r _)
       ·exact h1
theorem lookKids_seen {rec : Int → List UInt8 → Option (List UInt8) → List Int → List Int × Except Int Nat} (hrec : ∀ id fr t seen, 0 ≤ id → id < 1024 → Seen seen (rec id fr t seen).1) {from' : List UInt8} {to : Option (List UInt8)} :
 ∀ (l : List Kid) (b : Bool) (high : Nat) (seen : List Int), (∀ x ∈ l, x.page < 1024) → Seen seen (lookKids rec from' to l b high seen).1
 | [], b, high, seen, _ => Seen.refl _
 | y :: r, b, high, seen, h => by
   have hy := h y (List.mem_cons_self ..)
   unfold lookKids
   split
   ·exact Seen.refl _
   ·have h1 := hrec (y.page : Int) y.key (if r = [] then to else some ((r.head?.map (·.key)).getD [])) seen (by omega) (by omega)
    split
    ·exact h1
    ·split
     ·exact h1
     ·exact h1.trans (lookKids_seen hrec r false _ _ (fun x hx => h x (List.mem_cons_of_mem _ hx)))
theorem lookEnd_fst (q : List Int × Except Int Nat) : (lookEnd q).1 = q.1 := by
 obtain ⟨a, b⟩ := q
 cases b <;> rfl
theorem lookF_seen {s : Pr} (hok : PrOk s) : ∀ (f depth : Nat) (id : Int) (from' : List UInt8) (to : Option (List UInt8)) (seen : List Int), (seen.Nodup → (lookF s f depth id from' to seen).1.Nodup) ∧ ∀ i ∈ (lookF s f depth id from' to seen).1, i ∈ seen ∨ i = id ∨ (0 ≤ i ∧ i < 1024)
 | 0, depth, id, from', to, seen => ⟨fun h => h, fun i hi => .inl hi⟩
 | f + 1, depth, id, from', to, seen => by
   unfold lookF
   split
   ·exact ⟨fun h => h, fun i hi => .inl hi⟩
   ·rename_i hn
    have base : ∀ l, Seen (seen ++ [id]) l → (seen.Nodup → l.Nodup) ∧ ∀ i ∈ l, i ∈ seen ∨ i = id ∨ (0 ≤ i ∧ i < 1024) := fun l hl => ⟨fun h => hl.1 (nodup_snoc h hn), fun i hi => (hl.2 i hi).elim (fun h => (List.mem_append.1 h).elim .inl (fun h => .inr (.inl (List.mem_singleton.1 h)))) (fun h => .inr (.inr h))⟩
    cases hnd : s.node id depth with
    | error e => exact base _ (Seen.refl _)
    | ok x =>
      have h1 := lookItems_seen (s := s) hok.s1 (from' := from') (to := to) x.items (seen ++ [id])
      have hxR := Pr.page_right hok (Pr.node_some hnd).1
      dsimp only
      split
      ·exact base _ h1
      ·rw [lookEnd_fst]
       refine base _ (h1.trans (lookKids_seen (fun id' fr t seen' h0 h1 => ?_) x.kids true 0 _ (fun y hy => (hxR.kids y hy).2.2)))
       obtain ⟨a, b⟩ := lookF_seen hok f (depth + 1) id' fr t seen'
       exact ⟨a, fun i hi => (b i hi).elim .inl (fun h => .inr (h.elim (fun e => by rw [e]; exact ⟨h0, h1⟩) (fun q => q)))⟩

theorem seen_len {l : List Int} (hn : l.Nodup) {r : Int} (h : ∀ i ∈ l, i = r ∨ (0 ≤ i ∧ i < 1024)) : l.length ≤ 1030 := by
 have h1 : (l.erase r).Nodup := hn.erase r
 have h2 : ((l.erase r).map (· + 2)).Nodup := List.pairwise_map.2 (h1.imp (fun hab he => hab (by omega)))
 have h3 := nodup_len h2 (n := 1026) (fun i hi => by
  obtain ⟨j, hj, rfl⟩ := List.mem_map.1 hi
  have hj2 := List.mem_of_mem_erase hj
  have hne : j ≠ r := fun e => by subst e; exact (List.Nodup.not_mem_erase hn) hj
  have := (h j hj2).resolve_left hne
  show 2 ≤ j + 2 ∧ j + 2 < ((1026 : Nat) : Int)
  omega)
 rw [List.length_map] at h3
 have h4 := List.length_erase (a := r) (l := l)
 split at h4 <;> omega

theorem nodup_sub_len : ∀ {l m : List Int}, l.Nodup → (∀ i ∈ l, i ∈ m) → l.length ≤ m.length
 | [], m, _, _ => Nat.zero_le _
 | x :: l, m, hn, h => by
   have hx := h x (List.mem_cons_self ..)
   rw [List.nodup_cons] at hn
   have := nodup_sub_len (m := m.erase x) hn.2 (fun i hi => (List.mem_erase_of_ne (fun e => hn.1 (by rw [← e]; exact hi))).2 (h i (List.mem_cons_of_mem _ hi)))
   have h2 := List.length_erase_of_mem hx
   have h3 := List.length_pos_of_mem hx
   rw [List.length_cons]; omega
theorem ekey_inj : ∀ {l : List Ent}, (l.map (·.key)).Nodup → ∀ {x e : Ent}, x ∈ l → e ∈ l → x.key = e.key → x = e
 | y :: l, hn, x, e, hx, he, h => by
   simp only [List.map_cons, List.nodup_cons] at hn
   rcases List.mem_cons.1 hx with hx | hx <;> rcases List.mem_cons.1 he with he | he
   ·rw [hx, he]
   ·exact absurd (by rw [← hx, h]; exact List.mem_map_of_mem he) hn.1
   ·exact absurd (by rw [← he, ← h]; exact List.mem_map_of_mem hx) hn.1
   ·exact ekey_inj hn.2 hx he h

/-- All pages of a tree. -/
noncomputable def Pr.pages (s : Pr) (root : Int) : Except Int (List Int) :=
 if root = 0 then .ok [] else match (lookF s 18 0 root [] none []).2 with
 | .error e => .error e
 | .ok _ => .ok (sortL (lookF s 18 0 root [] none []).1)

section
variable {w0 : World} {F : Nat → Prop} {S : Store} {Hr : Heap} {w : World}

theorem pagesT_ok {b db : Nat} {s : Pr} {fp : Heap} (hd : PgR S b db s fp) (root : Int) (hw : Hp w0 F S (fp ++ Hr) w) :
 Calls Tryz.prog 16 #[.pointer (some ⟨b, 0, none⟩), .int .i64 root] w fun e w' => ∃ S' v f err, e = .returned (.tuple #[v, .int .i64 err]) ∧ S.le S' ∧
  ((∃ l, s.pages root = .ok l ∧ err = 0 ∧ Own 3 1 v l.length (l.map iv) f ∧ l.length ≤ 1030) ∨ (s.pages root = .error err ∧ err ≠ 0 ∧ v = .slice none 0 0 ∧ f = [])) ∧ Hp w0 F S' (f ++ (fp ++ Hr)) w' := by
 obtain ⟨RZ, hRZ⟩ : ∃ R, s.pages root = R := ⟨_, rfl⟩
 rw [hRZ]
 unfold Pr.pages at hRZ
 refine enterA hw func16 rfl ntmps16 rfl rfl ?_
 refine sD (sA rfl (sA rfl (sE ?_)))
 refine L.makeMap rfl rfl (fun b11 => ?_)
 refine sA rfl (sN ?_)
 refine C.join (α := List Int × List Ent × Nat × Store) (fun z => [(6, .map (some b11))]) (fun z w => (RZ = .ok (sortL z.1) ∧ MapN z.2.1 z.2.2.1 z.1 ∧ S.le z.2.2.2 ∧ z.1.Nodup ∧ z.1.length ≤ 1030) ∧ Hp w0 F z.2.2.2 ((b11, mobj z.2.1 z.2.2.1) :: (fp ++ Hr)) w) ?_ (fun z => ?_)
 ·skip
  refine sD ?_
  have hm0 : MapN [] 0 [] := ⟨MapOk.nil 0, rfl, fun e he => by cases he⟩
  refine sM rfl (sQb rfl (sN ?_))
  refine C.cond rfl (fun h13 => ?_) (fun h13 => ?_)
  ·try simp only [sq] at h13
   refine sD (sM rfl (sM rfl (sM rfl ?_)))
   rw [if_neg h13] at hRZ
   refine L.call rfl rfl rfl call62 rfl (fun w hw => look_ok (mb := b11) 17 (from' := []) (to := none) (Hr := Hr) root 0 rfl hd (Rd.nil ..) rfl hm0 (hw.re zRe)) ?_
   rintro _ a w hst ⟨S1, l1, ck1, h9, err9, rfl, le1, hm1, hres, hh9, hw⟩
   refine hst.go rfl hw ?_
   clear hst hw w a
   have hse := lookF_seen hd.ok 18 0 root [] none []
   obtain ⟨r9, hr9⟩ : ∃ r, lookF s 18 0 root [] none [] = r := ⟨_, rfl⟩
   have hr9' : lookF s (17 + 1) 0 root [] none [] = r9 := hr9
   rw [hr9'] at hm1 hres
   rw [hr9] at hRZ hse
   obtain ⟨seen1, r9⟩ := r9
   dsimp only at hm1 hres hRZ hse
   have hnd1 : seen1.Nodup := hse.1 List.nodup_nil
   have hln1 : seen1.length ≤ 1030 := seen_len hnd1 (r := root) (fun i hi => (hse.2 i hi).resolve_left (fun h => by cases h))
   refine sM rfl (sX rfl (sX rfl (sA rfl (sA rfl (sE (sM rfl (sQb rfl (sN ?_))))))))
   refine C.cond rfl (fun h22 => ?_) (fun h22 => ?_)
   ·try simp only [sq] at h22
    refine sD (sM rfl (sA rfl (sA rfl (sN ?_))))
    refine R.ret2 results16 rfl rfl (fun w hw => ?_)
    have h22 : err9 ≠ 0 := h22
    have h1 : r9 = .error err9 := by
     rcases hres with ⟨_, h⟩ | ⟨h, _⟩
     ·exact absurd h h22
     ·exact h
    rw [h1] at hRZ
    subst hRZ
    exact ⟨S1, _, [], err9, rfl, le1, .inr ⟨rfl, h22, rfl, rfl⟩, hw.sub zSub⟩
   ·try simp only [sq] at h22
    have h22 : err9 = 0 := h22
    have h1 : r9 = .ok h9 := by
     rcases hres with ⟨h, _⟩ | ⟨_, h⟩
     ·exact h
     ·exact absurd h22 h
    rw [h1] at hRZ
    refine C.skip ?_
    first
     | exact N.join ([], [], 0, S) ⟨rfl, trivial⟩ (fun w hw => ⟨⟨by rw [← hRZ, if_pos h13]; exact congrArg Except.ok (List.eq_nil_of_length_eq_zero (by rw [sortL_len]; rfl)).symm, hm0, .refl _, List.nodup_nil, Nat.zero_le _⟩, hw⟩)
     | exact N.join (seen1, l1, ck1, S1) ⟨rfl, trivial⟩ (fun w hw => ⟨⟨hRZ.symm, hm1, le1, hnd1, hln1⟩, Hp.re hw zRe⟩)
  ·try simp only [sq] at h13
   refine C.skip ?_
   first
    | exact N.join ([], [], 0, S) ⟨rfl, trivial⟩ (fun w hw => ⟨⟨by rw [← hRZ, if_pos h13]; exact congrArg Except.ok (List.eq_nil_of_length_eq_zero (by rw [sortL_len]; rfl)).symm, hm0, .refl _, List.nodup_nil, Nat.zero_le _⟩, hw⟩)
    | exact N.join (seen1, l1, ck1, S1) ⟨rfl, trivial⟩ (fun w hw => ⟨⟨hRZ.symm, hm1, le1, hnd1, hln1⟩, Hp.re hw zRe⟩)
 ·skip
  refine C.pure (fun hz => ?_)
  obtain ⟨seen1, l1, ck1, S1⟩ := z
  obtain ⟨hF, hm1, le1, hnd1, hln1⟩ := hz
  dsimp only at hF hm1 le1 hnd1 hln1 ⊢
  refine sD (sA rfl (sN (sC (sD (sM rfl ?_)))))
  refine L.range rfl rfl rfl underlying135 zAt (fun b25 => ?_)
  refine sN (sB ?_)
  have hll : l1.length = seen1.length := by rw [← hm1.keys, List.length_map]
  refine C.loop (α := Array Nat × List Int × Value × Heap) (fun z => [(9, z.2.2.1), (25, .pointer (some ⟨b25, 0, none⟩))]) (fun z w => ((∀ e ∈ l1, e.born ∈ z.1.toList ↔ e.key ∈ z.2.1) ∧ z.2.1.Nodup ∧ (∀ i ∈ z.2.1, i ∈ seen1) ∧ Own 3 1 z.2.2.1 z.2.1.length (z.2.1.map iv) z.2.2.2) ∧ Hp w0 F S1 ((b25, itObj b11 ck1 z.1) :: (b11, mobj l1 ck1) :: (z.2.2.2 ++ (fp ++ Hr))) w) (fun z => unseen l1 z.1) (#[], [], .slice none 0 0, []) ⟨rfl, rfl, trivial⟩ (fun w hw => ⟨⟨fun e he => (by simp), List.nodup_nil, (fun i hi => by cases hi), Own.nil _ _⟩, hw⟩) (fun z => C.pure (fun hz => ?_))
  obtain ⟨sb, out, v9, f9⟩ := z
  obtain ⟨hz1, hz2, hz3, ho9⟩ := hz
  dsimp only at hz1 hz2 hz3 ho9 ⊢
  have hol : out.length ≤ 1030 := by
   have := nodup_sub_len hz2 hz3
   omega
  refine sD ?_
  refine L.next rfl rfl rfl hm1.ok zAt (fun e => .head) (fun e he hns => ?_) (fun hall => ?_)
  ·skip
   refine sX rfl (sN (sC (sO rfl (sK (sB (sD ?_))))))
   refine L.w rfl (V.entry (e := e) (seen := sb) (r := b11) (ck := ck1) rfl hm1.ok zAt zAt he) ?_
   have hkn : e.key ∉ out := fun h => hns ((hz1 e he).2 h)
   have hks : e.key ∈ seen1 := by rw [← hm1.keys]; exact List.mem_map_of_mem he
   have hz1' : ∀ x ∈ l1, x.born ∈ (sb.push e.born).toList ↔ x.key ∈ out ++ [e.key] := fun x hx => by
    rw [Array.toList_push, List.mem_append, List.mem_append, List.mem_singleton, List.mem_singleton, hz1 x hx]
    refine or_congr Iff.rfl ⟨fun h => ?_, fun h => ?_⟩
    ·rw [eborn_inj hm1.ok.borns hx he h]
    ·rw [ekey_inj hm1.ok.keys hx he h]
   have hz3' : ∀ i ∈ out ++ [e.key], i ∈ seen1 := fun i hi => (List.mem_append.1 hi).elim (hz3 i) (fun h => by rw [List.mem_singleton.1 h]; exact hks)
   refine sX rfl (sA rfl (sN (sR (sM rfl (sM rfl ?_)))))
   refine L.slice1 rfl rfl rfl underlying37 sizeOf3 zeroValue3 rfl (by decide) (by decide) rfl rfl (fun b32 => ?_)
   refine L.append (by' := 8) (sz := 1) (l := 1) (ys := [.int .i64 e.key]) rfl rfl rfl rfl underlying37 info_int rfl rfl rfl rfl ho9 (.skip (.skip (.skip .done))) ⟨rfl, .inr ⟨b32, 0, 1, _, _, _, rfl, ⟨Nat.le_refl _, by omega⟩, .apr .head, fun j hj => by simp⟩⟩ (by intro u hu; simp at hu; subst hu; rfl) (by omega) (by omega) (fun v33 f33 ho33 => ?_)
   have ho33 : Own 3 1 v33 (out ++ [e.key]).length ((out ++ [e.key]).map iv) f33 := by
    rw [List.length_append, List.map_append]; exact ho33
   refine sA rfl ?_
   refine L.nil (N.blk ?_)
   exact N.round (sb.push e.born, out ++ [e.key], v33, f33) (unseen_lt he hns) ⟨rfl, rfl, trivial⟩ (fun w hw => ⟨⟨hz1', nodup_snoc hz2 hkn, hz3', ho33⟩, Hp.re (hw.sub (H' := f33 ++ ((b25, itObj b11 ck1 (sb.push e.born)) :: (b11, mobj l1 ck1) :: (fp ++ Hr))) zSub) zRe⟩)
  ·skip
   refine sX rfl (sN (sC (sP rfl (sZ rfl (sD (sM rfl ?_))))))
   have hsub : ∀ i, i ∈ out ↔ i ∈ seen1 := fun i => ⟨hz3 i, fun h => by
    rw [← hm1.keys] at h
    obtain ⟨e, he, rfl⟩ := List.mem_map.1 h
    exact (hz1 e he).1 (hall e he)⟩
   have hsrt : sortL out = sortL seen1 := asc_unique (sortL_asc hz2) (sortL_asc hnd1) (fun x => by rw [(sortL_perm out).mem_iff, (sortL_perm seen1).mem_iff, hsub])
   refine L.call rfl rfl rfl call63 rfl (fun w hw => sortInts_ok (Hr := (b25, _) :: (b11, mobj l1 ck1) :: (fp ++ Hr)) ho9 (by omega) (hw.re zRe)) ?_
   rintro _ a w hst ⟨f35, rfl, ho35, hw⟩
   refine hst.go rfl hw ?_
   clear hst hw w a
   rw [hsrt] at ho35
   refine sE (sM rfl (sA rfl (sA rfl (sN ?_))))
   refine R.ret2 results16 rfl rfl (fun w hw => ?_)
   exact ⟨S1, v9, f35, 0, rfl, le1, .inl ⟨sortL seen1, hF, rfl, ho35, by rw [sortL_len]; exact hln1⟩, hw.sub zSub⟩

/-- Is it a tree? -/
noncomputable def Pr.check (s : Pr) (root : Int) : Int := match s.pages root with
 | .error e => e
 | .ok _ => 0
theorem checkT_ok {b db : Nat} {s : Pr} {fp : Heap} (hd : PgR S b db s fp) (root : Int) (hw : Hp w0 F S (fp ++ Hr) w) :
 Calls Tryz.prog 26 #[.pointer (some ⟨b, 0, none⟩), .int .i64 root] w fun e w' => ∃ S', e = .returned (.int .i64 (s.check root)) ∧ S.le S' ∧ Hp w0 F S' (fp ++ Hr) w' := by
 refine enterA hw func26 rfl ntmps26 rfl rfl ?_
 refine sD (sA rfl (sE (sM rfl (sM rfl ?_))))
 refine L.call rfl rfl rfl call16 rfl (fun w hw => pagesT_ok hd root hw) ?_
 rintro _ a w hst ⟨S1, v1, f1, err, rfl, le1, hres, hw⟩
 refine hst.go rfl hw ?_
 clear hst hw w a
 have he : err = s.check root := by
  unfold Pr.check
  rcases hres with ⟨l, h1, h2, _⟩ | ⟨h1, _⟩
  ·rw [h1]; exact h2
  ·rw [h1]
 rw [he]
 refine sM rfl (sX rfl (sX rfl (sA rfl (sA rfl (sE (sM rfl (sA rfl (sN ?_))))))))
 refine R.ret1 results26 rfl (fun w hw => ?_)
 exact ⟨S1, rfl, le1, hw.sub zSub⟩
end
end Go.Proofs.YtijgbppkdaiikaaGreat

set_option linter.unusedSimpArgs false
set_option linter.unusedVariables false
namespace Go.Proofs.YtijgbppkdaiikaaGreat
open Go.Proofs.Tryz Go.Tk

theorem wrs_cons (s : Dk × Int) (x : Int × Page) (l : List (Int × Page)) : wrs s (x :: l) = wrs (wr s x) l := rfl
theorem wrs_cacheL {d : Dk} : ∀ {l : List (Int × Page)}, Live d → (∀ x ∈ l, 0 ≤ x.1 ∧ x.1 < (d.size : Int)) → (l.map (·.1)).Nodup →
 (∀ x ∈ l, (wrs (d, 0) l).1.cache x.1 = some (pageB x.2)) ∧ (∀ j, j ∉ l.map (·.1) → (wrs (d, 0) l).1.cache j = d.cache j) ∧ (wrs (d, 0) l).1.pages = d.pages := by
 intro l
 induction l generalizing d with
 | nil => intro h _ _; exact ⟨fun x hx => (by cases hx), fun j _ => rfl, rfl⟩
 | cons x l ih =>
   intro h hl hn
   have hx := hl x (List.mem_cons_self ..)
   rw [List.map_cons, List.nodup_cons] at hn
   rw [wrs_cons, h.wr hx.1 hx.2]
   obtain ⟨h1, h2, h3⟩ := ih (d := d.write x.1 (pageB x.2)) (h.write _ _) (fun y hy => hl y (List.mem_cons_of_mem _ hy)) hn.2
   have hc : ∀ j, (d.write x.1 (pageB x.2)).cache j = if j = x.1 then some (pageB x.2) else d.cache j := fun j => rfl
   refine ⟨fun y hy => ?_, fun j hj => ?_, h3⟩
   ·rcases List.mem_cons.1 hy with rfl | hy
    ·rw [h2 _ hn.1, hc, if_pos rfl]
    ·exact h1 y hy
   ·rw [List.map_cons, List.mem_cons, not_or] at hj
    rw [h2 j hj.2, hc, if_neg hj.1]
theorem sync_get (d : Dk) (j : Int) : d.sync.get j = d.get j := by
 show ((none : Option (List UInt8)).getD (((d.cache j).or (d.pages j)).getD zero256)) = (d.cache j).getD ((d.pages j).getD zero256)
 cases d.cache j <;> rfl

theorem openF_links {dk : Dk} {n txn : Nat} : ∀ (C ids : List Nat) (f : Nat) (acc : List Int) (accI : List Nat), C.length < f → C.Nodup → (∀ i ∈ C, 2 ≤ i ∧ i < n ∧ (i : Int) ∉ acc) → ids.length ≤ 59 * C.length →
 (∀ x ∈ C.zip (linkP C ids txn), pgP false n (fun _ => none) dk (x.1 : Int) = some x.2) → openF dk n f (C.headD 0) acc accI = .ok (acc ++ intL C, accI ++ ids)
 | [], ids, f, acc, accI, hf, _, _, hl, _ => by
   have : ids = [] := List.eq_nil_of_length_eq_zero (by simpa using hl)
   subst this
   obtain ⟨g, rfl⟩ : ∃ g, f = g + 1 := ⟨f - 1, by simp at hf; omega⟩
   simp [openF, intL]
 | c :: C, ids, f, acc, accI, hf, hn, hr, hl, hp => by
   rw [List.length_cons] at hf hl
   obtain ⟨g, rfl⟩ : ∃ g, f = g + 1 := ⟨f - 1, by omega⟩
   rw [List.nodup_cons] at hn
   have hc := hr c (List.mem_cons_self ..)
   have hpc := hp (c, ⟨4, txn, C.headD 0, [], [], [], ids.take 59⟩) (by simp [linkP])
   rw [List.headD_cons, openF, if_neg (by omega), if_neg (by rintro (h | h | h); omega; omega; exact hc.2.2 h), hpc]
   dsimp only
   rw [if_neg (fun h => h rfl), openF_links C (ids.drop 59) g (acc ++ [(c : Int)]) (accI ++ ids.take 59) (by omega) hn.2 (fun i hi => ?_) (by rw [List.length_drop]; omega) (fun x hx => hp x (by
    show x ∈ (c :: C).zip (_ :: linkP C (ids.drop 59) txn)
    rw [List.zip_cons_cons]; exact List.mem_cons_of_mem _ hx))]
   ·congr 2
    ·simp [intL]
    ·rw [List.append_assoc, List.take_append_drop]
   ·obtain ⟨h1, h2, h3⟩ := hr i (List.mem_cons_of_mem _ hi)
    refine ⟨h1, h2, fun h => ?_⟩
    rcases List.mem_append.1 h with h | h
    ·exact h3 h
    ·rw [List.mem_singleton] at h
     have : i = c := by omega
     exact hn.1 (this ▸ hi)

/-- An empty pager. -/
noncomputable def freshP (dk : Dk) (n : Nat) : Pr := ⟨dk, ⟨1, 0, 2, n⟩, ⟨n, intL ((fmtA n).drop (fmtK n)), []⟩, intL ((fmtA n).take (fmtK n)), fun _ => none, 0, false⟩

theorem pgP_of {dk : Dk} {n : Nat} (hl : Live dk) (hn : dk.size = n) {i : Nat} {p : Page} (h2 : 2 ≤ i) (hi : i < n) (hp : Right p) (ht : p.txn < 2 ^ 64) (hg : dk.get (i : Int) = pageB p) : pgP false n (fun _ => none) dk (i : Int) = some p := by
 unfold pgP
 have h1 : pgChk false n (i : Int) = 0 := by
  unfold pgChk; rw [if_neg (by decide), if_neg (by omega)]
 have h3 : dk.chk (i : Int) = 0 := hl.chk (by omega) (by omega)
 rw [if_neg (fun h => h h1)]
 dsimp only
 rw [if_neg (fun h => h h3), hg]
 exact decP_of ⟨hp, ht, rfl⟩

theorem intL_asc {l : List Nat} (h : l.Pairwise (· < ·)) : Asc (intL l) := by
 unfold Asc intL
 rw [List.pairwise_map]
 exact h.imp (fun h => by omega)

theorem opens_fmt {dk : Dk} (hl : Live dk) (h0 : 8 ≤ dk.size) (h1 : dk.size ≤ 1024) : opens dk.fmt = .ok (freshP dk.fmt dk.size) := by
 obtain ⟨n, hn⟩ : ∃ n, dk.size = n := ⟨_, rfl⟩
 rw [hn] at h0 h1 ⊢
 obtain ⟨d2, hd2⟩ : ∃ d, (dk.write 0 (metaB ⟨0, 0, 0, n⟩)).write 1 (metaB ⟨1, 0, 2, n⟩) = d := ⟨_, rfl⟩
 have hl2 : Live d2 := hd2 ▸ (hl.write _ _).write _ _
 have hs2 : d2.size = n := by rw [← hd2]; exact hn
 have hc0 : d2.cache 0 = some (metaB ⟨0, 0, 0, n⟩) := by rw [← hd2]; rfl
 have hc1 : d2.cache 1 = some (metaB ⟨1, 0, 2, n⟩) := by rw [← hd2]; rfl
 have hfm : dk.fmt = (wrs (d2, 0) (fmtL n)).1.sync := by unfold Dk.fmt; rw [hn, hd2]
 have hk : fmtK n ≤ n - 2 := by unfold fmtK; omega
 have hlen : ((fmtA n).take (fmtK n)).length = fmtK n := by rw [List.length_take, fmtA_len]; omega
 have hfst : (fmtL n).map (·.1) = intL ((fmtA n).take (fmtK n)) := by
  unfold fmtL
  rw [List.map_fst_zip (by rw [List.length_map, linkP_len]; exact Nat.le_refl _)]; rfl
 have hLin : ∀ x ∈ fmtL n, 2 ≤ x.1 ∧ x.1 < (n : Int) := fun x hx => by
  have h1 := List.mem_map_of_mem (f := (·.1)) hx
  rw [hfst] at h1
  obtain ⟨i, hi, e⟩ := List.mem_map.1 h1
  have := fmtA_mem (List.mem_of_mem_take hi)
  have e : (i : Int) = x.1 := e
  omega
 have hnd : ((fmtL n).map (·.1)).Nodup := by
  rw [hfst]
  exact (intL_asc ((fmtA_asc n).sublist (List.take_sublist _ _))).imp (fun h => Int.ne_of_lt h)
 obtain ⟨w1, w2, w3⟩ := wrs_cacheL hl2 (fun x hx => by have := hLin x hx; rw [hs2]; omega) hnd
 have hlw := (Live.wrs hl2 (l := fmtL n) (fun x hx => by have := hLin x hx; rw [hs2]; omega)).2
 have hlive : Live dk.fmt := hfm ▸ hlw.sync
 have hsz : dk.fmt.size = n := by rw [hfm]; show (wrs (d2, 0) (fmtL n)).1.size = n; rw [wrs_size]; exact hs2
 have hg : ∀ j, dk.fmt.get j = (wrs (d2, 0) (fmtL n)).1.get j := fun j => by rw [hfm, sync_get]
 have g0 : dk.fmt.get 0 = metaB ⟨0, 0, 0, n⟩ := by
  rw [hg]; unfold Dk.get
  rw [w2 0 (fun h => by obtain ⟨x, hx, e⟩ := List.mem_map.1 h; have := hLin x hx; omega), hc0]; rfl
 have g1 : dk.fmt.get 1 = metaB ⟨1, 0, 2, n⟩ := by
  rw [hg]; unfold Dk.get
  rw [w2 1 (fun h => by obtain ⟨x, hx, e⟩ := List.mem_map.1 h; have := hLin x hx; omega), hc1]; rfl
 have m0 : mdecP (metaB ⟨0, 0, 0, n⟩) = some ⟨0, 0, 0, n⟩ := mdecP_of ⟨⟨.inl rfl, .inl rfl, h0, h1⟩, by show 0 < 2 ^ 64; decide, rfl⟩
 have m1 : mdecP (metaB ⟨1, 0, 2, n⟩) = some ⟨1, 0, 2, n⟩ := mdecP_of ⟨⟨.inl rfl, .inr ⟨by show 2 ≤ 2; omega, by show 2 < n; omega⟩, h0, h1⟩, by show 1 < 2 ^ 64; decide, rfl⟩
 have hch : mchoose (dk.fmt.get 0) (dk.fmt.get 1) = some ⟨1, 0, 2, n⟩ := by
  rw [g0, g1]
  unfold mchoose
  have e0 : mstep 0 (metaB ⟨0, 0, 0, n⟩) none = some ⟨0, 0, 0, n⟩ := by unfold mstep; rw [m0]; exact if_pos ⟨rfl, trivial⟩
  rw [e0]
  unfold mstep
  rw [m1]
  exact if_pos ⟨rfl, by show 0 < 1; omega⟩
 have hCr := linkP_right ((fmtA n).take (fmtK n)) ((fmtA n).drop (fmtK n)) 1 (fun i hi => by have := fmtA_mem (List.mem_of_mem_take hi); omega) (fun i hi => by have := fmtA_mem (List.mem_of_mem_drop hi); exact ⟨by omega, by omega⟩) ((fmtA_asc n).sublist (List.drop_sublist _ _))
 have hop := openF_links (dk := dk.fmt) (n := n) (txn := 1) ((fmtA n).take (fmtK n)) ((fmtA n).drop (fmtK n)) 1025 [] [] (by rw [hlen]; omega) (((fmtA_asc n).sublist (List.take_sublist _ _)).imp (fun h => Nat.ne_of_lt h)) (fun i hi => by have := fmtA_mem (List.mem_of_mem_take hi); exact ⟨this.1, this.2, fun h => by cases h⟩) (by rw [List.length_drop, fmtA_len, hlen]; unfold fmtK; omega) (fun x hx => by
  have hx1 := List.of_mem_zip (show (x.1, x.2) ∈ _ from hx)
  have hr := fmtA_mem (List.mem_of_mem_take hx1.1)
  obtain ⟨hR, ht⟩ := hCr x.2 hx1.2
  have hxL : ((x.1 : Int), x.2) ∈ fmtL n := by
   unfold fmtL
   rw [List.zip_map_left]
   exact List.mem_map.2 ⟨x, hx, rfl⟩
  refine pgP_of hlive hsz hr.1 hr.2 hR (by rw [ht]; decide) ?_
  rw [hg]; unfold Dk.get
  rw [w1 _ hxL]; rfl)
 have hhd : ((fmtA n).take (fmtK n)).headD 0 = 2 := by
  have h3 : 0 < ((fmtA n).take (fmtK n)).length := by rw [hlen]; unfold fmtK; omega
  obtain ⟨c, C, hC⟩ := List.exists_cons_of_length_pos h3
  have h4 : ((fmtA n).take (fmtK n))[0]'h3 = 2 := by rw [List.getElem_take, fmtA_at (by rw [fmtA_len]; omega)]
  rw [hC, List.headD_cons]
  simp only [hC, List.getElem_cons_zero] at h4
  exact h4
 rw [hhd] at hop
 have hdead : dk.fmt.dead = false := hlive.dead
 unfold opens
 rw [if_neg (by rw [hdead]; decide), hch]
 dsimp only
 rw [if_neg (fun h => h hsz.symm), hop]
 dsimp only
 have hperm : (intL ((fmtA n).drop (fmtK n)) ++ intL ((fmtA n).take (fmtK n))).Perm (intL (fmtA n)) := by
  refine List.perm_append_comm.trans ?_
  unfold intL
  rw [← List.map_append, List.take_append_drop]
 rw [List.nil_append, List.nil_append]
 have hok : NewOk (n : Int) (intL ((fmtA n).drop (fmtK n)) ++ intL ((fmtA n).take (fmtK n))) := ⟨by omega, by omega, fun i hi => by
  obtain ⟨j, hj, e⟩ := List.mem_map.1 (hperm.mem_iff.1 hi)
  have := fmtA_mem hj
  have e : (j : Int) = i := e
  omega, hperm.nodup_iff.2 ((intL_asc (fmtA_asc n)).imp (fun h => Int.ne_of_lt h))⟩
 rw [if_pos hok]
 unfold freshP
 have hsort : sortL (intL ((fmtA n).drop (fmtK n))) = intL ((fmtA n).drop (fmtK n)) := by
  have ha := intL_asc ((fmtA_asc n).sublist (List.drop_sublist (fmtK n) _))
  exact asc_unique (sortL_asc (ha.imp (fun h => Int.ne_of_lt h))) ha (fun x => (sortL_perm _).mem_iff)
 rw [hsort]
end Go.Proofs.YtijgbppkdaiikaaGreat

set_option linter.unusedSimpArgs false
set_option linter.unusedVariables false
namespace Go.Proofs.YtijgbppkdaiikaaGreat
open Go.Proofs.Tryz Go.Tk

structure Sd (s : Pr) : Prop where
 ok : PrOk s
 lo : s.list.Ok
 apart : ∀ i ∈ s.chain, i ∉ s.list.spare ∧ i ∉ s.list.held
 dead : s.dead = false
/-- A page that is in use. -/
structure Use (s : Pr) (i : Int) : Prop where
 h0 : 2 ≤ i
 h1 : i < (s.m.size : Int)
 spare : i ∉ s.list.spare
 held : i ∉ s.list.held
 chain : i ∉ s.chain
/-- What stays when pages come and go. -/
structure Keeps (s s' : Pr) : Prop where
 dk : s'.dk = s.dk
 m : s'.m = s.m
 chain : s'.chain = s.chain
 root : s'.root = s.root
 dead : s'.dead = s.dead
theorem Keeps.refl (s : Pr) : Keeps s s := ⟨rfl, rfl, rfl, rfl, rfl⟩
theorem Keeps.trans {a b c : Pr} (h : Keeps a b) (h' : Keeps b c) : Keeps a c := ⟨h'.dk.trans h.dk, h'.m.trans h.m, h'.chain.trans h.chain, h'.root.trans h.root, h'.dead.trans h.dead⟩

theorem pgChk_use {s : Pr} (hd : s.dead = false) {i : Int} (h0 : 2 ≤ i) (h1 : i < (s.m.size : Int)) : pgChk s.dead s.m.size i = 0 := by
 unfold pgChk; rw [hd, if_neg (by decide), if_neg (by omega)]
theorem Pr.page_eq {s s' : Pr} (hk : Keeps s s') {i : Int} (ha : s'.added i = s.added i) : s'.page i = s.page i := by
 unfold Pr.page pgP
 rw [hk.dead, hk.m, hk.dk, ha]
theorem Pr.err_eq {s s' : Pr} (hk : Keeps s s') {i : Int} (ha : s'.added i = s.added i) : s'.err i = s.err i := by
 unfold Pr.err pgE
 rw [hk.dead, hk.m, hk.dk, ha]
theorem Pr.page_added {s : Pr} (hd : s.dead = false) {i : Int} (h0 : 2 ≤ i) (h1 : i < (s.m.size : Int)) {p : Page} (ha : s.added i = some p) : s.page i = some p := by
 unfold Pr.page pgP
 rw [pgChk_use hd h0 h1, if_neg (fun h => h rfl), ha]

def Pr.took (s : Pr) (i : Int) (r : List Int) (p : Page) : Pr := { s with list := ⟨s.list.size, r, s.list.held⟩, added := upd s.added i (some (p.at (s.m.txn + 1))) }
theorem took_keeps (s : Pr) (i : Int) (r : List Int) (p : Page) : Keeps s (s.took i r p) := ⟨rfl, rfl, rfl, rfl, rfl⟩

theorem add_eq {s : Pr} (h : Sd s) {p : Page} (hp : Right (p.at (s.m.txn + 1))) {i : Int} {r : List Int} (hs : s.list.spare = i :: r) (hr : s.m.size / 60 + 2 ≤ s.list.spare.length) : s.add p = (s.took i r p, i, 0) := by
 unfold Pr.add
 rw [if_neg (by rw [h.dead]; decide), if_neg (fun q => q hp), if_neg (by omega), hs]; rfl
theorem add_full {s : Pr} (h : Sd s) {p : Page} (hp : Right (p.at (s.m.txn + 1))) (hr : ¬ s.m.size / 60 + 2 ≤ s.list.spare.length) : s.add p = (s, 0, 9) := by
 unfold Pr.add
 rw [if_neg (by rw [h.dead]; decide), if_neg (fun q => q hp), if_pos (by omega)]
theorem took_sd {s : Pr} (h : Sd s) {p : Page} (hp : Right (p.at (s.m.txn + 1))) {i : Int} {r : List Int} (hs : s.list.spare = i :: r) : Sd (s.took i r p) := by
 have hl := h.lo
 have hsp := hl.spare
 rw [hs] at hsp
 refine ⟨⟨h.ok.size, h.ok.dsize, h.ok.s0, h.ok.s1, h.ok.txn, h.ok.chain, fun j q hq => ?_, fun j q hq => ?_⟩, ⟨hl.s0, hl.s1, (List.pairwise_cons.1 hsp).2, hl.held, fun j hj => hl.in1 j (by rw [hs]; exact List.mem_cons_of_mem _ hj), hl.in2, fun j hj => hl.apart j (by rw [hs]; exact List.mem_cons_of_mem _ hj)⟩, fun j hj => ⟨fun hm => (h.apart j hj).1 (by rw [hs]; exact List.mem_cons_of_mem _ hm), (h.apart j hj).2⟩, h.dead⟩
 ·simp only [Pr.took, upd] at hq
  split at hq
  ·rw [← Option.some.inj hq]; exact hp
  ·exact h.ok.right j q hq
 ·simp only [Pr.took, upd] at hq
  split at hq
  ·rw [← Option.some.inj hq]; rfl
  ·exact h.ok.atxn j q hq
theorem took_use {s : Pr} (h : Sd s) {p : Page} {i : Int} {r : List Int} (hs : s.list.spare = i :: r) : Use (s.took i r p) i := by
 have hl := h.lo
 have hsp := hl.spare
 rw [hs] at hsp
 have hi := hl.in1 i (by rw [hs]; exact List.mem_cons_self ..)
 refine ⟨hi.1, by have := h.ok.size; show i < (s.m.size : Int); omega, fun hm => ?_, hl.apart i (by rw [hs]; exact List.mem_cons_self ..), fun hm => (h.apart i hm).1 (by rw [hs]; exact List.mem_cons_self ..)⟩
 have := (List.pairwise_cons.1 hsp).1 i hm
 omega
theorem took_use_of {s : Pr} {p : Page} {i j : Int} {r : List Int} (hs : s.list.spare = i :: r) (hu : Use s j) : Use (s.took i r p) j := ⟨hu.h0, hu.h1, fun hm => hu.spare (by rw [hs]; exact List.mem_cons_of_mem _ hm), hu.held, hu.chain⟩
theorem took_ne {s : Pr} {i j : Int} {r : List Int} (hs : s.list.spare = i :: r) (hu : Use s j) : j ≠ i := fun e => hu.spare (by rw [hs, e]; exact List.mem_cons_self ..)
theorem took_page_ne {s : Pr} {p : Page} {i j : Int} {r : List Int} (hj : j ≠ i) : (s.took i r p).page j = s.page j := Pr.page_eq (took_keeps ..) (by simp only [Pr.took, upd]; rw [if_neg hj])
theorem took_page {s : Pr} (h : Sd s) {p : Page} {i : Int} {r : List Int} (hs : s.list.spare = i :: r) : (s.took i r p).page i = some (p.at (s.m.txn + 1)) := by
 have hu := took_use (p := p) h hs
 exact Pr.page_added (s := s.took i r p) h.dead hu.h0 hu.h1 (by show upd s.added i (some _) i = _; unfold upd; rw [if_pos rfl])

theorem Fl.chk_use {s : Pr} (h : Sd s) {i : Int} (hu : Use s i) : s.list.chk i = 0 := by
 have := h.ok.size
 have h0 := hu.h0
 have h1 := hu.h1
 unfold Fl.chk
 rw [if_neg (by omega), if_neg (by rintro (h | h); exact hu.spare h; exact hu.held h)]

def Pr.gave (s : Pr) (i : Int) : Pr := { s with list := ⟨s.list.size, Fl.ins s.list.spare i, s.list.held⟩, added := upd s.added i none }
def Pr.holds (s : Pr) (i : Int) : Pr := { s with list := ⟨s.list.size, s.list.spare, Fl.ins s.list.held i⟩ }
theorem drop_added {s : Pr} (h : Sd s) {i : Int} (hu : Use s i) {p : Page} (ha : s.added i = some p) : s.drop i = (s.gave i, 0) := by
 unfold Pr.drop
 rw [pgChk_use h.dead hu.h0 hu.h1, if_neg (fun h => h rfl), ha]
 dsimp only
 unfold Fl.give
 rw [Fl.chk_use h hu, if_pos rfl]; rfl
theorem drop_old {s : Pr} (h : Sd s) {i : Int} (hu : Use s i) (ha : s.added i = none) : s.drop i = (s.holds i, 0) := by
 unfold Pr.drop
 rw [pgChk_use h.dead hu.h0 hu.h1, if_neg (fun h => h rfl), ha]
 dsimp only
 rw [if_neg hu.chain]
 unfold Fl.hold
 rw [Fl.chk_use h hu, if_pos rfl]; rfl
/-- Behind a Drop of a page in use. -/
structure Dropped (s s' : Pr) (i : Int) : Prop where
 sd : Sd s'
 keeps : Keeps s s'
 use : ∀ j, j ≠ i → Use s j → Use s' j
 page : ∀ j, j ≠ i → s'.page j = s.page j
 added : ∀ j, j ≠ i → s'.added j = s.added j
 spare : s'.list.spare.length = s.list.spare.length + if (s.added i).isSome then 1 else 0
theorem drop_spec {s : Pr} (h : Sd s) {i : Int} (hu : Use s i) : ∃ s', s.drop i = (s', 0) ∧ Dropped s s' i := by
 have hc := Fl.chk_use h hu
 have hk1 : ∀ s', s' = s.gave i ∨ s' = s.holds i → Keeps s s' := by rintro s' (rfl | rfl) <;> exact ⟨rfl, rfl, rfl, rfl, rfl⟩
 cases ha : s.added i with
 | some p =>
   refine ⟨_, drop_added h hu ha, ⟨⟨⟨h.ok.size, h.ok.dsize, h.ok.s0, h.ok.s1, h.ok.txn, h.ok.chain, fun j q hq => ?_, fun j q hq => ?_⟩, h.lo.give hc, fun j hj => ⟨fun hm => ?_, (h.apart j hj).2⟩, h.dead⟩, hk1 _ (.inl rfl), fun j hj hu' => ⟨hu'.h0, hu'.h1, fun hm => ?_, hu'.held, hu'.chain⟩, fun j hj => Pr.page_eq (hk1 _ (.inl rfl)) (if_neg hj), fun j hj => if_neg hj, ?_⟩⟩
   ·simp only [Pr.gave, upd] at hq
    split at hq
    ·cases hq
    ·exact h.ok.right j q hq
   ·simp only [Pr.gave, upd] at hq
    split at hq
    ·cases hq
    ·exact h.ok.atxn j q hq
   ·rcases ins_mem.1 hm with rfl | hm
    ·exact hu.chain hj
    ·exact (h.apart j hj).1 hm
   ·rcases ins_mem.1 hm with rfl | hm
    ·exact hj rfl
    ·exact hu'.spare hm
   ·show (Fl.ins s.list.spare i).length = _
    rw [ins_len, ha]; rfl
 | none =>
   refine ⟨_, drop_old h hu ha, ⟨⟨⟨h.ok.size, h.ok.dsize, h.ok.s0, h.ok.s1, h.ok.txn, h.ok.chain, h.ok.right, h.ok.atxn⟩, h.lo.hold hc, fun j hj => ⟨(h.apart j hj).1, fun hm => ?_⟩, h.dead⟩, hk1 _ (.inr rfl), fun j hj hu' => ⟨hu'.h0, hu'.h1, hu'.spare, fun hm => ?_, hu'.chain⟩, fun j hj => Pr.page_eq (hk1 _ (.inr rfl)) rfl, fun j hj => rfl, ?_⟩⟩
   ·rcases ins_mem.1 hm with rfl | hm
    ·exact hu.chain hj
    ·exact (h.apart j hj).2 hm
   ·rcases ins_mem.1 hm with rfl | hm
    ·exact hj rfl
    ·exact hu'.held hm
   ·rw [ha]; rfl

/-! ### Pieces -/
/-- From a Piece on: the bytes, the pages. -/
inductive Chn (s : Pr) : Nat → List UInt8 → List Nat → Prop
 | nil : Chn s 0 [] []
 | cons {i : Nat} {p : Page} {rest : List UInt8} {ids : List Nat} (h0 : i ≠ 0) (hp : s.page (i : Int) = some p) (hk : p.kind = 3) (h1 : 1 ≤ p.data.length) (r : Chn s p.next rest ids) : Chn s i (p.data ++ rest) (i :: ids)
theorem Chn.pos {s : Pr} {i : Nat} {rest : List UInt8} {ids : List Nat} (h : Chn s i rest ids) (hi : i ≠ 0) : 1 ≤ rest.length := by
 cases h with
 | nil => exact absurd rfl hi
 | cons _ _ _ h5 _ => rw [List.length_append]; omega
theorem Chn.blobF {s : Pr} {size : Nat} : ∀ {i : Nat} {rest : List UInt8} {ids : List Nat}, Chn s i rest ids → ∀ {f : Nat} {out : List UInt8} {acc : List Nat}, out.length + rest.length = size → size + 2 ≤ f + out.length → 1 ≤ f → blobF s size f i out acc = .ok (out ++ rest, acc ++ ids) := by
 intro i rest ids h
 induction h with
 | nil =>
   intro f out acc hl hf hf1
   obtain ⟨g, rfl⟩ : ∃ g, f = g + 1 := ⟨f - 1, by omega⟩
   rw [Go.Proofs.YtijgbppkdaiikaaGreat.blobF, if_neg (fun h => h.1 rfl), if_neg (by simp at hl; omega)]
   simp
 | cons h0 hp hk h1 r ih =>
   rename_i i p rest ids
   intro f out acc hl hf hf1
   obtain ⟨g, rfl⟩ : ∃ g, f = g + 1 := ⟨f - 1, by omega⟩
   rw [List.length_append] at hl
   have hnx : ¬ (p.next ≠ 0 ∧ size ≤ (out ++ p.data).length) := by
    rintro ⟨h2, h3⟩
    rw [List.length_append] at h3
    have : 1 ≤ rest.length := r.pos h2
    omega
   rw [Go.Proofs.YtijgbppkdaiikaaGreat.blobF, if_pos ⟨h0, by omega⟩, hp]
   dsimp only
   rw [if_neg (fun h => h hk), if_neg hnx, ih (by rw [List.length_append]; omega) (by rw [List.length_append]; omega) (by omega)]
   simp [List.append_assoc]
/-- An item's value, and its pages. -/
structure ItV (s : Pr) (x : Item) (val : List UInt8) (ids : List Nat) : Prop where
 size : x.size = val.length
 r : (x.more = 0 ∧ x.val = val ∧ ids = []) ∨ (x.more ≠ 0 ∧ Chn s x.more val ids)
theorem ItV.blob {s : Pr} {x : Item} {val : List UInt8} {ids : List Nat} (h : ItV s x val ids) (hm : x.more ≠ 0) : s.blob x = .ok (val, ids) := by
 obtain ⟨hs, ⟨h1, _⟩ | ⟨_, h2⟩⟩ := h
 ·exact absurd h1 hm
 ·unfold Pr.blob
  rw [hs]
  have := h2.blobF (f := val.length + 2) (out := []) (acc := []) (size := val.length) (by simp) (by simp) (by omega)
  simpa using this
theorem ItV.value {s : Pr} {x : Item} {val : List UInt8} {ids : List Nat} (h : ItV s x val ids) : s.value x = .ok val := by
 unfold Pr.value
 split
 ·rename_i hm
  obtain ⟨hs, ⟨_, h1, _⟩ | ⟨h1, _⟩⟩ := h
  ·rw [h1]
  ·exact absurd hm h1
 ·rename_i hm; rw [h.blob hm]
theorem Chn.mono {s s' : Pr} {i : Nat} {rest : List UInt8} {ids : List Nat} (h : Chn s i rest ids) (hp : ∀ j ∈ ids, s'.page (j : Int) = s.page (j : Int)) : Chn s' i rest ids := by
 induction h with
 | nil => exact .nil
 | cons h0 hp0 hk h1 r ih => exact .cons h0 (by rw [hp _ (List.mem_cons_self ..)]; exact hp0) hk h1 (ih (fun j hj => hp j (List.mem_cons_of_mem _ hj)))
theorem ItV.mono {s s' : Pr} {x : Item} {val : List UInt8} {ids : List Nat} (h : ItV s x val ids) (hp : ∀ j ∈ ids, s'.page (j : Int) = s.page (j : Int)) : ItV s' x val ids :=
 ⟨h.size, h.r.imp id (fun q => ⟨q.1, q.2.mono hp⟩)⟩
end Go.Proofs.YtijgbppkdaiikaaGreat

set_option linter.unusedSimpArgs false
set_option linter.unusedVariables false
namespace Go.Proofs.YtijgbppkdaiikaaGreat
open Go.Proofs.Tryz Go.Tk

/-- Pages came, none went. -/
structure Grown (s s' : Pr) (new : List Nat) : Prop where
 sd : Sd s'
 keeps : Keeps s s'
 use : ∀ i, Use s i → Use s' i
 page : ∀ i, Use s i → s'.page i = s.page i
 old : ∀ i, Use s i → s'.added i = s.added i
 nuse : ∀ i ∈ new, Use s' (i : Int)
 nnot : ∀ i ∈ new, ¬ Use s (i : Int)
 nodup : new.Nodup
 nadd : ∀ i ∈ new, (s'.added (i : Int)).isSome = true
 spare : s'.list.spare.length + new.length = s.list.spare.length
theorem Grown.refl {s : Pr} (h : Sd s) : Grown s s [] := ⟨h, .refl s, fun _ h => h, fun _ _ => rfl, fun _ _ => rfl, fun i hi => (by cases hi), fun i hi => (by cases hi), List.nodup_nil, fun i hi => (by cases hi), by simp⟩
theorem Grown.trans {a b c : Pr} {n m : List Nat} (h : Grown a b n) (h' : Grown b c m) : Grown a c (m ++ n) := by
 refine ⟨h'.sd, h.keeps.trans h'.keeps, fun i hi => h'.use i (h.use i hi), fun i hi => (h'.page i (h.use i hi)).trans (h.page i hi), fun i hi => (h'.old i (h.use i hi)).trans (h.old i hi), fun i hi => ?_, fun i hi => ?_, ?_, fun i hi => ?_, ?_⟩
 ·rcases List.mem_append.1 hi with hi | hi
  ·exact h'.nuse i hi
  ·exact h'.use _ (h.nuse i hi)
 ·rcases List.mem_append.1 hi with hi | hi
  ·exact fun hu => h'.nnot i hi (h.use _ hu)
  ·exact h.nnot i hi
 ·rw [List.nodup_append]
  refine ⟨h'.nodup, h.nodup, fun i hi j hj e => ?_⟩
  subst e
  exact h'.nnot i hi (h.nuse i hj)
 ·rcases List.mem_append.1 hi with hi | hi
  ·exact h'.nadd i hi
  ·rw [h'.old _ (h.nuse i hi)]; exact h.nadd i hi
 ·have h1 := h.spare
  have h2 := h'.spare
  rw [List.length_append]; omega

theorem add_spec {s : Pr} (h : Sd s) {p : Page} (hp : Right (p.at (s.m.txn + 1))) :
 (∃ s', ∃ i : Nat, s.add p = (s', (i : Int), 0) ∧ Grown s s' [i] ∧ s'.page (i : Int) = some (p.at (s.m.txn + 1)) ∧ 2 ≤ i ∧ i < 1024) ∨ (s.add p = (s, 0, 9) ∧ s.list.spare.length < s.m.size / 60 + 2) := by
 by_cases hr : s.m.size / 60 + 2 ≤ s.list.spare.length
 ·left
  cases hs : s.list.spare with
  | nil => rw [hs] at hr; simp at hr
  | cons i r =>
    have hu := took_use (p := p) h hs
    have hi := hu.h0
    have hi2 := hu.h1
    have hs1 := h.ok.s1
    have hcast : ((i.toNat : Nat) : Int) = i := Int.toNat_of_nonneg (by omega)
    have hi3 : i < (s.m.size : Int) := hi2
    refine ⟨s.took i r p, i.toNat, by rw [hcast]; exact add_eq h hp hs hr, ⟨took_sd h hp hs, took_keeps .., fun j hj => took_use_of hs hj, fun j hj => took_page_ne (took_ne hs hj), fun j hj => if_neg (took_ne hs hj), fun j hj => ?_, fun j hj => ?_, by simp, fun j hj => ?_, ?_⟩, by rw [hcast]; exact took_page h hs, by omega, by omega⟩
    ·rw [List.mem_singleton.1 hj, hcast]; exact hu
    ·rw [List.mem_singleton.1 hj, hcast]; exact fun hu2 => hu2.spare (by rw [hs]; exact List.mem_cons_self ..)
    ·rw [List.mem_singleton.1 hj, hcast]
     show (upd s.added i (some _) i).isSome = true
     unfold upd; rw [if_pos rfl]; rfl
    ·show r.length + 1 = s.list.spare.length
     rw [hs]; rfl
 ·exact .inr ⟨add_full h hp hr, by omega⟩

theorem pieceP_right {more : Nat} {d : List UInt8} (t : Nat) (hm : more < 1024) (h1 : 1 ≤ d.length) (h2 : d.length ≤ 237) : Right ((pieceP more d).at t) where
 only := ⟨by show 1 ≤ 3; decide, by show 3 ≤ 4; decide, fun _ => rfl, fun _ => rfl, fun h => absurd rfl h, fun _ => rfl⟩
 some := fun _ => h1
 few := h2
 next := hm
 last := fun _ => ⟨by show 3 ≠ 1; decide, by show 3 ≠ 2; decide⟩
 items := fun x hx => by cases hx
 itemsRise := fun i h => absurd h (Nat.not_lt_zero _)
 kids := fun x hx => by cases hx
 kidsRise := fun i h => absurd h (Nat.not_lt_zero _)
 ids := fun x hx => by cases hx
 idsRise := fun i h => absurd h (Nat.not_lt_zero _)
 used := by show usedN ⟨3, t, more, [], [], d, []⟩ ≤ 237; simp [usedN]; exact h2

theorem itemF_spec {val : List UInt8} : ∀ (j : Nat) {s : Pr} {more : Nat} {ids : List Nat}, Sd s → more < 1024 → Chn s more (val.drop (237 * j)) ids → (∀ i ∈ ids, Use s (i : Int)) → 237 * j < val.length + 237 →
 (∃ s', ∃ m : Nat, ∃ new, itemF val j s more = (s', .ok m) ∧ Grown s s' new ∧ new.length = j ∧ m < 1024 ∧ (1 ≤ j → m ≠ 0) ∧ Chn s' m val (new ++ ids)) ∨
 (∃ s', itemF val j s more = (s', .error 9) ∧ Keeps s s' ∧ s.list.spare.length < s.m.size / 60 + 2 + j)
 | 0, s, more, ids, hs, hm, hc, hu, hj => .inl ⟨s, more, [], rfl, .refl hs, rfl, hm, fun h => by omega, by simpa using hc⟩
 | j + 1, s, more, ids, hs, hm, hc, hu, hj => by
   have hd1 : 1 ≤ ((val.drop (237 * j)).take 237).length := by rw [List.length_take, List.length_drop]; omega
   have hd2 : ((val.drop (237 * j)).take 237).length ≤ 237 := by rw [List.length_take]; omega
   rw [itemF]
   rcases add_spec hs (pieceP_right (s.m.txn + 1) hm hd1 hd2) with ⟨s1, i, ha, hg, hpg, hi2, hi3⟩ | ⟨ha, hr⟩
   ·rw [ha]
    dsimp only
    rw [if_neg (fun h => h rfl), Int.toNat_natCast]
    have hc1 : Chn s1 i (val.drop (237 * j)) (i :: ids) := by
     have h5 := Chn.cons (s := s1) (i := i) (p := (pieceP more ((val.drop (237 * j)).take 237)).at (s.m.txn + 1)) (by omega) hpg rfl hd1 (hc.mono (fun q hq => hg.page _ (hu q hq)))
     have e : (val.drop (237 * j)).take 237 ++ val.drop (237 * (j + 1)) = val.drop (237 * j) := by
      rw [show 237 * (j + 1) = 237 * j + 237 from by omega, ← List.drop_drop, List.take_append_drop]
     exact e ▸ h5
    rcases itemF_spec j hg.sd hi3 hc1 (fun q hq => by
     rcases List.mem_cons.1 hq with rfl | hq
     ·exact hg.nuse _ (List.mem_cons_self ..)
     ·exact hg.use _ (hu q hq)) (by omega) with ⟨s2, m, new, h1, h2, h3, h4, h5, h6⟩ | ⟨s2, h1, h2, h3⟩
    ·refine .inl ⟨s2, m, new ++ [i], h1, hg.trans h2, by rw [List.length_append, h3]; rfl, h4, fun _ => ?_, by rw [List.append_assoc]; exact h6⟩
     rcases Nat.eq_zero_or_pos j with h0 | h0
     ·subst h0
      rw [itemF] at h1
      simp only [Prod.mk.injEq, Except.ok.injEq] at h1
      omega
     ·exact h5 h0
    ·refine .inr ⟨s2, h1, hg.keeps.trans h2, ?_⟩
     have := hg.spare
     rw [hg.keeps.m] at h3
     simp at this
     omega
   ·rw [ha]
    dsimp only
    rw [if_pos (by decide)]
    exact .inr ⟨s, rfl, .refl s, by omega⟩

/-- How many Pieces a value has. -/
def pc (n : Nat) : Nat := if n ≤ 64 then 0 else (n - 1) / 237 + 1
theorem item_spec {s : Pr} (hs : Sd s) (key val : List UInt8) (hk : key.length ≤ 32) (hv : val.length ≤ 4096) :
 (∃ s' x new, s.item key val = (s', .ok x) ∧ Grown s s' new ∧ new.length = pc val.length ∧ x.key = key ∧ itemOk x ∧ ItV s' x val new) ∨
 (∃ s', s.item key val = (s', .error 9) ∧ Keeps s s' ∧ s.list.spare.length < s.m.size / 60 + 2 + pc val.length) := by
 unfold Pr.item pc
 split
 ·rename_i h
  exact .inl ⟨s, _, [], rfl, .refl hs, rfl, rfl, ⟨hk, by show val.length ≤ 4096; omega, fun _ => ⟨rfl, rfl⟩, fun h2 => by have : 64 < val.length := h2; omega⟩, ⟨rfl, .inl ⟨rfl, rfl, rfl⟩⟩⟩
 ·rename_i h
  rcases itemF_spec (val := val) ((val.length - 1) / 237 + 1) (ids := []) hs (more := 0) (by decide) (by rw [List.drop_eq_nil_of_le (by omega)]; exact .nil) (fun i hi => by cases hi) (by omega) with ⟨s', m, new, h1, h2, h3, h4, h5, h6⟩ | ⟨s', h1, h2, h3⟩
  ·rw [h1]
   rw [List.append_nil] at h6
   exact .inl ⟨s', _, new, rfl, h2, h3, rfl, ⟨hk, hv, fun h2 => by have : val.length ≤ 64 := h2; omega, fun _ => ⟨rfl, by show 1 ≤ m; have := h5 (by omega); omega, h4⟩⟩, ⟨rfl, .inr ⟨h5 (by omega), h6⟩⟩⟩
  ·rw [h1]
   exact .inr ⟨s', rfl, h2, h3⟩

theorem item_used {x : Item} (h : itemOk x) : itemUsed x ≤ 99 := by
 obtain ⟨h1, h2, h3, h4⟩ := h
 unfold itemUsed
 split
 ·omega
 ·have := (h3 (by omega)).1; omega
theorem kid_used {x : Kid} (h : kidOk x) : kidUsed x ≤ 37 := by
 have := h.1
 unfold kidUsed; omega
theorem rise_one (k : List UInt8) : Rise [k] := fun i h => by simp at h
theorem leafP_right {l : List Item} (t : Nat) (h0 : l ≠ []) (hi : ∀ x ∈ l, itemOk x) (hr : Rise (l.map (·.key))) (hu : sumU itemUsed l ≤ 237) : Right ((leafP l).at t) where
 only := ⟨by show 1 ≤ 1; decide, by show 1 ≤ 4; decide, fun h => absurd rfl h, fun _ => rfl, fun _ => rfl, fun _ => rfl⟩
 some := fun _ => List.length_pos_iff.2 h0
 few := by
  show l.length ≤ 237
  have : ∀ l : List Item, l.length ≤ sumU itemUsed l := by
   intro l
   induction l with
   | nil => exact Nat.zero_le _
   | cons x l ih => unfold sumU at ih ⊢; rw [List.map_cons, List.sum_cons, List.length_cons]; have : 3 ≤ itemUsed x := (by unfold itemUsed; split <;> omega); omega
  exact Nat.le_trans (this l) hu
 next := by show 0 < 1024; decide
 last := fun h => absurd h (Nat.lt_irrefl 0)
 items := hi
 itemsRise := hr
 kids := fun x hx => by cases hx
 kidsRise := fun i h => absurd h (Nat.not_lt_zero _)
 ids := fun x hx => by cases hx
 idsRise := fun i h => absurd h (Nat.not_lt_zero _)
 used := by show usedN ⟨1, t, 0, l, [], [], []⟩ ≤ 237; simp [usedN]; exact hu
theorem branchP_right {l : List Kid} (t : Nat) (h0 : l ≠ []) (hi : ∀ x ∈ l, kidOk x) (hr : Rise (l.map (·.key))) (hu : sumU kidUsed l ≤ 237) : Right ((branchP l).at t) where
 only := ⟨by show 1 ≤ 2; decide, by show 2 ≤ 4; decide, fun _ => rfl, fun h => absurd rfl h, fun _ => rfl, fun _ => rfl⟩
 some := fun _ => List.length_pos_iff.2 h0
 few := by
  show l.length ≤ 237
  have : ∀ l : List Kid, l.length ≤ sumU kidUsed l := by
   intro l
   induction l with
   | nil => exact Nat.zero_le _
   | cons x l ih => unfold sumU at ih ⊢; rw [List.map_cons, List.sum_cons, List.length_cons]; have : 5 ≤ kidUsed x := (by unfold kidUsed; omega); omega
  exact Nat.le_trans (this l) hu
 next := by show 0 < 1024; decide
 last := fun h => absurd h (Nat.lt_irrefl 0)
 items := fun x hx => by cases hx
 itemsRise := fun i h => absurd h (Nat.not_lt_zero _)
 kids := hi
 kidsRise := hr
 ids := fun x hx => by cases hx
 idsRise := fun i h => absurd h (Nat.not_lt_zero _)
 used := by show usedN ⟨2, t, 0, [], l, [], []⟩ ≤ 237; simp [usedN]; exact hu

/-- Pages are dropped, one by one. -/
theorem dropsF_spec : ∀ (ids : List Nat) {s : Pr}, Sd s → (∀ i ∈ ids, Use s (i : Int)) → ids.Nodup →
 ∃ s', dropsF s 0 ids = (s', 0) ∧ Sd s' ∧ Keeps s s' ∧ (∀ j : Int, (∀ i ∈ ids, j ≠ (i : Int)) → (Use s j → Use s' j) ∧ s'.page j = s.page j ∧ s'.added j = s.added j) ∧ ((∀ i ∈ ids, (s.added (i : Int)).isSome = true) → s'.list.spare.length = s.list.spare.length + ids.length) ∧ s.list.spare.length ≤ s'.list.spare.length
 | [], s, hs, _, _ => ⟨s, rfl, hs, .refl s, fun j _ => ⟨fun h => h, rfl, rfl⟩, fun _ => rfl, Nat.le_refl _⟩
 | i :: r, s, hs, hu, hn => by
   rw [List.nodup_cons] at hn
   obtain ⟨s1, h1, hd⟩ := drop_spec hs (hu i (List.mem_cons_self ..))
   have hne : ∀ j ∈ r, (j : Int) ≠ (i : Int) := fun j hj e => hn.1 ((show j = i by omega) ▸ hj)
   obtain ⟨s2, h2, h3, h4, h5, h6, h7⟩ := dropsF_spec r hd.sd (fun j hj => hd.use _ (hne j hj) (hu j (List.mem_cons_of_mem _ hj))) hn.2
   refine ⟨s2, by rw [dropsF, if_pos rfl, h1]; exact h2, h3, hd.keeps.trans h4, fun j hj => ?_, fun hadd => ?_, ?_⟩
   ·have hji := hj i (List.mem_cons_self ..)
    obtain ⟨a1, a2, a3⟩ := h5 j (fun q hq => hj q (List.mem_cons_of_mem _ hq))
    exact ⟨fun q => a1 (hd.use j hji q), a2.trans (hd.page j hji), a3.trans (hd.added j hji)⟩
   ·rw [h6 (fun q hq => by rw [hd.added _ (hne q hq)]; exact hadd q (List.mem_cons_of_mem _ hq)), hd.spare, if_pos (hadd i (List.mem_cons_self ..)), List.length_cons]; omega
   ·have := hd.spare; omega
end Go.Proofs.YtijgbppkdaiikaaGreat

set_option linter.unusedSimpArgs false
set_option linter.unusedVariables false
namespace Go.Proofs.YtijgbppkdaiikaaGreat
open Go.Proofs.Tryz Go.Tk

structure Leaf1 (s : Pr) (id : Nat) (key val : List UInt8) (ids : List Nat) : Prop where
 page : ∃ x it, s.page (id : Int) = some x ∧ x.kind = 1 ∧ x.items = [it] ∧ x.kids = [] ∧ it.key = key ∧ ItV s it val ids
 use : ∀ i ∈ id :: ids, Use s (i : Int)
 nodup : (id :: ids).Nodup
 added : ∀ i ∈ id :: ids, (s.added (i : Int)).isSome = true

theorem node_of {s : Pr} {id : Int} {x : Page} {d : Nat} (hp : s.page id = some x) (hk : x.kind = 1 ∨ x.kind = 2) (hd : d ≤ 16) : s.node id d = .ok x := by
 unfold Pr.node
 rw [hp]
 exact if_neg (by omega)

theorem leaves1_spec {s : Pr} (hs : Sd s) {x : Item} (hx : itemOk x) :
 (∃ s', ∃ i : Nat, s.leaves [x] = (s', .ok [⟨x.key, i⟩]) ∧ Grown s s' [i] ∧ s'.page (i : Int) = some ((leafP [x]).at (s.m.txn + 1)) ∧ 2 ≤ i) ∨ (s.leaves [x] = (s, .error 9) ∧ s.list.spare.length < s.m.size / 60 + 2) := by
 have hu : sumU itemUsed [x] ≤ 237 := by have := item_used hx; simp [sumU]; omega
 have hp : parts itemUsed [x] = [[x]] := by rw [parts_eq, if_pos hu]
 have hR : Right ((leafP [x]).at (s.m.txn + 1)) := leafP_right _ (by simp) (fun y hy => by rw [List.mem_singleton.1 hy]; exact hx) (rise_one _) hu
 unfold Pr.leaves
 rw [if_neg (by simp), hp, kidsF]
 rcases add_spec hs hR with ⟨s', i, ha, hg, hpg, hi2, hi3⟩ | ⟨ha, hr⟩
 ·rw [ha]
  dsimp only
  rw [if_neg (fun h => h rfl), kidsF, Int.toNat_natCast]
  exact .inl ⟨s', i, rfl, hg, hpg, hi2⟩
 ·rw [ha]
  dsimp only
  rw [if_pos (by decide)]
  exact .inr ⟨rfl, hr⟩
theorem rooted1 {s : Pr} {k : List UInt8} {i : Nat} {x : Page} (hp : s.page (i : Int) = some x) (hk : x.kind = 1) : s.rooted [⟨k, i⟩] = (s, .ok i) := by
 unfold Pr.rooted
 rw [List.length_singleton, upF, if_neg (by simp)]
 unfold rootEnd
 dsimp only
 rw [if_neg (by simp), show kidPage [(⟨k, i⟩ : Kid)] 0 = i from rfl, downF, node_of hp (.inl hk) (by decide)]
 dsimp only
 rw [if_pos (.inl hk)]

theorem put_long {s : Pr} {root : Int} {key val : List UInt8} (h : 4096 < val.length) : s.put root key val = (s, .error 5) := if_pos (.inr h)

theorem put_first {s : Pr} (hs : Sd s) {key val : List UInt8} (hk : key.length ≤ 32) (hv : val.length ≤ 4096) (hr : s.m.size / 60 + 2 + pc val.length + 1 ≤ s.list.spare.length) :
 ∃ s', ∃ i : Nat, ∃ ids, s.put 0 key val = (s', .ok i) ∧ Leaf1 s' i key val ids ∧ ids.length = pc val.length ∧ Sd s' ∧ Keeps s s' ∧ s'.list.spare.length + pc val.length + 1 = s.list.spare.length := by
 unfold Pr.put
 rw [if_neg (by omega)]
 rcases item_spec hs key val hk hv with ⟨s1, x, new, h1, hg, hn, hxk, hxo, hxv⟩ | ⟨s1, h1, _, h3⟩
 ·rw [h1]
  unfold putMid
  dsimp only
  rw [if_pos rfl]
  have hsp := hg.spare
  have hm := hg.keeps.m
  rcases leaves1_spec hg.sd hxo with ⟨s2, i, h2, hg2, hpg, hi2⟩ | ⟨_, h3⟩
  ·rw [h2]
   unfold putEnd
   dsimp only
   rw [rooted1 hpg rfl]
   have hsp2 := hg2.spare
   simp only [List.length_singleton] at hsp2
   refine ⟨s2, i, new, rfl, ⟨⟨_, x, hpg, rfl, rfl, rfl, hxk, hxv.mono (fun j hj => hg2.page _ (hg.nuse j hj))⟩, fun j hj => ?_, ?_, fun j hj => ?_⟩, hn, hg2.sd, hg.keeps.trans hg2.keeps, by omega⟩
   ·rcases List.mem_cons.1 hj with rfl | hj
    ·exact hg2.nuse _ (List.mem_cons_self ..)
    ·exact hg2.use _ (hg.nuse j hj)
   ·exact List.nodup_cons.2 ⟨fun h => hg2.nnot i (List.mem_cons_self ..) (hg.nuse i h), hg.nodup⟩
   ·rcases List.mem_cons.1 hj with rfl | hj
    ·exact hg2.nadd _ (List.mem_cons_self ..)
    ·rw [hg2.old _ (hg.nuse j hj)]; exact hg.nadd j hj
  ·rw [hm] at h3; omega
 ·omega

theorem put_again {s : Pr} (hs : Sd s) {id : Nat} {key val w : List UInt8} {ids : List Nat} (hl : Leaf1 s id key val ids) (hk : key.length ≤ 32) (hw : w.length ≤ 4096) (hr : s.m.size / 60 + 2 + pc w.length + 1 ≤ s.list.spare.length) :
 ∃ s', ∃ i : Nat, ∃ ids', s.put (id : Int) key w = (s', .ok i) ∧ Leaf1 s' i key w ids' ∧ ids'.length = pc w.length ∧ Sd s' ∧ Keeps s s' ∧ s'.list.spare.length + pc w.length = s.list.spare.length + ids.length := by
 obtain ⟨⟨p0, it, hp0, hpk, hpi, hpks, hik, hiv⟩, huse, hnd, hadd⟩ := hl
 rw [List.nodup_cons] at hnd
 have hid0 : ¬ (id : Int) = 0 := by have := (huse id (List.mem_cons_self ..)).h0; omega
 unfold Pr.put
 rw [if_neg (by omega)]
 obtain ⟨s1, x, new, h1, hg, hn, hxk, hxo, hxv⟩ := (item_spec hs key w hk hw).resolve_right (fun ⟨_, _, _, h3⟩ => by omega)
 rw [h1]
 unfold putMid
 dsimp only
 rw [if_neg hid0]
 have hsp := hg.spare
 have hm := hg.keeps.m
 have hp1 : s1.page (id : Int) = some p0 := by rw [hg.page _ (huse id (List.mem_cons_self ..))]; exact hp0
 have hiv1 : ItV s1 it val ids := hiv.mono (fun j hj => hg.page _ (huse j (List.mem_cons_of_mem _ hj)))
 -- the old Pieces
 obtain ⟨s2, hd2, hsd2, hk2, hf2, hs2, hle2⟩ := dropsF_spec ids hg.sd (fun j hj => hg.use _ (huse j (List.mem_cons_of_mem _ hj))) hnd.2
 have hfree : s1.freeIt it = (s2, 0) := by
  unfold Pr.freeIt
  rcases hiv1.r with ⟨h2, _, h3⟩ | ⟨h2, h3⟩
  ·rw [if_pos h2]; subst h3; exact hd2
  ·rw [if_neg h2, hiv1.blob h2]; exact hd2
 have hs2' := hs2 (fun j hj => by rw [hg.old _ (huse j (List.mem_cons_of_mem _ hj))]; exact hadd j (List.mem_cons_of_mem _ hj))
 have hidne : ∀ i ∈ ids, (id : Int) ≠ (i : Int) := fun i hi e => hnd.1 ((show id = i by omega) ▸ hi)
 obtain ⟨a1, a2, a3⟩ := hf2 (id : Int) hidne
 have hu2 : Use s2 (id : Int) := a1 (hg.use _ (huse id (List.mem_cons_self ..)))
 obtain ⟨s3, hd3, hdr⟩ := drop_spec hsd2 hu2
 have hsp3 := hdr.spare
 rw [a3, hg.old _ (huse id (List.mem_cons_self ..)), if_pos (hadd id (List.mem_cons_self ..))] at hsp3
 have hm3 : s3.m = s.m := (hdr.keeps.m.trans hk2.m).trans hm
 have hnewne : ∀ j ∈ new, (∀ i ∈ ids, (j : Int) ≠ (i : Int)) ∧ (j : Int) ≠ (id : Int) := fun j hj => ⟨fun i hi e => hg.nnot j hj (e ▸ huse i (List.mem_cons_of_mem _ hi)), fun e => hg.nnot j hj (e ▸ huse id (List.mem_cons_self ..))⟩
 have hchg : s1.change (id : Int) key (some x) = ((s3.leaves [x]).1, true, (s3.leaves [x]).2) := by
  unfold Pr.change
  rw [changeF, node_of hp1 (.inl hpk) (by decide)]
  dsimp only
  rw [if_pos hpk]
  unfold Pr.changeLeaf
  rw [hpi]
  have hpos : pos ([it].map (·.key)) key = 0 := by unfold pos; simp [List.takeWhile_cons, hik, cb_self]
  rw [if_pos (by simp [hik]), hpos]
  simp only [List.getElem?_cons_zero, List.take_zero, List.nil_append, Nat.zero_add, List.drop_one, List.tail_cons]
  rw [hfree, if_neg (fun h => h rfl)]
  unfold leafEnd
  dsimp only
  rw [hd3, if_neg (fun h => h rfl)]
  rfl
 rw [hchg]
 obtain ⟨s4, i, h4, hg4, hpg, hi2⟩ := (leaves1_spec hdr.sd hxo).resolve_right (fun ⟨_, h5⟩ => by rw [hm3] at h5; omega)
 rw [h4]
 unfold putEnd
 dsimp only
 rw [rooted1 hpg rfl]
 have hsp4 := hg4.spare
 simp only [List.length_singleton] at hsp4
 have hnu3 : ∀ j ∈ new, Use s3 (j : Int) := fun j hj => hdr.use _ (hnewne j hj).2 ((hf2 _ (hnewne j hj).1).1 (hg.nuse j hj))
 refine ⟨s4, i, new, rfl, ⟨⟨_, x, hpg, rfl, rfl, rfl, hxk, hxv.mono (fun j hj => ?_)⟩, fun j hj => ?_, ?_, fun j hj => ?_⟩, hn, hg4.sd, hg.keeps.trans (hk2.trans (hdr.keeps.trans hg4.keeps)), by omega⟩
 ·rw [hg4.page _ (hnu3 j hj), hdr.page _ (hnewne j hj).2]
  exact (hf2 _ (hnewne j hj).1).2.1
 ·rcases List.mem_cons.1 hj with rfl | hj
  ·exact hg4.nuse _ (List.mem_cons_self ..)
  ·exact hg4.use _ (hnu3 j hj)
 ·exact List.nodup_cons.2 ⟨fun h => hg4.nnot i (List.mem_cons_self ..) (hnu3 i h), hg.nodup⟩
 ·rcases List.mem_cons.1 hj with rfl | hj
  ·exact hg4.nadd _ (List.mem_cons_self ..)
  ·rw [hg4.old _ (hnu3 j hj), hdr.added _ (hnewne j hj).2, (hf2 _ (hnewne j hj).1).2.2]; exact hg.nadd j hj

theorem get_leaf {s : Pr} {id : Nat} {key val : List UInt8} {ids : List Nat} (hl : Leaf1 s id key val ids) : s.get (id : Int) key = .ok (some val) := by
 obtain ⟨⟨p0, it, hp0, hpk, hpi, hpks, hik, hiv⟩, huse, hnd, hadd⟩ := hl
 have hid0 : ¬ (id : Int) = 0 := by have := (huse id (List.mem_cons_self ..)).h0; omega
 unfold Pr.get
 rw [getF, if_neg hid0, node_of hp0 (.inl hpk) (by decide)]
 dsimp only
 have hpos : pos ([it].map (·.key)) key = 0 := by unfold pos; simp [List.takeWhile_cons, hik, cb_self]
 rw [if_neg (by omega), hpi, if_pos (by simp [hik]), hpos]
 simp only [List.getElem?_cons_zero]
 rw [hiv.value]

theorem seeAll_new : ∀ (ids : List Nat) (seen : List Int), (∀ i ∈ ids, (i : Int) ∉ seen) → ids.Nodup → seeAll seen ids = (seen ++ intL ids, true)
 | [], seen, _, _ => by simp [seeAll, intL]
 | i :: r, seen, h, hn => by
   rw [List.nodup_cons] at hn
   rw [seeAll, if_neg (h i (List.mem_cons_self ..)), seeAll_new r _ (fun j hj hm => ?_) hn.2]
   ·simp [intL]
   ·rcases List.mem_append.1 hm with hm | hm
    ·exact h j (List.mem_cons_of_mem _ hj) hm
    ·rw [List.mem_singleton] at hm
     exact hn.1 ((show j = i by omega) ▸ hj)
theorem pages_leaf {s : Pr} {id : Nat} {key val : List UInt8} {ids : List Nat} (hl : Leaf1 s id key val ids) : ∃ l, s.pages (id : Int) = .ok l ∧ l.length = ids.length + 1 := by
 obtain ⟨⟨p0, it, hp0, hpk, hpi, hpks, hik, hiv⟩, huse, hnd, hadd⟩ := hl
 rw [List.nodup_cons] at hnd
 have hid0 : ¬ (id : Int) = 0 := by have := (huse id (List.mem_cons_self ..)).h0; omega
 have hout : ¬ Out [] none it.key := by
  rintro (h | ⟨t, ht, _⟩)
  ·exact cb_nil _ h
  ·cases ht
 have hli : lookItems s [] none [it] ([] ++ [(id : Int)]) = ([(id : Int)] ++ intL ids, 0) := by
  rw [lookItems, if_neg hout]
  rcases hiv.r with ⟨h2, _, h3⟩ | ⟨h2, h3⟩
  ·rw [if_pos h2, lookItems]; subst h3; simp [intL]
  ·rw [if_neg h2, hiv.blob h2]
   dsimp only
   rw [seeAll_new ids _ (fun j hj hm => by
    simp only [List.nil_append, List.mem_singleton] at hm
    exact hnd.1 ((show j = id by omega) ▸ hj)) hnd.2]
   rw [if_pos rfl, lookItems]; rfl
 have hlk : lookF s 18 0 (id : Int) [] none [] = ([(id : Int)] ++ intL ids, .ok 1) := by
  rw [lookF, if_neg (by simp), node_of hp0 (.inl hpk) (by decide)]
  dsimp only
  rw [hpi, hli, if_neg (fun h => h rfl), hpks, lookKids]; rfl
 refine ⟨sortL ([(id : Int)] ++ intL ids), ?_, ?_⟩
 ·unfold Pr.pages
  rw [if_neg hid0, hlk]
 ·rw [sortL_len, List.length_append, intL_len, List.length_singleton]; omega

/-! ### an empty pager -/
theorem freshP_spare (dk : Dk) (n : Nat) : (freshP dk n).list.spare.length = n - 2 - fmtK n := by
 show (intL ((fmtA n).drop (fmtK n))).length = _
 rw [intL_len, List.length_drop, fmtA_len]
theorem freshP_sd {dk : Dk} {n : Nat} (hs : dk.size = n) (h0 : 8 ≤ n) (h1 : n ≤ 1024) : Sd (freshP dk n) := by
 have hk : fmtK n ≤ n - 2 := by unfold fmtK; omega
 have hasc := intL_asc ((fmtA_asc n).sublist (List.drop_sublist (fmtK n) _))
 have hmem : ∀ i ∈ intL ((fmtA n).drop (fmtK n)), 2 ≤ i ∧ i < (n : Int) := fun i hi => by
  obtain ⟨j, hj, e⟩ := List.mem_map.1 hi
  have := fmtA_mem (List.mem_of_mem_drop hj)
  have e : (j : Int) = i := e
  omega
 refine ⟨⟨rfl, hs, h0, h1, by show 1 < 2 ^ 62; decide, ?_, fun j p h => (by cases h), fun j p h => (by cases h)⟩, ⟨h0, h1, hasc, List.Pairwise.nil, hmem, fun i hi => (by cases hi), fun i _ h => (by cases h)⟩, fun i hi => ⟨fun hm => ?_, fun h => by cases h⟩, rfl⟩
 ·show (intL ((fmtA n).take (fmtK n))).length ≤ 1024
  rw [intL_len, List.length_take, fmtA_len]; omega
 ·obtain ⟨a, ha, e1⟩ := List.mem_map.1 (show i ∈ intL ((fmtA n).take (fmtK n)) from hi)
  obtain ⟨c, hc, e2⟩ := List.mem_map.1 (show i ∈ intL ((fmtA n).drop (fmtK n)) from hm)
  have e1 : (a : Int) = i := e1
  have e2 : (c : Int) = i := e2
  have e : a = c := by omega
  subst e
  have hnd : (fmtA n).Nodup := (fmtA_asc n).imp (fun h => Nat.ne_of_lt h)
  rw [← List.take_append_drop (fmtK n) (fmtA n), List.nodup_append] at hnd
  exact hnd.2.2 a ha a hc rfl
end Go.Proofs.YtijgbppkdaiikaaGreat

set_option linter.unusedSimpArgs false
set_option linter.unusedVariables false
namespace Go.Proofs.YtijgbppkdaiikaaGreat
open Go.Proofs.Tryz Go.Tk

theorem ba_toList (l : List UInt8) : (⟨l.toArray⟩ : ByteArray).toList = l := ByteArray.toList_mk l
theorem blobLen_eq (z : Int) : ((IntKind.u64.wrap z).tmod 4200) = (((IntKind.u64.wrap z).toNat % 4200 : Nat) : Int) := by
 have h : 0 ≤ IntKind.u64.wrap z := by rw [IntKind.wrap_u64]; omega
 rw [Int.tmod_eq_emod_of_nonneg h]; omega

/-- An act's value. -/
def blobB (n : Nat) (x : Int) : List UInt8 := (List.range n).map (fun i => UInt8.ofNat (IntKind.u8.wrap (x + IntKind.u8.wrap ((i / 200 : Nat) : Int))).toNat)
def blobN (z : Int) : Nat := (IntKind.u64.wrap z).toNat % 4200
theorem blobB_len (n : Nat) (x : Int) : (blobB n x).length = n := by simp [blobB]
theorem blobB_succ (n : Nat) (x : Int) : blobB (n + 1) x = blobB n x ++ [UInt8.ofNat (IntKind.u8.wrap (x + IntKind.u8.wrap ((n / 200 : Nat) : Int))).toNat] := by simp [blobB, List.range_succ]

/-- A pager as Made makes it. -/
def newDk (n : Nat) : Dk := ⟨n, fun _ => none, fun _ => none, -1, false, 0⟩
noncomputable def madeP (n : Nat) : Pr := freshP (newDk n).fmt n
theorem newDk_live (n : Nat) : Live (newDk n) := ⟨rfl, rfl⟩
theorem madeP_size {n : Nat} : (newDk n).fmt.size = n := by
 unfold Dk.fmt
 show (wrs _ _).1.size = n
 rw [wrs_size]; rfl
theorem madeP_sd {n : Nat} (h0 : 8 ≤ n) (h1 : n ≤ 1024) : Sd (madeP n) := freshP_sd madeP_size h0 h1

section
variable {w0 : World} {F : Nat → Prop} {S : Store} {Hr : Heap} {w : World}

theorem same_ok {u v : Value} {a c : List UInt8} (ha : Bs S Hr u a) (hc : Bs S Hr v c) (hw : Hp w0 F S Hr w) :
 Calls Tryz.prog 17 #[u, v] w fun e w' => e = .returned (.bool (decide (a = c))) ∧ Hp w0 F S Hr w' := by
 refine enterA hw func17 rfl ntmps17 rfl rfl ?_
 refine sD (sA rfl (sE (sM rfl ?_)))
 refine L.w rfl (V.str rfl underlying22 underlying5 underlying9 ha) ?_
 refine sM rfl ?_
 refine L.w rfl (V.str rfl underlying22 underlying5 underlying9 hc) ?_
 refine L.w rfl (V.eqlStr rfl rfl) ?_
 refine sA rfl (sN ?_)
 refine R.ret1 results17 rfl (fun w hw => ?_)
 refine ⟨?_, hw⟩
 rw [ba_toList, ba_toList]
 refine ret_bool ?_
 rw [beq_iff_eq, decide_eq_true_eq]

theorem blob8_ok {p : Value} {kv : Value} {z x : Int} (hp : p.oneCell' = true) (hk : kv.oneCell' = true) (hw : Hp w0 F S Hr w) :
 Calls Tryz.prog 13 #[.agg #[p, kv, .int .i64 z, .int .u8 x]] w fun e w' => ∃ v fp, e = .returned v ∧ OwnB 5 v (blobB (blobN z) x) fp ∧ Hp w0 F S (fp ++ Hr) w' := by
 obtain ⟨n, hn⟩ : ∃ n, blobN z = n := ⟨_, rfl⟩
 have hn2 : n < 4200 := by rw [← hn]; unfold blobN; omega
 have hn3 := blobLen_eq z
 rw [show (IntKind.u64.wrap z).toNat % 4200 = n from hn] at hn3
 rw [hn]
 refine enterA hw func13 rfl ntmps13 rfl rfl ?_
 refine sD ?_
 refine L.boxA rfl rfl rfl (fun b1 => ?_)
 refine sA rfl (sE ?_)
 refine L.w rfl (V.fa rfl underlying24 rfl rfl sizeOf3) ?_
 refine L.w rfl (V.load rfl isAgg3 zAt (by rfl)) ?_
 refine L.w rfl (V.conv (c := IntKind.u64.wrap z) rfl underlying3 underlying30 rfl) ?_
 refine L.w rfl (V.rem (c := (n : Int)) rfl rfl (by decide) hn3) ?_
 refine L.w rfl (V.conv (c := (n : Int)) rfl underlying30 underlying3 (by rw [IntKind.wrap_i64]; omega)) ?_
 refine L.make (i := Tryz.t5) (z := .int .u8 0) (m := n) (c := n) rfl rfl rfl rfl underlying22 info_u8 rfl rfl rfl (Nat.le_refl _) (by show 1 * n ≤ _; omega) (by omega) (fun b10 => ?_)
 refine sA rfl (sN (sC (sD (sM rfl ?_))))
 refine L.w rfl (V.len rfl underlying22) ?_
 refine sM rfl (sN (sB ?_))
 refine C.loop (α := Nat) (fun q => [(1, .pointer (some ⟨b1, 0, none⟩)), (3, .slice (some ⟨b10, 0, none⟩) n n), (12, .int .i64 (n : Int)), (13, .int .i64 (q : Int))]) (fun q w => q ≤ n ∧ Hp w0 F S ((b10, .cells ((blobB q x).map bv ++ List.replicate (n - q) (Value.int .u8 0)).toArray 5 (0, 0)) :: (b1, .cells #[p, kv, .int .i64 z, .int .u8 x] 24 (0, 0)) :: Hr) w) (fun q => n - q) 0 ⟨rfl, rfl, rfl, rfl, trivial⟩ (fun w hw => ⟨Nat.zero_le _, hw⟩) (fun q => C.pure (fun hq => ?_))
 refine sD (sQc rfl (sN (sC ?_)))
 refine C.cond rfl (fun h14 => ?_) (fun h14 => ?_)
 ·try simp only [sq] at h14
  have hj : q < n := by omega
  obtain ⟨y, hy⟩ : ∃ y, IntKind.u8.wrap (x + IntKind.u8.wrap ((q / 200 : Nat) : Int)) = y := ⟨_, rfl⟩
  have hy0 : 0 ≤ y ∧ y ≤ 255 := by rw [← hy, IntKind.wrap_u8]; omega
  refine sK (sC (sB (sD (sM rfl (sA rfl (sN (sR (sM rfl (sM rfl ?_)))))))))
  refine L.w rfl (V.fa rfl underlying24 rfl rfl sizeOf5) ?_
  refine L.w rfl (V.load rfl isAgg5 zAt (by rfl)) ?_
  refine sM rfl ?_
  refine L.w rfl (V.quo (c := ((q / 200 : Nat) : Int)) rfl rfl (by decide) (by rw [Int.tdiv_eq_ediv_of_nonneg (by omega), w64 (by omega) (by omega)]; omega)) ?_
  refine L.w rfl (V.conv (c := IntKind.u8.wrap ((q / 200 : Nat) : Int)) rfl underlying3 underlying5 rfl) ?_
  refine L.w rfl (V.add (c := y) rfl rfl hy) ?_
  refine L.w rfl (V.indexAddr rfl rfl underlying22 sizeOf5 rfl (by omega)) ?_
  refine L.storeG (Te := 5) (b := b10) (off := 0 + q * 1) (m := 1) (vs := [.int .u8 y]) (cs := ((blobB q x).map bv ++ List.replicate (n - q) (Value.int .u8 0)).toArray) (H' := (b10, .cells ((blobB (q + 1) x).map bv ++ List.replicate (n - (q + 1)) (Value.int .u8 0)).toArray 5 (0, 0)) :: (b1, .cells #[p, kv, .int .i64 z, .int .u8 x] 24 (0, 0)) :: Hr) rfl rfl rfl sizeOf5 rfl rfl (by intro u hu; simp at hu; subst hu; rfl) ?_ (by simp [blobB_len]; omega) ?_
  ·have e : (((blobB q x).map bv ++ List.replicate (n - q) (Value.int .u8 0)).toArray.toList.take (0 + q * 1) ++ [Value.int .u8 y] ++ ((blobB q x).map bv ++ List.replicate (n - q) (Value.int .u8 0)).toArray.toList.drop (0 + q * 1 + 1)).toArray = ((blobB (q + 1) x).map bv ++ List.replicate (n - (q + 1)) (Value.int .u8 0)).toArray := by
    obtain ⟨r, hr⟩ : ∃ r, n - q = r + 1 := ⟨n - q - 1, by omega⟩
    have hl : ((blobB q x).map bv).length = q := by rw [List.length_map, blobB_len]
    rw [Nat.zero_add, Nat.mul_one, hr, List.replicate_succ, show n - (q + 1) = r from by omega, show ((blobB q x).map bv ++ Value.int .u8 0 :: List.replicate r (Value.int .u8 0)).toArray.toList = (blobB q x).map bv ++ (Value.int .u8 0 :: List.replicate r (Value.int .u8 0)) from rfl, List.take_left' hl]
    rw [show q + 1 = ((blobB q x).map bv ++ [Value.int .u8 0]).length from by rw [List.length_append, hl]; rfl, show (blobB q x).map bv ++ (Value.int .u8 0 :: List.replicate r (Value.int .u8 0)) = ((blobB q x).map bv ++ [Value.int .u8 0]) ++ List.replicate r (Value.int .u8 0) from by simp, List.drop_left' rfl]
    rw [show ((blobB q x).map bv ++ [Value.int .u8 0]).length = q + 1 from by rw [List.length_append, hl]; rfl, blobB_succ, hy, List.map_append]
    have hb : bv (UInt8.ofNat y.toNat) = .int .u8 y := by
     unfold bv
     congr 1
     have : (UInt8.ofNat y.toNat).toNat = y.toNat := by simp; omega
     rw [this]; omega
    simp only [List.map_cons, List.map_nil, hb]
   rw [e]; exact .head
  refine L.nil (N.blk (N.seq ?_))
  refine sR ?_
  refine L.w rfl (V.add (c := ((q + 1 : Nat) : Int)) rfl rfl (by rw [w64 (by omega) (by omega)]; omega)) ?_
  refine sM rfl ?_
  refine L.nil ?_
  exact N.round (q + 1) (by omega) ⟨rfl, rfl, rfl, rfl, trivial⟩ (fun w hw => ⟨by omega, hw⟩)
 ·try simp only [sq] at h14
  refine sZ rfl (sD (sM rfl (sA rfl (sN ?_))))
  refine R.ret1 results13 rfl (fun w hw => ?_)
  have eq : q = n := by omega
  subst eq
  refine ⟨_, [(b10, .cells ((blobB q x).map bv ++ List.replicate (q - q) (Value.int .u8 0)).toArray 5 (0, 0))], rfl, ?_, hw.sub zSub⟩
  rw [Nat.sub_self, List.replicate_zero, List.append_nil]
  have := Own.full (e := 5) (b := b10) (sz := 1) (m := q) (xs := (blobB q x).map bv) (by rw [List.length_map, blobB_len, Nat.mul_one]) (by omega)
  unfold OwnB
  rw [blobB_len]; exact this

theorem made_ok {n : Nat} (h0 : 8 ≤ n) (h1 : n ≤ 1024) (hw : Hp w0 F S Hr w) :
 Calls Tryz.prog 12 #[.int .i64 (n : Int)] w fun e w' => ∃ S' db b fp, e = .returned (.tuple #[.pointer (some ⟨db, 0, none⟩), .pointer (some ⟨b, 0, none⟩)]) ∧ S.le S' ∧ PgR S' b db (madeP n) fp ∧ Hp w0 F S' (fp ++ Hr) w' := by
 refine enterA hw func12 rfl ntmps12 rfl rfl ?_
 refine sD (sA rfl (sA rfl (sE (sM rfl ?_))))
 refine L.call rfl rfl rfl call51 rfl (fun w hw => diskNew_ok (n : Int) hw) ?_
 intro e a w hst hnew
 obtain ⟨db, dfp, rfl, hdk, hw⟩ : ∃ b fp, e = .returned (.pointer (some ⟨b, 0, none⟩)) ∧ DkR S b (newDk n) fp ∧ Hp w0 F S (fp ++ Hr) w := by
  rcases hnew with ⟨h, _⟩ | ⟨_, _, b, fp, h2, h3, h4⟩
  ·exact absurd ⟨by omega, by omega⟩ h
  ·exact ⟨b, fp, h2, by rw [Int.toNat_natCast] at h3; exact h3, h4⟩
 refine hst.go rfl hw ?_
 clear hst hw w a hnew
 refine sA rfl (sN (sC (sD (sM rfl ?_))))
 refine L.call rfl rfl rfl call53 rfl (fun w hw => pgFormat_ok hdk (newDk_live n) hw) ?_
 rintro _ a w hst ⟨S1, dfp1, rfl, le1, hdk1, hw⟩
 refine hst.go rfl hw ?_
 clear hst hw w a
 have hop := opens_fmt (newDk_live n) h0 h1
 have hop : opens (newDk n).fmt = .ok (madeP n) := hop
 refine sQb rfl (sN (sP rfl (sK (sD (sM rfl ?_)))))
 refine L.call rfl rfl rfl call23 rfl (fun w hw => pgOpen_ok hdk1 (fun m hm => ?_) hw) ?_
 ·have h9 : (madeP n).m = m := by
   have h8 := hop
   unfold opens at h8
   split at h8
   ·cases h8
   ·rw [hm] at h8
    dsimp only at h8
    split at h8
    ·cases h8
    ·split at h8
     ·cases h8
     ·split at h8
      ·injection h8 with h8; rw [← h8]
      ·cases h8
  rw [← h9]
  show 1 < 2 ^ 62; decide
 rintro _ a w hst ⟨S2, le2, hres⟩
 obtain ⟨b, fp, rfl, hpg, hw⟩ : ∃ b fp, _ = Ending.returned (.tuple #[.pointer (some ⟨b, 0, none⟩), .int .i64 0]) ∧ PgR S2 b db (madeP n) fp ∧ Hp w0 F S2 (fp ++ Hr) w := by
  rcases hres with ⟨s, b, fp, h2, h3, h4, h5⟩ | ⟨err, h2, _⟩
  ·rw [hop] at h2
   injection h2 with h2
   subst h2
   exact ⟨b, fp, h3, h4, h5⟩
  ·rw [hop] at h2; cases h2
 refine hst.go rfl hw ?_
 clear hst hw w a hres
 refine sM rfl (sX rfl (sX rfl (sA rfl (sA rfl (sN (sC (sD (sM rfl (sQb rfl (sN (sP rfl (sK (sD ?_)))))))))))))
 refine sM rfl (sM rfl (sA rfl (sA rfl (sN ?_))))
 refine R.ret2 results12 rfl rfl (fun w hw => ?_)
 exact ⟨S2, db, b, fp, rfl, le1.trans le2, hpg, hw⟩
end
end Go.Proofs.YtijgbppkdaiikaaGreat

set_option linter.unusedSimpArgs false
set_option linter.unusedVariables false
namespace Go.Proofs.YtijgbppkdaiikaaGreat
open Go.Proofs.Tryz Go.Tk

theorem bs_one {S : Store} {H : Heap} {b : Nat} {x : UInt8} {T : TypeId} {fz : Nat × Nat} (h : At S b (.cells #[.int .u8 (x.toNat : Int)] T fz) H) : Bs S H (.slice (some ⟨b, 0, none⟩) 1 1) [x] :=
 ⟨rfl, .inr ⟨b, 0, 1, _, _, _, rfl, ⟨Nat.le_refl _, by decide⟩, h, fun j hj => by
  have : j = 0 := by simpa using hj
  subst this; rfl⟩⟩
theorem madeP_spare (n : Nat) : (madeP n).list.spare.length = n - 2 - fmtK n := freshP_spare _ _
theorem madeP_msize (n : Nat) : (madeP n).m.size = n := rfl
theorem pc_le {n : Nat} (h : n ≤ 4096) : pc n ≤ 18 := by unfold pc; split <;> omega

section
variable {w0 : World} {F : Nat → Prop} {S : Store} {Hr : Heap} {w : World}

theorem lives8_ok (hw : Hp w0 F S Hr w) :
 Calls Tryz.prog 11 #[] w fun e w' => ∃ S', e = .returned (.bool true) ∧ S.le S' ∧ Hp w0 F S' Hr w' := by
 refine enterA hw func11 rfl ntmps11 rfl rfl ?_
 refine sD (sA rfl (sE ?_))
 refine L.call rfl rfl rfl call12 rfl (fun w hw => made_ok (n := 40) (by decide) (by decide) hw) ?_
 rintro _ a w hst ⟨S1, db, b, fp, rfl, le1, hpg, hw⟩
 refine hst.go rfl hw ?_
 clear hst hw w a
 obtain ⟨s1, i1, ids1, hput, hleaf, hidl, hsd1, hk1, hsp1⟩ := put_first (s := madeP 40) (key := [97]) (val := [120]) (madeP_sd (by decide) (by decide)) (by decide) (by decide) (by rw [madeP_spare, madeP_msize]; decide)
 refine sM rfl (sX rfl (sX rfl (sA rfl (sA rfl (sE (sM rfl ?_))))))
 refine L.slice1 rfl rfl rfl underlying22 sizeOf5 zeroValue5 rfl (by decide) (by decide) rfl rfl (fun b14 => ?_)
 refine L.convMark rfl rfl rfl underlying22 underlying5 zUp ?_
 refine L.slice1 rfl rfl rfl underlying22 sizeOf5 zeroValue5 rfl (by decide) (by decide) rfl rfl (fun b16 => ?_)
 refine L.convMark rfl rfl rfl underlying22 underlying5 zUp ?_
 refine L.call rfl rfl rfl call14 rfl (fun w hw => treePut_ok (key := [97]) (val := [120]) (Hr := (b16, .cells #[.int .u8 120] 5 (1, 2)) :: (b14, .cells #[.int .u8 97] 5 (1, 2)) :: Hr) hpg 0 (bs_one (x := 97) (.tail .head)) (bs_one (x := 120) .head) (hw.re zRe)) ?_
 rintro _ a w hst ⟨S2, fp2, id, err, rfl, le2, hpg2, hres, hw⟩
 refine hst.go rfl hw ?_
 clear hst hw w a
 rw [hput] at hpg2 hres
 obtain ⟨rfl, rfl⟩ : id = i1 ∧ err = 0 := by
  rcases hres with ⟨h1, h2⟩ | ⟨h1, _⟩
  ·injection h1 with h1; exact ⟨h1.symm, h2⟩
  ·cases h1
 have hget := get_leaf hleaf
 refine sM rfl (sX rfl (sX rfl (sA rfl (sA rfl (sE (sM rfl (sM rfl ?_)))))))
 refine L.slice1 rfl rfl rfl underlying22 sizeOf5 zeroValue5 rfl (by decide) (by decide) rfl rfl (fun b24 => ?_)
 refine L.convMark rfl rfl rfl underlying22 underlying5 zUp ?_
 refine L.call rfl rfl rfl call15 rfl (fun w hw => treeGet_ok (k := [97]) (Hr := (b24, .cells #[.int .u8 97] 5 (1, 2)) :: (b16, .cells #[.int .u8 120] 5 (1, 2)) :: (b14, .cells #[.int .u8 97] 5 (1, 2)) :: Hr) hpg2 (bs_one (x := 97) .head) (id : Int) (hw.re zRe)) ?_
 rintro _ a w hst ⟨S3, v3, t3, err3, f3, rfl, le3, hpg3, hres3, hw⟩
 refine hst.go rfl hw ?_
 clear hst hw w a
 obtain ⟨rfl, rfl, hv3⟩ : err3 = 0 ∧ t3 = true ∧ OwnB 5 v3 [120] f3 := by
  rcases hres3 with ⟨out, h1, h2, h3, h4⟩ | ⟨h1, _⟩ | ⟨h1, _⟩
  ·rw [hget] at h1; injection h1 with h1; injection h1 with h1; subst h1; exact ⟨h2, h3, h4⟩
  ·rw [hget] at h1; cases h1
  ·rw [hget] at h1; cases h1
 refine sM rfl (sX rfl (sX rfl (sX rfl (sA rfl (sA rfl (sA rfl (sE (sM rfl ?_))))))))
 refine L.w rfl (V.neqPtr rfl rfl underlying27) ?_
 refine sM rfl ?_
 refine L.know (d := 32) (u := .bool true) rfl (congrArg Value.bool rfl) ?_
 refine sM rfl (sQa rfl (sT rfl (sM rfl ?_)))
 refine L.know (d := 36) (u := .bool true) rfl (congrArg Value.bool rfl) ?_
 refine sM rfl (sQa rfl (sT rfl (sM rfl ?_)))
 refine L.know (d := 40) (u := .bool true) rfl (congrArg Value.bool rfl) ?_
 refine sM rfl (sT rfl (sM rfl ?_))
 refine L.know (d := 43) (u := .bool true) rfl (congrArg Value.bool rfl) ?_
 refine sM rfl ?_
 refine L.w rfl (V.str rfl underlying22 underlying5 underlying9 (hv3.bs (fun q hq => List.mem_append_left _ hq))) ?_
 refine L.w rfl (V.eqlStr rfl rfl) ?_
 refine sT rfl (sA rfl (sN ?_))
 refine R.ret1 results11 rfl (fun w hw => ?_)
 exact ⟨S3, by rw [beq_self_eq_true], le1.trans (le2.trans le3), hw.sub zSub⟩

theorem treeTwice_ok {z n1 x1 n2 x2 : Int} {p1 k1 p2 k2 kv : Value} {key : List UInt8} (hk : Bs S Hr kv key) (hp1 : p1.oneCell' = true) (hk1 : k1.oneCell' = true) (hp2 : p2.oneCell' = true) (hk2 : k2.oneCell' = true) (hw : Hp w0 F S Hr w) :
 Calls Tryz.prog 3 #[.int .i64 z, kv, .agg #[p1, k1, .int .i64 n1, .int .u8 x1], .agg #[p2, k2, .int .i64 n2, .int .u8 x2]] w fun e w' => e = .returned (.bool true) ∧ ∃ S', S.le S' ∧ Hp w0 F S' Hr w' := by
 obtain ⟨ka, kc, rfl, _⟩ := hk.form
 obtain ⟨nn, hN⟩ : ∃ nn, 100 + (IntKind.u64.wrap z).toNat % 400 = nn := ⟨_, rfl⟩
 have hN0 : 100 ≤ nn ∧ nn < 500 := by omega
 have hwz : (IntKind.u64.wrap z).tmod 400 = ((nn - 100 : Nat) : Int) := by
  have h : 0 ≤ IntKind.u64.wrap z := by rw [IntKind.wrap_u64]; omega
  rw [Int.tmod_eq_emod_of_nonneg h]; omega
 have hroom : ∀ m, m ≤ 4096 → nn / 60 + 2 + pc m + 1 + 19 ≤ nn - 2 - fmtK nn := fun m hm => by have := pc_le hm; unfold fmtK; omega
 refine enterA hw func3 rfl ntmps3 rfl rfl ?_
 refine sD ?_
 refine L.boxA rfl rfl rfl (fun b6 => ?_)
 refine L.boxA rfl rfl rfl (fun b7 => ?_)
 refine sA rfl (sN (sC (sD ?_)))
 refine L.call rfl rfl rfl call11 rfl (fun w hw => lives8_ok hw) ?_
 rintro _ a w hst ⟨So28, rfl, leo28, hw⟩
 refine hst.go rfl hw ?_
 clear hst hw w a
 refine sV rfl (sM rfl ?_)
 refine L.know (d := 30) (u := .bool false) rfl (congrArg Value.bool rfl) ?_
 refine sM rfl ?_
 refine L.w rfl (V.len rfl underlying22) ?_
 refine sQe rfl (sU rfl (sN ?_))
 refine C.cond rfl (fun h34 => ?_) (fun h34 => ?_)
 ·try simp only [sq] at h34
  refine sD ?_
  refine L.call rfl rfl rfl call11 rfl (fun w hw => lives8_ok hw) ?_
  rintro _ a w hst ⟨So35, rfl, leo35, hw⟩
  refine hst.go rfl hw ?_
  clear hst hw w a
  refine sA rfl (sN ?_)
  refine R.ret1 results3 rfl (fun w hw => ?_)
  exact ⟨rfl, So35, leo28.trans leo35, hw.sub zSub⟩
 ·try simp only [sq] at h34
  have hkl : key.length ≤ 32 := by omega
  have hk0 := hk.mono (Sees.le leo28 _)
  refine sK (sD (sM rfl ?_))
  refine L.w rfl (V.conv (c := IntKind.u64.wrap z) rfl underlying3 underlying30 rfl) ?_
  refine L.w rfl (V.rem (c := ((nn - 100 : Nat) : Int)) rfl rfl (by decide) hwz) ?_
  refine L.w rfl (V.conv (c := ((nn - 100 : Nat) : Int)) rfl underlying30 underlying3 (by rw [IntKind.wrap_i64]; omega)) ?_
  refine L.w rfl (V.add (c := (nn : Int)) rfl rfl (by rw [w64 (by omega) (by omega)]; omega)) ?_
  refine L.call rfl rfl rfl call12 rfl (fun w hw => made_ok (n := nn) (by omega) (by omega) hw) ?_
  rintro _ a w hst ⟨S1, db, b, fp, rfl, le1, hpg, hw⟩
  refine hst.go rfl hw ?_
  clear hst hw w a
  refine sM rfl (sX rfl (sX rfl (sA rfl (sA rfl (sE (sM rfl ?_))))))
  refine L.w rfl (V.conv (c := IntKind.u64.wrap z) rfl underlying3 underlying30 rfl) ?_
  refine L.w rfl (V.rem (c := ((nn - 100 : Nat) : Int)) rfl rfl (by decide) hwz) ?_
  refine L.w rfl (V.conv (c := ((nn - 100 : Nat) : Int)) rfl underlying30 underlying3 (by rw [IntKind.wrap_i64]; omega)) ?_
  refine L.w rfl (V.add (c := (nn : Int)) rfl rfl (by rw [w64 (by omega) (by omega)]; omega)) ?_
  refine L.call rfl rfl rfl call12 rfl (fun w hw => made_ok (n := nn) (by omega) (by omega) hw) ?_
  rintro _ a w hst ⟨S2, db2, bq, fq, rfl, le2, hpq, hw⟩
  refine hst.go rfl hw ?_
  clear hst hw w a
  have hpg := hpg.mono le2
  have hk2' := hk0.mono (Sees.le (le1.trans le2) _)
  have hsd : Sd (madeP nn) := madeP_sd (by omega) (by omega)
  refine sM rfl (sX rfl (sX rfl (sA rfl (sA rfl (sN (sC (sD (sM rfl ?_))))))))
  refine L.w rfl (V.eqlPtr rfl rfl underlying27) ?_
  refine sM rfl ?_
  refine L.know (d := 56) (u := .bool false) rfl (congrArg Value.bool rfl) ?_
  refine sM rfl ?_
  refine L.w rfl (V.eqlPtr rfl rfl underlying27) ?_
  refine sU rfl (sN (sP rfl (sK (sC ?_))))
  refine C.drawC [] (Hp w0 F S2 ((b7, .cells #[p2, k2, .int .i64 n2, .int .u8 x2] 24 (0, 0)) :: (b6, .cells #[p1, k1, .int .i64 n1, .int .u8 x1] 24 (0, 0)) :: Hr)) (fun w h => h.sub zSub) (by kernel_rfl) rfl (fun w hw => hw.drawn _) ?_
  refine D.take 0 (listed' := #[true, false, false, false, false, false]) rfl (by kernel_rfl) rfl rfl rfl rfl (V.loadBox rfl isAgg24 sizeOf24 (.tail .head) rfl) (fun w h => h.sub zSub) ?_
  refine D.take 2 (listed' := #[true, false, true, false, false, false]) rfl (by kernel_rfl) rfl rfl rfl rfl (V.loadBox rfl isAgg24 sizeOf24 .head rfl) (fun w h => h.sub zSub) ?_
  refine D.step 1 (listed' := #[true, true, true, false, false, false]) (by kernel_rfl) rfl rfl (.inr (fun w h => h.sub zSub)) ?_
  refine L.call rfl rfl rfl call13 rfl (fun w hw => blob8_ok hp1 hk1 hw) ?_
  rintro _ a w hst ⟨v13, f13, rfl, ho13, hw⟩
  refine hst.go rfl hw ?_
  clear hst hw w a
  obtain ⟨V1, hV1⟩ : ∃ q, blobB (blobN n1) x1 = q := ⟨_, rfl⟩
  rw [hV1] at ho13
  obtain ⟨a13, c13, rfl⟩ := ho13.form
  refine D.back ?_
  refine D.step 3 (listed' := #[true, true, true, true, false, false]) (by kernel_rfl) rfl rfl (.inr (fun w h => h.sub zSub)) ?_
  refine L.call rfl rfl rfl call13 rfl (fun w hw => blob8_ok hp2 hk2 hw) ?_
  rintro _ a w hst ⟨v14, f14, rfl, ho14, hw⟩
  refine hst.go rfl hw ?_
  clear hst hw w a
  obtain ⟨V2, hV2⟩ : ∃ q, blobB (blobN n2) x2 = q := ⟨_, rfl⟩
  rw [hV2] at ho14
  obtain ⟨a14, c14, rfl⟩ := ho14.form
  refine D.back ?_
  refine D.step 4 (listed' := #[true, true, true, true, true, false]) (by kernel_rfl) rfl rfl (.inr (fun w h => h.sub zSub)) ?_
  refine sA rfl ?_
  refine D.back ?_
  refine D.step 5 (listed' := #[true, true, true, true, true, true]) (by kernel_rfl) rfl rfl (.inr (fun w h => h.sub zSub)) ?_
  refine sA rfl ?_
  refine D.back ?_
  refine D.done (by kernel_rfl) (.inr (fun w h => h.sub zSub)) (N.seq ?_)
  refine sD (sM rfl (sM rfl (sM rfl ?_)))
  refine L.call rfl rfl rfl call14 rfl (fun w hw => treePut_ok (key := key) (val := V1) (Hr := f14 ++ (f13 ++ (fq ++ ((b7, .cells #[p2, k2, .int .i64 n2, .int .u8 x2] 24 (0, 0)) :: (b6, .cells #[p1, k1, .int .i64 n1, .int .u8 x1] 24 (0, 0)) :: Hr)))) hpg 0 (hk2'.mono (Sees.of (.refl _) (fun q hq => by simp [hq]))) (ho13.bs (fun q hq => by simp [hq])) (hw.re zRe)) ?_
  rintro _ a w hst ⟨S3, fp3, id, err, rfl, le3, hpg3, hres, hw⟩
  refine hst.go rfl hw ?_
  clear hst hw w a
  have hpq3 := hpq.mono le3
  have hk3 := hk2'.mono (Sees.le le3 _)
  refine sM rfl (sX rfl (sX rfl (sA rfl (sA rfl (sN (sC (sD (sM rfl (sQb rfl (sN ?_))))))))))
  refine C.cond rfl (fun h72 => ?_) (fun h72 => ?_)
  ·try simp only [sq] at h72
   have h72 : err ≠ 0 := h72
   obtain ⟨hlong, rfl⟩ : 4096 < V1.length ∧ err = 5 := by
    rcases Nat.lt_or_ge 4096 V1.length with h | h
    ·refine ⟨h, ?_⟩
     rw [put_long h] at hres
     rcases hres with ⟨h1, _⟩ | ⟨h1, _⟩
     ·cases h1
     ·injection h1 with h1; exact h1.symm
    ·exfalso
     obtain ⟨s1, i1, ids1, hput, _⟩ := put_first hsd hkl h (by rw [madeP_spare, madeP_msize]; have := hroom _ h; omega)
     rw [hput] at hres
     rcases hres with ⟨_, h1⟩ | ⟨h1, _⟩
     ·exact h72 h1
     ·cases h1
   refine sD (sM rfl (sQa rfl (sM rfl ?_)))
   refine L.know (d := 75) (u := .bool true) rfl (congrArg Value.bool rfl) ?_
   refine sM rfl ?_
   refine L.w rfl (V.len rfl underlying22) ?_
   refine sQe rfl (sT rfl (sA rfl (sN ?_)))
   refine R.ret1 results3 rfl (fun w hw => ?_)
   refine ⟨?_, S3, leo28.trans (le1.trans (le2.trans le3)), hw.sub zSub⟩
   exact ret_bool ⟨fun _ => rfl, fun _ => decide_eq_true (by omega)⟩
  ·try simp only [sq] at h72
   have h72 : err = 0 := h72
   have hV1l : V1.length ≤ 4096 := by
    rcases Nat.lt_or_ge 4096 V1.length with h | h
    ·rw [put_long h] at hres
     rcases hres with ⟨h1, _⟩ | ⟨_, h1, _⟩
     ·cases h1
     ·exact absurd h72 h1
    ·exact h
   obtain ⟨s1, i1, ids1, hput, hleaf, hidl, hsd1, hkp1, hsp1⟩ := put_first hsd hkl hV1l (by rw [madeP_spare, madeP_msize]; have := hroom _ hV1l; omega)
   have hroom1 := hroom _ hV1l
   rw [hput] at hpg3 hres
   obtain rfl : id = i1 := by
    rcases hres with ⟨h1, _⟩ | ⟨h1, _⟩
    ·injection h1 with h1; exact h1.symm
    ·cases h1
   clear hres
   dsimp only at hpg3
   rw [madeP_spare] at hsp1
   have hm1 : s1.m.size = nn := by rw [hkp1.m]; rfl
   refine sK (sD (sM rfl (sM rfl (sM rfl (sM rfl ?_)))))
   refine L.call rfl rfl rfl call14 rfl (fun w hw => treePut_ok (key := key) (val := V2) (Hr := f14 ++ (f13 ++ (fq ++ ((b7, .cells #[p2, k2, .int .i64 n2, .int .u8 x2] 24 (0, 0)) :: (b6, .cells #[p1, k1, .int .i64 n1, .int .u8 x1] 24 (0, 0)) :: Hr)))) hpg3 (id : Int) (hk3.mono (Sees.of (.refl _) (fun q hq => by simp [hq]))) (ho14.bs (fun q hq => by simp [hq])) (hw.re zRe)) ?_
   rintro _ a w hst ⟨S4, fp4, id2, err2, rfl, le4, hpg4, hres2, hw⟩
   refine hst.go rfl hw ?_
   clear hst hw w a
   have hpq4 := hpq3.mono le4
   have hk4 := hk3.mono (Sees.le le4 _)
   refine sM rfl (sX rfl (sX rfl (sA rfl (sA rfl (sE (sM rfl (sM rfl (sM rfl ?_))))))))
   refine L.call rfl rfl rfl call14 rfl (fun w hw => treePut_ok (key := key) (val := V2) (Hr := fp4 ++ (f14 ++ (f13 ++ ((b7, .cells #[p2, k2, .int .i64 n2, .int .u8 x2] 24 (0, 0)) :: (b6, .cells #[p1, k1, .int .i64 n1, .int .u8 x1] 24 (0, 0)) :: Hr)))) hpq4 0 (hk4.mono (Sees.of (.refl _) (fun q hq => by simp [hq]))) (ho14.bs (fun q hq => by simp [hq])) (hw.re zRe)) ?_
   rintro _ a w hst ⟨S5, fq5, id3, err3, rfl, le5, hpq5, hres3, hw⟩
   refine hst.go rfl hw ?_
   clear hst hw w a
   have hpg5 := hpg4.mono le5
   have hk5 := hk4.mono (Sees.le le5 _)
   have hboth : (4096 < V2.length ∧ err2 = 5 ∧ err3 = 5) ∨ (V2.length ≤ 4096 ∧ err2 = 0 ∧ err3 = 0) := by
    rcases Nat.lt_or_ge 4096 V2.length with h | h
    ·rw [put_long h] at hres2 hres3
     refine .inl ⟨h, ?_, ?_⟩
     ·rcases hres2 with ⟨h1, _⟩ | ⟨h1, _⟩
      ·cases h1
      ·injection h1 with h1; exact h1.symm
     ·rcases hres3 with ⟨h1, _⟩ | ⟨h1, _⟩
      ·cases h1
      ·injection h1 with h1; exact h1.symm
    ·have hr2 := hroom _ h
     obtain ⟨_, _, _, hput2, _⟩ := put_again hsd1 hleaf hkl h (by rw [hm1]; have := pc_le hV1l; omega)
     obtain ⟨_, _, _, hput3, _⟩ := put_first hsd hkl h (by rw [madeP_spare, madeP_msize]; omega)
     rw [hput2] at hres2
     rw [hput3] at hres3
     refine .inr ⟨h, ?_, ?_⟩
     ·rcases hres2 with ⟨_, h1⟩ | ⟨h1, _⟩
      ·exact h1
      ·cases h1
     ·rcases hres3 with ⟨_, h1⟩ | ⟨h1, _⟩
      ·exact h1
      ·cases h1
   refine sM rfl (sX rfl (sX rfl (sA rfl (sA rfl (sN (sC (sD (sM rfl (sQb rfl (sM rfl ?_))))))))))
   refine L.fork (d := 97) rfl (fun h97 => ?_) (fun h97 => ?_)
   ·try simp only [sq] at h97
    have h97 : err2 ≠ 0 := h97
    obtain ⟨hl2, he2, he3⟩ : 4096 < V2.length ∧ err2 = 5 ∧ err3 = 5 := by
     rcases hboth with h | h
     ·exact h
     ·exact absurd h.2.1 h97
    subst he2 he3
    refine sS rfl (sS rfl (sT rfl (sN (sO rfl (sD (sM rfl (sM rfl (sQa rfl (sM rfl ?_)))))))))
    refine L.know (d := 104) (u := .bool true) rfl (congrArg Value.bool rfl) ?_
    refine sM rfl ?_
    refine L.w rfl (V.len rfl underlying22) ?_
    refine sQe rfl (sT rfl (sA rfl (sN ?_)))
    refine R.ret1 results3 rfl (fun w hw => ?_)
    refine ⟨?_, S5, leo28.trans (le1.trans (le2.trans (le3.trans (le4.trans le5)))), hw.sub zSub⟩
    exact ret_bool ⟨fun _ => rfl, fun _ => decide_eq_true (by omega)⟩
   ·try simp only [sq] at h97
    have h97 : err2 = 0 := h97
    obtain ⟨hl2, he3⟩ : V2.length ≤ 4096 ∧ err3 = 0 := by
     rcases hboth with h | h
     ·omega
     ·exact ⟨h.1, h.2.2⟩
    subst h97 he3
    refine sM rfl (sQb rfl (sU rfl (sN (sP rfl (sK (sD (sM rfl (sM rfl (sM rfl ?_)))))))))
    have hr2 := hroom _ hl2
    obtain ⟨s2, i2, ids2, hput2, hleaf2, hidl2, hsd2, hkp2, hsp2⟩ := put_again hsd1 hleaf hkl hl2 (by rw [hm1]; have := pc_le hV1l; omega)
    obtain ⟨s3, i3, ids3, hput3, hleaf3, hidl3, hsd3, hkp3, hsp3⟩ := put_first hsd hkl hl2 (by rw [madeP_spare, madeP_msize]; omega)
    rw [madeP_spare] at hsp3
    rw [hput2] at hpg5 hres2
    rw [hput3] at hpq5 hres3
    obtain rfl : id2 = i2 := by
     rcases hres2 with ⟨h1, _⟩ | ⟨h1, _⟩
     ·injection h1 with h1; exact h1.symm
     ·cases h1
    obtain rfl : id3 = i3 := by
     rcases hres3 with ⟨h1, _⟩ | ⟨h1, _⟩
     ·injection h1 with h1; exact h1.symm
     ·cases h1
    clear hres2 hres3 hboth
    dsimp only at hpg5 hpq5
    have hget := get_leaf hleaf2
    obtain ⟨l2, hpl2, hll2⟩ := pages_leaf hleaf2
    obtain ⟨l3, hpl3, hll3⟩ := pages_leaf hleaf3
    refine L.call rfl rfl rfl call15 rfl (fun w hw => treeGet_ok (k := key) (Hr := fq5 ++ (f14 ++ (f13 ++ ((b7, .cells #[p2, k2, .int .i64 n2, .int .u8 x2] 24 (0, 0)) :: (b6, .cells #[p1, k1, .int .i64 n1, .int .u8 x1] 24 (0, 0)) :: Hr)))) hpg5 (hk5.mono (Sees.of (.refl _) (fun q hq => by simp [hq]))) (id2 : Int) (hw.re zRe)) ?_
    rintro _ a w hst ⟨S6, v6, t6, err6, f6, rfl, le6, hpg6, hres6, hw⟩
    refine hst.go rfl hw ?_
    clear hst hw w a
    obtain ⟨rfl, rfl, hv6⟩ : err6 = 0 ∧ t6 = true ∧ OwnB 5 v6 V2 f6 := by
     rcases hres6 with ⟨out, h1, h2, h3, h4⟩ | ⟨h1, _⟩ | ⟨h1, _⟩
     ·rw [hget] at h1; injection h1 with h1; injection h1 with h1; subst h1; exact ⟨h2, h3, h4⟩
     ·rw [hget] at h1; cases h1
     ·rw [hget] at h1; cases h1
    have hpq6 := hpq5.mono le6
    refine sM rfl (sX rfl (sX rfl (sX rfl (sA rfl (sA rfl (sA rfl (sE (sM rfl (sM rfl ?_)))))))))
    refine L.call rfl rfl rfl call16 rfl (fun w hw => pagesT_ok (Hr := f6 ++ (fq5 ++ (f14 ++ (f13 ++ ((b7, .cells #[p2, k2, .int .i64 n2, .int .u8 x2] 24 (0, 0)) :: (b6, .cells #[p1, k1, .int .i64 n1, .int .u8 x1] 24 (0, 0)) :: Hr))))) hpg6 (id2 : Int) (hw.re zRe)) ?_
    rintro _ a w hst ⟨S7, v7, f7, err7, rfl, le7, hres7, hw⟩
    refine hst.go rfl hw ?_
    clear hst hw w a
    obtain ⟨rfl, ho7⟩ : err7 = 0 ∧ Own 3 1 v7 l2.length (l2.map iv) f7 := by
     rcases hres7 with ⟨l, h1, h2, h3, _⟩ | ⟨h1, _⟩
     ·rw [hpl2] at h1; injection h1 with h1; subst h1; exact ⟨h2, h3⟩
     ·rw [hpl2] at h1; cases h1
    obtain ⟨a7, c7, rfl⟩ := ho7.form
    have hpg7 := hpg6.mono le7
    have hpq7 := hpq6.mono le7
    refine sM rfl (sX rfl (sX rfl (sA rfl (sA rfl (sE (sM rfl (sM rfl ?_)))))))
    refine L.call rfl rfl rfl call16 rfl (fun w hw => pagesT_ok (Hr := f7 ++ (fp4 ++ (f6 ++ (f14 ++ (f13 ++ ((b7, .cells #[p2, k2, .int .i64 n2, .int .u8 x2] 24 (0, 0)) :: (b6, .cells #[p1, k1, .int .i64 n1, .int .u8 x1] 24 (0, 0)) :: Hr)))))) hpq7 (id3 : Int) (hw.re zRe)) ?_
    rintro _ a w hst ⟨S8, v8, f8, err8, rfl, le8, hres8, hw⟩
    refine hst.go rfl hw ?_
    clear hst hw w a
    obtain ⟨rfl, ho8⟩ : err8 = 0 ∧ Own 3 1 v8 l3.length (l3.map iv) f8 := by
     rcases hres8 with ⟨l, h1, h2, h3, _⟩ | ⟨h1, _⟩
     ·rw [hpl3] at h1; injection h1 with h1; subst h1; exact ⟨h2, h3⟩
     ·rw [hpl3] at h1; cases h1
    obtain ⟨a8, c8, rfl⟩ := ho8.form
    have hpg8 := hpg7.mono le8
    have hpq8 := hpq7.mono le8
    refine sM rfl (sX rfl (sX rfl (sA rfl (sA rfl (sE (sM rfl (sQa rfl (sM rfl ?_))))))))
    refine L.know (d := 131) (u := .bool true) rfl (congrArg Value.bool rfl) ?_
    refine sM rfl (sT rfl (sM rfl ?_))
    refine L.know (d := 134) (u := .bool true) rfl (congrArg Value.bool rfl) ?_
    refine sM rfl (sM rfl ?_)
    refine L.call rfl rfl rfl call17 rfl (fun w hw => same_ok (a := V2) (c := V2) (hv6.bs (fun q hq => by simp [hq])) (ho14.bs (fun q hq => by simp [hq])) hw) ?_
    rintro _ a w hst ⟨rfl, hw⟩
    refine hst.go rfl hw ?_
    clear hst hw w a
    refine sT rfl (sM rfl ?_)
    refine L.know (d := 139) (u := .bool true) rfl (congrArg Value.bool (decide_eq_true rfl)) ?_
    refine sM rfl (sQa rfl (sT rfl (sM rfl ?_)))
    refine L.know (d := 143) (u := .bool true) rfl (congrArg Value.bool rfl) ?_
    refine sM rfl (sQa rfl (sT rfl (sM rfl ?_)))
    refine L.know (d := 147) (u := .bool true) rfl (congrArg Value.bool rfl) ?_
    refine sM rfl ?_
    refine L.w rfl (V.len rfl underlying37) ?_
    refine sM rfl ?_
    refine L.w rfl (V.len rfl underlying37) ?_
    refine sQa rfl (sT rfl (sM rfl ?_))
    refine L.know (d := 154) (u := .bool true) rfl (congrArg Value.bool (by simp; omega)) ?_
    refine sM rfl ?_
    refine L.call rfl rfl rfl call18 rfl (fun w hw => prSpare_ok (Hr := f8 ++ (f7 ++ (fq5 ++ (f6 ++ (f14 ++ (f13 ++ ((b7, .cells #[p2, k2, .int .i64 n2, .int .u8 x2] 24 (0, 0)) :: (b6, .cells #[p1, k1, .int .i64 n1, .int .u8 x1] 24 (0, 0)) :: Hr))))))) hpg8 (hw.re zRe)) ?_
    rintro _ a w hst ⟨v9, f9, rfl, ho9, hw⟩
    refine hst.go rfl hw ?_
    clear hst hw w a
    obtain ⟨a9, c9, rfl⟩ := ho9.form
    refine L.w rfl (V.len rfl underlying37) ?_
    refine sM rfl ?_
    refine L.call rfl rfl rfl call18 rfl (fun w hw => prSpare_ok (Hr := f9 ++ (fp4 ++ (f8 ++ (f7 ++ (f6 ++ (f14 ++ (f13 ++ ((b7, .cells #[p2, k2, .int .i64 n2, .int .u8 x2] 24 (0, 0)) :: (b6, .cells #[p1, k1, .int .i64 n1, .int .u8 x1] 24 (0, 0)) :: Hr)))))))) hpq8 (hw.re zRe)) ?_
    rintro _ a w hst ⟨v10, f10, rfl, ho10, hw⟩
    refine hst.go rfl hw ?_
    clear hst hw w a
    obtain ⟨a10, c10, rfl⟩ := ho10.form
    refine L.w rfl (V.len rfl underlying37) ?_
    refine sQa rfl (sT rfl (sA rfl (sN ?_)))
    refine R.ret1 results3 rfl (fun w hw => ?_)
    refine ⟨?_, S8, leo28.trans (le1.trans (le2.trans (le3.trans (le4.trans (le5.trans (le6.trans (le7.trans le8))))))), hw.sub zSub⟩
    refine ret_bool ⟨fun _ => rfl, fun _ => ?_⟩
    simp; omega
end
end Go.Proofs.YtijgbppkdaiikaaGreat
