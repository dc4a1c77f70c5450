/- The walks, joined. -/
import Derived.Test.YtijgbppkdaiikaaGreatCw3
set_option linter.unusedSimpArgs false
set_option linter.unusedVariables false
namespace Go.Proofs.YtijgbppkdaiikaaGreat
open Go.Proofs.Tryz Go.Tk

/-- What Save keeps. -/
structure Sv where
 list : Fl
 added : Int → Option Page
 root : Nat
def Pr.save (s : Pr) : Sv := ⟨s.list, s.added, s.root⟩
/-- A saved transaction: its cells, its blocks. -/
def SvR (S : Store) (c : List Value) (v : Sv) (fp : Heap) : Prop :=
 ∃ lb am al ac lfp, c = [.pointer (some ⟨lb, 0, none⟩), .map (some am), .int .i64 (v.root : Int)] ∧ fp = (am, mobj al ac) :: lfp ∧ FlR S lb v.list lfp ∧ MapP S al ac v.added

section
variable {w0 : World} {F : Nat → Prop} {S : Store} {Hr : Heap} {w : World}

theorem prSave_ok {b db : Nat} {s : Pr} {fp : Heap} (hd : PgR S b db s fp) (hw : Hp w0 F S (fp ++ Hr) w) :
 Calls Tryz.prog 28 #[.pointer (some ⟨b, 0, none⟩)] w fun e w' => ∃ S' c f, e = .returned (.agg c.toArray) ∧ S.le S' ∧ PgR S' b db s fp ∧ SvR S' c s.save f ∧ Hp w0 F S' (f ++ (fp ++ Hr)) w' := by
 have hd0 := hd
 obtain ⟨hok, lb, am, al, ac, lfp, dfp, cv, rfl, hl, hdk, hm, hch⟩ := hd
 simp only [List.cons_append, List.append_assoc] at hw
 refine enterA hw func28 rfl ntmps28 rfl rfl ?_
 refine sD ?_
 refine L.allocA rfl rfl zeroValue65 (fun b2 => ?_)
 refine sN (sC (sD (sM rfl ?_)))
 refine L.w rfl (V.eqlPtr rfl rfl underlying27) ?_
 refine sN (sP rfl (sK (sC ?_)))
 refine C.drawC [15] (Hp w0 F S ((b, pgObj db lb am s.m cv s.root s.dead) :: Hr)) (fun w h => h.sub zSub) (by kernel_rfl) rfl (fun w hw => hw.drawn _) ?_
 refine D.take 0 (listed' := #[true, false, false, false, false, false, false, false, false, false, false, false, false, false, false, false]) rfl (by kernel_rfl) rfl rfl rfl rfl (V.move rfl) (fun w h => h.sub zSub) ?_
 refine D.take 1 (listed' := #[true, true, false, false, false, false, false, false, false, false, false, false, false, false, false, false]) rfl (by kernel_rfl) rfl rfl rfl rfl (V.nilCheck rfl) (fun w h => h.sub zSub) ?_
 refine D.take 2 (listed' := #[true, true, true, false, false, false, false, false, false, false, false, false, false, false, false, false]) rfl (by kernel_rfl) rfl rfl rfl rfl (V.fa rfl underlying141 rfl rfl sizeOf62) (fun w h => h.sub zSub) ?_
 refine D.take 3 (listed' := #[true, true, true, true, false, false, false, false, false, false, false, false, false, false, false, false]) rfl (by kernel_rfl) rfl rfl rfl rfl (V.load rfl isAgg62 .head (by rfl)) (fun w h => h.sub zSub) ?_
 refine D.take 5 (listed' := #[true, true, true, true, false, true, false, false, false, false, false, false, false, false, false, false]) rfl (by kernel_rfl) rfl rfl rfl rfl (V.move rfl) (fun w h => h.sub zSub) ?_
 refine D.take 6 (listed' := #[true, true, true, true, false, true, true, false, false, false, false, false, false, false, false, false]) rfl (by kernel_rfl) rfl rfl rfl rfl (V.nilCheck rfl) (fun w h => h.sub zSub) ?_
 refine D.take 7 (listed' := #[true, true, true, true, false, true, true, true, false, false, false, false, false, false, false, false]) rfl (by kernel_rfl) rfl rfl rfl rfl (V.fa rfl underlying141 rfl rfl sizeOf63) (fun w h => h.sub zSub) ?_
 refine D.take 8 (listed' := #[true, true, true, true, false, true, true, true, true, false, false, false, false, false, false, false]) rfl (by kernel_rfl) rfl rfl rfl rfl (V.load rfl isAgg63 .head (by rfl)) (fun w h => h.sub zSub) ?_
 refine D.take 10 (listed' := #[true, true, true, true, false, true, true, true, true, false, true, false, false, false, false, false]) rfl (by kernel_rfl) rfl rfl rfl rfl (V.move rfl) (fun w h => h.sub zSub) ?_
 refine D.take 11 (listed' := #[true, true, true, true, false, true, true, true, true, false, true, true, false, false, false, false]) rfl (by kernel_rfl) rfl rfl rfl rfl (V.nilCheck rfl) (fun w h => h.sub zSub) ?_
 refine D.take 12 (listed' := #[true, true, true, true, false, true, true, true, true, false, true, true, true, false, false, false]) rfl (by kernel_rfl) rfl rfl rfl rfl (V.fa rfl underlying141 rfl rfl sizeOf3) (fun w h => h.sub zSub) ?_
 refine D.take 13 (listed' := #[true, true, true, true, false, true, true, true, true, false, true, true, true, true, false, false]) rfl (by kernel_rfl) rfl rfl rfl rfl (V.load rfl isAgg3 .head (by rfl)) (fun w h => h.sub zSub) ?_
 refine D.step 4 (listed' := #[true, true, true, true, true, true, true, true, true, false, true, true, true, true, false, false]) (by kernel_rfl) rfl rfl (.inr (fun w h => h.sub zSub)) ?_
 refine L.call rfl rfl rfl call69 rfl (fun w hw => flCopy_ok hl (hw.take (.skip (.skip (.skip .done))))) ?_
 rintro _ a w hst ⟨S1, b10, f10, rfl, le1, hl1, hw⟩
 refine hst.go rfl hw ?_
 clear hst hw w a
 refine D.back ?_
 refine D.step 9 (listed' := #[true, true, true, true, true, true, true, true, true, true, true, true, true, true, false, false]) (by kernel_rfl) rfl rfl (.inr (fun w h => (h.less le1).sub zSub)) ?_
 refine L.call rfl rfl rfl call93 rfl (fun w hw => mapsClone_ok (l := al) (ck := ac) (r := am) (.apr (.apr (.tail (.tail .head)))) hw) ?_
 rintro _ a w hst ⟨b15, rfl, hw⟩
 refine hst.go rfl hw ?_
 clear hst hw w a
 refine D.back ?_
 refine D.step 14 (listed' := #[true, true, true, true, true, true, true, true, true, true, true, true, true, true, true, false]) (by kernel_rfl) rfl rfl (.inr (fun w h => (h.less le1).sub zSub)) ?_
 refine L.w rfl (V.build rfl underlying65 zeroValue65 (pl := [(0, 1), (1, 1), (2, 1)]) (fun w => by kernel_rfl) (Fills.cons rfl rfl rfl zPut (Fills.cons rfl rfl rfl zPut (Fills.cons rfl rfl rfl zPut Fills.nil)))) ?_
 refine D.back ?_
 refine D.step 15 (listed' := #[true, true, true, true, true, true, true, true, true, true, true, true, true, true, true, true]) (by kernel_rfl) rfl rfl (.inr (fun w h => (h.less le1).sub zSub)) ?_
 refine L.storeBox rfl rfl rfl sizeOf65 rfl rfl (by rfl) zUp ?_
 refine D.back ?_
 refine D.done (by kernel_rfl) (.inl ⟨15, by simp, rfl⟩) (N.seq ?_)
 refine R.retc results28 rfl (fun w hw => run_box hw isAgg65 sizeOf65 zAt rfl) (fun w hw => ?_)
 refine ⟨S1, _, (b15, mobj al ac) :: f10, rfl, le1, hd0.mono le1, ⟨b10, b15, al, ac, f10, rfl, rfl, hl1, hm.mono le1⟩, ?_⟩
 exact Hp.re (hw.sub (H' := (b15, mobj al ac) :: (f10 ++ (lfp ++ ((b, pgObj db lb am s.m cv s.root s.dead) :: (am, mobj al ac) :: (dfp ++ Hr))))) zSub) zRe
end
end Go.Proofs.YtijgbppkdaiikaaGreat

set_option linter.unusedSimpArgs false
set_option linter.unusedVariables false
namespace Go.Proofs.YtijgbppkdaiikaaGreat
open Go.Proofs.Tryz Go.Tk

def Pr.back (s : Pr) (v : Sv) : Pr := if s.dead then s else { s with list := v.list, added := v.added, root := v.root }
/-- May a pager be put back to this? -/
structure SvOk (s : Pr) (v : Sv) : Prop where
 size : v.list.size = s.m.size
 right : ∀ j p, v.added j = some p → Right p
 atxn : ∀ j p, v.added j = some p → p.txn = s.m.txn + 1
theorem PrOk.sv {s : Pr} (h : PrOk s) : SvOk s s.save := ⟨h.size, h.right, h.atxn⟩

section
variable {w0 : World} {F : Nat → Prop} {S : Store} {Hr : Heap} {w : World}

theorem prBack_ok {b db : Nat} {s : Pr} {fp : Heap} {c : List Value} {v : Sv} {f : Heap} (hd : PgR S b db s fp) (hv : SvR S c v f) (hvo : SvOk s v) (hw : Hp w0 F S (fp ++ (f ++ Hr)) w) :
 Calls Tryz.prog 29 #[.pointer (some ⟨b, 0, none⟩), .agg c.toArray] w fun e w' => ∃ S' fp', e = .returned (.tuple #[]) ∧ S.le S' ∧ PgR S' b db (s.back v) fp' ∧ Hp w0 F S' (fp' ++ (f ++ Hr)) w' := by
 have hd0 := hd
 obtain ⟨hok, lb, am, al, ac, lfp, dfp, cv, rfl, hl, hdk, hm, hch⟩ := hd
 obtain ⟨vb, vm, vl, vc, vfp, rfl, rfl, hvl, hvm⟩ := hv
 simp only [List.cons_append, List.append_assoc] at hw
 refine enterA hw func29 rfl ntmps29 rfl rfl ?_
 (try unfold pgObj); unfold pgObjV
 refine sD ?_
 refine L.boxA rfl rfl rfl (fun b3 => ?_)
 refine sE (sM rfl ?_)
 refine L.w rfl (V.neqPtr rfl rfl underlying27) ?_
 refine sM rfl ?_
 refine L.know (d := 6) (u := .bool true) rfl (congrArg Value.bool rfl) ?_
 refine sM rfl (sW rfl ?_)
 refine L.w rfl (V.fa rfl underlying141 rfl rfl sizeOf4) ?_
 refine L.w rfl (V.load rfl isAgg4 zAt (by rfl)) ?_
 refine sV rfl (sT rfl (sM rfl ?_))
 refine L.fork (d := 13) rfl (fun h13 => ?_) (fun h13 => ?_)
 ·try simp only [sq] at h13
  refine L.w rfl (V.fa rfl underlying65 rfl rfl sizeOf62) ?_
  refine L.w rfl (V.load rfl isAgg62 zAt (by rfl)) ?_
  refine L.w rfl (V.neqPtr rfl rfl underlying62) ?_
  refine sT rfl (sN ?_)
  refine C.cond rfl (fun h17 => ?_) (fun h17 => ?_)
  ·try simp only [sq] at h17
   have hdead : s.dead = false := h13
   refine C.drawC [] (Hp w0 F S ((b3, .cells #[.pointer (some ⟨vb, 0, none⟩), .map (some vm), .int .i64 (v.root : Int)] 65 (0, 0)) :: Hr)) (fun w h => h.sub zSub) (by kernel_rfl) rfl (fun w hw => hw.drawn _) ?_
   refine D.take 0 (listed' := #[true, false, false, false, false, false, false, false, false, false, false, false, false, false, false, false, false, false, false, false]) rfl (by kernel_rfl) rfl rfl rfl rfl (V.move rfl) (fun w h => h.sub zSub) ?_
   refine D.take 1 (listed' := #[true, true, false, false, false, false, false, false, false, false, false, false, false, false, false, false, false, false, false, false]) rfl (by kernel_rfl) rfl rfl rfl rfl (V.move rfl) (fun w h => h.sub zSub) ?_
   refine D.take 2 (listed' := #[true, true, true, false, false, false, false, false, false, false, false, false, false, false, false, false, false, false, false, false]) rfl (by kernel_rfl) rfl rfl rfl rfl (V.move rfl) (fun w h => h.sub zSub) ?_
   refine D.take 3 (listed' := #[true, true, true, true, false, false, false, false, false, false, false, false, false, false, false, false, false, false, false, false]) rfl (by kernel_rfl) rfl rfl rfl rfl (V.fa rfl underlying65 rfl rfl sizeOf62) (fun w h => h.sub zSub) ?_
   refine D.take 4 (listed' := #[true, true, true, true, true, false, false, false, false, false, false, false, false, false, false, false, false, false, false, false]) rfl (by kernel_rfl) rfl rfl rfl rfl (V.load rfl isAgg62 zAt (by rfl)) (fun w h => h.sub zSub) ?_
   refine D.take 6 (listed' := #[true, true, true, true, true, false, true, false, false, false, false, false, false, false, false, false, false, false, false, false]) rfl (by kernel_rfl) rfl rfl rfl rfl (V.fa rfl underlying65 rfl rfl sizeOf63) (fun w h => h.sub zSub) ?_
   refine D.take 7 (listed' := #[true, true, true, true, true, false, true, true, false, false, false, false, false, false, false, false, false, false, false, false]) rfl (by kernel_rfl) rfl rfl rfl rfl (V.load rfl isAgg63 zAt (by rfl)) (fun w h => h.sub zSub) ?_
   refine D.take 9 (listed' := #[true, true, true, true, true, false, true, true, false, true, false, false, false, false, false, false, false, false, false, false]) rfl (by kernel_rfl) rfl rfl rfl rfl (V.fa rfl underlying65 rfl rfl sizeOf3) (fun w h => h.sub zSub) ?_
   refine D.take 10 (listed' := #[true, true, true, true, true, false, true, true, false, true, true, false, false, false, false, false, false, false, false, false]) rfl (by kernel_rfl) rfl rfl rfl rfl (V.load rfl isAgg3 zAt (by rfl)) (fun w h => h.sub zSub) ?_
   refine D.step 5 (listed' := #[true, true, true, true, true, true, true, true, false, true, true, false, false, false, false, false, false, false, false, false]) (by kernel_rfl) rfl rfl (.inr (fun w h => h.sub zSub)) ?_
   refine L.call rfl rfl rfl call69 rfl (fun w hw => flCopy_ok hvl (hw.take (.skip (.skip (.skip (.skipl (.skipl (.skip .done)))))))) ?_
   rintro _ a w hst ⟨S1, b10, f10, rfl, le1, hl1, hw⟩
   refine hst.go rfl hw ?_
   clear hst hw w a
   refine D.back ?_
   refine D.step 8 (listed' := #[true, true, true, true, true, true, true, true, true, true, true, false, false, false, false, false, false, false, false, false]) (by kernel_rfl) rfl rfl (.inr (fun w h => (h.less le1).sub zSub)) ?_
   refine L.call rfl rfl rfl call93 rfl (fun w hw => mapsClone_ok (l := vl) (ck := vc) (r := vm) (.apr (.apr (.tail (.tail (.tail (.apr (.apr .head))))))) hw) ?_
   rintro _ a w hst ⟨b15, rfl, hw⟩
   refine hst.go rfl hw ?_
   clear hst hw w a
   refine D.back ?_
   refine D.step 11 (listed' := #[true, true, true, true, true, true, true, true, true, true, true, true, false, false, false, false, false, false, false, false]) (by kernel_rfl) rfl rfl (.inr (fun w h => (h.less le1).sub zSub)) ?_
   refine sW rfl ?_
   refine D.back ?_
   refine D.step 12 (listed' := #[true, true, true, true, true, true, true, true, true, true, true, true, true, false, false, false, false, false, false, false]) (by kernel_rfl) rfl rfl (.inr (fun w h => (h.less le1).sub zSub)) ?_
   refine L.w rfl (V.fa rfl underlying141 rfl rfl sizeOf62) ?_
   refine D.back ?_
   refine D.step 13 (listed' := #[true, true, true, true, true, true, true, true, true, true, true, true, true, true, false, false, false, false, false, false]) (by kernel_rfl) rfl rfl (.inr (fun w h => (h.less le1).sub zSub)) ?_
   refine L.store rfl rfl rfl sizeOf62 rfl zUp zSet ?_
   refine D.back ?_
   refine D.step 14 (listed' := #[true, true, true, true, true, true, true, true, true, true, true, true, true, true, true, false, false, false, false, false]) (by kernel_rfl) rfl rfl (.inr (fun w h => (h.less le1).sub zSub)) ?_
   refine sW rfl ?_
   refine D.back ?_
   refine D.step 15 (listed' := #[true, true, true, true, true, true, true, true, true, true, true, true, true, true, true, true, false, false, false, false]) (by kernel_rfl) rfl rfl (.inr (fun w h => (h.less le1).sub zSub)) ?_
   refine L.w rfl (V.fa rfl underlying141 rfl rfl sizeOf63) ?_
   refine D.back ?_
   refine D.step 16 (listed' := #[true, true, true, true, true, true, true, true, true, true, true, true, true, true, true, true, true, false, false, false]) (by kernel_rfl) rfl rfl (.inr (fun w h => (h.less le1).sub zSub)) ?_
   refine L.store rfl rfl rfl sizeOf63 rfl zUp zSet ?_
   refine D.back ?_
   refine D.step 17 (listed' := #[true, true, true, true, true, true, true, true, true, true, true, true, true, true, true, true, true, true, false, false]) (by kernel_rfl) rfl rfl (.inr (fun w h => (h.less le1).sub zSub)) ?_
   refine sW rfl ?_
   refine D.back ?_
   refine D.step 18 (listed' := #[true, true, true, true, true, true, true, true, true, true, true, true, true, true, true, true, true, true, true, false]) (by kernel_rfl) rfl rfl (.inr (fun w h => (h.less le1).sub zSub)) ?_
   refine L.w rfl (V.fa rfl underlying141 rfl rfl sizeOf3) ?_
   refine D.back ?_
   refine D.step 19 (listed' := #[true, true, true, true, true, true, true, true, true, true, true, true, true, true, true, true, true, true, true, true]) (by kernel_rfl) rfl rfl (.inr (fun w h => (h.less le1).sub zSub)) ?_
   refine L.store rfl rfl rfl sizeOf3 rfl zUp zSet ?_
   refine D.back ?_
   refine D.done (by kernel_rfl) (.inr (fun w h => (h.less le1).sub zSub)) ?_
   refine R.fall0 results29 (fun w hw => ?_)
   first
    | (have e1 : s.back v = { s with list := v.list, added := v.added, root := v.root } := if_neg (by rw [hdead]; decide)
       rw [e1]
       refine ⟨S1, (b, pgObj db b10 b15 s.m cv v.root s.dead) :: (b15, mobj vl vc) :: (f10 ++ dfp), rfl, le1, ⟨⟨hvo.size, hok.dsize, hok.s0, hok.s1, hok.txn, hok.chain, hvo.right, hvo.atxn⟩, b10, b15, vl, vc, f10, dfp, cv, rfl, hl1, hdk.mono le1, hvm.mono le1, hch.mono (Sees.le le1 _)⟩, ?_⟩
       exact Hp.re (hw.sub (H' := (b15, mobj vl vc) :: (f10 ++ (vfp ++ ((b, pgObj db b10 b15 s.m cv v.root s.dead) :: (dfp ++ ((vm, mobj vl vc) :: Hr)))))) zSub) zRe)
    | (exfalso; simp at h17; done)
    | (have e1 : s.back v = s := if_pos (by first | exact h13 | (cases hd2 : s.dead <;> simp_all))
       rw [e1]
       exact ⟨S, _, rfl, .refl S, hd0, Hp.re hw.drop zRe⟩)
  ·try simp only [sq] at h17
   refine C.skip ?_
   refine R.fall0 results29 (fun w hw => ?_)
   first
    | (have e1 : s.back v = { s with list := v.list, added := v.added, root := v.root } := if_neg (by rw [hdead]; decide)
       rw [e1]
       refine ⟨S1, (b, pgObj db b10 b15 s.m cv v.root s.dead) :: (b15, mobj vl vc) :: (f10 ++ dfp), rfl, le1, ⟨⟨hvo.size, hok.dsize, hok.s0, hok.s1, hok.txn, hok.chain, hvo.right, hvo.atxn⟩, b10, b15, vl, vc, f10, dfp, cv, rfl, hl1, hdk.mono le1, hvm.mono le1, hch.mono (Sees.le le1 _)⟩, ?_⟩
       exact Hp.re (hw.sub (H' := (b15, mobj vl vc) :: (f10 ++ (vfp ++ ((b, pgObj db b10 b15 s.m cv v.root s.dead) :: (dfp ++ ((vm, mobj vl vc) :: Hr)))))) zSub) zRe)
    | (exfalso; simp at h17; done)
    | (have e1 : s.back v = s := if_pos (by first | exact h13 | (cases hd2 : s.dead <;> simp_all))
       rw [e1]
       exact ⟨S, _, rfl, .refl S, hd0, Hp.re hw.drop zRe⟩)
 ·try simp only [sq] at h13
  refine sS rfl (sS rfl (sS rfl (sU rfl (sN (sP rfl ?_)))))
  refine C.skip ?_
  refine R.fall0 results29 (fun w hw => ?_)
  first
   | (have e1 : s.back v = { s with list := v.list, added := v.added, root := v.root } := if_neg (by rw [hdead]; decide)
      rw [e1]
      refine ⟨S1, (b, pgObj db b10 b15 s.m cv v.root s.dead) :: (b15, mobj vl vc) :: (f10 ++ dfp), rfl, le1, ⟨⟨hvo.size, hok.dsize, hok.s0, hok.s1, hok.txn, hok.chain, hvo.right, hvo.atxn⟩, b10, b15, vl, vc, f10, dfp, cv, rfl, hl1, hdk.mono le1, hvm.mono le1, hch.mono (Sees.le le1 _)⟩, ?_⟩
      exact Hp.re (hw.sub (H' := (b15, mobj vl vc) :: (f10 ++ (vfp ++ ((b, pgObj db b10 b15 s.m cv v.root s.dead) :: (dfp ++ ((vm, mobj vl vc) :: Hr)))))) zSub) zRe)
   | (exfalso; simp at h17; done)
   | (have e1 : s.back v = s := if_pos (by first | exact h13 | (cases hd2 : s.dead <;> simp_all))
      rw [e1]
      exact ⟨S, _, rfl, .refl S, hd0, Hp.re hw.drop zRe⟩)
end
end Go.Proofs.YtijgbppkdaiikaaGreat

set_option linter.unusedSimpArgs false
set_option linter.unusedVariables false
namespace Go.Proofs.YtijgbppkdaiikaaGreat
open Go.Proofs.Tryz Go.Tk

/-- The pages of a chain that tells these numbers. -/
def linkP : List Nat → List Nat → Nat → List Page
 | [], _, _ => []
 | _ :: r, ids, txn => ⟨4, txn, r.headD 0, [], [], [], ids.take 59⟩ :: linkP r (ids.drop 59) txn

theorem linkP_drop : ∀ (chain ids : List Nat) (txn z : Nat) (hz : z < chain.length), linkP (chain.drop z) (ids.drop (59 * z)) txn = ⟨4, txn, (chain.drop (z + 1)).headD 0, [], [], [], (ids.drop (59 * z)).take 59⟩ :: linkP (chain.drop (z + 1)) (ids.drop (59 * (z + 1))) txn := by
 intro chain ids txn z hz
 rw [List.drop_eq_getElem_cons hz]
 simp only [linkP, List.drop_drop]
 rw [show 59 * (z + 1) = 59 * z + 59 from by omega]
theorem linkP_len : ∀ (chain ids : List Nat) (txn : Nat), (linkP chain ids txn).length = chain.length
 | [], _, _ => rfl
 | _ :: r, ids, txn => by simp only [linkP, List.length_cons, linkP_len r]

section
variable {w0 : World} {F : Nat → Prop} {S : Store} {Hr : Heap} {w : World}

theorem _root_.Go.Proofs.YtijgbppkdaiikaaGreat.Ids.dropv {S : Store} {H : Heap} {ad ad' : Option Addr} {c lo hi : Nat} {l : List Nat} (h : Ids S H (.slice ad l.length c) l) (h1 : lo ≤ hi) (h2 : hi ≤ l.length)
 (had : (if c = lo then ad else ad.map (·.add (lo * 1))) = ad') : Ids S H (.slice ad' (hi - lo) (c - lo)) ((l.drop lo).take (hi - lo)) := by
 unfold Ids at *
 have := Is.sub (lo := lo) (hi := hi) (by rw [List.length_map]; exact h) h1 (by rw [List.length_map]; exact h2) had
 rw [← List.map_drop, ← List.map_take] at this
 exact this

theorem links_ok {v1 v2 : Value} {chain ids : List Nat} {txn : Nat} (h1 : Ids S [] v1 chain) (h2 : Ids S [] v2 ids) (hc : chain.length ≤ 2000) (hi : ids.length ≤ 2000) (hw : Hp w0 F S Hr w) :
 Calls Tryz.prog 79 #[v1, v2, .int .u64 (txn : Int)] w fun e w' => ∃ v rows fp, e = .returned v ∧ Own 125 7 v chain.length (List.flatten rows) fp ∧ All2 (fun r p => PageC S [] r p) rows (linkP chain ids txn) ∧ Hp w0 F S (fp ++ Hr) w' := by
 obtain ⟨a1, c1, rfl, hcc1⟩ := h1.form
 obtain ⟨a2, c2, rfl, hcc2⟩ := h2.form
 refine enterA hw func79 rfl ntmps79 rfl rfl ?_
 refine sD (sA rfl (sE (sA rfl (sN (sC (sD (sM rfl ?_)))))))
 refine L.w rfl (V.len rfl underlying37) ?_
 refine sM rfl (sN (sB ?_))
 refine C.loop (α := Nat × Value × Value × List (List Value) × Heap) (fun z => [(0, .slice a1 chain.length c1), (1, z.2.1), (2, .int .u64 (txn : Int)), (7, z.2.2.1), (11, .slice a1 chain.length c1), (12, .int .i64 (chain.length : Int)), (13, .int .i64 (z.1 : Int))]) (fun z w => (z.1 ≤ chain.length ∧ Ids S [] z.2.1 (ids.drop (59 * z.1)) ∧ Own 125 7 z.2.2.1 z.1 (List.flatten z.2.2.2.1) z.2.2.2.2 ∧ (∀ rest, All2 (fun r p => PageC S [] r p) rest (linkP (chain.drop z.1) (ids.drop (59 * z.1)) txn) → All2 (fun r p => PageC S [] r p) (z.2.2.2.1 ++ rest) (linkP chain ids txn))) ∧ Hp w0 F S (z.2.2.2.2 ++ Hr) w) (fun z => chain.length - z.1) (0, .slice a2 ids.length c2, .slice none 0 0, [], []) ⟨rfl, rfl, rfl, rfl, rfl, rfl, rfl, trivial⟩ (fun w hw => ⟨⟨Nat.zero_le _, h2, Own.nil _ _, fun rest h => h⟩, hw⟩) (fun zz => C.pure (fun hzz => ?_))
 obtain ⟨z, v2, v, rows, fp⟩ := zz
 obtain ⟨hz, hiz, hov, hrest⟩ := hzz
 dsimp only at hz hiz hov hrest ⊢
 obtain ⟨a2', c2', rfl, hcc3⟩ := hiz.form
 refine sD (sQc rfl (sN (sC ?_)))
 refine C.cond rfl (fun h14 => ?_) (fun h14 => ?_)
 ·try simp only [sq] at h14
  have hj : z < chain.length := by omega
  refine sK (sC (sB (sD (sM rfl (sA rfl (sE (sM rfl ?_)))))))
  refine L.w rfl (V.build rfl underlying125 zeroValue125 (pl := [(0, 1), (1, 1), (2, 1), (3, 1), (4, 1), (5, 1), (6, 1)]) (fun w => by kernel_rfl) (Fills.cons rfl rfl rfl zPut (Fills.cons rfl rfl rfl zPut Fills.nil))) ?_
  refine L.allocA rfl rfl zeroValue125 (fun b9 => ?_)
  refine L.storeBox rfl rfl rfl sizeOf125 rfl rfl (by rfl) zUp ?_
  refine sN (sC (sD (sM rfl ?_)))
  refine L.w rfl (V.add (c := ((z + 1 : Nat) : Int)) rfl rfl (by rw [w64 (by omega) (by omega)]; omega)) ?_
  refine sM rfl ?_
  refine L.w rfl (V.len rfl underlying37) ?_
  refine sQc rfl (sN ?_)
  refine C.cond rfl (fun h22 => ?_) (fun h22 => ?_)
  ·try simp only [sq] at h22
   have hj2 : z + 1 < chain.length := by omega
   obtain ⟨b, off, cs, T, fz, hb1, g1, g2⟩ := h1.at hj2
   obtain ⟨nx, hnx⟩ : ∃ nx, chain[z + 1] = nx := ⟨_, rfl⟩
   rw [hnx] at g2
   subst hb1
   have hnx2 : (chain.drop (z + 1)).headD 0 = nx := by rw [List.drop_eq_getElem_cons hj2]; exact hnx
   refine sR (sM rfl (sM rfl ?_))
   refine L.w rfl (V.add (c := ((z + 1 : Nat) : Int)) rfl rfl (by rw [w64 (by omega) (by omega)]; omega)) ?_
   refine L.w rfl (V.indexAddr rfl rfl underlying37 sizeOf3 rfl (by omega)) ?_
   refine L.w rfl (V.load rfl isAgg3 (g1.lift _) g2) ?_
   refine L.w rfl (V.fa rfl underlying125 rfl rfl sizeOf3) ?_
   refine L.store rfl rfl rfl sizeOf3 rfl zUp zSet ?_
   refine sE (sM rfl ?_)
   refine L.w rfl (V.len rfl underlying37) ?_
   refine L.w rfl (V.minI rfl rfl) ?_
   rw [show min ((ids.drop (59 * z)).length : Int) 59 = ((min (ids.drop (59 * z)).length 59 : Nat) : Int) from by omega]
   obtain ⟨q, hq⟩ : ∃ q, q = min (ids.drop (59 * z)).length 59 := ⟨_, rfl⟩
   rw [← hq]
   obtain ⟨ad3, had3⟩ : ∃ ad3, (if c2' = q then a2' else a2'.map (·.add (q * 1))) = ad3 := ⟨_, rfl⟩
   have hA := hiz.dropv (lo := 0) (hi := q) (by omega) (by omega) (ad' := a2') (by split <;> cases a2' <;> simp [Addr.add])
   have hB := hiz.dropv (lo := q) (hi := (ids.drop (59 * z)).length) (by omega) (Nat.le_refl _) had3
   have eA : ((ids.drop (59 * z)).drop 0).take (q - 0) = (ids.drop (59 * z)).take 59 := by
    rw [List.drop_zero, Nat.sub_zero, hq, List.take_eq_take_iff]; omega
   have eB : ((ids.drop (59 * z)).drop q).take ((ids.drop (59 * z)).length - q) = ids.drop (59 * (z + 1)) := by
    rw [List.take_of_length_le (by rw [List.length_drop (i := q)]; omega), List.drop_drop]
    rcases (by omega : q = 59 ∨ q = (ids.drop (59 * z)).length ∧ q < 59) with h | ⟨h, h59⟩
    ·rw [h]; congr 1
    ·rw [List.length_drop] at h
     rw [List.drop_eq_nil_of_le (by omega), List.drop_eq_nil_of_le (by omega)]
   rw [eA] at hA
   rw [eB] at hB
   refine sA rfl (sE (sM rfl (sM rfl ?_)))
   refine L.w rfl (V.slice (l := 0) (u := q) rfl underlying37 sizeOf3 rfl ⟨_, rfl⟩ (by omega) (by omega) (ad' := a2') (by split <;> cases a2' <;> simp [Addr.add])) ?_
   refine L.w rfl (V.fa rfl underlying125 rfl rfl sizeOf37) ?_
   refine L.store rfl rfl rfl sizeOf37 rfl zUp zSet ?_
   refine sE (sM rfl (sM rfl ?_))
   refine L.w rfl (V.slice (l := q) (u := (ids.drop (59 * z)).length) rfl underlying37 sizeOf3 ⟨_, rfl⟩ rfl (by omega) (by omega) had3) ?_
   refine sA rfl (sN (sR (sM rfl ?_)))
   refine L.w rfl (V.loadBox rfl isAgg125 sizeOf125 zAt (by rfl)) ?_
   have hrow : ∃ row : List Value, row.length = 7 ∧ (∀ u ∈ row, u.oneCell' = true) ∧ PageC S [] row ⟨4, txn, (chain.drop (z + 1)).headD 0, [], [], [], (ids.drop (59 * z)).take 59⟩ ∧ row = [.int .i64 4, .int .u64 (txn : Int), .int .i64 (((chain.drop (z + 1)).headD 0 : Nat) : Int), .slice none 0 0, .slice none 0 0, .slice none 0 0, .slice a2' (q - 0) (c2' - 0)] := ⟨_, rfl, by intro u hu; simp at hu; rcases hu with rfl | rfl | rfl | rfl | rfl <;> rfl, ⟨_, _, _, _, rfl, ⟨[], Rd.nil .., trivial⟩, ⟨[], Rd.nil .., trivial⟩, Rd.nil .., hA⟩, rfl⟩
   obtain ⟨row, hr7, hr1, hrp, hre⟩ := hrow
   refine L.slice1 rfl rfl rfl underlying154 sizeOf125 zeroValue125 rfl (by decide) (by decide) (vs := row) (by rw [hre, hnx2]; rfl) hr7 (fun b41 => ?_)
   refine L.append (by' := 120) (sz := 7) (l := 1) (ys := row) rfl rfl rfl rfl underlying154 info_page rfl rfl rfl rfl hov (.skip (.skip .done)) ⟨by rw [hr7], .inr ⟨b41, 0, 1, _, _, _, rfl, ⟨Nat.le_refl _, by omega⟩, .apr .head, fun j hj => by simp⟩⟩ hr1 (by omega) (by omega) (fun v42 fp42 hov2 => ?_)
   have hi2 := hB
   have hov3 : Own 125 7 v42 (z + 1) (List.flatten (rows ++ [row])) fp42 := by rw [List.flatten_append]; simpa using hov2
   have hrest2 : ∀ rest, All2 (fun r p => PageC S [] r p) rest (linkP (chain.drop (z + 1)) (ids.drop (59 * (z + 1))) txn) → All2 (fun r p => PageC S [] r p) ((rows ++ [row]) ++ rest) (linkP chain ids txn) := fun rest h => by
    rw [List.append_assoc]
    exact hrest ([row] ++ rest) (by rw [linkP_drop _ _ _ _ hj]; exact ⟨hrp, h⟩)
   refine sA rfl ?_
   refine L.nil (N.blk (N.seq ?_))
   refine sR ?_
   refine L.w rfl (V.add rfl rfl (w64 (by omega) (by omega))) ?_
   refine sM rfl ?_
   refine L.nil ?_
   refine N.round (z + 1, .slice ad3 ((ids.drop (59 * z)).length - q) (c2' - q), v42, rows ++ [row], fp42) (by show _ - (z + 1) < _ - z; omega) ⟨rfl, rfl, rfl, rfl, rfl, rfl, rfl, trivial⟩ (fun w hw => ⟨⟨by show z + 1 ≤ _; omega, hi2, hov3, hrest2⟩, hw.sub zSub⟩)
  ·try simp only [sq] at h22
   have hnx2 : (chain.drop (z + 1)).headD 0 = 0 := by rw [List.drop_eq_nil_of_le (by omega)]; rfl
   refine sK (sD (sM rfl ?_))
   refine L.w rfl (V.len rfl underlying37) ?_
   refine L.w rfl (V.minI rfl rfl) ?_
   rw [show min ((ids.drop (59 * z)).length : Int) 59 = ((min (ids.drop (59 * z)).length 59 : Nat) : Int) from by omega]
   obtain ⟨q, hq⟩ : ∃ q, q = min (ids.drop (59 * z)).length 59 := ⟨_, rfl⟩
   rw [← hq]
   obtain ⟨ad3, had3⟩ : ∃ ad3, (if c2' = q then a2' else a2'.map (·.add (q * 1))) = ad3 := ⟨_, rfl⟩
   have hA := hiz.dropv (lo := 0) (hi := q) (by omega) (by omega) (ad' := a2') (by split <;> cases a2' <;> simp [Addr.add])
   have hB := hiz.dropv (lo := q) (hi := (ids.drop (59 * z)).length) (by omega) (Nat.le_refl _) had3
   have eA : ((ids.drop (59 * z)).drop 0).take (q - 0) = (ids.drop (59 * z)).take 59 := by
    rw [List.drop_zero, Nat.sub_zero, hq, List.take_eq_take_iff]; omega
   have eB : ((ids.drop (59 * z)).drop q).take ((ids.drop (59 * z)).length - q) = ids.drop (59 * (z + 1)) := by
    rw [List.take_of_length_le (by rw [List.length_drop (i := q)]; omega), List.drop_drop]
    rcases (by omega : q = 59 ∨ q = (ids.drop (59 * z)).length ∧ q < 59) with h | ⟨h, h59⟩
    ·rw [h]; congr 1
    ·rw [List.length_drop] at h
     rw [List.drop_eq_nil_of_le (by omega), List.drop_eq_nil_of_le (by omega)]
   rw [eA] at hA
   rw [eB] at hB
   refine sA rfl (sE (sM rfl (sM rfl ?_)))
   refine L.w rfl (V.slice (l := 0) (u := q) rfl underlying37 sizeOf3 rfl ⟨_, rfl⟩ (by omega) (by omega) (ad' := a2') (by split <;> cases a2' <;> simp [Addr.add])) ?_
   refine L.w rfl (V.fa rfl underlying125 rfl rfl sizeOf37) ?_
   refine L.store rfl rfl rfl sizeOf37 rfl zUp zSet ?_
   refine sE (sM rfl (sM rfl ?_))
   refine L.w rfl (V.slice (l := q) (u := (ids.drop (59 * z)).length) rfl underlying37 sizeOf3 ⟨_, rfl⟩ rfl (by omega) (by omega) had3) ?_
   refine sA rfl (sN (sR (sM rfl ?_)))
   refine L.w rfl (V.loadBox rfl isAgg125 sizeOf125 zAt (by rfl)) ?_
   have hrow : ∃ row : List Value, row.length = 7 ∧ (∀ u ∈ row, u.oneCell' = true) ∧ PageC S [] row ⟨4, txn, (chain.drop (z + 1)).headD 0, [], [], [], (ids.drop (59 * z)).take 59⟩ ∧ row = [.int .i64 4, .int .u64 (txn : Int), .int .i64 (((chain.drop (z + 1)).headD 0 : Nat) : Int), .slice none 0 0, .slice none 0 0, .slice none 0 0, .slice a2' (q - 0) (c2' - 0)] := ⟨_, rfl, by intro u hu; simp at hu; rcases hu with rfl | rfl | rfl | rfl | rfl <;> rfl, ⟨_, _, _, _, rfl, ⟨[], Rd.nil .., trivial⟩, ⟨[], Rd.nil .., trivial⟩, Rd.nil .., hA⟩, rfl⟩
   obtain ⟨row, hr7, hr1, hrp, hre⟩ := hrow
   refine L.slice1 rfl rfl rfl underlying154 sizeOf125 zeroValue125 rfl (by decide) (by decide) (vs := row) (by rw [hre, hnx2]; rfl) hr7 (fun b41 => ?_)
   refine L.append (by' := 120) (sz := 7) (l := 1) (ys := row) rfl rfl rfl rfl underlying154 info_page rfl rfl rfl rfl hov (.skip (.skip .done)) ⟨by rw [hr7], .inr ⟨b41, 0, 1, _, _, _, rfl, ⟨Nat.le_refl _, by omega⟩, .apr .head, fun j hj => by simp⟩⟩ hr1 (by omega) (by omega) (fun v42 fp42 hov2 => ?_)
   have hi2 := hB
   have hov3 : Own 125 7 v42 (z + 1) (List.flatten (rows ++ [row])) fp42 := by rw [List.flatten_append]; simpa using hov2
   have hrest2 : ∀ rest, All2 (fun r p => PageC S [] r p) rest (linkP (chain.drop (z + 1)) (ids.drop (59 * (z + 1))) txn) → All2 (fun r p => PageC S [] r p) ((rows ++ [row]) ++ rest) (linkP chain ids txn) := fun rest h => by
    rw [List.append_assoc]
    exact hrest ([row] ++ rest) (by rw [linkP_drop _ _ _ _ hj]; exact ⟨hrp, h⟩)
   refine sA rfl ?_
   refine L.nil (N.blk (N.seq ?_))
   refine sR ?_
   refine L.w rfl (V.add rfl rfl (w64 (by omega) (by omega))) ?_
   refine sM rfl ?_
   refine L.nil ?_
   refine N.round (z + 1, .slice ad3 ((ids.drop (59 * z)).length - q) (c2' - q), v42, rows ++ [row], fp42) (by show _ - (z + 1) < _ - z; omega) ⟨rfl, rfl, rfl, rfl, rfl, rfl, rfl, trivial⟩ (fun w hw => ⟨⟨by show z + 1 ≤ _; omega, hi2, hov3, hrest2⟩, hw.sub zSub⟩)
 ·try simp only [sq] at h14
  refine sZ rfl (sD (sM rfl (sA rfl (sN ?_))))
  refine R.ret1 results79 rfl (fun w hw => ?_)
  have ez : z = chain.length := by omega
  subst ez
  have := hrest [] (by rw [List.drop_length]; exact trivial)
  rw [List.append_nil] at this
  exact ⟨v, rows, fp, rfl, hov, this, hw⟩
end
end Go.Proofs.YtijgbppkdaiikaaGreat

set_option linter.unusedSimpArgs false
set_option linter.unusedVariables false
namespace Go.Proofs.YtijgbppkdaiikaaGreat
open Go.Proofs.Tryz Go.Tk

/-- A page is written, if nothing was wrong till then. -/
noncomputable def wr (s : Dk × Int) (x : Int × Page) : Dk × Int := if s.2 ≠ 0 then s else if s.1.chk x.1 = 0 then (s.1.write x.1 (pageB x.2), 0) else (s.1, s.1.chk x.1)
noncomputable def wrs (s : Dk × Int) (l : List (Int × Page)) : Dk × Int := l.foldl wr s
theorem wrs_snoc (s : Dk × Int) (l : List (Int × Page)) (x : Int × Page) : wrs s (l ++ [x]) = wr (wrs s l) x := by simp [wrs]
theorem wrs_err (s : Dk × Int) (l : List (Int × Page)) (h : s.2 ≠ 0) : wrs s l = s := by
 induction l with
 | nil => rfl
 | cons x l ih => show wrs (wr s x) l = s; rw [show wr s x = s from if_pos h]; exact ih

structure Live (s : Dk) : Prop where
 fuse : s.fuse = -1
 dead : s.dead = false
theorem Live.burn {s : Dk} (h : s.fuse = -1) : Live s.burn := ⟨by show (if 0 < s.fuse then s.fuse - 1 else s.fuse) = -1; rw [h]; decide, by show ((if 0 < s.fuse then s.fuse - 1 else s.fuse) == 0) = false; rw [h]; decide⟩
theorem Live.write {s : Dk} (h : Live s) (i : Int) (b : List UInt8) : Live (s.write i b) := Live.burn h.fuse
theorem Live.sync {s : Dk} (h : Live s) : Live s.sync := Live.burn h.fuse
theorem Live.chk {s : Dk} (h : Live s) {i : Int} (h0 : 0 ≤ i) (h1 : i < (s.size : Int)) : s.chk i = 0 := by
 unfold Dk.chk; rw [if_neg (by rw [h.dead]; decide), if_neg (by omega)]
theorem Live.wr {s : Dk} (h : Live s) {x : Int × Page} (h0 : 0 ≤ x.1) (h1 : x.1 < (s.size : Int)) : wr (s, 0) x = (s.write x.1 (pageB x.2), 0) := by
 unfold Go.Proofs.YtijgbppkdaiikaaGreat.wr
 rw [if_neg (fun h => h rfl), if_pos (h.chk h0 h1)]
theorem wr_size (s : Dk × Int) (x : Int × Page) : (wr s x).1.size = s.1.size := by
 unfold wr
 split
 ·rfl
 ·split <;> rfl
theorem wrs_size (s : Dk × Int) (l : List (Int × Page)) : (wrs s l).1.size = s.1.size := by
 induction l generalizing s with
 | nil => rfl
 | cons x l ih => show (wrs (wr s x) l).1.size = _; rw [ih, wr_size]
theorem Live.wrs {s : Dk} (h : Live s) {l : List (Int × Page)} (hl : ∀ x ∈ l, 0 ≤ x.1 ∧ x.1 < (s.size : Int)) : (wrs (s, 0) l).2 = 0 ∧ Live (wrs (s, 0) l).1 := by
 induction l generalizing s with
 | nil => exact ⟨rfl, h⟩
 | cons x l ih =>
   have hx := hl x (List.mem_cons_self ..)
   show (Go.Proofs.YtijgbppkdaiikaaGreat.wrs (Go.Proofs.YtijgbppkdaiikaaGreat.wr (s, 0) x) l).2 = 0 ∧ Live (Go.Proofs.YtijgbppkdaiikaaGreat.wrs (Go.Proofs.YtijgbppkdaiikaaGreat.wr (s, 0) x) l).1
   rw [h.wr hx.1 hx.2]
   exact ih (h.write _ _) (fun y hy => hl y (List.mem_cons_of_mem _ hy))

/-- The numbers of a chain's page. -/
theorem linkP_right : ∀ (chain ids : List Nat) (txn : Nat), (∀ i ∈ chain, i < 1024) → (∀ i ∈ ids, idOk i) → ids.Pairwise (· < ·) → ∀ p ∈ linkP chain ids txn, Right p ∧ p.txn = txn
 | [], _, _, _, _, _, p, hp => by cases hp
 | c :: r, ids, txn, hc, hi, ha, p, hp => by
   simp only [linkP] at hp
   rcases List.mem_cons.1 hp with rfl | hp
   ·refine ⟨?_, rfl⟩
    exact {
     only := ⟨by show 1 ≤ 4; decide, by show 4 ≤ 4; decide, fun _ => rfl, fun _ => rfl, fun _ => rfl, fun h => absurd rfl h⟩
     some := fun h => absurd rfl h
     few := by show (ids.take 59).length ≤ 237; rw [List.length_take]; omega
     next := by
      show r.headD 0 < 1024
      cases r with
      | nil => decide
      | cons y r => exact hc y (by simp)
     last := fun _ => ⟨by show 4 ≠ 1; decide, by show 4 ≠ 2; decide⟩
     items := fun x hx => by cases hx
     itemsRise := fun i h => absurd h (Nat.not_lt_zero _)
     kids := fun x hx => by cases hx
     kidsRise := fun i h => absurd h (Nat.not_lt_zero _)
     ids := fun x hx => hi x (List.mem_of_mem_take hx)
     idsRise := fun i h => List.pairwise_iff_getElem.1 (ha.sublist (List.take_sublist 59 ids)) i (i + 1) (by have : i + 1 < (ids.take 59).length := h; omega) h (by omega)
     used := by
      show usedN ⟨4, txn, r.headD 0, [], [], [], ids.take 59⟩ ≤ 237
      simp [usedN, List.length_take]; omega }
   ·exact linkP_right r (ids.drop 59) txn (fun i h => hc i (List.mem_cons_of_mem _ h)) (fun i h => hi i (List.mem_of_mem_drop h)) (ha.sublist (List.drop_sublist 59 ids)) p hp

/-- All numbers of an empty disk, how many make the chain, what is written there. -/
def fmtA (n : Nat) : List Nat := List.range' 2 (n - 2)
def fmtK (n : Nat) : Nat := (n - 2 + 59) / 60
def fmtL (n : Nat) : List (Int × Page) := (((fmtA n).take (fmtK n)).map (fun i : Nat => (i : Int))).zip (linkP ((fmtA n).take (fmtK n)) ((fmtA n).drop (fmtK n)) 1)
noncomputable def Dk.fmt (s : Dk) : Dk := (wrs ((s.write 0 (metaB ⟨0, 0, 0, s.size⟩)).write 1 (metaB ⟨1, 0, 2, s.size⟩), 0) (fmtL s.size)).1.sync
theorem fmtA_len (n : Nat) : (fmtA n).length = n - 2 := by simp [fmtA]
theorem fmtA_mem {n i : Nat} (h : i ∈ fmtA n) : 2 ≤ i ∧ i < n := by
 unfold fmtA at h; rw [List.mem_range'_1] at h; omega
theorem fmtA_at {n i : Nat} (h : i < (fmtA n).length) : (fmtA n)[i] = i + 2 := by simp [fmtA]; omega
theorem fmtA_asc (n : Nat) : (fmtA n).Pairwise (· < ·) := List.pairwise_lt_range'
theorem fmtL_at {n z : Nat} (h : z < (fmtL n).length) (h1 : z < (fmtA n).length) (h2 : z < (linkP ((fmtA n).take (fmtK n)) ((fmtA n).drop (fmtK n)) 1).length) : (fmtL n)[z] = ((((fmtA n)[z] : Nat) : Int), (linkP ((fmtA n).take (fmtK n)) ((fmtA n).drop (fmtK n)) 1)[z]) := by
 simp only [fmtL, List.getElem_zip, List.getElem_map, List.getElem_take]
theorem zip_take_snoc {α β : Type} (a : List α) (b : List β) (z : Nat) (h1 : z < a.length) (h2 : z < b.length) : (a.zip b).take (z + 1) = (a.zip b).take z ++ [(a[z], b[z])] := by
 have h3 : z < (a.zip b).length := by rw [List.length_zip]; omega
 rw [List.take_succ_eq_append_getElem h3]; simp

section
variable {w0 : World} {F : Nat → Prop} {S : Store} {Hr : Heap} {w : World}

theorem pgFormat_ok {db : Nat} {dk : Dk} {fp : Heap} (hd : DkR S db dk fp) (hf : Live dk) (hw : Hp w0 F S (fp ++ Hr) w) :
 Calls Tryz.prog 53 #[.pointer (some ⟨db, 0, none⟩)] w fun e w' => ∃ S' fp', e = .returned (.int .i64 0) ∧ S.le S' ∧ DkR S' db dk.fmt fp' ∧ Hp w0 F S' (fp' ++ Hr) w' := by
 have n0 := hd.ok.s0
 have n1 := hd.ok.s1
 obtain ⟨n, hn⟩ : ∃ n, dk.size = n := ⟨_, rfl⟩
 rw [hn] at n0 n1
 refine enterA hw func53 rfl ntmps53 rfl rfl ?_
 refine sD (sA rfl (sN (sC (sD (sM rfl ?_)))))
 refine L.w rfl (V.eqlPtr rfl rfl underlying26) ?_
 refine sN (sP rfl (sK (sD (sA rfl (sN (sC (sD (sA rfl (sN (sB ?_))))))))))
 refine C.loop (α := Nat × Value × Heap) (fun z => [(0, .pointer (some ⟨db, 0, none⟩)), (3, z.2.1), (4, .int .i64 ((z.1 + 2 : Nat) : Int))]) (fun z w => (z.1 + 2 ≤ n ∧ Own 3 1 z.2.1 z.1 ((List.range' 2 z.1).map (fun i : Nat => iv (i : Int))) z.2.2) ∧ Hp w0 F S (z.2.2 ++ (fp ++ Hr)) w) (fun z => n - z.1) (0, .slice none 0 0, []) ⟨rfl, rfl, rfl, trivial⟩ (fun w hw => ⟨⟨by show 0 + 2 ≤ n; omega, Own.nil _ _⟩, hw⟩) (fun zz => C.pure (fun hzz => ?_))
 obtain ⟨z, v, f⟩ := zz
 obtain ⟨hz, hov⟩ := hzz
 dsimp only at hz hov ⊢
 refine sC (sD (sM rfl (sM rfl ?_)))
 refine L.call rfl rfl rfl call87 rfl (fun w hw => diskSize_ok (Hr := f ++ Hr) hd (hw.re zRe)) ?_
 rintro _ a w hst ⟨rfl, hw⟩
 refine hst.go rfl (hw.re (H' := f ++ (fp ++ Hr)) zRe) ?_
 clear hst hw w a
 rw [hn]
 refine sQc rfl (sN ?_)
 refine C.cond rfl (fun h14 => ?_) (fun h14 => ?_)
 ·try simp only [sq] at h14
  have hlt : z + 2 < n := by omega
  refine sK (sC (sB (sR (sM rfl (sM rfl ?_)))))
  refine L.slice1 rfl rfl rfl underlying37 sizeOf3 zeroValue3 rfl (by decide) (by decide) rfl rfl (fun b19 => ?_)
  refine L.append (by' := 8) (sz := 1) (l := 1) (ys := [.int .i64 ((z + 2 : Nat) : Int)]) rfl rfl rfl rfl underlying37 info_int rfl rfl rfl rfl hov (.skip .done) ⟨rfl, .inr ⟨b19, 0, 1, _, _, _, rfl, ⟨Nat.le_refl _, by omega⟩, .apr .head, fun j hj => by simp⟩⟩ (by intro u hu; simp at hu; subst hu; rfl) (by omega) (by omega) (fun v20 f20 hov2 => ?_)
  have hov2 : Own 3 1 v20 (z + 1) ((List.range' 2 (z + 1)).map (fun i : Nat => iv (i : Int))) f20 := by
   rw [List.range'_1_concat, List.map_append, Nat.add_comm 2 z]; exact hov2
  refine sA rfl ?_
  refine L.nil (N.blk (N.seq ?_))
  refine sR (sM rfl ?_)
  refine L.w rfl (V.add (c := ((z + 1 + 2 : Nat) : Int)) rfl rfl (by rw [w64 (by omega) (by omega)]; omega)) ?_
  refine sA rfl ?_
  refine L.nil ?_
  refine N.round (z + 1, v20, f20) (by show n - (z + 1) < n - z; omega) ⟨rfl, rfl, rfl, trivial⟩ (fun w hw => ⟨⟨by show z + 1 + 2 ≤ n; omega, hov2⟩, hw.sub zSub⟩)
 ·try simp only [sq] at h14
  have hz2 : z = n - 2 := by omega
  subst hz2
  refine C.shut hov .done (fun S1 le1 hb1 => ?_)
  have hd1 := hd.mono le1
  obtain ⟨va, vc, rfl, hvc⟩ := hb1.form
  have hall : Ids S1 [] (.slice va (n - 2) vc) (fmtA n) := by
   unfold Ids Is
   simp only [List.length_map, fmtA_len, List.map_map]
   exact hb1
  refine sZ rfl (sD (sM rfl ?_))
  refine L.w rfl (V.len rfl underlying37) ?_
  refine L.call rfl rfl rfl call70 rfl (fun w hw => pages_ok (n - 2) (by omega) hw) ?_
  rintro _ a w hst ⟨rfl, hw⟩
  refine hst.go rfl hw ?_
  clear hst hw w a
  refine sA rfl (sE (sM rfl (sM rfl ?_)))
  refine L.call rfl rfl rfl call87 rfl (fun w hw => diskSize_ok hd1 hw) ?_
  rintro _ a w hst ⟨rfl, hw⟩
  refine hst.go rfl hw ?_
  clear hst hw w a
  rw [hn]
  refine L.w rfl (V.build rfl underlying139 zeroValue139 (pl := [(0, 1), (1, 1), (2, 1), (3, 1)]) (fun w => by kernel_rfl) (Fills.cons rfl rfl rfl zPut Fills.nil)) ?_
  refine L.call rfl rfl rfl call81 rfl (fun w hw => pgWriteMeta_ok hd1 ⟨0, 0, 0, n⟩ ⟨by show 0 < _; decide, by show 0 < _; decide, by show 0 < _; decide, by show n < _; omega⟩ hw) ?_
  rintro _ a w hst ⟨S2, f2, dk2, err, rfl, le2, hd2, hres, hw⟩
  refine hst.go rfl hw ?_
  clear hst hw w a
  have hc0 : dk.chk 0 = 0 := hf.chk (by omega) (by omega)
  have hR0 : MRight ⟨0, 0, 0, n⟩ := ⟨.inl rfl, .inl rfl, n0, n1⟩
  obtain ⟨rfl, rfl⟩ : err = 0 ∧ dk2 = dk.write 0 (metaB ⟨0, 0, 0, n⟩) := by
   rcases hres with h | h
   ·exact h.2.2
   ·exact absurd ⟨hR0, hc0⟩ h.1
  have hf2 := hf.write 0 (metaB ⟨0, 0, 0, n⟩)
  clear hd1 hd
  have hd1 := hd2
  have hn : (dk.write 0 (metaB ⟨0, 0, 0, n⟩)).size = n := hn
  refine sM rfl (sM rfl ?_)
  refine L.call rfl rfl rfl call87 rfl (fun w hw => diskSize_ok hd1 hw) ?_
  rintro _ a w hst ⟨rfl, hw⟩
  refine hst.go rfl hw ?_
  clear hst hw w a
  rw [hn]
  refine L.w rfl (V.build rfl underlying139 zeroValue139 (pl := [(0, 1), (1, 1), (2, 1), (3, 1)]) (fun w => by kernel_rfl) (Fills.cons rfl rfl rfl zPut (Fills.cons rfl rfl rfl zPut (Fills.cons rfl rfl rfl zPut Fills.nil)))) ?_
  refine L.call rfl rfl rfl call81 rfl (fun w hw => pgWriteMeta_ok hd2 ⟨1, 0, 2, n⟩ ⟨by show 1 < _; decide, by show 0 < _; decide, by show 2 < _; decide, by show n < _; omega⟩ hw) ?_
  rintro _ a w hst ⟨S3, f3, dk3, err, rfl, le3, hd3, hres, hw⟩
  refine hst.go rfl hw ?_
  clear hst hw w a
  have hc0 : (dk.write 0 (metaB ⟨0, 0, 0, n⟩)).chk 1 = 0 := hf2.chk (by omega) (by omega)
  have hR0 : MRight ⟨1, 0, 2, n⟩ := ⟨.inl rfl, .inr ⟨by show 2 ≤ 2; omega, by show 2 < n; omega⟩, n0, n1⟩
  obtain ⟨rfl, rfl⟩ : err = 0 ∧ dk3 = (dk.write 0 (metaB ⟨0, 0, 0, n⟩)).write 1 (metaB ⟨1, 0, 2, n⟩) := by
   rcases hres with h | h
   ·exact h.2.2
   ·exact absurd ⟨hR0, hc0⟩ h.1
  have hf3 := hf2.write 1 (metaB ⟨1, 0, 2, n⟩)
  have hn3 : ((dk.write 0 (metaB ⟨0, 0, 0, n⟩)).write 1 (metaB ⟨1, 0, 2, n⟩)).size = n := hn
  refine L.sliceF1 rfl rfl rfl underlying248 sizeOf32 zeroValue32 rfl (by decide) (by decide) (Fills.cons (off := 0) rfl rfl rfl zPut (Fills.cons (off := 1) rfl rfl rfl zPut Fills.nil)) (fun b34 => ?_)
  refine L.call rfl rfl rfl call105 rfl (fun w hw => first_ok (l := [0, 0]) ⟨rfl, .inr ⟨b34, 0, 2, _, _, _, rfl, ⟨Nat.le_refl _, by decide⟩, .head, fun j hj => by simp; rfl⟩⟩ (by decide) hw) ?_
  rintro _ a w hst ⟨rfl, hw⟩
  refine hst.go rfl hw ?_
  clear hst hw w a
  rw [show firstE [0, 0] = 0 from rfl]
  have hk : fmtK n ≤ n - 2 := by unfold fmtK; omega
  have hal3 := hall.mono (Sees.le (le2.trans le3) _)
  obtain ⟨ad3, had3⟩ : ∃ ad3, (if vc = fmtK n then va else va.map (·.add (fmtK n * 1))) = ad3 := ⟨_, rfl⟩
  have hA : Ids S3 [] (.slice va (fmtK n) vc) ((fmtA n).take (fmtK n)) := by
   have := Ids.dropv (lo := 0) (hi := fmtK n) (l := fmtA n) (c := vc) (ad := va) (by rw [fmtA_len]; exact hal3) (by omega) (by rw [fmtA_len]; omega) (ad' := va) (by split <;> cases va <;> simp [Addr.add])
   simpa using this
  have hB : Ids S3 [] (.slice ad3 (n - 2 - fmtK n) (vc - fmtK n)) ((fmtA n).drop (fmtK n)) := by
   have := Ids.dropv (lo := fmtK n) (hi := n - 2) (l := fmtA n) (c := vc) (ad := va) (by rw [fmtA_len]; exact hal3) (by omega) (by rw [fmtA_len]; omega) had3
   rw [List.take_of_length_le (by rw [List.length_drop, fmtA_len]; omega)] at this
   exact this
  refine sA rfl (sN (sC (sC ?_)))
  refine C.drawC [] (Hp w0 F S3 (f3 ++ Hr)) (fun w h => h.sub zSub) (by kernel_rfl) rfl (fun w hw => hw.drawn _) ?_
  refine D.take 0 (listed' := #[true, false, false, false, false, false, false, false, false]) rfl (by kernel_rfl) rfl rfl rfl rfl (V.move rfl) (fun w h => h.sub zSub) ?_
  refine D.take 1 (listed' := #[true, true, false, false, false, false, false, false, false]) rfl (by kernel_rfl) rfl rfl rfl rfl (V.move rfl) (fun w h => h.sub zSub) ?_
  refine D.take 2 (listed' := #[true, true, true, false, false, false, false, false, false]) rfl (by kernel_rfl) rfl rfl rfl rfl (V.slice (l := 0) (u := fmtK n) rfl underlying37 sizeOf3 rfl ⟨_, rfl⟩ (by omega) (by omega) (ad' := va) (by split <;> cases va <;> simp [Addr.add])) (fun w h => h.sub zSub) ?_
  refine D.take 3 (listed' := #[true, true, true, true, false, false, false, false, false]) rfl (by kernel_rfl) rfl rfl rfl rfl (V.move rfl) (fun w h => h.sub zSub) ?_
  refine D.take 4 (listed' := #[true, true, true, true, true, false, false, false, false]) rfl (by kernel_rfl) rfl rfl rfl rfl (V.move rfl) (fun w h => h.sub zSub) ?_
  refine D.take 5 (listed' := #[true, true, true, true, true, true, false, false, false]) rfl (by kernel_rfl) rfl rfl rfl rfl (V.slice (l := fmtK n) (u := n - 2) rfl underlying37 sizeOf3 ⟨_, rfl⟩ rfl (by omega) (by omega) had3) (fun w h => h.sub zSub) ?_
  refine D.take 8 (listed' := #[true, true, true, true, true, true, false, false, true]) rfl (by kernel_rfl) rfl rfl rfl rfl (V.move rfl) (fun w h => h.sub zSub) ?_
  refine D.step 6 (listed' := #[true, true, true, true, true, true, true, false, true]) (by kernel_rfl) rfl rfl (.inr (fun w h => h.sub zSub)) ?_
  refine L.call rfl rfl rfl call79 rfl (fun w hw => links_ok (txn := 1) hA hB (by rw [List.length_take, fmtA_len]; omega) (by rw [List.length_drop, fmtA_len]; omega) hw) ?_
  rintro _ a w hst ⟨v42, rows, f42, rfl, ho42, hrows, hw⟩
  refine hst.go rfl hw ?_
  clear hst hw w a
  have hlen : ((fmtA n).take (fmtK n)).length = fmtK n := by rw [List.length_take, fmtA_len]; omega
  rw [hlen] at ho42
  obtain ⟨a42, c42, rfl⟩ := ho42.form
  refine D.back ?_
  refine D.step 7 (listed' := #[true, true, true, true, true, true, true, true, true]) (by kernel_rfl) rfl rfl (.inr (fun w h => h.sub zSub)) ?_
  refine L.w rfl (V.len rfl underlying154) ?_
  refine D.back ?_
  refine D.done (by kernel_rfl) (.inr (fun w h => h.sub zSub)) (N.seq ?_)
  refine sB ?_
  have hrl : rows.length = fmtK n := by rw [hrows.length, linkP_len, hlen]
  have hr7 : ∀ r ∈ rows, r.length = 7 := hrows.left fun r p ⟨_, _, _, _, e, _⟩ => by rw [e]; rfl
  have hrd : Rd S3 f42 7 (.slice a42 (fmtK n) c42) (fmtK n) rows.flatten := ho42.rd (fun p hp => hp)
  have hLl : (fmtL n).length = fmtK n := by unfold fmtL; rw [List.length_zip, List.length_map, linkP_len, hlen, Nat.min_self]
  have hLin : ∀ x ∈ fmtL n, 0 ≤ x.1 ∧ x.1 < (n : Int) := fun x hx => by
   have h1 := (List.of_mem_zip (show (x.1, x.2) ∈ _ from hx)).1
   obtain ⟨i, hi, e⟩ := List.mem_map.1 h1
   have := fmtA_mem (List.mem_of_mem_take hi)
   omega
  have hLr := linkP_right ((fmtA n).take (fmtK n)) ((fmtA n).drop (fmtK n)) 1 (fun i hi => by have := fmtA_mem (List.mem_of_mem_take hi); omega) (fun i hi => by have := fmtA_mem (List.mem_of_mem_drop hi); exact ⟨by omega, by omega⟩) ((fmtA_asc n).sublist (List.drop_sublist _ _))
  obtain ⟨d3, hd3e⟩ : ∃ d3, (dk.write 0 (metaB ⟨0, 0, 0, n⟩)).write 1 (metaB ⟨1, 0, 2, n⟩) = d3 := ⟨_, rfl⟩
  rw [hd3e] at hd3 hf3 hn3
  refine C.loop (α := Nat × Store × Heap) (fun z => [(0, .pointer (some ⟨db, 0, none⟩)), (3, .slice va (n - 2) vc), (42, .slice a42 (fmtK n) c42), (43, .int .i64 (fmtK n : Int)), (44, .int .i64 (z.1 : Int)), (6, .int .i64 0)]) (fun z w => (z.1 ≤ fmtK n ∧ S3.le z.2.1 ∧ DkR z.2.1 db (wrs (d3, 0) ((fmtL n).take z.1)).1 z.2.2) ∧ Hp w0 F z.2.1 (f42 ++ (z.2.2 ++ Hr)) w) (fun z => fmtK n - z.1) (0, S3, f3) ⟨rfl, rfl, rfl, rfl, rfl, rfl, trivial⟩ (fun w hw => ⟨⟨Nat.zero_le _, .refl _, hd3⟩, hw.sub zSub⟩) (fun zz => C.pure (fun hzz => ?_))
  obtain ⟨z, S4, f4⟩ := zz
  obtain ⟨hz, le4, hd4⟩ := hzz
  dsimp only at hz le4 hd4 ⊢
  refine sD (sQc rfl (sN (sC ?_)))
  refine C.cond rfl (fun h45 => ?_) (fun h45 => ?_)
  ·try simp only [sq] at h45
   have hj : z < fmtK n := by omega
   obtain ⟨b, off, cs, T, fz, rfl, g1, g2, g3, g4⟩ := (hrd.mono (Sees.le le4 _)).row hr7 hrl (j := z) (by omega) (by decide)
   have hzl : z < (linkP ((fmtA n).take (fmtK n)) ((fmtA n).drop (fmtK n)) 1).length := by rw [linkP_len, hlen]; exact hj
   have hpc := hrows.get z (by omega) hzl
   obtain ⟨hpR, hpt⟩ := hLr _ (List.getElem_mem hzl)
   have hids : Ids S4 [] (.slice va (n - 2) vc) (fmtA n) := Is.mono hall (Sees.le (le2.trans (le3.trans le4)) _)
   have hja : z < (fmtA n).length := by rw [fmtA_len]; omega
   obtain ⟨c9, o9, cs9, T9, fz9, rfl, q1, q2⟩ := hids.at hja
   have hzL : z < (fmtL n).length := by omega
   have hLz := fmtL_at hzL hja hzl
   have hstep : (fmtL n).take (z + 1) = (fmtL n).take z ++ [(fmtL n)[z]] := List.take_succ_eq_append_getElem hzL
   rw [hLz] at hstep
   obtain ⟨row, hrow⟩ : ∃ row, rows[z]'(by omega) = row := ⟨_, rfl⟩
   obtain ⟨p, hp⟩ : ∃ p, (linkP ((fmtA n).take (fmtK n)) ((fmtA n).drop (fmtK n)) 1)[z] = p := ⟨_, rfl⟩
   obtain ⟨i, hi⟩ : ∃ i, (fmtA n)[z] = i := ⟨_, rfl⟩
   have hin := fmtA_mem (List.getElem_mem hja)
   rw [hi] at hstep q2 hin
   rw [hrow] at g3 hpc
   rw [hp] at hstep hpc hpR hpt
   have hpc4 := hpc.mono le4 (fun q hq => hq)
   obtain ⟨y1, y2, y3, y4, y5, y6, y7, hy, hy1⟩ := page_form ⟨row, rfl, hpc⟩
   have hyr : row = [y1, y2, y3, y4, y5, y6, y7] := by injection hy with hy; simpa using congrArg Array.toList hy
   rw [hyr] at g3 hpc4
   have hsmall := hpR.small (by rw [hpt]; decide)
   have hlive := Live.wrs hf3 (l := (fmtL n).take z) (fun x hx => by rw [hn3]; exact hLin x (List.mem_of_mem_take hx))
   have hsz : (wrs (d3, 0) ((fmtL n).take z)).1.size = n := by rw [wrs_size]; exact hn3
   refine sK (sC (sB (sD (sM rfl ?_))))
   refine L.w rfl (V.indexAddr rfl rfl underlying154 sizeOf125 rfl (by omega)) ?_
   refine L.w rfl (V.loadN rfl isAgg125 sizeOf125 (.apl g1) g2 g3) ?_
   refine L.allocA rfl rfl zeroValue125 (fun b8 => ?_)
   refine sA rfl ?_
   refine L.storeBox rfl rfl rfl sizeOf125 rfl rfl hy1 zUp ?_
   refine sE (sM rfl (sQa rfl (sN (sO rfl ?_))))
   refine C.drawC [] (Hp w0 F S4 ((b8, .cells #[y1, y2, y3, y4, y5, y6, y7] 125 (0, 0)) :: Hr)) (fun w h => h.sub zSub) (by kernel_rfl) rfl (fun w hw => hw.drawn _) ?_
   refine D.take 0 (listed' := #[true, false, false, false, false, false, false, false]) rfl (by kernel_rfl) rfl rfl rfl rfl (V.move rfl) (fun w h => h.sub zSub) ?_
   refine D.take 1 (listed' := #[true, true, false, false, false, false, false, false]) rfl (by kernel_rfl) rfl rfl rfl rfl (V.move rfl) (fun w h => h.sub zSub) ?_
   refine D.take 2 (listed' := #[true, true, true, false, false, false, false, false]) rfl (by kernel_rfl) rfl rfl rfl rfl (V.move rfl) (fun w h => h.sub zSub) ?_
   refine D.take 3 (listed' := #[true, true, true, true, false, false, false, false]) rfl (by kernel_rfl) rfl rfl rfl rfl (V.indexAddr rfl rfl underlying37 sizeOf3 rfl (by omega)) (fun w h => h.sub zSub) ?_
   refine D.take 4 (listed' := #[true, true, true, true, true, false, false, false]) rfl (by kernel_rfl) rfl rfl rfl rfl (V.load rfl isAgg3 (q1.lift _) q2) (fun w h => h.sub zSub) ?_
   refine D.take 5 (listed' := #[true, true, true, true, true, true, false, false]) rfl (by kernel_rfl) rfl rfl rfl rfl (V.loadBox rfl isAgg125 sizeOf125 zAt (by rfl)) (fun w h => h.sub zSub) ?_
   refine D.step 6 (listed' := #[true, true, true, true, true, true, true, false]) (by kernel_rfl) rfl rfl (.inr (fun w h => h.sub zSub)) ?_
   refine L.call rfl rfl rfl call78 rfl (fun w hw => pgWrite_ok (Hr := (b8, _) :: (f42 ++ Hr)) hd4 (hpc4.mono (.refl _) (fun q hq => by cases hq)) hsmall (i : Int) (hw.re zRe)) ?_
   rintro _ a w hst ⟨S5, f5, dk5, err, rfl, le5, hd5, hres, hw⟩
   refine hst.go rfl hw ?_
   clear hst hw w a
   have hck : (wrs (d3, 0) ((fmtL n).take z)).1.chk (i : Int) = 0 := hlive.2.chk (by omega) (by rw [hsz]; omega)
   obtain ⟨rfl, rfl⟩ : err = 0 ∧ dk5 = (wrs (d3, 0) ((fmtL n).take z)).1.write (i : Int) (pageB p) := by
    rcases hres with h | h
    ·exact h.2.2
    ·exact absurd ⟨hpR, hck⟩ h.1
   have hd6 : DkR S5 db (wrs (d3, 0) ((fmtL n).take (z + 1))).1 f5 := by
    rw [hstep, wrs_snoc]
    unfold wr
    rw [if_neg (fun h => h hlive.1), if_pos hck]
    exact hd5
   refine D.back ?_
   refine D.step 7 (listed' := #[true, true, true, true, true, true, true, true]) (by kernel_rfl) rfl rfl (.inr (fun w h => (h.less le5).sub zSub)) ?_
   refine sA rfl ?_
   refine D.back ?_
   refine D.done (by kernel_rfl) (.inr (fun w h => (h.less le5).sub zSub)) (N.blk (N.seq ?_))
   refine sR ?_
   refine L.w rfl (V.add (c := ((z + 1 : Nat) : Int)) rfl rfl (by rw [w64 (by omega) (by omega)]; omega)) ?_
   refine sM rfl ?_
   refine L.nil ?_
   refine N.round (z + 1, S5, f5) (by show fmtK n - (z + 1) < fmtK n - z; omega) ⟨rfl, rfl, rfl, rfl, rfl, rfl, trivial⟩ (fun w hw => ⟨⟨by show z + 1 ≤ _; omega, le4.trans le5, hd6⟩, Hp.re (hw.sub (H' := f5 ++ (f42 ++ Hr)) zSub) zRe⟩)
  ·try simp only [sq] at h45
   have ez : z = fmtK n := by omega
   subst ez
   have hlive := Live.wrs hf3 (l := (fmtL n).take (fmtK n)) (fun x hx => by rw [hn3]; exact hLin x (List.mem_of_mem_take hx))
   have hsz : (wrs (d3, 0) ((fmtL n).take (fmtK n))).1.size = n := by rw [wrs_size]; exact hn3
   rw [List.take_of_length_le (by omega)] at hd4 hlive hsz
   refine sZ rfl (sC (sD (sM rfl (sQb rfl (sN (sP rfl (sK (sD (sM rfl ?_)))))))))
   refine L.call rfl rfl rfl call80 rfl (fun w hw => diskSync_ok (Hr := f42 ++ Hr) hd4 (hw.re zRe)) ?_
   rintro _ a w hst ⟨f5, dk5, rfl, hd5, hres, hw⟩
   refine hst.go rfl hw ?_
   clear hst hw w a
   have hck := hlive.2.chk (i := 0) (by omega) (by rw [hsz]; omega)
   obtain rfl : dk5 = dk.fmt := by
    rcases hres with h | h
    ·rw [h.2]; unfold Dk.fmt; rw [‹dk.size = n›, hd3e]
    ·exact absurd hck h.1
   rw [hck]
   refine sA rfl (sN ?_)
   refine R.ret1 results53 rfl (fun w hw => ?_)
   exact ⟨S4, f5, rfl, le1.trans (le2.trans (le3.trans le4)), hd5, hw.sub zSub⟩
end
end Go.Proofs.YtijgbppkdaiikaaGreat

set_option linter.unusedSimpArgs false
set_option linter.unusedVariables false
namespace Go.Proofs.YtijgbppkdaiikaaGreat
open Go.Proofs.Tryz Go.Tk

/-- The chain's pages from a page on, and what they list. -/
noncomputable def openF (dk : Dk) (size : Nat) : Nat → Nat → List Int → List Nat → Except Int (List Int × List Nat)
 | 0, _, _, _ => .error 4
 | f + 1, i, chain, ids => if i = 0 then .ok (chain, ids) else if i < 2 ∨ size ≤ i ∨ (i : Int) ∈ chain then .error 4 else
    match pgP false size (fun _ => none) dk i with
    | none => .error (pgE false size (fun _ => none) dk i)
    | some x => if x.kind ≠ 4 then .error 4 else openF dk size f x.next (chain ++ [(i : Int)]) (ids ++ x.ids)
def intL (l : List Nat) : List Int := l.map (fun n : Nat => (n : Int))
theorem intL_len (l : List Nat) : (intL l).length = l.length := by simp [intL]
open Classical in
/-- What Open tells. -/
noncomputable def opens (dk : Dk) : Except Int Pr :=
 if dk.dead then .error 10 else match mchoose (dk.get 0) (dk.get 1) with
 | none => .error 7
 | some m => if m.size ≠ dk.size then .error 4 else match openF dk m.size 1025 m.spare [] [] with
   | .error e => .error e
   | .ok (chain, ids) => if NewOk m.size (intL ids ++ chain) then .ok ⟨dk, m, ⟨m.size, sortL (intL ids), []⟩, chain, fun _ => none, m.root, false⟩ else .error 4

theorem mstep_some {i : Nat} {b : List UInt8} {acc : Option Mt} {m : Mt} (h : mstep i b acc = some m) : mdecP b = some m ∨ acc = some m := by
 unfold mstep at h
 cases hd : mdecP b with
 | none => rw [hd] at h; exact .inr h
 | some q =>
   rw [hd] at h
   dsimp only at h
   cases acc with
   | none =>
     dsimp only at h
     split at h
     ·exact .inl h
     ·exact .inr h
   | some a =>
     dsimp only at h
     split at h
     ·exact .inl h
     ·exact .inr h
theorem mchoose_some {zero one : List UInt8} {m : Mt} (h : mchoose zero one = some m) : mdecP zero = some m ∨ mdecP one = some m := by
 rcases mstep_some h with h | h
 ·exact .inr h
 ·rcases mstep_some h with h | h
  ·exact .inl h
  ·cases h
theorem mchoose_right {zero one : List UInt8} {m : Mt} (h : mchoose zero one = some m) : MRight m ∧ m.txn < 2 ^ 64 := by
 rcases mchoose_some h with h | h <;> exact ⟨(mdecP_some h).1, (mdecP_some h).2.1⟩
theorem nodup_len {l : List Int} (h : l.Nodup) {n : Nat} (hb : ∀ i ∈ l, 2 ≤ i ∧ i < (n : Int)) : l.length ≤ n := by
 have := asc_len (sortL_asc h) (n := n) (fun i hi => hb i ((sortL_perm l).mem_iff.1 hi))
 rw [(sortL_perm l).length_eq] at this; exact this
theorem pgP_right {dead : Bool} {size : Nat} {added : Int → Option Page} {dk : Dk} {id : Int} {p : Page} (hr : ∀ j p, added j = some p → Right p) (h : pgP dead size added dk id = some p) : Right p := by
 unfold pgP at h
 split at h
 ·cases h
 ·split at h
  ·rename_i q hq; injection h with h; subst h; exact hr _ _ hq
  ·split at h
   ·cases h
   ·exact (decP_some h).1

theorem pageO_form {S : Store} {c : List Value} {p : Page} {fp : Heap} (h : PageO S c p fp) : ∃ y1 y2 y3 y4 y5 y6 y7, c = [y1, y2, y3, y4, y5, y6, y7] ∧ [y1, y2, y3, y4, y5, y6, y7].all (·.oneCell') = true := by
 obtain ⟨iv, kv, dv, xv, fi, fk, fd, fx, rfl, hpt, _⟩ := h
 obtain ⟨qi, ci, rfl⟩ := (show ∃ ad c, iv = .slice ad p.items.length c from by obtain ⟨r, h, _⟩ := hpt.items; exact h.form)
 obtain ⟨qk, ck, rfl⟩ := (show ∃ ad c, kv = .slice ad p.kids.length c from by obtain ⟨r, h, _⟩ := hpt.kids; exact h.form)
 obtain ⟨qd, cd, rfl⟩ := hpt.data.form
 obtain ⟨qx, cx, rfl⟩ := (show ∃ ad c, xv = .slice ad p.ids.length c from Own.form hpt.ids)
 exact ⟨_, _, _, _, _, _, _, rfl, rfl⟩

section
variable {w0 : World} {F : Nat → Prop} {S : Store} {Hr : Heap} {w : World}

theorem pgOpen_ok {db : Nat} {dk : Dk} {dfp : Heap} (hd : DkR S db dk dfp) (htx : ∀ m, mchoose (dk.get 0) (dk.get 1) = some m → m.txn < 2 ^ 62) (hw : Hp w0 F S (dfp ++ Hr) w) :
 Calls Tryz.prog 23 #[.pointer (some ⟨db, 0, none⟩)] w fun e w' => ∃ S', S.le S' ∧ ((∃ s b fp, opens dk = .ok s ∧ e = .returned (.tuple #[.pointer (some ⟨b, 0, none⟩), .int .i64 0]) ∧ PgR S' b db s fp ∧ Hp w0 F S' (fp ++ Hr) w') ∨ (∃ err : Int, opens dk = .error err ∧ err ≠ 0 ∧ e = .returned (.tuple #[.pointer none, .int .i64 err]) ∧ Hp w0 F S' (dfp ++ Hr) w')) := by
 have n0 := hd.ok.s0
 have n1 := hd.ok.s1
 have hck : ∀ i : Int, 0 ≤ i → i < (dk.size : Int) → dk.chk i = if dk.dead then 10 else 0 := fun i h0 h1 => by
  unfold Dk.chk; rw [if_neg (show ¬ (i < 0 ∨ (dk.size : Int) ≤ i) by omega)]
 have hl0 := hd.ok.get 0
 have hl1 := hd.ok.get 1
 refine enterA hw func23 rfl ntmps23 rfl rfl ?_
 refine sD (sA rfl (sA rfl (sE (sM rfl ?_))))
 refine L.call rfl rfl rfl call85 rfl (fun w hw => diskRead_ok hd 0 hw) ?_
 rintro _ a w hst ⟨v0, f0, rfl, hr0, hw⟩
 refine hst.go rfl hw ?_
 clear hst hw w a
 rw [hck 0 (by omega) (by omega)] at hr0 ⊢
 refine sM rfl (sX rfl (sX rfl (sA rfl (sA rfl (sN (sC (sD (sM rfl (sQb rfl (sN ?_))))))))))
 refine C.cond rfl (fun h21 => ?_) (fun h21 => ?_)
 ·try simp only [sq] at h21
  refine sD (sM rfl (sA rfl (sA rfl (sN ?_))))
  refine R.ret2 results23 rfl rfl (fun w hw => ?_)
  have hdd : dk.dead = true := by
   cases hdd : dk.dead with
   | true => rfl
   | false => rw [hdd] at h21; exact absurd rfl h21
  rw [hdd]
  exact ⟨S, .refl S, .inr ⟨10, by unfold opens; rw [if_pos hdd], by decide, rfl, hw.sub (List.sublist_append_right ..)⟩⟩
 ·try simp only [sq] at h21
  have hdd : dk.dead = false := by
   cases hdd : dk.dead with
   | false => rfl
   | true => rw [hdd] at h21; exact absurd h21 (by decide)
  rw [hdd, if_neg (by decide)] at hr0
  have ho0 : OwnB 5 v0 (dk.get 0) f0 := by
   rcases hr0 with h | h
   ·exact h.2
   ·exact absurd rfl h.1
  refine sK (sD (sM rfl ?_))
  refine L.call rfl rfl rfl call85 rfl (fun w hw => diskRead_ok (Hr := f0 ++ Hr) hd 1 (hw.re zRe)) ?_
  rintro _ a w hst ⟨v1, f1, rfl, hr1, hw⟩
  refine hst.go rfl hw ?_
  clear hst hw w a
  rw [hck 1 (by omega) (by omega), hdd, if_neg (by decide)] at hr1 ⊢
  have ho1 : OwnB 5 v1 (dk.get 1) f1 := by
   rcases hr1 with h | h
   ·exact h.2
   ·exact absurd rfl h.1
  refine sM rfl (sX rfl (sX rfl (sA rfl (sA rfl (sN (sC (sD (sM rfl (sQb rfl (sN (sP rfl (sK (sD ?_)))))))))))))
  refine sM rfl (sM rfl ?_)
  refine L.call rfl rfl rfl call86 rfl (fun w hw => choose_ok (ho0.bs (fun q hq => by simp [hq])) (ho1.bs (fun q hq => by simp [hq])) (by omega) (by omega) hw) ?_
  rintro _ a w hst ⟨S1, le1, rfl, hw⟩
  refine hst.go rfl hw ?_
  clear hst hw w a
  obtain ⟨acc, hacc⟩ : ∃ acc, mchoose (dk.get 0) (dk.get 1) = acc := ⟨_, rfl⟩
  rw [hacc]
  rw [hacc] at htx
  obtain ⟨x1, x2, x3, x4, hx, hx1⟩ := accC_form acc
  rw [hx]
  have hd1 := hd.mono le1
  refine sM rfl (sX rfl (sX rfl ?_))
  refine L.allocA rfl rfl zeroValue139 (fun b7 => ?_)
  refine L.storeBox rfl rfl rfl sizeOf139 rfl rfl (by rfl) zUp ?_
  refine sA rfl (sN (sC (sD (sM rfl (sQb rfl (sN ?_))))))
  refine C.cond rfl (fun h38 => ?_) (fun h38 => ?_)
  ·try simp only [sq] at h38
   refine sD (sM rfl (sA rfl (sA rfl (sN ?_))))
   refine R.ret2 results23 rfl rfl (fun w hw => ?_)
   have hn : acc = none := by
    cases acc with
    | none => rfl
    | some m => exact absurd rfl h38
   subst hn
   exact ⟨S1, le1, .inr ⟨7, by unfold opens; rw [if_neg (by rw [hdd]; decide), hacc], by decide, rfl, hw.sub zSub⟩⟩
  ·try simp only [sq] at h38
   obtain ⟨m, rfl⟩ : ∃ m, acc = some m := by
    cases acc with
    | some m => exact ⟨m, rfl⟩
    | none => exact absurd h38 (by decide)
   have htx := htx m rfl
   obtain ⟨hmR, _⟩ := mchoose_right hacc
   have k0 := hmR.s0
   have k1 := hmR.s1
   obtain ⟨rfl, rfl, rfl, rfl⟩ : x1 = (m.txn : Int) ∧ x2 = (m.root : Int) ∧ x3 = (m.spare : Int) ∧ x4 = (m.size : Int) := by
    have h3 : MtC m = [.int .u64 x1, .int .i64 x2, .int .i64 x3, .int .i64 x4] := hx
    simp only [MtC, List.cons.injEq, Value.int.injEq] at h3
    exact ⟨h3.1.2.symm, h3.2.1.2.symm, h3.2.2.1.2.symm, h3.2.2.2.1.2.symm⟩
   refine sK (sC (sC ?_))
   refine C.drawC [] (Hp w0 F S1 ((b7, .cells #[.int .u64 (m.txn : Int), .int .i64 (m.root : Int), .int .i64 (m.spare : Int), .int .i64 (m.size : Int)] 139 (0, 0)) :: Hr)) (fun w h => h.sub zSub) (by kernel_rfl) rfl (fun w hw => hw.drawn _) ?_
   refine D.take 0 (listed' := #[true, false, false, false, false]) rfl (by kernel_rfl) rfl rfl rfl rfl (V.fa rfl underlying139 rfl rfl sizeOf3) (fun w h => h.sub zSub) ?_
   refine D.take 1 (listed' := #[true, true, false, false, false]) rfl (by kernel_rfl) rfl rfl rfl rfl (V.load rfl isAgg3 zAt (by rfl)) (fun w h => h.sub zSub) ?_
   refine D.take 2 (listed' := #[true, true, true, false, false]) rfl (by kernel_rfl) rfl rfl rfl rfl (V.move rfl) (fun w h => h.sub zSub) ?_
   refine D.step 3 (listed' := #[true, true, true, true, false]) (by kernel_rfl) rfl rfl (.inr (fun w h => h.sub zSub)) ?_
   refine L.call rfl rfl rfl call87 rfl (fun w hw => diskSize_ok (Hr := (b7, _) :: Hr) hd1 (Hp.re (hw.sub (H' := (b7, _) :: (dfp ++ Hr)) zSub) zRe)) ?_
   rintro _ a w hst ⟨rfl, hw⟩
   refine hst.go rfl hw ?_
   clear hst hw w a
   refine D.back ?_
   refine D.step 4 (listed' := #[true, true, true, true, true]) (by kernel_rfl) rfl rfl (.inr (fun w h => h.sub zSub)) ?_
   refine sQb rfl ?_
   refine D.back ?_
   refine D.done (by kernel_rfl) (.inr (fun w h => h.sub zSub)) (N.seq ?_)
   refine C.cond rfl (fun h44 => ?_) (fun h44 => ?_)
   ·try simp only [sq] at h44
    refine sD (sA rfl (sA rfl (sN ?_)))
    refine R.ret2 results23 rfl rfl (fun w hw => ?_)
    have hne : m.size ≠ dk.size := by omega
    exact ⟨S1, le1, .inr ⟨4, by unfold opens; rw [if_neg (by rw [hdd]; decide), hacc]; exact if_pos hne, by decide, rfl, hw.sub zSub⟩⟩
   ·try simp only [sq] at h44
    have hsz : m.size = dk.size := by omega
    refine sK (sD (sM rfl ?_))
    refine L.w rfl (V.loadBox rfl isAgg139 sizeOf139 zAt (by rfl)) ?_
    refine L.w rfl (V.fa rfl underlying139 rfl rfl sizeOf3) ?_
    refine L.w rfl (V.load rfl isAgg3 zAt (by rfl)) ?_
    refine L.makeMap rfl rfl (fun b49 => ?_)
    refine L.w rfl (V.build rfl underlying141 zeroValue141 (pl := [(0, 1), (1, 4), (5, 1), (6, 1), (7, 1), (8, 1), (9, 1)]) (fun w => by kernel_rfl) (Fills.cons rfl rfl rfl zPut (Fills.cons rfl rfl rfl zPut (Fills.cons rfl rfl rfl zPut (Fills.cons rfl rfl rfl zPut Fills.nil))))) ?_
    refine L.boxA rfl rfl rfl (fun b51 => ?_)
    refine sA rfl (sE (sA rfl (sN (sC (sD ?_)))))
    refine L.w rfl (V.fa rfl underlying139 rfl rfl sizeOf3) ?_
    refine L.w rfl (V.load rfl isAgg3 zAt (by rfl)) ?_
    refine sA rfl (sN (sB ?_))
    obtain ⟨RZ, hRZ⟩ : ∃ R, openF dk m.size 1025 m.spare [] [] = R := ⟨_, rfl⟩
    refine C.loop (α := Nat × List Int × List Nat × Store × Value × Value × Heap × Heap) (fun z => [(0, .pointer (some ⟨db, 0, none⟩)), (7, .pointer (some ⟨b7, 0, none⟩)), (8, .pointer (some ⟨b51, 0, none⟩)), (9, z.2.2.2.2.2.1), (10, .int .i64 (z.1 : Int))])
     (fun z w => (RZ = openF dk m.size (1025 - z.2.1.length) z.1 z.2.1 z.2.2.1 ∧ z.2.1.Nodup ∧ (∀ i ∈ z.2.1, 2 ≤ i ∧ i < (m.size : Int)) ∧ S1.le z.2.2.2.1 ∧ Own 3 1 z.2.2.2.2.1 z.2.1.length (z.2.1.map iv) z.2.2.2.2.2.2.1 ∧ Own 3 1 z.2.2.2.2.2.1 z.2.2.1.length ((intL z.2.2.1).map iv) z.2.2.2.2.2.2.2 ∧ z.2.2.1.length ≤ 59 * z.2.1.length) ∧
       Hp w0 F z.2.2.2.1 ((b51, pgObjV db (.pointer none) b49 m z.2.2.2.2.1 m.root false) :: (b49, mobj [] 0) :: (b7, .cells #[.int .u64 (m.txn : Int), .int .i64 (m.root : Int), .int .i64 (m.spare : Int), .int .i64 (m.size : Int)] 139 (0, 0)) :: (z.2.2.2.2.2.2.1 ++ (z.2.2.2.2.2.2.2 ++ (dfp ++ Hr)))) w)
     (fun z => 1025 - z.2.1.length) (m.spare, [], [], S1, .slice none 0 0, .slice none 0 0, [], []) ⟨rfl, rfl, rfl, rfl, rfl, trivial⟩ (fun w hw => ⟨⟨hRZ.symm, List.nodup_nil, fun i hi => (by cases hi), .refl _, Own.nil _ _, Own.nil _ _, Nat.zero_le _⟩, Hp.re (hw.sub (H' := (b51, pgObjV db (.pointer none) b49 m (.slice none 0 0) m.root false) :: (b49, mobj [] 0) :: (dfp ++ ((b7, .cells #[.int .u64 (m.txn : Int), .int .i64 (m.root : Int), .int .i64 (m.spare : Int), .int .i64 (m.size : Int)] 139 (0, 0)) :: Hr))) zSub) zRe⟩) (fun zz => C.pure (fun hzz => ?_))
    obtain ⟨i, chain, ids, S2, cv, iv9, fc, fi⟩ := zz
    obtain ⟨hF, hnd, hin, le2, hoc, hoi, hil⟩ := hzz
    dsimp only at hF hnd hin le2 hoc hoi hil ⊢
    have hcl := nodup_len hnd hin
    obtain ⟨f, hf⟩ : ∃ f, 1025 - chain.length = f + 1 := ⟨1024 - chain.length, by omega⟩
    rw [hf, openF] at hF
    obtain ⟨ca, cc, rfl⟩ := hoc.form
    obtain ⟨ia, ic, rfl⟩ := hoi.form
    have hd2 := hd1.mono le2
    refine sC (sD (sM rfl (sQb rfl (sN ?_))))
    refine C.cond rfl (fun h55 => ?_) (fun h55 => ?_)
    ·try simp only [sq] at h55
     have hi0 : ¬ i = 0 := by omega
     rw [if_neg hi0] at hF
     refine sK (sB (sC (sD (sM rfl (sQc rfl (sM rfl ?_))))))
     refine L.fork (d := 58) rfl (fun h58 => ?_) (fun h58 => ?_)
     ·try simp only [sq] at h58
      refine sS rfl (sS rfl (sS rfl (sS rfl (sT rfl (sM rfl (sS rfl (sS rfl (sS rfl (sS rfl (sS rfl (sS rfl (sT rfl (sN ?_)))))))))))))
      refine sO rfl (sD (sA rfl (sA rfl (sN ?_))))
      refine R.ret2 results23 rfl rfl (fun w hw => ?_)
      have hbad : i < 2 ∨ m.size ≤ i ∨ (i : Int) ∈ chain := by
       first
        | (rcases h71 with h | h; · omega; · exact .inr (.inr h))
        | omega
        | exact .inr (.inr h71)
      rw [if_pos hbad] at hF
      refine ⟨S2, le1.trans le2, .inr ⟨4, by unfold opens; rw [if_neg (by rw [hdd]; decide), hacc]; dsimp only; rw [if_neg (fun h => h hsz), hRZ, hF], by decide, rfl, hw.sub zSub⟩⟩
     ·try simp only [sq] at h58
      refine sM rfl ?_
      refine L.w rfl (V.fa rfl underlying139 rfl rfl sizeOf3) ?_
      refine L.w rfl (V.load rfl isAgg3 zAt (by rfl)) ?_
      refine sQf rfl (sU rfl (sM rfl ?_))
      refine L.fork (d := 64) rfl (fun h64 => ?_) (fun h64 => ?_)
      ·try simp only [sq] at h64
       refine sS rfl (sS rfl (sS rfl (sS rfl (sS rfl (sS rfl (sT rfl (sN (sO rfl (sD (sA rfl (sA rfl (sN ?_))))))))))))
       refine R.ret2 results23 rfl rfl (fun w hw => ?_)
       have hbad : i < 2 ∨ m.size ≤ i ∨ (i : Int) ∈ chain := by
        first
         | (rcases h71 with h | h; · omega; · exact .inr (.inr h))
         | omega
         | exact .inr (.inr h71)
       rw [if_pos hbad] at hF
       refine ⟨S2, le1.trans le2, .inr ⟨4, by unfold opens; rw [if_neg (by rw [hdd]; decide), hacc]; dsimp only; rw [if_neg (fun h => h hsz), hRZ, hF], by decide, rfl, hw.sub zSub⟩⟩
      ·try simp only [sq] at h64
       refine sM rfl (sW rfl ?_)
       refine L.w rfl (V.fa rfl underlying141 rfl rfl sizeOf37) ?_
       refine L.w rfl (V.load rfl isAgg37 zAt (by rfl)) ?_
       refine sM rfl ?_
       refine L.call rfl rfl rfl call88 rfl (fun w hw => contains_ok (l := chain) (hoc.rd (fun p hp => by simp [hp])) (by omega) (i : Int) hw) ?_
       rintro _ a w hst ⟨rfl, hw⟩
       refine hst.go rfl hw ?_
       clear hst hw w a
       refine sU rfl (sN ?_)
       refine C.cond rfl (fun h71 => ?_) (fun h71 => ?_)
       ·try simp only [sq] at h71
        refine sD (sA rfl (sA rfl (sN ?_)))
        refine R.ret2 results23 rfl rfl (fun w hw => ?_)
        have hbad : i < 2 ∨ m.size ≤ i ∨ (i : Int) ∈ chain := by
         first
          | (rcases h71 with h | h; · omega; · exact .inr (.inr h))
          | omega
          | exact .inr (.inr h71)
        rw [if_pos hbad] at hF
        refine ⟨S2, le1.trans le2, .inr ⟨4, by unfold opens; rw [if_neg (by rw [hdd]; decide), hacc]; dsimp only; rw [if_neg (fun h => h hsz), hRZ, hF], by decide, rfl, hw.sub zSub⟩⟩
       ·try simp only [sq] at h71
        refine sK (sD (sM rfl (sM rfl ?_)))
        have hgood : ¬ (i < 2 ∨ m.size ≤ i ∨ (i : Int) ∈ chain) := by
         rintro (h | h | h)
         ·omega
         ·omega
         ·exact h71 h
        rw [if_neg hgood] at hF
        refine L.call rfl rfl rfl call89 rfl (fun w hw => pgRead_ok (b := b51) (am := b49) (al := []) (ac := 0) (dead := false) (lv := .pointer none) (root := m.root) (m := m) (cv := .slice ca chain.length cc) (Hr := (b7, .cells #[.int .u64 (m.txn : Int), .int .i64 (m.root : Int), .int .i64 (m.spare : Int), .int .i64 (m.size : Int)] 139 (0, 0)) :: (fc ++ (fi ++ Hr))) hd2 (MapP.nil S2 0) (fun j p h => by cases h) (i : Int) (hw.re zRe)) ?_
        rintro _ a w hst ⟨S3, c3, f3, rfl, le3, hres, hw⟩
        refine hst.go rfl hw ?_
        clear hst hw w a
        obtain ⟨y1, y2, y3, y4, y5, y6, y7, hy, hy1⟩ : ∃ y1 y2 y3 y4 y5 y6 y7, c3 = [y1, y2, y3, y4, y5, y6, y7] ∧ [y1, y2, y3, y4, y5, y6, y7].all (·.oneCell') = true := by
         rcases hres with ⟨p, _, _, hp⟩ | ⟨_, _, rfl, _⟩
         ·exact pageO_form hp
         ·exact ⟨_, _, _, _, _, _, _, rfl, rfl⟩
        subst hy
        refine sM rfl (sX rfl (sX rfl ?_))
        refine L.allocA rfl rfl zeroValue125 (fun b11 => ?_)
        refine L.storeBox rfl rfl rfl sizeOf125 rfl rfl hy1 zUp ?_
        refine sA rfl (sN (sC (sD (sM rfl (sQb rfl (sN ?_))))))
        refine C.cond rfl (fun h79 => ?_) (fun h79 => ?_)
        ·try simp only [sq] at h79
         refine sD (sM rfl (sA rfl (sA rfl (sN ?_))))
         refine R.ret2 results23 rfl rfl (fun w hw => ?_)
         have h79 : pgE false m.size (fun _ => none) dk (i : Int) ≠ 0 := h79
         obtain ⟨hP, hcz⟩ : pgP false m.size (fun _ => none) dk (i : Int) = none ∧ f3 = [] := by
          rcases hres with ⟨p, _, h, _⟩ | ⟨h, _, _, hz⟩
          ·exact absurd h h79
          ·exact ⟨h, hz⟩
         rw [hP] at hF
         refine ⟨S3, le1.trans (le2.trans le3), .inr ⟨_, by unfold opens; rw [if_neg (by rw [hdd]; decide), hacc]; dsimp only; rw [if_neg (fun h => h hsz), hRZ, hF], h79, rfl, hw.sub zSub⟩⟩
        ·try simp only [sq] at h79
         have h79 : pgE false m.size (fun _ => none) dk (i : Int) = 0 := h79
         obtain ⟨x, hP, hpo⟩ : ∃ x, pgP false m.size (fun _ => none) dk (i : Int) = some x ∧ PageO S3 [y1, y2, y3, y4, y5, y6, y7] x f3 := by
          rcases hres with ⟨p, h, _, h2⟩ | ⟨_, h, _⟩
          ·exact ⟨p, h, h2⟩
          ·exact absurd h79 h
         clear hres
         have hxR : Right x := pgP_right (fun j p h => by cases h) hP
         rw [hP] at hF
         dsimp only at hF
         obtain ⟨qi, qk, qd, qx, gi, gk, gd, gx, he, hpt, rfl⟩ := hpo
         simp only [List.cons.injEq] at he
         obtain ⟨rfl, rfl, rfl, rfl, rfl, rfl, rfl, _⟩ := he
         unfold pgObjV
         refine sK (sC (sD ?_))
         refine L.w rfl (V.fa rfl underlying125 rfl rfl sizeOf3) ?_
         refine L.w rfl (V.load rfl isAgg3 zAt (by rfl)) ?_
         refine sQb rfl (sN ?_)
         refine C.cond rfl (fun h83 => ?_) (fun h83 => ?_)
         ·try simp only [sq] at h83
          refine sD (sA rfl (sA rfl (sN ?_)))
          refine R.ret2 results23 rfl rfl (fun w hw => ?_)
          have hk4 : x.kind ≠ 4 := by omega
          rw [if_pos hk4] at hF
          refine ⟨S3, le1.trans (le2.trans le3), .inr ⟨4, by unfold opens; rw [if_neg (by rw [hdd]; decide), hacc]; dsimp only; rw [if_neg (fun h => h hsz), hRZ, hF], by decide, rfl, hw.sub zSub⟩⟩
         ·try simp only [sq] at h83
          have hk4 : x.kind = 4 := by omega
          rw [if_neg (fun h => h hk4)] at hF
          have hxl : x.ids.length ≤ 59 := by have := hxR.used; unfold usedN at this; omega
          refine sK (sD (sM rfl (sM rfl (sW rfl ?_))))
          refine L.w rfl (V.fa rfl underlying141 rfl rfl sizeOf37) ?_
          refine L.w rfl (V.load rfl isAgg37 zAt (by rfl)) ?_
          refine sM rfl ?_
          refine L.slice1 rfl rfl rfl underlying37 sizeOf3 zeroValue3 rfl (by decide) (by decide) rfl rfl (fun b90 => ?_)
          refine L.append (by' := 8) (sz := 1) (l := 1) (ys := [.int .i64 (i : Int)]) rfl rfl rfl rfl underlying37 info_int rfl rfl rfl rfl hoc (.skip (.skip (.skipl (.skip (.skip (.skipl (.skip .done))))))) ⟨rfl, .inr ⟨b90, 0, 1, _, _, _, rfl, ⟨Nat.le_refl _, by omega⟩, .apr .head, fun j hj => by simp⟩⟩ (by intro u hu; simp at hu; subst hu; rfl) (by omega) (by omega) (fun v91 f91 hoc2 => ?_)
          have hoc3 : Own 3 1 v91 (chain ++ [(i : Int)]).length ((chain ++ [(i : Int)]).map iv) f91 := by
           rw [List.length_append, List.map_append]; exact hoc2
          obtain ⟨a91, c91, rfl⟩ := hoc3.form
          refine sW rfl ?_
          refine L.w rfl (V.fa rfl underlying141 rfl rfl sizeOf37) ?_
          refine L.store rfl rfl rfl sizeOf37 rfl zUp zSet ?_
          refine sE (sM rfl ?_)
          refine L.w rfl (V.fa rfl underlying125 rfl rfl sizeOf37) ?_
          refine L.w rfl (V.load rfl isAgg37 zAt (by rfl)) ?_
          have hx97 : Rd S3 gx 1 y7 x.ids.length ((intL x.ids).map iv) := Own.rd hpt.ids (fun q hq => hq)
          refine L.append (y := y7) (by' := 8) (sz := 1) (l := x.ids.length) (ys := (intL x.ids).map iv) rfl rfl rfl rfl underlying37 info_int rfl rfl rfl rfl hoi (.skipl (.skip (.skip (.skipl (.skip (.skip (.skipl (.skip .done)))))))) (hx97.mono (Sees.of (.refl _) (fun q hq => by simp [hq]))) (iv_one _) (by omega) (by omega) (fun v97 f97 hoi2 => ?_)
          have hoi3 : Own 3 1 v97 (ids ++ x.ids).length ((intL (ids ++ x.ids)).map iv) f97 := by
           rw [List.length_append]
           unfold intL at hoi2 ⊢
           rw [List.map_append, List.map_append]; exact hoi2
          refine sA rfl (sN (sR ?_))
          refine L.w rfl (V.fa rfl underlying125 rfl rfl sizeOf3) ?_
          have hF3 : RZ = openF dk m.size (1025 - (chain ++ [(i : Int)]).length) x.next (chain ++ [(i : Int)]) (ids ++ x.ids) := by
           rw [hF, List.length_append, List.length_singleton, show 1025 - (chain.length + 1) = f from by omega]
          have hnd3 : (chain ++ [(i : Int)]).Nodup := by
           rw [List.nodup_append]
           refine ⟨hnd, by simp, fun a ha b hb => ?_⟩
           rw [List.mem_singleton] at hb
           rintro rfl
           exact hgood (.inr (.inr (hb ▸ ha)))
          have hin3 : ∀ j ∈ chain ++ [(i : Int)], 2 ≤ j ∧ j < (m.size : Int) := fun j hj => by
           rcases List.mem_append.1 hj with h | h
           ·exact hin j h
           ·rw [List.mem_singleton] at h; subst h; constructor <;> omega
          have hil3 : (ids ++ x.ids).length ≤ 59 * (chain ++ [(i : Int)]).length := by
           rw [List.length_append, List.length_append, List.length_singleton]; omega
          refine L.w rfl (V.load rfl isAgg3 zAt (by rfl)) ?_
          refine sA rfl ?_
          refine L.nil (N.blk ?_)
          refine N.round (x.next, chain ++ [(i : Int)], ids ++ x.ids, S3, .slice a91 (chain ++ [(i : Int)]).length c91, v97, f91, f97) (by show 1025 - (chain ++ [(i : Int)]).length < 1025 - chain.length; rw [List.length_append]; simp; omega) ⟨rfl, rfl, rfl, rfl, rfl, trivial⟩ (fun w hw => ⟨⟨hF3, hnd3, hin3, le2.trans le3, hoc3, hoi3, hil3⟩, ?_⟩)
          exact Hp.re (hw.sub (H' := f97 ++ (f91 ++ ((b51, pgObjV db (.pointer none) b49 m (.slice a91 (chain ++ [(i : Int)]).length c91) m.root false) :: (b49, mobj [] 0) :: (dfp ++ ((b7, .cells #[.int .u64 (m.txn : Int), .int .i64 (m.root : Int), .int .i64 (m.spare : Int), .int .i64 (m.size : Int)] 139 (0, 0)) :: Hr))))) zSub) zRe
    ·try simp only [sq] at h55
     have hi0 : i = 0 := by omega
     rw [if_pos hi0] at hF
     refine C.shut hoc (.skip (.skip (.skip .done))) (fun S3 le3 hbc => ?_)
     have hcI : Is S3 [] (.slice ca chain.length cc) chain := hbc
     have hd3 := hd2.mono le3
     unfold pgObjV
     refine sZ rfl (sC (sC ?_))
     refine C.drawC [] (Hp w0 F S3 ((b51, .cells #[.pointer (some ⟨db, 0, none⟩), .int .u64 (m.txn : Int), .int .i64 (m.root : Int), .int .i64 (m.spare : Int), .int .i64 (m.size : Int), .pointer none, .slice ca chain.length cc, .map (some b49), .int .i64 (m.root : Int), .bool false] 141 (0, 0)) :: (b7, .cells #[.int .u64 (m.txn : Int), .int .i64 (m.root : Int), .int .i64 (m.spare : Int), .int .i64 (m.size : Int)] 139 (0, 0)) :: Hr)) (fun w h => h.sub zSub) (by kernel_rfl) rfl (fun w hw => hw.drawn _) ?_
     refine D.take 0 (listed' := #[true, false, false, false, false, false, false, false, false, false, false, false, false, false, false]) rfl (by kernel_rfl) rfl rfl rfl rfl (V.fa rfl underlying139 rfl rfl sizeOf3) (fun w h => h.sub zSub) ?_
     refine D.take 1 (listed' := #[true, true, false, false, false, false, false, false, false, false, false, false, false, false, false]) rfl (by kernel_rfl) rfl rfl rfl rfl (V.load rfl isAgg3 zAt (by rfl)) (fun w h => h.sub zSub) ?_
     refine D.take 2 (listed' := #[true, true, true, false, false, false, false, false, false, false, false, false, false, false, false]) rfl (by kernel_rfl) rfl rfl rfl rfl (V.move rfl) (fun w h => h.sub zSub) ?_
     refine D.take 4 (listed' := #[true, true, true, false, true, false, false, false, false, false, false, false, false, false, false]) rfl (by kernel_rfl) rfl rfl rfl rfl (V.move rfl) (fun w h => h.sub zSub) ?_
     refine D.take 5 (listed' := #[true, true, true, false, true, true, false, false, false, false, false, false, false, false, false]) rfl (by kernel_rfl) rfl rfl rfl rfl (V.nilCheck rfl) (fun w h => h.sub zSub) ?_
     refine D.take 6 (listed' := #[true, true, true, false, true, true, true, false, false, false, false, false, false, false, false]) rfl (by kernel_rfl) rfl rfl rfl rfl (V.fa rfl underlying141 rfl rfl sizeOf37) (fun w h => h.sub zSub) ?_
     refine D.take 7 (listed' := #[true, true, true, false, true, true, true, true, false, false, false, false, false, false, false]) rfl (by kernel_rfl) rfl rfl rfl rfl (V.load rfl isAgg37 zAt (by rfl)) (fun w h => h.sub zSub) ?_
     refine D.step 3 (listed' := #[true, true, true, true, true, true, true, true, false, false, false, false, false, false, false]) (by kernel_rfl) rfl rfl (.inr (fun w h => h.sub zSub)) ?_
     refine L.call rfl rfl rfl call91 rfl (fun w hw => clone_ints (hoi.rd (fun q hq => by simp [hq])) (iv_one _) (by omega) hw) ?_
     rintro _ a w hst ⟨v104, f104, rfl, ho104, hw⟩
     refine hst.go rfl hw ?_
     clear hst hw w a
     refine D.back ?_
     refine D.step 8 (listed' := #[true, true, true, true, true, true, true, true, true, false, false, false, false, false, false]) (by kernel_rfl) rfl rfl (.inr (fun w h => by first | (refine h.sub ?_; exact zSub) | (refine (h.less le4).sub ?_; exact zSub))) ?_
     refine L.append (by' := 8) (sz := 1) (l := chain.length) (ys := chain.map iv) rfl rfl rfl rfl underlying37 info_int rfl rfl rfl rfl ho104 .done (hbc.mono (Sees.nil (.refl _) _)) (iv_one _) (by omega) (by omega) (fun v109 f109 ho109 => ?_)
     have hI109 : Rd S3 f109 1 v109 (intL ids ++ chain).length ((intL ids ++ chain).map iv) := by
      rw [List.length_append, List.map_append, intL_len]; exact ho109.rd (fun q hq => hq)
     refine D.back ?_
     refine D.step 9 (listed' := #[true, true, true, true, true, true, true, true, true, true, false, false, false, false, false]) (by kernel_rfl) rfl rfl (.inr (fun w h => by first | (refine h.sub ?_; exact zSub) | (refine (h.less le4).sub ?_; exact zSub))) ?_
     refine L.call rfl rfl rfl call90 rfl (fun w hw => flNew_ok (l := intL ids ++ chain) (hI109.mono (Sees.of (.refl _) (fun q hq => by simp [hq]))) (by rw [List.length_append, intL_len]; omega) (m.size : Int) hw) ?_
     rintro _ a w hst ⟨S4, le4, hnew⟩
     obtain ⟨pv, err, f110, rfl, hres, hw⟩ : ∃ (pv : Option Addr) (err : Int) (f : Heap), _ = Ending.returned (.tuple #[.pointer pv, .int .i64 err]) ∧ ((NewOk (m.size : Int) (intL ids ++ chain) ∧ err = 0) ∨ (¬ NewOk (m.size : Int) (intL ids ++ chain) ∧ err ≠ 0)) ∧ Hp w0 F S4 (f ++ _) w := by
      rcases hnew with ⟨h1, b, fp, h2, h3, h4⟩ | ⟨h1, err, h2, h3, h4⟩
      ·exact ⟨_, 0, fp, h2, .inl ⟨h1, rfl⟩, h4⟩
      ·exact ⟨_, err, [], h3, .inr ⟨h1, h2⟩, h4⟩
     refine hst.go rfl hw ?_
     clear hst hw w a hnew
     refine D.back ?_
     refine D.step 10 (listed' := #[true, true, true, true, true, true, true, true, true, true, true, false, false, false, false]) (by kernel_rfl) rfl rfl (.inr (fun w h => by first | (refine h.sub ?_; exact zSub) | (refine (h.less le4).sub ?_; exact zSub))) ?_
     refine sM rfl ?_
     refine D.back ?_
     refine D.take 11 (listed' := #[true, true, true, true, true, true, true, true, true, true, true, true, false, false, false]) rfl (by kernel_rfl) rfl rfl rfl rfl (V.extract rfl rfl) (fun w h => by first | (refine h.sub ?_; exact zSub) | (refine (h.less le4).sub ?_; exact zSub)) ?_
     refine D.take 12 (listed' := #[true, true, true, true, true, true, true, true, true, true, true, true, true, false, false]) rfl (by kernel_rfl) rfl rfl rfl rfl (V.extract rfl rfl) (fun w h => by first | (refine h.sub ?_; exact zSub) | (refine (h.less le4).sub ?_; exact zSub)) ?_
     refine D.step 13 (listed' := #[true, true, true, true, true, true, true, true, true, true, true, true, true, true, false]) (by kernel_rfl) rfl rfl (.inr (fun w h => by first | (refine h.sub ?_; exact zSub) | (refine (h.less le4).sub ?_; exact zSub))) ?_
     refine sA rfl ?_
     refine D.back ?_
     refine D.step 14 (listed' := #[true, true, true, true, true, true, true, true, true, true, true, true, true, true, true]) (by kernel_rfl) rfl rfl (.inr (fun w h => by first | (refine h.sub ?_; exact zSub) | (refine (h.less le4).sub ?_; exact zSub))) ?_
     refine sA rfl ?_
     refine D.back ?_
     refine D.done (by kernel_rfl) (.inr (fun w h => by first | (refine h.sub ?_; exact zSub) | (refine (h.less le4).sub ?_; exact zSub))) (N.seq ?_)
     refine sD (sM rfl (sQb rfl (sN ?_)))
     refine C.cond rfl (fun h114 => ?_) (fun h114 => ?_)
     ·try simp only [sq] at h114
      refine sD (sA rfl (sA rfl (sN ?_)))
      refine R.ret2 results23 rfl rfl (fun w hw => ?_)
      have hno : ¬ NewOk (m.size : Int) (intL ids ++ chain) := by
       rcases hres with ⟨_, h⟩ | ⟨h, _⟩
       ·exact absurd h h114
       ·exact h
      exact ⟨S4, le1.trans (le2.trans (le3.trans le4)), .inr ⟨4, by unfold opens; rw [if_neg (by rw [hdd]; decide), hacc]; dsimp only; rw [if_neg (fun h => h hsz), hRZ, hF]; exact if_neg hno, by decide, rfl, hw.sub zSub⟩⟩
     ·try simp only [sq] at h114
      have hok : NewOk (m.size : Int) (intL ids ++ chain) := by
       rcases hres with ⟨h, _⟩ | ⟨_, h⟩
       ·exact h
       ·exact absurd h114 h
      clear hres
      have hok2 : NewOk (m.size : Int) (intL ids) := ⟨hok.s0, hok.s1, fun i hi => hok.inn i (List.mem_append_left _ hi), (List.nodup_append.1 hok.nodup).1⟩
      refine sK (sD (sM rfl ?_))
      refine L.w rfl (V.fa rfl underlying139 rfl rfl sizeOf3) ?_
      refine L.w rfl (V.load rfl isAgg3 zAt (by rfl)) ?_
      refine sM rfl ?_
      refine L.call rfl rfl rfl call90 rfl (fun w hw => flNew_ok (l := intL ids) (Is.mono (H := fi) (show Is S3 fi _ (intL ids) from by unfold Is; rw [intL_len]; exact hoi.rd (fun q hq => hq)) (Sees.of le4 (fun q hq => by simp [hq]))) (by rw [intL_len]; omega) (m.size : Int) hw) ?_
      rintro _ a w hst ⟨S5, le5, hnew⟩
      obtain ⟨b120, f120, rfl, hfl, hw⟩ : ∃ (b : Nat) (f : Heap), _ = Ending.returned (.tuple #[.pointer (some ⟨b, 0, none⟩), .int .i64 0]) ∧ FlR S5 b ⟨(m.size : Int).toNat, sortL (intL ids), []⟩ f ∧ Hp w0 F S5 (f ++ _) w := by
       rcases hnew with ⟨_, h⟩ | ⟨h, _⟩
       ·exact h
       ·exact absurd hok2 h
      refine hst.go rfl hw ?_
      clear hst hw w a hnew
      refine sM rfl (sX rfl (sX rfl (sW rfl ?_)))
      refine L.w rfl (V.fa rfl underlying141 rfl rfl sizeOf62) ?_
      refine L.store rfl rfl rfl sizeOf62 rfl zUp zSet ?_
      refine sE (sM rfl (sA rfl (sA rfl (sN ?_))))
      refine R.ret2 results23 rfl rfl (fun w hw => ?_)
      refine ⟨S5, le1.trans (le2.trans (le3.trans (le4.trans le5))), .inl ⟨⟨dk, m, ⟨m.size, sortL (intL ids), []⟩, chain, fun _ => none, m.root, false⟩, b51, (b51, pgObj db b120 b49 m (.slice ca chain.length cc) m.root false) :: (b49, mobj [] 0) :: (f120 ++ dfp), ?_, rfl, ⟨⟨rfl, hsz.symm, k0, k1, htx, by show chain.length ≤ 1024; omega, fun j p h => (by cases h), fun j p h => (by cases h)⟩, b120, b49, [], 0, f120, dfp, _, rfl, hfl, hd3.mono (le4.trans le5), MapP.nil _ _, Is.mono hcI (Sees.le (le4.trans le5) _)⟩, ?_⟩⟩
      ·unfold opens; rw [if_neg (by rw [hdd]; decide), hacc]; dsimp only; rw [if_neg (fun h => h hsz), hRZ, hF]; exact if_pos hok
      ·exact Hp.re (hw.sub (H' := f120 ++ ((b51, pgObj db b120 b49 m (.slice ca chain.length cc) m.root false) :: (b49, mobj [] 0) :: (dfp ++ Hr))) zSub) zRe
end
end Go.Proofs.YtijgbppkdaiikaaGreat

set_option linter.unusedSimpArgs false
set_option linter.unusedVariables false
namespace Go.Proofs.YtijgbppkdaiikaaGreat
open Go.Proofs.Tryz Go.Tk

abbrev cb := Lib.compareBytes
theorem cb_cons (a b : UInt8) (xs ys : List UInt8) : cb (a :: xs) (b :: ys) = if a < b then -1 else if b < a then 1 else cb xs ys := rfl
theorem cb_vals : ∀ a b : List UInt8, cb a b = -1 ∨ cb a b = 0 ∨ cb a b = 1
 | [], [] => .inr (.inl rfl)
 | [], _ :: _ => .inl rfl
 | _ :: _, [] => .inr (.inr rfl)
 | a :: xs, b :: ys => by
   rw [cb_cons]
   split
   ·exact .inl rfl
   ·split
    ·exact .inr (.inr rfl)
    ·exact cb_vals xs ys
theorem cb_self : ∀ a : List UInt8, cb a a = 0
 | [] => rfl
 | a :: xs => by
   rw [cb_cons]
   rw [if_neg (UInt8.lt_irrefl a), if_neg (UInt8.lt_irrefl a)]; exact cb_self xs
theorem cb_eq : ∀ {a b : List UInt8}, cb a b = 0 → a = b
 | [], [], _ => rfl
 | [], _ :: _, h => by cases h
 | _ :: _, [], h => by cases h
 | a :: xs, b :: ys, h => by
   rw [cb_cons] at h
   split at h
   ·cases h
   ·split at h
    ·cases h
    ·rename_i h1 h2
     have : a = b := UInt8.le_antisymm (UInt8.not_lt.1 h2) (UInt8.not_lt.1 h1)
     rw [this, cb_eq h]
theorem cb_zero {a b : List UInt8} : cb a b = 0 ↔ a = b := ⟨cb_eq, fun h => by rw [h]; exact cb_self b⟩
theorem cb_swap : ∀ a b : List UInt8, cb b a = - cb a b
 | [], [] => rfl
 | [], _ :: _ => rfl
 | _ :: _, [] => rfl
 | a :: xs, b :: ys => by
   rw [cb_cons, cb_cons]
   by_cases h1 : a < b
   ·have h2 : ¬ b < a := fun h => UInt8.lt_irrefl a (UInt8.lt_trans h1 h)
    rw [if_pos h1, if_neg h2, if_pos h1]; rfl
   ·by_cases h2 : b < a
    ·rw [if_pos h2, if_neg h1, if_pos h2]
    ·rw [if_neg h1, if_neg h2, if_neg h2, if_neg h1]; exact cb_swap xs ys
theorem cb_trans : ∀ {a b c : List UInt8}, cb a b < 0 → cb b c < 0 → cb a c < 0
 | [], [], _, h, _ => by cases h
 | [], _ :: _, [], _, h => by cases h
 | [], _ :: _, _ :: _, _, _ => (by show (-1 : Int) < 0; decide)
 | _ :: _, [], _, h, _ => by cases h
 | _ :: _, _ :: _, [], _, h => by cases h
 | a :: xs, b :: ys, c :: zs, h1, h2 => by
   rw [cb_cons] at h1 h2 ⊢
   by_cases hab : a < b
   ·have hac : a < c := by
     by_cases hbc : b < c
     ·exact UInt8.lt_trans hab hbc
     ·rw [if_neg hbc] at h2
      by_cases hcb : c < b
      ·rw [if_pos hcb] at h2; exact absurd h2 (by decide)
      ·have : b = c := UInt8.le_antisymm (UInt8.not_lt.1 hcb) (UInt8.not_lt.1 hbc)
       rw [← this]; exact hab
    rw [if_pos hac]; decide
   ·rw [if_neg hab] at h1
    by_cases hba : b < a
    ·rw [if_pos hba] at h1; exact absurd h1 (by decide)
    ·rw [if_neg hba] at h1
     have hab' : a = b := UInt8.le_antisymm (UInt8.not_lt.1 hba) (UInt8.not_lt.1 hab)
     subst hab'
     by_cases hbc : a < c
     ·rw [if_pos hbc]; decide
     ·rw [if_neg hbc] at h2 ⊢
      by_cases hcb : c < a
      ·rw [if_pos hcb] at h2; exact absurd h2 (by decide)
      ·rw [if_neg hcb] at h2 ⊢; exact cb_trans h1 h2
theorem cb_tri (a b : List UInt8) : cb a b < 0 ∨ a = b ∨ cb b a < 0 := by
 rcases cb_vals a b with h | h | h
 ·exact .inl (by omega)
 ·exact .inr (.inl (cb_eq h))
 ·exact .inr (.inr (by rw [cb_swap a b]; omega))
theorem cb_nlt {a b : List UInt8} : ¬ cb a b < 0 ↔ a = b ∨ cb b a < 0 := by
 constructor
 ·intro h
  rcases cb_tri a b with h1 | h1
  ·exact absurd h1 h
  ·exact h1
 ·rintro (rfl | h)
  ·rw [cb_self]; decide
  ·rw [cb_swap b a]; omega
theorem cb_lt_of_le_lt {a b c : List UInt8} (h1 : ¬ cb b a < 0) (h2 : cb b c < 0) : cb a c < 0 := by
 rcases cb_nlt.1 h1 with rfl | h
 ·exact h2
 ·exact cb_trans h h2
theorem cb_lt_of_lt_le {a b c : List UInt8} (h1 : cb a b < 0) (h2 : ¬ cb c b < 0) : cb a c < 0 := by
 rcases cb_nlt.1 h2 with rfl | h
 ·exact h1
 ·exact cb_trans h1 h
theorem cb_le_trans {a b c : List UInt8} (h1 : ¬ cb b a < 0) (h2 : ¬ cb c b < 0) : ¬ cb c a < 0 := fun h => h2 (cb_lt_of_lt_le h h1)

theorem Rise.lt {l : List (List UInt8)} (h : Rise l) : ∀ {i j : Nat} (hj : j < l.length) (hij : i < j), cb l[i] l[j] < 0 := by
 intro i j hj hij
 induction j with
 | zero => omega
 | succ j ih =>
   have h1 := h j hj
   rcases (by omega : i < j ∨ i = j) with h2 | rfl
   ·exact cb_trans (ih (by omega) h2) h1
   ·exact h1
theorem Rise.pw {l : List (List UInt8)} (h : Rise l) : l.Pairwise (fun a b => cb a b < 0) := List.pairwise_iff_getElem.2 (fun i j hi hj hij => h.lt hj hij)
theorem Rise.of_pw {l : List (List UInt8)} (h : l.Pairwise (fun a b => cb a b < 0)) : Rise l := fun i hi => List.pairwise_iff_getElem.1 h i (i + 1) (by omega) hi (by omega)

/-- How many keys are ahead of this one. -/
def pos (ks : List (List UInt8)) (k : List UInt8) : Nat := (ks.takeWhile (fun x => decide (cb x k < 0))).length
theorem pos_of {k : List UInt8} : ∀ {ks : List (List UInt8)} {i : Nat}, i ≤ ks.length → (∀ j (h : j < ks.length), j < i → cb ks[j] k < 0) → (∀ j (h : j < ks.length), i ≤ j → ¬ cb ks[j] k < 0) → pos ks k = i
 | [], i, hi, _, _ => by simp at hi; subst hi; rfl
 | x :: ks, 0, _, _, h2 => by
   have := h2 0 (by simp) (Nat.le_refl _)
   unfold pos
   rw [List.takeWhile_cons, if_neg (by simpa using this)]; rfl
 | x :: ks, i + 1, hi, h1, h2 => by
   have := h1 0 (by simp) (by omega)
   unfold pos
   rw [List.takeWhile_cons, if_pos (by simpa using this), List.length_cons]
   have ih := pos_of (k := k) (ks := ks) (i := i) (by simpa using hi) (fun j h hj => by have := h1 (j + 1) (by simpa using h) (by omega); simpa using this) (fun j h hj => by have := h2 (j + 1) (by simpa using h) (by omega); simpa using this)
   unfold pos at ih; rw [ih]
theorem pos_le (ks : List (List UInt8)) (k : List UInt8) : pos ks k ≤ ks.length := (List.takeWhile_sublist _).length_le
/-- The kid beneath which a key is. -/
def rt (ks : List (List UInt8)) (k : List UInt8) : Nat := if k ∈ ks ∨ pos ks k = 0 then pos ks k else pos ks k - 1

theorem mem_at {ks : List (List UInt8)} (hr : Rise ks) {k : List UInt8} {i : Nat} (hi : i ≤ ks.length) (h1 : ∀ j (h : j < ks.length), j < i → cb ks[j] k < 0) (h2 : ∀ j (h : j < ks.length), i ≤ j → ¬ cb ks[j] k < 0) : k ∈ ks ↔ ∃ h : i < ks.length, cb ks[i] k = 0 := by
 constructor
 ·intro h
  obtain ⟨j, hj, rfl⟩ := List.getElem_of_mem h
  rcases Nat.lt_trichotomy j i with h0 | rfl | h0
  ·have := h1 j hj h0; rw [cb_self] at this; omega
  ·exact ⟨hj, cb_self _⟩
  ·exact absurd (hr.lt hj h0) (h2 i (by omega) (Nat.le_refl _))
 ·rintro ⟨h, he⟩
  rw [← cb_eq he]; exact List.getElem_mem h

section
variable {w0 : World} {F : Nat → Prop} {S : Store} {Hr : Heap} {w : World}

theorem itCmp_ok {kv vv s m : Value} {v : Value} {x k : List UInt8} (hx : Bs S [] kv x) (hk : Bs S Hr v k) (hw : Hp w0 F S Hr w) :
 Calls Tryz.prog 118 #[.agg #[kv, vv, s, m], v] w fun e w' => e = .returned (.int .i64 (cb x k)) ∧ Hp w0 F S Hr w' := by
 refine enterA hw func118 rfl ntmps118 rfl rfl ?_
 refine sD ?_
 refine L.boxA rfl rfl rfl (fun b2 => ?_)
 refine sA rfl (sE ?_)
 refine L.w rfl (V.fa rfl underlying112 rfl rfl sizeOf22) ?_
 refine L.w rfl (V.load rfl isAgg22 zAt (by rfl)) ?_
 refine sM rfl ?_
 refine L.call rfl rfl rfl call116 rfl (fun w hw => compare_ok (hx.lift _) (hk.mono (Sees.of (.refl _) (fun q hq => by simp [hq]))) hw) ?_
 rintro _ a w hst ⟨rfl, hw⟩
 refine hst.go rfl hw ?_
 clear hst hw w a
 refine sA rfl (sN ?_)
 refine R.ret1 results118 rfl (fun w hw => ?_)
 exact ⟨rfl, hw.drop⟩
theorem kiCmp_ok {kv m : Value} {v : Value} {x k : List UInt8} (hx : Bs S [] kv x) (hk : Bs S Hr v k) (hw : Hp w0 F S Hr w) :
 Calls Tryz.prog 115 #[.agg #[kv, m], v] w fun e w' => e = .returned (.int .i64 (cb x k)) ∧ Hp w0 F S Hr w' := by
 refine enterA hw func115 rfl ntmps115 rfl rfl ?_
 refine sD ?_
 refine L.boxA rfl rfl rfl (fun b2 => ?_)
 refine sA rfl (sE ?_)
 refine L.w rfl (V.fa rfl underlying129 rfl rfl sizeOf22) ?_
 refine L.w rfl (V.load rfl isAgg22 zAt (by rfl)) ?_
 refine sM rfl ?_
 refine L.call rfl rfl rfl call116 rfl (fun w hw => compare_ok (hx.lift _) (hk.mono (Sees.of (.refl _) (fun q hq => by simp [hq]))) hw) ?_
 rintro _ a w hst ⟨rfl, hw⟩
 refine hst.go rfl hw ?_
 clear hst hw w a
 refine sA rfl (sN ?_)
 refine R.ret1 results115 rfl (fun w hw => ?_)
 exact ⟨rfl, hw.drop⟩

theorem bsItem_ok {v kv : Value} {l : List Item} {k : List UInt8} (hr : Items S Hr v l) (hk : Bs S Hr kv k) (hl : l.length ≤ 100000) (ha : Rise (l.map (·.key))) (hw : Hp w0 F S Hr w) :
 Calls Tryz.prog 117 #[v, kv, .func (.func 118) #[] #[]] w fun e w' => e = .returned (.tuple #[.int .i64 (pos (l.map (·.key)) k : Int), .bool (decide (k ∈ l.map (·.key)))]) ∧ Hp w0 F S Hr w' := by
 obtain ⟨ad, c, rfl, _⟩ := hr.form
 have hml : (l.map (·.key)).length = l.length := List.length_map ..
 refine enterA hw func117 rfl ntmps117 rfl rfl ?_
 refine sD (sA rfl (sA rfl (sE (sM rfl ?_))))
 refine L.w rfl (V.len rfl underlying118) ?_
 refine sA rfl (sE (sM rfl (sA rfl (sA rfl (sN (sC (sB ?_)))))))
 refine C.loop (α := Nat × Nat) (fun z => [(0, .slice ad l.length c), (1, kv), (2, .func (.func 118) #[] #[]), (8, .int .i64 (l.length : Int)), (9, .int .i64 (z.1 : Int)), (10, .int .i64 (z.2 : Int))]) (fun z w => (z.1 ≤ z.2 ∧ z.2 ≤ l.length ∧ (∀ j (h : j < l.length), j < z.1 → cb l[j].key k < 0) ∧ (∀ j (h : j < l.length), z.2 ≤ j → ¬ cb l[j].key k < 0)) ∧ Hp w0 F S Hr w) (fun z => z.2 - z.1) (0, l.length) ⟨rfl, rfl, rfl, rfl, rfl, rfl, trivial⟩ (fun w hw => ⟨⟨Nat.zero_le _, Nat.le_refl _, fun j h h0 => by omega, fun j h h0 => by omega⟩, hw⟩) (fun z => C.pure (fun hz => ?_))
 obtain ⟨lo, hi⟩ := z
 obtain ⟨hz1, hz2, hz3, hz4⟩ := hz
 dsimp only at hz1 hz2 hz3 hz4 ⊢
 refine sC (sD (sM rfl (sM rfl (sQc rfl (sN ?_)))))
 refine C.cond rfl (fun h17 => ?_) (fun h17 => ?_)
 ·try simp only [sq] at h17
  obtain ⟨q, hqe⟩ : ∃ q, q = (lo + hi) / 2 := ⟨_, rfl⟩
  have hq : q < l.length := by omega
  obtain ⟨b, off, cs, T, fz, k5, v5, rfl, h2, h3, h4, h5, _, _⟩ := hr.at hq
  obtain ⟨y, hy⟩ : ∃ y, l[q].key = y := ⟨_, rfl⟩
  rw [hy] at h5
  refine sK (sB (sD (sM rfl (sM rfl ?_))))
  refine L.w rfl (V.add (c := ((lo + hi : Nat) : Int)) rfl rfl (by rw [w64 (by omega) (by omega)]; omega)) ?_
  refine L.w rfl (V.conv (c := ((lo + hi : Nat) : Int)) rfl underlying3 underlying30 (by rw [IntKind.wrap_u64]; omega)) ?_
  refine L.w rfl (V.shr (c := (q : Int)) rfl rfl (by decide) (by rw [Int.fdiv_eq_ediv_of_nonneg _ (by decide)]; show ((lo + hi : Nat) : Int) / 2 = _; omega)) ?_
  refine L.w rfl (V.conv (c := (q : Int)) rfl underlying30 underlying3 (by rw [IntKind.wrap_i64]; omega)) ?_
  refine sA rfl (sE (sM rfl (sM rfl (sM rfl ?_))))
  refine L.w rfl (V.indexAddr rfl rfl underlying118 sizeOf112 rfl (by omega)) ?_
  refine L.w rfl (V.loadN rfl isAgg112 sizeOf112 h2 h3 h4) ?_
  refine sM rfl ?_
  refine L.call rfl rfl rfl call118 rfl (fun w hw => itCmp_ok h5 hk hw) ?_
  rintro _ a w hst ⟨rfl, hw⟩
  refine hst.go rfl hw ?_
  clear hst hw w a
  refine sQc rfl (sN ?_)
  refine C.cond rfl (fun h31 => ?_) (fun h31 => ?_)
  ·try simp only [sq] at h31
   refine sR (sM rfl ?_)
   refine L.w rfl (V.add (c := ((q + 1 : Nat) : Int)) rfl rfl (by rw [w64 (by omega) (by omega)]; omega)) ?_
   refine sA rfl ?_
   refine L.nil (N.blk ?_)
   first
    | exact N.round (q + 1, hi) (by show hi - (q + 1) < hi - lo; omega) ⟨rfl, rfl, rfl, rfl, rfl, rfl, trivial⟩ (fun w hw => ⟨⟨by show q + 1 ≤ hi; omega, hz2, fun j h h0 => (by
       rcases (by omega : j < q ∨ j = q) with h1 | rfl
       ·exact cb_trans (by have := ha.lt (i := j) (j := q) (by simpa using hq) h1; simpa using this) (by rw [hy]; exact h31)
       ·rw [hy]; exact h31), hz4⟩, hw⟩)
    | exact N.round (lo, q) (by show q - lo < hi - lo; omega) ⟨rfl, rfl, rfl, rfl, rfl, rfl, trivial⟩ (fun w hw => ⟨⟨by show lo ≤ q; omega, by show q ≤ l.length; omega, hz3, fun j h h0 => (by
       rcases (by omega : q < j ∨ j = q) with h1 | rfl
       ·have h2 := ha.lt (i := q) (j := j) (by simpa using h) h1
        have h2 : cb l[q].key l[j].key < 0 := by simpa using h2
        exact fun h3 => (show ¬ cb l[q].key k < 0 by rw [hy]; exact Int.not_lt.2 h31) (cb_trans h2 h3)
       ·rw [hy]; exact Int.not_lt.2 h31)⟩, hw⟩)
  ·try simp only [sq] at h31
   refine sR (sM rfl (sA rfl ?_))
   refine L.nil (N.blk ?_)
   first
    | exact N.round (q + 1, hi) (by show hi - (q + 1) < hi - lo; omega) ⟨rfl, rfl, rfl, rfl, rfl, rfl, trivial⟩ (fun w hw => ⟨⟨by show q + 1 ≤ hi; omega, hz2, fun j h h0 => (by
       rcases (by omega : j < q ∨ j = q) with h1 | rfl
       ·exact cb_trans (by have := ha.lt (i := j) (j := q) (by simpa using hq) h1; simpa using this) (by rw [hy]; exact h31)
       ·rw [hy]; exact h31), hz4⟩, hw⟩)
    | exact N.round (lo, q) (by show q - lo < hi - lo; omega) ⟨rfl, rfl, rfl, rfl, rfl, rfl, trivial⟩ (fun w hw => ⟨⟨by show lo ≤ q; omega, by show q ≤ l.length; omega, hz3, fun j h h0 => (by
       rcases (by omega : q < j ∨ j = q) with h1 | rfl
       ·have h2 := ha.lt (i := q) (j := j) (by simpa using h) h1
        have h2 : cb l[q].key l[j].key < 0 := by simpa using h2
        exact fun h3 => (show ¬ cb l[q].key k < 0 by rw [hy]; exact Int.not_lt.2 h31) (cb_trans h2 h3)
       ·rw [hy]; exact Int.not_lt.2 h31)⟩, hw⟩)
 ·try simp only [sq] at h17
  have hlh : hi = lo := by omega
  subst hlh
  have e1 : pos (l.map (·.key)) k = hi := pos_of (by omega) (fun j h hj => by rw [List.getElem_map]; exact hz3 j (by omega) hj) (fun j h hj => by rw [List.getElem_map]; exact hz4 j (by omega) hj)
  have e2 := mem_at ha (i := hi) (k := k) (by omega) (fun j h hj => by rw [List.getElem_map]; exact hz3 j (by omega) hj) (fun j h hj => by rw [List.getElem_map]; exact hz4 j (by omega) hj)
  rw [e1]
  refine sZ rfl (sD (sM rfl (sM rfl (sM rfl (sQc rfl (sM rfl ?_))))))
  refine L.fork (d := 39) rfl (fun h39 => ?_) (fun h39 => ?_)
  ·try simp only [sq] at h39
   obtain ⟨q, hqe⟩ : ∃ q, q = hi := ⟨_, rfl⟩
   have hq : q < l.length := by omega
   obtain ⟨b, off, cs, T, fz, k5, v5, rfl, h2, h3, h4, h5, _, _⟩ := hr.at hq
   obtain ⟨y, hy⟩ : ∃ y, l[q].key = y := ⟨_, rfl⟩
   rw [hy] at h5
   refine sM rfl (sM rfl (sM rfl ?_))
   refine L.w rfl (V.indexAddr (j := q) rfl rfl underlying118 sizeOf112 (by rw [hqe]) hq) ?_
   refine L.w rfl (V.loadN rfl isAgg112 sizeOf112 h2 h3 h4) ?_
   refine sM rfl ?_
   refine L.call rfl rfl rfl call118 rfl (fun w hw => itCmp_ok h5 hk hw) ?_
   rintro _ a w hst ⟨rfl, hw⟩
   refine hst.go rfl hw ?_
   clear hst hw w a
   refine sQa rfl (sT rfl (sA rfl (sA rfl (sN ?_))))
   refine R.ret2 results117 rfl rfl (fun w hw => ?_)
   refine ⟨?_, hw⟩
   refine congrArg (fun q : Bool => Ending.returned (.tuple #[.int .i64 (hi : Int), .bool q])) ?_
   rw [Bool.eq_iff_iff, decide_eq_true_eq, e2]
   first
    | (subst hqe
       rw [beq_iff_eq]
       constructor
       ·intro h; exact ⟨by omega, by rw [List.getElem_map, hy]; exact h⟩
       ·rintro ⟨_, h⟩; rw [List.getElem_map, hy] at h; exact h)
    | (refine ⟨fun h => (by cases h), ?_⟩
       rintro ⟨h, _⟩
       omega)
  ·try simp only [sq] at h39
   refine sS rfl (sS rfl (sS rfl (sS rfl (sS rfl (sS rfl (sS rfl (sS rfl (sU rfl (sA rfl (sA rfl (sN ?_)))))))))))
   refine R.ret2 results117 rfl rfl (fun w hw => ?_)
   refine ⟨?_, hw⟩
   refine congrArg (fun q : Bool => Ending.returned (.tuple #[.int .i64 (hi : Int), .bool q])) ?_
   rw [Bool.eq_iff_iff, decide_eq_true_eq, e2]
   first
    | (subst hqe
       rw [beq_iff_eq]
       constructor
       ·intro h; exact ⟨by omega, by rw [List.getElem_map, hy]; exact h⟩
       ·rintro ⟨_, h⟩; rw [List.getElem_map, hy] at h; exact h)
    | (refine ⟨fun h => (by cases h), ?_⟩
       rintro ⟨h, _⟩
       omega)
theorem bsKid_ok {v kv : Value} {l : List Kid} {k : List UInt8} (hr : Kids S Hr v l) (hk : Bs S Hr kv k) (hl : l.length ≤ 100000) (ha : Rise (l.map (·.key))) (hw : Hp w0 F S Hr w) :
 Calls Tryz.prog 114 #[v, kv, .func (.func 115) #[] #[]] w fun e w' => e = .returned (.tuple #[.int .i64 (pos (l.map (·.key)) k : Int), .bool (decide (k ∈ l.map (·.key)))]) ∧ Hp w0 F S Hr w' := by
 obtain ⟨ad, c, rfl, _⟩ := hr.form
 have hml : (l.map (·.key)).length = l.length := List.length_map ..
 refine enterA hw func114 rfl ntmps114 rfl rfl ?_
 refine sD (sA rfl (sA rfl (sE (sM rfl ?_))))
 refine L.w rfl (V.len rfl underlying115) ?_
 refine sA rfl (sE (sM rfl (sA rfl (sA rfl (sN (sC (sB ?_)))))))
 refine C.loop (α := Nat × Nat) (fun z => [(0, .slice ad l.length c), (1, kv), (2, .func (.func 115) #[] #[]), (8, .int .i64 (l.length : Int)), (9, .int .i64 (z.1 : Int)), (10, .int .i64 (z.2 : Int))]) (fun z w => (z.1 ≤ z.2 ∧ z.2 ≤ l.length ∧ (∀ j (h : j < l.length), j < z.1 → cb l[j].key k < 0) ∧ (∀ j (h : j < l.length), z.2 ≤ j → ¬ cb l[j].key k < 0)) ∧ Hp w0 F S Hr w) (fun z => z.2 - z.1) (0, l.length) ⟨rfl, rfl, rfl, rfl, rfl, rfl, trivial⟩ (fun w hw => ⟨⟨Nat.zero_le _, Nat.le_refl _, fun j h h0 => by omega, fun j h h0 => by omega⟩, hw⟩) (fun z => C.pure (fun hz => ?_))
 obtain ⟨lo, hi⟩ := z
 obtain ⟨hz1, hz2, hz3, hz4⟩ := hz
 dsimp only at hz1 hz2 hz3 hz4 ⊢
 refine sC (sD (sM rfl (sM rfl (sQc rfl (sN ?_)))))
 refine C.cond rfl (fun h17 => ?_) (fun h17 => ?_)
 ·try simp only [sq] at h17
  obtain ⟨q, hqe⟩ : ∃ q, q = (lo + hi) / 2 := ⟨_, rfl⟩
  have hq : q < l.length := by omega
  obtain ⟨b, off, cs, T, fz, k5, rfl, h2, h3, h4, h5, _, _⟩ := hr.at hq
  obtain ⟨y, hy⟩ : ∃ y, l[q].key = y := ⟨_, rfl⟩
  rw [hy] at h5
  refine sK (sB (sD (sM rfl (sM rfl ?_))))
  refine L.w rfl (V.add (c := ((lo + hi : Nat) : Int)) rfl rfl (by rw [w64 (by omega) (by omega)]; omega)) ?_
  refine L.w rfl (V.conv (c := ((lo + hi : Nat) : Int)) rfl underlying3 underlying30 (by rw [IntKind.wrap_u64]; omega)) ?_
  refine L.w rfl (V.shr (c := (q : Int)) rfl rfl (by decide) (by rw [Int.fdiv_eq_ediv_of_nonneg _ (by decide)]; show ((lo + hi : Nat) : Int) / 2 = _; omega)) ?_
  refine L.w rfl (V.conv (c := (q : Int)) rfl underlying30 underlying3 (by rw [IntKind.wrap_i64]; omega)) ?_
  refine sA rfl (sE (sM rfl (sM rfl (sM rfl ?_))))
  refine L.w rfl (V.indexAddr rfl rfl underlying115 sizeOf129 rfl (by omega)) ?_
  refine L.w rfl (V.loadN rfl isAgg129 sizeOf129 h2 h3 h4) ?_
  refine sM rfl ?_
  refine L.call rfl rfl rfl call115 rfl (fun w hw => kiCmp_ok h5 hk hw) ?_
  rintro _ a w hst ⟨rfl, hw⟩
  refine hst.go rfl hw ?_
  clear hst hw w a
  refine sQc rfl (sN ?_)
  refine C.cond rfl (fun h31 => ?_) (fun h31 => ?_)
  ·try simp only [sq] at h31
   refine sR (sM rfl ?_)
   refine L.w rfl (V.add (c := ((q + 1 : Nat) : Int)) rfl rfl (by rw [w64 (by omega) (by omega)]; omega)) ?_
   refine sA rfl ?_
   refine L.nil (N.blk ?_)
   first
    | exact N.round (q + 1, hi) (by show hi - (q + 1) < hi - lo; omega) ⟨rfl, rfl, rfl, rfl, rfl, rfl, trivial⟩ (fun w hw => ⟨⟨by show q + 1 ≤ hi; omega, hz2, fun j h h0 => (by
       rcases (by omega : j < q ∨ j = q) with h1 | rfl
       ·exact cb_trans (by have := ha.lt (i := j) (j := q) (by simpa using hq) h1; simpa using this) (by rw [hy]; exact h31)
       ·rw [hy]; exact h31), hz4⟩, hw⟩)
    | exact N.round (lo, q) (by show q - lo < hi - lo; omega) ⟨rfl, rfl, rfl, rfl, rfl, rfl, trivial⟩ (fun w hw => ⟨⟨by show lo ≤ q; omega, by show q ≤ l.length; omega, hz3, fun j h h0 => (by
       rcases (by omega : q < j ∨ j = q) with h1 | rfl
       ·have h2 := ha.lt (i := q) (j := j) (by simpa using h) h1
        have h2 : cb l[q].key l[j].key < 0 := by simpa using h2
        exact fun h3 => (show ¬ cb l[q].key k < 0 by rw [hy]; exact Int.not_lt.2 h31) (cb_trans h2 h3)
       ·rw [hy]; exact Int.not_lt.2 h31)⟩, hw⟩)
  ·try simp only [sq] at h31
   refine sR (sM rfl (sA rfl ?_))
   refine L.nil (N.blk ?_)
   first
    | exact N.round (q + 1, hi) (by show hi - (q + 1) < hi - lo; omega) ⟨rfl, rfl, rfl, rfl, rfl, rfl, trivial⟩ (fun w hw => ⟨⟨by show q + 1 ≤ hi; omega, hz2, fun j h h0 => (by
       rcases (by omega : j < q ∨ j = q) with h1 | rfl
       ·exact cb_trans (by have := ha.lt (i := j) (j := q) (by simpa using hq) h1; simpa using this) (by rw [hy]; exact h31)
       ·rw [hy]; exact h31), hz4⟩, hw⟩)
    | exact N.round (lo, q) (by show q - lo < hi - lo; omega) ⟨rfl, rfl, rfl, rfl, rfl, rfl, trivial⟩ (fun w hw => ⟨⟨by show lo ≤ q; omega, by show q ≤ l.length; omega, hz3, fun j h h0 => (by
       rcases (by omega : q < j ∨ j = q) with h1 | rfl
       ·have h2 := ha.lt (i := q) (j := j) (by simpa using h) h1
        have h2 : cb l[q].key l[j].key < 0 := by simpa using h2
        exact fun h3 => (show ¬ cb l[q].key k < 0 by rw [hy]; exact Int.not_lt.2 h31) (cb_trans h2 h3)
       ·rw [hy]; exact Int.not_lt.2 h31)⟩, hw⟩)
 ·try simp only [sq] at h17
  have hlh : hi = lo := by omega
  subst hlh
  have e1 : pos (l.map (·.key)) k = hi := pos_of (by omega) (fun j h hj => by rw [List.getElem_map]; exact hz3 j (by omega) hj) (fun j h hj => by rw [List.getElem_map]; exact hz4 j (by omega) hj)
  have e2 := mem_at ha (i := hi) (k := k) (by omega) (fun j h hj => by rw [List.getElem_map]; exact hz3 j (by omega) hj) (fun j h hj => by rw [List.getElem_map]; exact hz4 j (by omega) hj)
  rw [e1]
  refine sZ rfl (sD (sM rfl (sM rfl (sM rfl (sQc rfl (sM rfl ?_))))))
  refine L.fork (d := 39) rfl (fun h39 => ?_) (fun h39 => ?_)
  ·try simp only [sq] at h39
   obtain ⟨q, hqe⟩ : ∃ q, q = hi := ⟨_, rfl⟩
   have hq : q < l.length := by omega
   obtain ⟨b, off, cs, T, fz, k5, rfl, h2, h3, h4, h5, _, _⟩ := hr.at hq
   obtain ⟨y, hy⟩ : ∃ y, l[q].key = y := ⟨_, rfl⟩
   rw [hy] at h5
   refine sM rfl (sM rfl (sM rfl ?_))
   refine L.w rfl (V.indexAddr (j := q) rfl rfl underlying115 sizeOf129 (by rw [hqe]) hq) ?_
   refine L.w rfl (V.loadN rfl isAgg129 sizeOf129 h2 h3 h4) ?_
   refine sM rfl ?_
   refine L.call rfl rfl rfl call115 rfl (fun w hw => kiCmp_ok h5 hk hw) ?_
   rintro _ a w hst ⟨rfl, hw⟩
   refine hst.go rfl hw ?_
   clear hst hw w a
   refine sQa rfl (sT rfl (sA rfl (sA rfl (sN ?_))))
   refine R.ret2 results114 rfl rfl (fun w hw => ?_)
   refine ⟨?_, hw⟩
   refine congrArg (fun q : Bool => Ending.returned (.tuple #[.int .i64 (hi : Int), .bool q])) ?_
   rw [Bool.eq_iff_iff, decide_eq_true_eq, e2]
   first
    | (subst hqe
       rw [beq_iff_eq]
       constructor
       ·intro h; exact ⟨by omega, by rw [List.getElem_map, hy]; exact h⟩
       ·rintro ⟨_, h⟩; rw [List.getElem_map, hy] at h; exact h)
    | (refine ⟨fun h => (by cases h), ?_⟩
       rintro ⟨h, _⟩
       omega)
  ·try simp only [sq] at h39
   refine sS rfl (sS rfl (sS rfl (sS rfl (sS rfl (sS rfl (sS rfl (sS rfl (sU rfl (sA rfl (sA rfl (sN ?_)))))))))))
   refine R.ret2 results114 rfl rfl (fun w hw => ?_)
   refine ⟨?_, hw⟩
   refine congrArg (fun q : Bool => Ending.returned (.tuple #[.int .i64 (hi : Int), .bool q])) ?_
   rw [Bool.eq_iff_iff, decide_eq_true_eq, e2]
   first
    | (subst hqe
       rw [beq_iff_eq]
       constructor
       ·intro h; exact ⟨by omega, by rw [List.getElem_map, hy]; exact h⟩
       ·rintro ⟨_, h⟩; rw [List.getElem_map, hy] at h; exact h)
    | (refine ⟨fun h => (by cases h), ?_⟩
       rintro ⟨h, _⟩
       omega)

theorem find_ok {v kv : Value} {l : List Item} {k : List UInt8} (hr : Items S Hr v l) (hk : Bs S Hr kv k) (hl : l.length ≤ 100000) (ha : Rise (l.map (·.key))) (hw : Hp w0 F S Hr w) :
 Calls Tryz.prog 60 #[v, kv] w fun e w' => e = .returned (.tuple #[.int .i64 (pos (l.map (·.key)) k : Int), .bool (decide (k ∈ l.map (·.key)))]) ∧ Hp w0 F S Hr w' := by
 refine enterA hw func60 rfl ntmps60 rfl rfl ?_
 refine sD (sA rfl (sA rfl (sE (sM rfl (sM rfl ?_)))))
 refine L.call rfl rfl rfl call117 rfl (fun w hw => bsItem_ok hr hk hl ha hw) ?_
 rintro _ a w hst ⟨rfl, hw⟩
 refine hst.go rfl hw ?_
 clear hst hw w a
 refine sX rfl (sX rfl (sA rfl (sA rfl (sN ?_))))
 refine R.ret2 results60 rfl rfl (fun w hw => ?_)
 exact ⟨rfl, hw⟩

theorem route_ok {v kv : Value} {l : List Kid} {k : List UInt8} (hr : Kids S Hr v l) (hk : Bs S Hr kv k) (hl : l.length ≤ 100000) (ha : Rise (l.map (·.key))) (hw : Hp w0 F S Hr w) :
 Calls Tryz.prog 59 #[v, kv] w fun e w' => e = .returned (.int .i64 (rt (l.map (·.key)) k : Int)) ∧ Hp w0 F S Hr w' := by
 have hp := pos_le (l.map (·.key)) k
 rw [List.length_map] at hp
 refine enterA hw func59 rfl ntmps59 rfl rfl ?_
 refine sD (sA rfl (sE (sM rfl (sM rfl ?_))))
 refine L.call rfl rfl rfl call114 rfl (fun w hw => bsKid_ok hr hk hl ha hw) ?_
 rintro _ a w hst ⟨rfl, hw⟩
 refine hst.go rfl hw ?_
 clear hst hw w a
 refine sM rfl (sX rfl (sX rfl (sA rfl (sA rfl (sN (sC (sD (sM rfl (sM rfl ?_)))))))))
 refine L.fork (d := 14) rfl (fun h14 => ?_) (fun h14 => ?_)
 ·try simp only [sq] at h14
  refine sS rfl (sS rfl (sT rfl (sN (sO rfl (sD (sM rfl (sA rfl (sN ?_))))))))
  refine R.ret1 results59 rfl (fun w hw => ?_)
  refine ⟨?_, hw⟩
  unfold rt
  rw [if_pos (by first | exact .inl (by simpa using h14) | exact .inr (by omega))]; rfl
 ·try simp only [sq] at h14
  refine sM rfl (sQa rfl (sU rfl (sN ?_)))
  refine C.cond rfl (fun h17 => ?_) (fun h17 => ?_)
  ·try simp only [sq] at h17
   refine sD (sM rfl (sA rfl (sN ?_)))
   refine R.ret1 results59 rfl (fun w hw => ?_)
   refine ⟨?_, hw⟩
   unfold rt
   rw [if_pos (by first | exact .inl (by simpa using h14) | exact .inr (by omega))]; rfl
  ·try simp only [sq] at h17
   refine sK (sD (sM rfl ?_))
   refine L.w rfl (V.sub (c := ((pos (l.map (·.key)) k - 1 : Nat) : Int)) rfl rfl (by rw [w64 (by omega) (by omega)]; omega)) ?_
   refine sA rfl (sN ?_)
   refine R.ret1 results59 rfl (fun w hw => ?_)
   refine ⟨?_, hw⟩
   unfold rt
   rw [if_neg (fun h => h.elim (fun h => absurd h (by simpa using h14)) (fun h => by omega))]
end
end Go.Proofs.YtijgbppkdaiikaaGreat

set_option linter.unusedSimpArgs false
set_option linter.unusedVariables false
namespace Go.Proofs.YtijgbppkdaiikaaGreat
open Go.Proofs.Tryz Go.Tk

theorem Pr.page_right {s : Pr} (h : PrOk s) {id : Int} {p : Page} (hp : s.page id = some p) : Right p := pgP_right h.right hp

/-- A Leaf or a Branch. -/
noncomputable def Pr.node (s : Pr) (id : Int) (depth : Nat) : Except Int Page :=
 match s.page id with
 | none => .error (s.err id)
 | some x => if (x.kind ≠ 1 ∧ x.kind ≠ 2) ∨ 16 < depth then .error 4 else .ok x
noncomputable def blobF (s : Pr) (size : Nat) : Nat → Nat → List UInt8 → List Nat → Except Int (List UInt8 × List Nat)
 | 0, _, _, _ => .error 4
 | f + 1, i, out, ids => if i ≠ 0 ∧ out.length < size then
    match s.page i with
    | none => .error (s.err i)
    | some y => if y.kind ≠ 3 then .error 4 else if y.next ≠ 0 ∧ size ≤ (out ++ y.data).length then .error 4 else blobF s size f y.next (out ++ y.data) (ids ++ [i])
   else if out.length ≠ size then .error 4 else .ok (out, ids)
/-- A value out of Pieces, and its pages. -/
noncomputable def Pr.blob (s : Pr) (x : Item) : Except Int (List UInt8 × List Nat) := blobF s x.size (x.size + 2) x.more [] []
noncomputable def Pr.value (s : Pr) (x : Item) : Except Int (List UInt8) :=
 if x.more = 0 then .ok x.val else match s.blob x with
 | .error e => .error e
 | .ok r => .ok r.1


theorem pos_lt_of_mem {ks : List (List UInt8)} {k : List UInt8} (h : k ∈ ks) : pos ks k < ks.length := by
 induction ks with
 | nil => cases h
 | cons x ks ih =>
   unfold pos
   rw [List.takeWhile_cons]
   split
   ·rename_i hx
    rcases List.mem_cons.1 h with rfl | h
    ·rw [cb_self] at hx; simp at hx
    ·have := ih h; unfold pos at this; simpa using this
   ·simp
theorem rt_lt {ks : List (List UInt8)} (k : List UInt8) (h : 0 < ks.length) : rt ks k < ks.length := by
 unfold rt
 have := pos_le ks k
 split
 ·rename_i h1
  rcases h1 with h1 | h1
  ·exact pos_lt_of_mem h1
  ·omega
 ·rename_i h1
  have : pos ks k ≠ 0 := fun h => h1 (.inr h)
  omega
theorem Right.lens {p : Page} (h : Right p) : p.items.length ≤ 237 ∧ p.kids.length ≤ 237 ∧ p.data.length ≤ 237 ∧ p.ids.length ≤ 237 := by
 have hc := h.few
 have e1 := h.only.items
 have e2 := h.only.kids
 have e3 := h.only.data
 have e4 := h.only.ids
 have k0 := h.only.k0
 have k1 := h.only.k1
 unfold Page.count at hc
 rcases (by omega : p.kind = 1 ∨ p.kind = 2 ∨ p.kind = 3 ∨ p.kind = 4) with k | k | k | k <;> simp only [k] at hc e1 e2 e3 e4 <;> simp_all
theorem itemOk.lens {x : Item} (h : itemOk x) : x.key.length ≤ 32 ∧ x.val.length ≤ 64 ∧ x.size ≤ 4096 ∧ x.more < 1024 := by
 obtain ⟨h1, h2, h3, h4⟩ := h
 rcases Nat.lt_or_ge 64 x.size with h5 | h5
 ·obtain ⟨h6, h7⟩ := h4 h5; unfold idOk at h7; omega
 ·obtain ⟨h6, h7⟩ := h3 h5; omega
theorem Right.kids0 {p : Page} (h : Right p) (hk : p.kind = 2) : 0 < p.kids.length := by
 have := h.some (by omega)
 unfold Page.count at this
 rw [hk] at this
 have : 1 ≤ p.kids.length := by simpa using this
 omega
noncomputable def getF (s : Pr) (k : List UInt8) : Nat → Int → Nat → Except Int (Option (List UInt8))
 | 0, _, _ => .error 4
 | f + 1, root, depth => if root = 0 then .ok none else
    match s.node root depth with
    | .error e => .error e
    | .ok x => if x.kind = 2 then getF s k f (((x.kids[rt (x.kids.map (·.key)) k]?).map (fun y => (y.page : Int))).getD 0) (depth + 1) else
       if k ∈ x.items.map (·.key) then
        match x.items[pos (x.items.map (·.key)) k]? with
        | none => .ok none
        | some y => match s.value y with
          | .error e => .error e
          | .ok v => .ok (some v)
       else .ok none
/-- What Get tells. -/
noncomputable def Pr.get (s : Pr) (root : Int) (k : List UInt8) : Except Int (Option (List UInt8)) := getF s k 19 root 0

theorem Pr.node_some {s : Pr} {id : Int} {d : Nat} {x : Page} (h : s.node id d = .ok x) : s.page id = some x ∧ (x.kind = 1 ∨ x.kind = 2) ∧ d ≤ 16 := by
 unfold Pr.node at h
 cases hp : s.page id with
 | none => rw [hp] at h; cases h
 | some y =>
   rw [hp] at h
   dsimp only at h
   split at h
   ·cases h
   ·rename_i hn
    injection h with h
    subst h
    exact ⟨rfl, by omega, by omega⟩

section
variable {w0 : World} {F : Nat → Prop} {S : Store} {Hr : Heap} {w : World}

theorem node_ok {b db : Nat} {s : Pr} {fp : Heap} (hd : PgR S b db s fp) (id : Int) (depth : Nat) (hw : Hp w0 F S (fp ++ Hr) w) :
 Calls Tryz.prog 58 #[.pointer (some ⟨b, 0, none⟩), .int .i64 id, .int .i64 (depth : Int)] w fun e w' => ∃ S' c f err, e = .returned (.tuple #[.agg c.toArray, .int .i64 err]) ∧ S.le S' ∧ PgR S' b db s fp ∧ ((∃ x, s.node id depth = .ok x ∧ err = 0 ∧ Right x ∧ PageO S' c x f) ∨ (s.node id depth = .error err ∧ err ≠ 0 ∧ c = zeroC ∧ f = [])) ∧ Hp w0 F S' (f ++ (fp ++ Hr)) w' := by
 refine enterA hw func58 rfl ntmps58 rfl rfl ?_
 refine sD ?_
 refine L.allocA rfl rfl zeroValue125 (fun b6 => ?_)
 refine sA rfl (sE (sM rfl (sM rfl ?_)))
 refine L.call rfl rfl rfl call89 rfl (fun w hw => prRead_ok (Hr := (b6, _) :: Hr) hd id (hw.re zRe)) ?_
 rintro _ a w hst ⟨S1, c1, f1, rfl, le1, hd1, hres, hw⟩
 refine hst.go rfl hw ?_
 clear hst hw w a
 obtain ⟨y1, y2, y3, y4, y5, y6, y7, hy, hy1⟩ : ∃ y1 y2 y3 y4 y5 y6 y7, c1 = [y1, y2, y3, y4, y5, y6, y7] ∧ [y1, y2, y3, y4, y5, y6, y7].all (·.oneCell') = true := by
  rcases hres with ⟨p, _, _, hp⟩ | ⟨_, _, rfl, _⟩
  ·exact pageO_form hp
  ·exact ⟨_, _, _, _, _, _, _, rfl, rfl⟩
 subst hy
 refine sM rfl (sX rfl (sX rfl ?_))
 refine L.allocA rfl rfl zeroValue125 (fun b8 => ?_)
 refine L.storeBox rfl rfl rfl sizeOf125 rfl rfl hy1 zUp ?_
 refine sA rfl (sN (sC (sD (sM rfl (sQa rfl (sM rfl ?_))))))
 refine L.fork (d := 18) rfl (fun h18 => ?_) (fun h18 => ?_)
 ·try simp only [sq] at h18
  obtain ⟨x, hx, hpo⟩ : ∃ x, s.page id = some x ∧ PageO S1 [y1, y2, y3, y4, y5, y6, y7] x f1 := by
   rcases hres with ⟨p, h1, h2, h3⟩ | ⟨_, h2, _⟩
   ·exact ⟨p, h1, h3⟩
   ·exact absurd h18 h2
  have hxR := Pr.page_right hd.ok hx
  have hnode : s.node id depth = if (x.kind ≠ 1 ∧ x.kind ≠ 2) ∨ 16 < depth then .error 4 else .ok x := by unfold Pr.node; rw [hx]
  obtain ⟨y1', hy1'⟩ : ∃ q, q = y1 := ⟨_, rfl⟩
  have hk : y1 = .int .i64 (x.kind : Int) := by
   obtain ⟨_, _, _, _, _, _, _, _, he, _, _⟩ := hpo
   simp only [List.cons.injEq] at he
   exact he.1
  subst hk
  refine L.w rfl (V.fa rfl underlying125 rfl rfl sizeOf3) ?_
  refine L.w rfl (V.load rfl isAgg3 zAt (by rfl)) ?_
  refine sQb rfl (sM rfl ?_)
  refine L.fork (d := 22) rfl (fun h22 => ?_) (fun h22 => ?_)
  ·try simp only [sq] at h22
   refine L.w rfl (V.fa rfl underlying125 rfl rfl sizeOf3) ?_
   refine L.w rfl (V.load rfl isAgg3 zAt (by rfl)) ?_
   refine sQb rfl (sT rfl (sM rfl ?_))
   refine L.fork (d := 27) rfl (fun h27 => ?_) (fun h27 => ?_)
   ·try simp only [sq] at h27
    refine sS rfl (sS rfl (sT rfl (sT rfl (sN (sO rfl (sD ?_))))))
    refine L.w rfl (V.build rfl underlying125 zeroValue125 (pl := [(0, 1), (1, 1), (2, 1), (3, 1), (4, 1), (5, 1), (6, 1)]) (fun w => by kernel_rfl) Fills.nil) ?_
    refine L.storeBox rfl rfl rfl sizeOf125 rfl rfl (by rfl) zUp ?_
    refine sA rfl (sN ?_)
    refine R.retct results58 rfl rfl (fun w hw => run_box hw isAgg125 sizeOf125 zAt rfl) (fun w hw => ?_)
    refine ⟨S1, zeroC, [], 4, rfl, le1, hd1, .inr ⟨?_, by decide, rfl, rfl⟩, hw.sub zSub⟩
    rw [hnode]
    exact if_pos (by omega)
   ·try simp only [sq] at h27
    refine sM rfl (sQe rfl (sU rfl (sT rfl (sN ?_))))
    refine C.cond rfl (fun h31 => ?_) (fun h31 => ?_)
    ·try simp only [sq] at h31
     refine sD ?_
     refine L.w rfl (V.build rfl underlying125 zeroValue125 (pl := [(0, 1), (1, 1), (2, 1), (3, 1), (4, 1), (5, 1), (6, 1)]) (fun w => by kernel_rfl) Fills.nil) ?_
     refine L.storeBox rfl rfl rfl sizeOf125 rfl rfl (by rfl) zUp ?_
     refine sA rfl (sN ?_)
     refine R.retct results58 rfl rfl (fun w hw => run_box hw isAgg125 sizeOf125 zAt rfl) (fun w hw => ?_)
     refine ⟨S1, zeroC, [], 4, rfl, le1, hd1, .inr ⟨?_, by decide, rfl, rfl⟩, hw.sub zSub⟩
     rw [hnode]
     exact if_pos (by omega)
    ·try simp only [sq] at h31
     refine sK (sD ?_)
     refine L.w rfl (V.loadBox rfl isAgg125 sizeOf125 zAt (by rfl)) ?_
     refine sM rfl ?_
     refine L.storeBox rfl rfl rfl sizeOf125 rfl rfl hy1 zUp ?_
     refine sA rfl (sN ?_)
     refine R.retct results58 rfl rfl (fun w hw => run_box hw isAgg125 sizeOf125 zAt rfl) (fun w hw => ?_)
     refine ⟨S1, _, f1, _, rfl, le1, hd1, ?_, Hp.re (hw.sub (H' := f1 ++ (fp ++ Hr)) zSub) zRe⟩
     first
      | (refine .inl ⟨x, ?_, h18, hxR, hpo⟩
         rw [hnode]
         exact if_neg (by omega))
      | (rcases hres with ⟨p, h1, h2, h3⟩ | ⟨h1, h2, h3, h4⟩
         ·exact absurd h2 h18
         ·exact .inr ⟨by unfold Pr.node; rw [h1], h2, h3, h4⟩)
  ·try simp only [sq] at h22
   refine sS rfl (sS rfl (sS rfl (sU rfl (sM rfl (sM rfl (sQe rfl (sU rfl (sT rfl (sN ?_)))))))))
   refine C.cond rfl (fun h31 => ?_) (fun h31 => ?_)
   ·try simp only [sq] at h31
    refine sD ?_
    refine L.w rfl (V.build rfl underlying125 zeroValue125 (pl := [(0, 1), (1, 1), (2, 1), (3, 1), (4, 1), (5, 1), (6, 1)]) (fun w => by kernel_rfl) Fills.nil) ?_
    refine L.storeBox rfl rfl rfl sizeOf125 rfl rfl (by rfl) zUp ?_
    refine sA rfl (sN ?_)
    refine R.retct results58 rfl rfl (fun w hw => run_box hw isAgg125 sizeOf125 zAt rfl) (fun w hw => ?_)
    refine ⟨S1, zeroC, [], 4, rfl, le1, hd1, .inr ⟨?_, by decide, rfl, rfl⟩, hw.sub zSub⟩
    rw [hnode]
    exact if_pos (by omega)
   ·try simp only [sq] at h31
    refine sK (sD ?_)
    refine L.w rfl (V.loadBox rfl isAgg125 sizeOf125 zAt (by rfl)) ?_
    refine sM rfl ?_
    refine L.storeBox rfl rfl rfl sizeOf125 rfl rfl hy1 zUp ?_
    refine sA rfl (sN ?_)
    refine R.retct results58 rfl rfl (fun w hw => run_box hw isAgg125 sizeOf125 zAt rfl) (fun w hw => ?_)
    refine ⟨S1, _, f1, _, rfl, le1, hd1, ?_, Hp.re (hw.sub (H' := f1 ++ (fp ++ Hr)) zSub) zRe⟩
    first
     | (refine .inl ⟨x, ?_, h18, hxR, hpo⟩
        rw [hnode]
        exact if_neg (by omega))
     | (rcases hres with ⟨p, h1, h2, h3⟩ | ⟨h1, h2, h3, h4⟩
        ·exact absurd h2 h18
        ·exact .inr ⟨by unfold Pr.node; rw [h1], h2, h3, h4⟩)
 ·try simp only [sq] at h18
  refine sS rfl (sS rfl (sS rfl (sS rfl (sS rfl (sS rfl (sS rfl (sS rfl (sS rfl (sS rfl (sS rfl (sS rfl (sU rfl (sN ?_)))))))))))))
  refine sP rfl (sK (sD ?_))
  refine L.w rfl (V.loadBox rfl isAgg125 sizeOf125 zAt (by rfl)) ?_
  refine sM rfl ?_
  refine L.storeBox rfl rfl rfl sizeOf125 rfl rfl hy1 zUp ?_
  refine sA rfl (sN ?_)
  refine R.retct results58 rfl rfl (fun w hw => run_box hw isAgg125 sizeOf125 zAt rfl) (fun w hw => ?_)
  refine ⟨S1, _, f1, _, rfl, le1, hd1, ?_, Hp.re (hw.sub (H' := f1 ++ (fp ++ Hr)) zSub) zRe⟩
  first
   | (refine .inl ⟨x, ?_, h18, hxR, hpo⟩
      rw [hnode]
      exact if_neg (by omega))
   | (rcases hres with ⟨p, h1, h2, h3⟩ | ⟨h1, h2, h3, h4⟩
      ·exact absurd h2 h18
      ·exact .inr ⟨by unfold Pr.node; rw [h1], h2, h3, h4⟩)

theorem blob_ok {b db : Nat} {s : Pr} {fp : Heap} {c : List Value} {x : Item} (hd : PgR S b db s fp) (hx : ItemC S c x) (hsz : x.size ≤ 100000) (hw : Hp w0 F S (fp ++ Hr) w) :
 Calls Tryz.prog 119 #[.pointer (some ⟨b, 0, none⟩), .agg c.toArray] w fun e w' => ∃ S' v1 v2 err f1 f2, e = .returned (.tuple #[v1, v2, .int .i64 err]) ∧ S.le S' ∧ PgR S' b db s fp ∧
  ((∃ out ids, s.blob x = .ok (out, ids) ∧ err = 0 ∧ OwnB 5 v1 out f1 ∧ Own 3 1 v2 ids.length ((intL ids).map iv) f2 ∧ ids.length ≤ 100001) ∨ (s.blob x = .error err ∧ err ≠ 0 ∧ v1 = .slice none 0 0 ∧ v2 = .slice none 0 0 ∧ f1 = [] ∧ f2 = [])) ∧ Hp w0 F S' (f1 ++ (f2 ++ (fp ++ Hr))) w' := by
 obtain ⟨xk, xv, rfl, hxk, hxv⟩ := hx
 refine enterA hw func119 rfl ntmps119 rfl rfl ?_
 refine sD ?_
 refine L.boxA rfl rfl rfl (fun b3 => ?_)
 refine sA rfl (sA rfl (sA rfl (sE (sA rfl (sE (sA rfl (sN (sC (sD ?_)))))))))
 refine L.w rfl (V.fa rfl underlying112 rfl rfl sizeOf3) ?_
 refine L.w rfl (V.load rfl isAgg3 zAt (by rfl)) ?_
 refine sA rfl (sN (sB ?_))
 obtain ⟨RZ, hRZ⟩ : ∃ R, s.blob x = R := ⟨_, rfl⟩
 rw [hRZ]
 refine C.loop (α := Nat × Nat × List UInt8 × List Nat × Store × Value × Value × Heap × Heap) (fun z => [(0, .pointer (some ⟨b, 0, none⟩)), (3, .pointer (some ⟨b3, 0, none⟩)), (7, z.2.2.2.2.2.1), (8, z.2.2.2.2.2.2.1), (9, .int .i64 (z.2.1 : Int))])
  (fun z w => (RZ = blobF s x.size z.1 z.2.1 z.2.2.1 z.2.2.2.1 ∧ 1 ≤ z.1 ∧ x.size + 2 ≤ z.1 + z.2.2.1.length ∧ z.2.2.1.length ≤ x.size + 237 ∧ z.2.2.2.1.length + z.1 = x.size + 2 ∧ S.le z.2.2.2.2.1 ∧ OwnB 5 z.2.2.2.2.2.1 z.2.2.1 z.2.2.2.2.2.2.2.1 ∧ Own 3 1 z.2.2.2.2.2.2.1 z.2.2.2.1.length ((intL z.2.2.2.1).map iv) z.2.2.2.2.2.2.2.2) ∧
    Hp w0 F z.2.2.2.2.1 ((b3, .cells #[xk, xv, .int .i64 (x.size : Int), .int .i64 (x.more : Int)] 112 (0, 0)) :: (z.2.2.2.2.2.2.2.1 ++ (z.2.2.2.2.2.2.2.2 ++ (fp ++ Hr)))) w)
  (fun z => z.1) (x.size + 2, x.more, [], [], S, .slice none 0 0, .slice none 0 0, [], []) ⟨rfl, rfl, rfl, rfl, rfl, trivial⟩ (fun w hw => ⟨⟨hRZ.symm, by show 1 ≤ x.size + 2; omega, by simp, by simp, by simp, .refl _, OwnB.nil _, Own.nil _ _⟩, hw⟩) (fun zz => C.pure (fun hzz => ?_))
 obtain ⟨f, i, out, ids, S2, v7, v8, f7, f8⟩ := zz
 obtain ⟨hF, hf1, hfo, hol, hil, le2, ho7, ho8⟩ := hzz
 dsimp only at hF hf1 hfo hol hil le2 ho7 ho8 ⊢
 obtain ⟨f, rfl⟩ : ∃ g, f = g + 1 := ⟨f - 1, by omega⟩
 rw [blobF] at hF
 obtain ⟨a7, c7, rfl⟩ := ho7.form
 obtain ⟨a8, c8, rfl⟩ := ho8.form
 have hd2 := hd.mono le2
 refine sC (sD (sM rfl (sQb rfl (sM rfl ?_))))
 refine L.fork (d := 16) rfl (fun h16 => ?_) (fun h16 => ?_)
 ·try simp only [sq] at h16
  refine sM rfl ?_
  refine L.w rfl (V.len rfl underlying22) ?_
  refine L.w rfl (V.fa rfl underlying112 rfl rfl sizeOf3) ?_
  refine L.w rfl (V.load rfl isAgg3 zAt (by rfl)) ?_
  refine sQc rfl (sT rfl (sN ?_))
  refine C.cond rfl (fun h22 => ?_) (fun h22 => ?_)
  ·try simp only [sq] at h22
   have hc : i ≠ 0 ∧ out.length < x.size := by omega
   rw [if_pos hc] at hF
   refine sK (sB (sD (sM rfl (sM rfl ?_))))
   refine L.call rfl rfl rfl call89 rfl (fun w hw => prRead_ok (Hr := (b3, .cells #[xk, xv, .int .i64 (x.size : Int), .int .i64 (x.more : Int)] 112 (0, 0)) :: (f7 ++ (f8 ++ Hr))) hd2 (i : Int) (hw.re zRe)) ?_
   rintro _ a w hst ⟨S3, c3, f3, rfl, le3, hd3, hres, hw⟩
   refine hst.go rfl hw ?_
   clear hst hw w a
   obtain ⟨y1, y2, y3, y4, y5, y6, y7, hy, hy1⟩ : ∃ y1 y2 y3 y4 y5 y6 y7, c3 = [y1, y2, y3, y4, y5, y6, y7] ∧ [y1, y2, y3, y4, y5, y6, y7].all (·.oneCell') = true := by
    rcases hres with ⟨p, _, _, hp⟩ | ⟨_, _, rfl, _⟩
    ·exact pageO_form hp
    ·exact ⟨_, _, _, _, _, _, _, rfl, rfl⟩
   subst hy
   refine sM rfl (sX rfl (sX rfl ?_))
   refine L.allocA rfl rfl zeroValue125 (fun b10 => ?_)
   refine L.storeBox rfl rfl rfl sizeOf125 rfl rfl hy1 zUp ?_
   refine sA rfl (sN (sC (sD (sM rfl (sQb rfl (sN ?_))))))
   refine C.cond rfl (fun h30 => ?_) (fun h30 => ?_)
   ·try simp only [sq] at h30
    refine sD (sM rfl (sA rfl (sA rfl (sA rfl (sN ?_)))))
    refine R.ret3 results119 rfl rfl rfl (fun w hw => ?_)
    have h30 : s.err (i : Int) ≠ 0 := h30
    obtain ⟨hP, hcz⟩ : s.page (i : Int) = none ∧ f3 = [] := by
     rcases hres with ⟨p, _, h, _⟩ | ⟨h, _, _, hz⟩
     ·exact absurd h h30
     ·exact ⟨h, hz⟩
    rw [hP] at hF
    exact ⟨S3, _, _, s.err (i : Int), [], [], rfl, le2.trans le3, hd3, .inr ⟨hF, h30, rfl, rfl, rfl, rfl⟩, hw.sub zSub⟩
   ·try simp only [sq] at h30
    have h30 : s.err (i : Int) = 0 := h30
    obtain ⟨y, hP, hpo⟩ : ∃ y, s.page (i : Int) = some y ∧ PageO S3 [y1, y2, y3, y4, y5, y6, y7] y f3 := by
     rcases hres with ⟨p, h, _, h2⟩ | ⟨_, h, _⟩
     ·exact ⟨p, h, h2⟩
     ·exact absurd h30 h
    clear hres
    have hyR := Pr.page_right hd.ok hP
    rw [hP] at hF
    dsimp only at hF
    obtain ⟨qi, qk, qd, qx, gi, gk, gd, gx, he, hpt, rfl⟩ := hpo
    simp only [List.cons.injEq] at he
    obtain ⟨rfl, rfl, rfl, rfl, rfl, rfl, rfl, _⟩ := he
    refine sK (sC (sD ?_))
    refine L.w rfl (V.fa rfl underlying125 rfl rfl sizeOf3) ?_
    refine L.w rfl (V.load rfl isAgg3 zAt (by rfl)) ?_
    refine sQb rfl (sN ?_)
    refine C.cond rfl (fun h34 => ?_) (fun h34 => ?_)
    ·try simp only [sq] at h34
     refine sD (sA rfl (sA rfl (sA rfl (sN ?_))))
     refine R.ret3 results119 rfl rfl rfl (fun w hw => ?_)
     have hk : y.kind ≠ 3 := by omega
     rw [if_pos hk] at hF
     exact ⟨S3, _, _, 4, [], [], rfl, le2.trans le3, hd3, .inr ⟨hF, by decide, rfl, rfl, rfl, rfl⟩, hw.sub zSub⟩
    ·try simp only [sq] at h34
     have hk : y.kind = 3 := by omega
     rw [if_neg (fun h => h hk)] at hF
     have hyl : 1 ≤ y.data.length ∧ y.data.length ≤ 237 := by
      have h1 := hyR.few
      have h2 := hyR.some (by omega)
      unfold Page.count at h1 h2
      rw [hk] at h1 h2
      exact ⟨by simpa using h2, by simpa using h1⟩
     obtain ⟨a6, c6, rfl⟩ := hpt.data.form
     refine sK (sD (sM rfl (sM rfl ?_)))
     refine L.slice1 rfl rfl rfl underlying37 sizeOf3 zeroValue3 rfl (by decide) (by decide) rfl rfl (fun b37 => ?_)
     refine L.append (by' := 8) (sz := 1) (l := 1) (ys := [.int .i64 (i : Int)]) rfl rfl rfl rfl underlying37 info_int rfl rfl rfl rfl ho8 (.skip (.skip (.skipl (.skipl (.skip (.skipl .done)))))) ⟨rfl, .inr ⟨b37, 0, 1, _, _, _, rfl, ⟨Nat.le_refl _, by omega⟩, .apr .head, fun j hj => by simp⟩⟩ (by intro u hu; simp at hu; subst hu; rfl) (by omega) (by omega) (fun v38 f38 ho38 => ?_)
     have ho38 : Own 3 1 v38 (ids ++ [i]).length ((intL (ids ++ [i])).map iv) f38 := by
      unfold intL at ho38 ⊢
      rw [List.length_append, List.map_append, List.map_append]; exact ho38
     refine sA rfl (sE (sM rfl ?_))
     refine L.w rfl (V.fa rfl underlying125 rfl rfl sizeOf22) ?_
     refine L.w rfl (V.load rfl isAgg22 zAt (by rfl)) ?_
     refine L.append (by' := 1) (sz := 1) (l := y.data.length) (ys := y.data.map bv) rfl rfl rfl rfl underlying22 info_u8 rfl rfl rfl rfl ho7 (.skipl (.skip (.skip (.skipl (.skipl (.skip .done)))))) (Bs.mono (hpt.data.bs (H := gd) (fun q hq => hq)) (Sees.of (.refl _) (fun q hq => by simp [hq]))) (bv_one _) (by omega) (by omega) (fun v42 f42 ho42 => ?_)
     have ho42 : OwnB 5 v42 (out ++ y.data) f42 := OwnB.app ho42 rfl rfl
     obtain ⟨a42, c42, rfl⟩ := ho42.form
     refine sA rfl (sE ?_)
     refine L.w rfl (V.fa rfl underlying125 rfl rfl sizeOf3) ?_
     refine L.w rfl (V.load rfl isAgg3 zAt (by rfl)) ?_
     refine sA rfl (sE (sM rfl (sQb rfl (sM rfl ?_))))
     refine L.fork (d := 47) rfl (fun h47 => ?_) (fun h47 => ?_)
     ·try simp only [sq] at h47
      refine sM rfl ?_
      refine L.w rfl (V.len rfl underlying22) ?_
      refine L.w rfl (V.fa rfl underlying112 rfl rfl sizeOf3) ?_
      refine L.w rfl (V.load rfl isAgg3 zAt (by rfl)) ?_
      refine sQf rfl (sT rfl (sN ?_))
      refine C.cond rfl (fun h53 => ?_) (fun h53 => ?_)
      ·try simp only [sq] at h53
       refine sD (sA rfl (sA rfl (sA rfl (sN ?_))))
       refine R.ret3 results119 rfl rfl rfl (fun w hw => ?_)
       rw [if_pos (by omega)] at hF
       exact ⟨S3, _, _, 4, [], [], rfl, le2.trans le3, hd3, .inr ⟨hF, by decide, rfl, rfl, rfl, rfl⟩, hw.sub zSub⟩
      ·try simp only [sq] at h53
       refine C.skip (N.blk ?_)
       have hlen : (out ++ y.data).length = out.length + y.data.length := List.length_append
       have hF3 : RZ = blobF s x.size f y.next (out ++ y.data) (ids ++ [i]) := by
        rw [if_neg (by omega)] at hF; exact hF
       have hfo3 : x.size + 2 ≤ f + (out ++ y.data).length := by omega
       have hol3 : (out ++ y.data).length ≤ x.size + 237 := by omega
       have hil3 : (ids ++ [i]).length + f = x.size + 2 := by rw [List.length_append]; simp; omega
       refine N.round (f, y.next, out ++ y.data, ids ++ [i], S3, .slice a42 (out ++ y.data).length c42, v38, f42, f38) (by show f < f + 1; omega) ⟨rfl, rfl, rfl, rfl, rfl, trivial⟩ (fun w hw => ⟨⟨hF3, by show 1 ≤ f; omega, hfo3, hol3, hil3, le2.trans le3, ho42, ho38⟩, ?_⟩)
       exact Hp.re (hw.sub (H' := f42 ++ (f38 ++ (fp ++ ((b3, .cells #[xk, xv, .int .i64 (x.size : Int), .int .i64 (x.more : Int)] 112 (0, 0)) :: Hr)))) zSub) zRe
     ·try simp only [sq] at h47
      refine sS rfl (sS rfl (sS rfl (sS rfl (sS rfl (sU rfl (sN (sP rfl ?_)))))))
      refine C.skip (N.blk ?_)
      have hlen : (out ++ y.data).length = out.length + y.data.length := List.length_append
      have hF3 : RZ = blobF s x.size f y.next (out ++ y.data) (ids ++ [i]) := by
       rw [if_neg (by omega)] at hF; exact hF
      have hfo3 : x.size + 2 ≤ f + (out ++ y.data).length := by omega
      have hol3 : (out ++ y.data).length ≤ x.size + 237 := by omega
      have hil3 : (ids ++ [i]).length + f = x.size + 2 := by rw [List.length_append]; simp; omega
      refine N.round (f, y.next, out ++ y.data, ids ++ [i], S3, .slice a42 (out ++ y.data).length c42, v38, f42, f38) (by show f < f + 1; omega) ⟨rfl, rfl, rfl, rfl, rfl, trivial⟩ (fun w hw => ⟨⟨hF3, by show 1 ≤ f; omega, hfo3, hol3, hil3, le2.trans le3, ho42, ho38⟩, ?_⟩)
      exact Hp.re (hw.sub (H' := f42 ++ (f38 ++ (fp ++ ((b3, .cells #[xk, xv, .int .i64 (x.size : Int), .int .i64 (x.more : Int)] 112 (0, 0)) :: Hr)))) zSub) zRe
  ·try simp only [sq] at h22
   refine sZ rfl (sC (sD ?_))
   have hc : ¬ (i ≠ 0 ∧ out.length < x.size) := by omega
   rw [if_neg hc] at hF
   refine sM rfl ?_
   refine L.w rfl (V.len rfl underlying22) ?_
   refine L.w rfl (V.fa rfl underlying112 rfl rfl sizeOf3) ?_
   refine L.w rfl (V.load rfl isAgg3 zAt (by rfl)) ?_
   refine sQb rfl (sN ?_)
   refine C.cond rfl (fun h58 => ?_) (fun h58 => ?_)
   ·try simp only [sq] at h58
    refine sD (sA rfl (sA rfl (sA rfl (sN ?_))))
    refine R.ret3 results119 rfl rfl rfl (fun w hw => ?_)
    rw [if_pos (by omega)] at hF
    exact ⟨S2, _, _, 4, [], [], rfl, le2, hd2, .inr ⟨hF, by decide, rfl, rfl, rfl, rfl⟩, hw.sub zSub⟩
   ·try simp only [sq] at h58
    refine sK (sD (sM rfl (sM rfl (sA rfl (sA rfl (sA rfl (sN ?_)))))))
    refine R.ret3 results119 rfl rfl rfl (fun w hw => ?_)
    rw [if_neg (by omega)] at hF
    exact ⟨S2, _, _, 0, f7, f8, rfl, le2, hd2, .inl ⟨out, ids, hF, rfl, ho7, ho8, by omega⟩, hw.drop⟩
 ·try simp only [sq] at h16
  refine sS rfl (sS rfl (sS rfl (sS rfl (sS rfl (sU rfl (sN (sP rfl (sZ rfl (sC (sD ?_))))))))))
  have hc : ¬ (i ≠ 0 ∧ out.length < x.size) := by omega
  rw [if_neg hc] at hF
  refine sM rfl ?_
  refine L.w rfl (V.len rfl underlying22) ?_
  refine L.w rfl (V.fa rfl underlying112 rfl rfl sizeOf3) ?_
  refine L.w rfl (V.load rfl isAgg3 zAt (by rfl)) ?_
  refine sQb rfl (sN ?_)
  refine C.cond rfl (fun h58 => ?_) (fun h58 => ?_)
  ·try simp only [sq] at h58
   refine sD (sA rfl (sA rfl (sA rfl (sN ?_))))
   refine R.ret3 results119 rfl rfl rfl (fun w hw => ?_)
   rw [if_pos (by omega)] at hF
   exact ⟨S2, _, _, 4, [], [], rfl, le2, hd2, .inr ⟨hF, by decide, rfl, rfl, rfl, rfl⟩, hw.sub zSub⟩
  ·try simp only [sq] at h58
   refine sK (sD (sM rfl (sM rfl (sA rfl (sA rfl (sA rfl (sN ?_)))))))
   refine R.ret3 results119 rfl rfl rfl (fun w hw => ?_)
   rw [if_neg (by omega)] at hF
   exact ⟨S2, _, _, 0, f7, f8, rfl, le2, hd2, .inl ⟨out, ids, hF, rfl, ho7, ho8, by omega⟩, hw.drop⟩

theorem value_ok {b db : Nat} {s : Pr} {fp : Heap} {c : List Value} {x : Item} (hd : PgR S b db s fp) (hx : ItemC S c x) (hsz : x.size ≤ 100000) (hvl : x.val.length ≤ 100000) (hw : Hp w0 F S (fp ++ Hr) w) :
 Calls Tryz.prog 61 #[.pointer (some ⟨b, 0, none⟩), .agg c.toArray] w fun e w' => ∃ S' v err f, e = .returned (.tuple #[v, .int .i64 err]) ∧ S.le S' ∧ PgR S' b db s fp ∧
  ((∃ out, s.value x = .ok out ∧ err = 0 ∧ OwnB 5 v out f) ∨ (s.value x = .error err ∧ err ≠ 0 ∧ v = .slice none 0 0 ∧ f = [])) ∧ Hp w0 F S' (f ++ (fp ++ Hr)) w' := by
 have hx0 := hx
 obtain ⟨xk, xv, rfl, hxk, hxv⟩ := hx
 refine enterA hw func61 rfl ntmps61 rfl rfl ?_
 refine sD ?_
 refine L.boxA rfl rfl rfl (fun b3 => ?_)
 refine sA rfl (sA rfl (sN (sC (sD ?_))))
 refine L.w rfl (V.fa rfl underlying112 rfl rfl sizeOf3) ?_
 refine L.w rfl (V.load rfl isAgg3 zAt (by rfl)) ?_
 refine sQa rfl (sN ?_)
 refine C.cond rfl (fun h11 => ?_) (fun h11 => ?_)
 ·try simp only [sq] at h11
  refine sD ?_
  refine L.w rfl (V.fa rfl underlying112 rfl rfl sizeOf22) ?_
  refine L.w rfl (V.load rfl isAgg22 zAt (by rfl)) ?_
  have hm : x.more = 0 := by omega
  refine L.call rfl rfl rfl call83 rfl (fun w hw => clone_bytes (hxv.lift _) (bv_one _) (by omega) hw) ?_
  rintro _ a w hst ⟨v14, f14, rfl, ho14, hw⟩
  refine hst.go rfl hw ?_
  clear hst hw w a
  refine sA rfl (sA rfl (sN ?_))
  refine R.ret2 results61 rfl rfl (fun w hw => ?_)
  exact ⟨S, _, 0, f14, rfl, .refl S, hd, .inl ⟨x.val, if_pos hm, rfl, ho14⟩, hw.sub zSub⟩
 ·try simp only [sq] at h11
  refine sK (sD (sM rfl ?_))
  refine L.w rfl (V.loadBox rfl isAgg112 sizeOf112 zAt (by rfl)) ?_
  have hm : ¬ x.more = 0 := by omega
  refine L.call rfl rfl rfl call119 rfl (fun w hw => blob_ok (Hr := (b3, _) :: Hr) hd hx0 hsz (hw.re zRe)) ?_
  rintro _ a w hst ⟨S1, v1, v2, err, f1, f2, rfl, le1, hd1, hres, hw⟩
  refine hst.go rfl hw ?_
  clear hst hw w a
  refine sM rfl (sX rfl (sX rfl (sX rfl (sA rfl (sA rfl (sA rfl (sE (sM rfl (sM rfl (sA rfl (sA rfl (sN ?_))))))))))))
  refine R.ret2 results61 rfl rfl (fun w hw => ?_)
  refine ⟨S1, v1, err, f1, rfl, le1, hd1, ?_, hw.sub zSub⟩
  have e1 : s.value x = match s.blob x with | .error e => .error e | .ok r => .ok r.1 := if_neg hm
  rcases hres with ⟨out, ids, h1, h2, h3, h4, _⟩ | ⟨h1, h2, h3, h4, h5, h6⟩
  ·rw [h1] at e1; exact .inl ⟨out, e1, h2, h3⟩
  ·rw [h1] at e1; exact .inr ⟨e1, h2, h3, h5⟩

theorem treeGet_ok {b db : Nat} {s : Pr} {fp : Heap} {kv : Value} {k : List UInt8} (hd : PgR S b db s fp) (hk : Bs S Hr kv k) (root : Int) (hw : Hp w0 F S (fp ++ Hr) w) :
 Calls Tryz.prog 15 #[.pointer (some ⟨b, 0, none⟩), .int .i64 root, kv] w fun e w' => ∃ S' v t err f, e = .returned (.tuple #[v, .bool t, .int .i64 err]) ∧ S.le S' ∧ PgR S' b db s fp ∧
  ((∃ out, s.get root k = .ok (some out) ∧ err = 0 ∧ t = true ∧ OwnB 5 v out f) ∨ (s.get root k = .ok none ∧ err = 0 ∧ t = false ∧ v = .slice none 0 0 ∧ f = []) ∨ (s.get root k = .error err ∧ err ≠ 0 ∧ t = false ∧ v = .slice none 0 0 ∧ f = [])) ∧ Hp w0 F S' (f ++ (fp ++ Hr)) w' := by
 refine enterA hw func15 rfl ntmps15 rfl rfl ?_
 obtain ⟨RZ, hRZ⟩ : ∃ R, s.get root k = R := ⟨_, rfl⟩
 rw [hRZ]
 refine sD (sA rfl (sA rfl (sA rfl (sN (sC (sD (sA rfl (sN (sB ?_)))))))))
 refine C.loop (α := Nat × Int × Nat × Store) (fun z => [(0, .pointer (some ⟨b, 0, none⟩)), (1, .int .i64 z.2.1), (2, kv), (9, .int .i64 (z.2.2.1 : Int))])
  (fun z w => (RZ = getF s k z.1 z.2.1 z.2.2.1 ∧ z.1 + z.2.2.1 = 19 ∧ 1 ≤ z.1 ∧ S.le z.2.2.2) ∧ Hp w0 F z.2.2.2 (fp ++ Hr) w)
  (fun z => z.1) (19, root, 0, S) ⟨rfl, rfl, rfl, rfl, trivial⟩ (fun w hw => ⟨⟨hRZ.symm, by simp, by show 1 ≤ 19; decide, .refl _⟩, hw⟩) (fun zz => C.pure (fun hzz => ?_))
 obtain ⟨f, root, depth, S2⟩ := zz
 obtain ⟨hF, hfd, hf1, le2⟩ := hzz
 dsimp only at hF hfd hf1 le2 ⊢
 obtain ⟨f, rfl⟩ : ∃ g, f = g + 1 := ⟨f - 1, by omega⟩
 rw [getF] at hF
 have hd2 := hd.mono le2
 have hk2 := hk.mono (Sees.le le2 _)
 refine sC (sD (sM rfl (sQb rfl (sN ?_))))
 refine C.cond rfl (fun h16 => ?_) (fun h16 => ?_)
 ·try simp only [sq] at h16
  rw [if_neg (by omega)] at hF
  refine sK (sC (sB (sD (sM rfl (sM rfl (sM rfl ?_))))))
  refine L.call rfl rfl rfl call58 rfl (fun w hw => node_ok hd2 root depth hw) ?_
  rintro _ a w hst ⟨S3, c3, f3, err, rfl, le3, hd3, hres, hw⟩
  refine hst.go rfl hw ?_
  clear hst hw w a
  obtain ⟨y1, y2, y3, y4, y5, y6, y7, hy, hy1⟩ : ∃ y1 y2 y3 y4 y5 y6 y7, c3 = [y1, y2, y3, y4, y5, y6, y7] ∧ [y1, y2, y3, y4, y5, y6, y7].all (·.oneCell') = true := by
   rcases hres with ⟨p, _, _, _, hp⟩ | ⟨_, _, rfl, _⟩
   ·exact pageO_form hp
   ·exact ⟨_, _, _, _, _, _, _, rfl, rfl⟩
  subst hy
  have hk3 := hk2.mono (Sees.le le3 _)
  refine sM rfl (sX rfl (sX rfl ?_))
  refine L.allocA rfl rfl zeroValue125 (fun b10 => ?_)
  refine L.storeBox rfl rfl rfl sizeOf125 rfl rfl hy1 zUp ?_
  refine sA rfl (sN (sC (sD (sM rfl (sQb rfl (sN ?_))))))
  refine C.cond rfl (fun h27 => ?_) (fun h27 => ?_)
  ·try simp only [sq] at h27
   refine sD (sM rfl (sA rfl (sA rfl (sA rfl (sN ?_)))))
   refine R.ret3 results15 rfl rfl rfl (fun w hw => ?_)
   have h27 : err ≠ 0 := h27
   obtain ⟨hP, hcz⟩ : s.node root depth = .error err ∧ f3 = [] := by
    rcases hres with ⟨p, _, h, _⟩ | ⟨h, _, _, hz⟩
    ·exact absurd h h27
    ·exact ⟨h, hz⟩
   rw [hP] at hF
   exact ⟨S3, _, false, err, [], rfl, le2.trans le3, hd3, .inr (.inr ⟨hF, h27, rfl, rfl, rfl⟩), hw.sub zSub⟩
  ·try simp only [sq] at h27
   have h27 : err = 0 := h27
   obtain ⟨y, hP, hyR, hpo⟩ : ∃ y, s.node root depth = .ok y ∧ Right y ∧ PageO S3 [y1, y2, y3, y4, y5, y6, y7] y f3 := by
    rcases hres with ⟨p, h, _, h1, h2⟩ | ⟨_, h, _⟩
    ·exact ⟨p, h, h1, h2⟩
    ·exact absurd h27 h
   clear hres
   obtain ⟨hpg, hkd, hdep⟩ := Pr.node_some hP
   rw [hP] at hF
   dsimp only at hF
   obtain ⟨qi, qk, qd, qx, gi, gk, gd, gx, he, hpt, rfl⟩ := hpo
   simp only [List.cons.injEq] at he
   obtain ⟨rfl, rfl, rfl, rfl, rfl, rfl, rfl, _⟩ := he
   obtain ⟨q1, q2, q3, q4⟩ := hyR.lens
   refine sK (sC (sD ?_))
   refine L.w rfl (V.fa rfl underlying125 rfl rfl sizeOf3) ?_
   refine L.w rfl (V.load rfl isAgg3 zAt (by rfl)) ?_
   refine sQa rfl (sN ?_)
   refine C.cond rfl (fun h31 => ?_) (fun h31 => ?_)
   ·try simp only [sq] at h31
    have hk : y.kind = 2 := by omega
    rw [if_pos hk] at hF
    refine sC ?_
    refine C.quiet (by kernel_rfl) (by kernel_rfl) (fun w hw => hw.drawn _) ?_
    refine Q.v rfl rfl rfl (V.fa rfl underlying125 rfl rfl sizeOf115) ?_
    refine Q.v rfl rfl rfl (V.load rfl isAgg115 zAt (by rfl)) ?_
    refine Q.v rfl rfl rfl (V.fa rfl underlying125 rfl rfl sizeOf115) ?_
    refine Q.v rfl rfl rfl (V.load rfl isAgg115 zAt (by rfl)) ?_
    refine tM rfl ?_
    obtain ⟨a5, c5, rfl⟩ := (show ∃ ad c, y5 = .slice ad y.kids.length c from by obtain ⟨r, h, _⟩ := hpt.kids; exact h.form)
    obtain ⟨j, hj⟩ : ∃ j, rt (y.kids.map (·.key)) k = j := ⟨_, rfl⟩
    have hjl : j < y.kids.length := by have := rt_lt (ks := y.kids.map (·.key)) k (by rw [List.length_map]; exact hyR.kids0 hk); rw [hj, List.length_map] at this; exact this
    have hkc : Kids S3 gk (.slice a5 y.kids.length c5) y.kids := hpt.kids.c (fun q hq => hq)
    obtain ⟨b5, o5, cs5, T5, fz5, kv5, rfl, g1, g2, g3, g4, g5, g6⟩ := hkc.at hjl
    obtain ⟨kp, hkp⟩ : ∃ kp, y.kids[j].page = kp := ⟨_, rfl⟩
    rw [hkp] at g6
    have hkq : ((y.kids[j]?).map (fun y => (y.page : Int))).getD 0 = (kp : Int) := by rw [List.getElem?_eq_getElem hjl, Option.map_some, Option.getD_some, hkp]
    rw [hj, hkq] at hF
    refine Q.call (v := .int .i64 (j : Int)) rfl rfl rfl rfl call59 rfl (fun w hw => hj ▸ route_ok (hkc.mono (.refl _) (fun q hq => by simp [hq])) (hk3.mono (Sees.of (.refl _) (fun q hq => by simp [hq]))) (by omega) hyR.kidsRise hw) ?_
    refine Q.v rfl rfl rfl (V.indexAddr rfl rfl underlying115 sizeOf129 rfl (by omega)) ?_
    refine Q.v rfl rfl rfl (V.fa rfl underlying129 rfl rfl sizeOf3) ?_
    refine Q.v rfl rfl rfl (V.load rfl isAgg3 (.tail (.apl (.apr (.apl g1)))) g6) ?_
    refine tA rfl (tN (sZ rfl (sR (sM rfl ?_))))
    refine L.w rfl (V.add rfl rfl (w64 (by omega) (by omega))) ?_
    refine sA rfl ?_
    refine L.nil ?_
    refine N.round (f, (kp : Int), depth + 1, S3) (by show f < f + 1; omega) ⟨rfl, rfl, rfl, rfl, trivial⟩ (fun w hw => ⟨⟨hF, by show f + (depth + 1) = 19; omega, by show 1 ≤ f; omega, le2.trans le3⟩, hw.sub zSub⟩)
   ·try simp only [sq] at h31
    have hk : y.kind = 1 := by omega
    rw [if_neg (by omega)] at hF
    obtain ⟨a4, c4, rfl⟩ := (show ∃ ad c, y4 = .slice ad y.items.length c from by obtain ⟨r, h, _⟩ := hpt.items; exact h.form)
    have hic : Items S3 gi (.slice a4 y.items.length c4) y.items := hpt.items.c (fun q hq => hq)
    refine sK (sD ?_)
    refine L.w rfl (V.fa rfl underlying125 rfl rfl sizeOf118) ?_
    refine L.w rfl (V.load rfl isAgg118 zAt (by rfl)) ?_
    refine sM rfl ?_
    refine L.call rfl rfl rfl call60 rfl (fun w hw => find_ok (hic.mono (.refl _) (fun q hq => by simp [hq])) (hk3.mono (Sees.of (.refl _) (fun q hq => by simp [hq]))) (by omega) hyR.itemsRise hw) ?_
    rintro _ a w hst ⟨rfl, hw⟩
    refine hst.go rfl hw ?_
    clear hst hw w a
    refine sM rfl (sX rfl (sX rfl (sA rfl (sA rfl (sN (sC (sD (sM rfl (sV rfl (sN ?_))))))))))
    refine C.cond rfl (fun h49 => ?_) (fun h49 => ?_)
    ·try simp only [sq] at h49
     have hkn : ¬ k ∈ y.items.map (·.key) := by simpa using h49
     rw [if_neg hkn] at hF
     refine sZ rfl (sD (sA rfl (sA rfl (sA rfl (sN ?_)))))
     refine R.ret3 results15 rfl rfl rfl (fun w hw => ?_)
     first
      | exact ⟨S2, _, false, 0, [], rfl, le2, hd2, .inr (.inl ⟨hF, rfl, rfl, rfl, rfl⟩), hw⟩
      | exact ⟨S3, _, false, 0, [], rfl, le2.trans le3, hd3, .inr (.inl ⟨hF, rfl, rfl, rfl, rfl⟩), hw.sub zSub⟩
    ·try simp only [sq] at h49
     have hkn : k ∈ y.items.map (·.key) := by simpa using h49
     rw [if_pos hkn] at hF
     obtain ⟨j, hj⟩ : ∃ j, pos (y.items.map (·.key)) k = j := ⟨_, rfl⟩
     have hjl : j < y.items.length := by have := pos_lt_of_mem hkn; rw [hj, List.length_map] at this; exact this
     rw [hj] at hF ⊢
     obtain ⟨b4, o4, cs4, T4, fz4, kv4, vv4, rfl, g1, g2, g3, g4, g5, g6⟩ := hic.at hjl
     obtain ⟨it, hit⟩ : ∃ it, y.items[j] = it := ⟨_, rfl⟩
     have hio := hyR.items _ (List.getElem_mem hjl)
     rw [hit] at g3 g4 g5 hio
     obtain ⟨l1, l2, l3, l4⟩ := hio.lens
     rw [List.getElem?_eq_getElem hjl, hit] at hF
     dsimp only at hF
     refine sK (sD (sM rfl ?_))
     refine L.w rfl (V.fa rfl underlying125 rfl rfl sizeOf118) ?_
     refine L.w rfl (V.load rfl isAgg118 zAt (by rfl)) ?_
     refine sM rfl ?_
     refine L.w rfl (V.indexAddr rfl rfl underlying118 sizeOf112 rfl (by omega)) ?_
     refine L.w rfl (V.loadN rfl isAgg112 sizeOf112 (.tail (.apl (.apl g1))) g2 g3) ?_
     refine L.call rfl rfl rfl call61 rfl (fun w hw => value_ok (Hr := (b10, _) :: ((gi ++ (gk ++ (gd ++ gx))) ++ Hr)) (x := it) (c := [kv4, vv4, _, _]) hd3 ⟨_, _, rfl, g4, g5⟩ (by omega) (by omega) (hw.re zRe)) ?_
     rintro _ a w hst ⟨S4, v4, err4, f4, rfl, le4, hd4, hres, hw⟩
     refine hst.go rfl hw ?_
     clear hst hw w a
     refine sM rfl (sX rfl (sX rfl (sA rfl (sA rfl (sE (sM rfl (sM rfl (sQa rfl (sM rfl (sA rfl (sA rfl (sA rfl (sN ?_)))))))))))))
     refine R.ret3 results15 rfl rfl rfl (fun w hw => ?_)
     have le := le2.trans (le3.trans le4)
     rcases hres with ⟨out, h1, rfl, h3⟩ | ⟨h1, h2, rfl, rfl⟩
     ·rw [h1] at hF
      exact ⟨S4, v4, true, 0, f4, rfl, le, hd4, .inl ⟨out, hF, rfl, rfl, h3⟩, hw.sub zSub⟩
     ·rw [h1] at hF
      exact ⟨S4, _, false, err4, [], by rw [show (err4 == (0 : Int)) = false from by simpa using h2]; rfl, le, hd4, .inr (.inr ⟨hF, h2, rfl, rfl, rfl⟩), hw.sub zSub⟩
 ·try simp only [sq] at h16
  rw [if_pos (by omega)] at hF
  refine sZ rfl (sD (sA rfl (sA rfl (sA rfl (sN ?_)))))
  refine R.ret3 results15 rfl rfl rfl (fun w hw => ?_)
  first
   | exact ⟨S2, _, false, 0, [], rfl, le2, hd2, .inr (.inl ⟨hF, rfl, rfl, rfl, rfl⟩), hw⟩
   | exact ⟨S3, _, false, 0, [], rfl, le2.trans le3, hd3, .inr (.inl ⟨hF, rfl, rfl, rfl, rfl⟩), hw.sub zSub⟩
end
end Go.Proofs.YtijgbppkdaiikaaGreat

set_option linter.unusedSimpArgs false
set_option linter.unusedVariables false
namespace Go.Proofs.YtijgbppkdaiikaaGreat
open Go.Proofs.Tryz Go.Tk

theorem PgR.fl {S : Store} {b db : Nat} {s : Pr} {fp : Heap} (h : PgR S b db s fp) : s.list.Ok := by
 obtain ⟨hok, lb, am, al, ac, lfp, dfp, cv, h1, h2, h3, h4, h5⟩ := h
 exact h2.ok
theorem Pr.add_id {s : Pr} (h : s.list.Ok) {p : Page} (he : (s.add p).2.2 = 0) : 2 ≤ (s.add p).2.1 ∧ (s.add p).2.1 < (s.list.size : Int) := by
 unfold Pr.add at *
 split at he
 ·cases he
 ·split at he
  ·cases he
  ·split at he
   ·cases he
   ·split at he
    ·cases he
    ·rename_i h1 h2 h3 q i r hi
     rw [if_neg h1, if_neg h2, if_neg h3]
     simp only [hi]
     exact h.in1 i (by rw [hi]; exact List.mem_cons_self ..)

def pieceP (next : Nat) (d : List UInt8) : Page := ⟨3, 0, next, [], [], d, []⟩
/-- The last Piece first. -/
noncomputable def itemF (val : List UInt8) : Nat → Pr → Nat → Pr × Except Int Nat
 | 0, s, more => (s, .ok more)
 | j + 1, s, more => if (s.add (pieceP more ((val.drop (237 * j)).take 237))).2.2 ≠ 0 then ((s.add (pieceP more ((val.drop (237 * j)).take 237))).1, .error (s.add (pieceP more ((val.drop (237 * j)).take 237))).2.2)
    else itemF val j (s.add (pieceP more ((val.drop (237 * j)).take 237))).1 (s.add (pieceP more ((val.drop (237 * j)).take 237))).2.1.toNat
def itemRes (key val : List UInt8) : Pr × Except Int Nat → Pr × Except Int Item
 | (s', .error e) => (s', .error e)
 | (s', .ok m) => (s', .ok ⟨key, [], val.length, m⟩)
/-- An item of a key and a value, with its Pieces. -/
noncomputable def Pr.item (s : Pr) (key val : List UInt8) : Pr × Except Int Item :=
 if val.length ≤ 64 then (s, .ok ⟨key, val, val.length, 0⟩) else itemRes key val (itemF val ((val.length - 1) / 237 + 1) s 0)

theorem V.minN {P : Program} {n : Nat} {E : Env} {A : World → Prop} {dd : Option Tmp} {ty : Nat} {pos : String} {aft : Array Edge} {g : Option (Nat × Bool)} {at1 : Array TypeId} {x y : Operand} {kd kd' : IntKind} {a b c : Int} (hx : E.ev x = some (.int kd a)) (hy : E.ev y = some (.int kd' b)) (hc : min a b = c) : V P n E A ⟨dd, .call ⟨.builtin .min, #[x, y], at1⟩, ty, pos, aft, g⟩ (.int kd c) := hc ▸ V.minI hx hy

section
variable {w0 : World} {F : Nat → Prop} {S : Store} {Hr : Heap} {w : World}

theorem treeItem_ok {b db : Nat} {s : Pr} {fp : Heap} {kv vv : Value} {key val : List UInt8} (hd : PgR S b db s fp) (hk : Bs S Hr kv key) (hv : Bs S Hr vv val) (hkl : key.length ≤ 100000) (hvl : val.length ≤ 100000) (hw : Hp w0 F S (fp ++ Hr) w) :
 Calls Tryz.prog 54 #[.pointer (some ⟨b, 0, none⟩), kv, vv] w fun e w' => ∃ S' fp' y1 y2 y3 y4 err, e = .returned (.tuple #[.agg #[y1, y2, y3, y4], .int .i64 err]) ∧ S.le S' ∧ PgR S' b db (s.item key val).1 fp' ∧ [y1, y2, y3, y4].all (·.oneCell') = true ∧
  ((∃ x, (s.item key val).2 = .ok x ∧ err = 0 ∧ ItemC S' [y1, y2, y3, y4] x ∧ x.key = key ∧ x.val.length ≤ 64 ∧ x.size = val.length ∧ x.more < 2 ^ 32) ∨ ((s.item key val).2 = .error err ∧ err ≠ 0)) ∧ Hp w0 F S' (fp' ++ Hr) w' := by
 obtain ⟨va, vc, rfl, hvc⟩ := hv.form
 refine enterA hw func54 rfl ntmps54 rfl rfl ?_
 refine sD ?_
 refine L.allocA rfl rfl zeroValue112 (fun b6 => ?_)
 refine sA rfl (sE (sM rfl ?_))
 refine L.call rfl rfl rfl call83 rfl (fun w hw => clone_bytes_seal (hk.mono (Sees.of (.refl _) (fun q hq => by simp [hq]))) (by omega) hw) ?_
 rintro _ a w hst ⟨v13, S1, rfl, le1, hk1, hw⟩
 refine hst.go rfl hw ?_
 clear hst hw w a
 obtain ⟨ka, kc, rfl, _⟩ := hk1.form
 have hd1 := hd.mono le1
 have hv1 := hv.mono (Sees.le le1 _)
 refine sM rfl ?_
 refine L.w rfl (V.len rfl underlying22) ?_
 refine L.w rfl (V.build rfl underlying112 zeroValue112 (pl := [(0, 1), (1, 1), (2, 1), (3, 1)]) (fun w => by kernel_rfl) (Fills.cons rfl rfl rfl zPut (Fills.cons rfl rfl rfl zPut Fills.nil))) ?_
 refine L.allocA rfl rfl zeroValue112 (fun b8 => ?_)
 refine L.storeBox rfl rfl rfl sizeOf112 rfl rfl (by rfl) zUp ?_
 refine sN (sC (sD (sM rfl ?_)))
 refine L.w rfl (V.len rfl underlying22) ?_
 refine sQd rfl (sN ?_)
 refine C.cond rfl (fun h19 => ?_) (fun h19 => ?_)
 ·try simp only [sq] at h19
  refine sD (sM rfl ?_)
  refine L.call rfl rfl rfl call83 rfl (fun w hw => clone_bytes_seal (hv1.mono (Sees.of (.refl _) (fun q hq => by simp [hq]))) (by omega) hw) ?_
  rintro _ a w hst ⟨v21, S2, rfl, le2, hv2, hw⟩
  refine hst.go rfl hw ?_
  clear hst hw w a
  obtain ⟨v2a, v2c, rfl, _⟩ := hv2.form
  refine L.w rfl (V.fa rfl underlying112 rfl rfl sizeOf22) ?_
  refine L.store rfl rfl rfl sizeOf22 rfl zUp zSet ?_
  refine sE ?_
  refine L.w rfl (V.loadBox rfl isAgg112 sizeOf112 zAt (by rfl)) ?_
  refine L.storeBox rfl rfl rfl sizeOf112 rfl rfl (by rfl) zUp ?_
  refine sA rfl (sN ?_)
  refine R.retct results54 rfl rfl (fun w hw => run_box hw isAgg112 sizeOf112 zAt rfl) (fun w hw => ?_)
  have e1 : s.item key val = (s, .ok ⟨key, val, val.length, 0⟩) := if_pos (by omega)
  rw [e1]
  exact ⟨S2, fp, _, _, _, _, 0, rfl, le1.trans le2, hd1.mono le2, rfl, .inl ⟨_, rfl, rfl, ⟨_, _, rfl, hk1.mono (Sees.le le2 _), hv2⟩, rfl, by show val.length ≤ 64; omega, rfl, by show 0 < 2 ^ 32; decide⟩, hw.sub zSub⟩
 ·try simp only [sq] at h19
  have hbig : 64 < val.length := by omega
  obtain ⟨RZ, hRZ⟩ : ∃ R, itemF val ((val.length - 1) / 237 + 1) s 0 = R := ⟨_, rfl⟩
  have e1 : s.item key val = itemRes key val RZ := by
   unfold Pr.item; rw [if_neg (by omega), hRZ]
  rw [e1]
  obtain ⟨n0, hn0⟩ : ∃ n, (val.length - 1) / 237 = n := ⟨_, rfl⟩
  rw [hn0] at hRZ
  have hn1 : 237 * n0 < val.length := by omega
  refine sK (sC (sD (sM rfl ?_)))
  refine L.w rfl (V.len rfl underlying22) ?_
  refine L.w rfl (V.sub (c := ((val.length - 1 : Nat) : Int)) rfl rfl (by rw [w64 (by omega) (by omega)]; omega)) ?_
  refine L.w rfl (V.quo (c := (n0 : Int)) rfl rfl (by decide) (by rw [Int.tdiv_eq_ediv_of_nonneg (by omega), w64 (by omega) (by omega)]; omega)) ?_
  refine L.w rfl (V.mul (c := (237 * (n0 + 1 : Nat) : Int) - 237) rfl rfl (by rw [w64 (by omega) (by omega)]; omega)) ?_
  refine sA rfl (sN (sB ?_))
  refine C.loop (α := Nat × Pr × Nat × Store × Heap) (fun z => [(0, .pointer (some ⟨b, 0, none⟩)), (2, .slice va val.length vc), (6, .pointer (some ⟨b6, 0, none⟩)), (8, .pointer (some ⟨b8, 0, none⟩)), (9, .int .i64 ((237 * z.1 : Int) - 237))])
   (fun z w => (RZ = itemF val z.1 z.2.1 z.2.2.1 ∧ z.1 ≤ n0 + 1 ∧ z.2.2.1 < 2 ^ 32 ∧ S1.le z.2.2.2.1 ∧ PgR z.2.2.2.1 b db z.2.1 z.2.2.2.2) ∧
     Hp w0 F z.2.2.2.1 ((b8, .cells #[.slice ka key.length kc, .slice none 0 0, .int .i64 (val.length : Int), .int .i64 (z.2.2.1 : Int)] 112 (0, 0)) :: (b6, .cells #[.slice none 0 0, .slice none 0 0, .int .i64 0, .int .i64 0] 112 (0, 0)) :: (z.2.2.2.2 ++ Hr)) w)
   (fun z => z.1) (n0 + 1, s, 0, S1, fp) ⟨rfl, rfl, rfl, rfl, rfl, trivial⟩ (fun w hw => ⟨⟨hRZ.symm, Nat.le_refl _, by show 0 < 2 ^ 32; decide, .refl _, hd1⟩, hw⟩) (fun zz => C.pure (fun hzz => ?_))
  obtain ⟨z, s2, more, S2, f2⟩ := zz
  obtain ⟨hF, hz, hm, le2, hd2⟩ := hzz
  dsimp only at hF hz hm le2 hd2 ⊢
  refine sC (sD (sM rfl (sQf rfl (sN ?_))))
  refine C.cond rfl (fun h30 => ?_) (fun h30 => ?_)
  ·try simp only [sq] at h30
   obtain ⟨z, rfl⟩ : ∃ q, z = q + 1 := ⟨z - 1, by omega⟩
   obtain ⟨pc, hpc⟩ : ∃ pc, pieceP more ((val.drop (237 * z)).take 237) = pc := ⟨_, rfl⟩
   rw [itemF, hpc] at hF
   have hv2 := hv1.mono (Sees.le le2 _)
   obtain ⟨u, hu⟩ : ∃ u, u = min (237 * z + 237) val.length := ⟨_, rfl⟩
   obtain ⟨ad3, had3⟩ : ∃ ad3, (if vc = 237 * z then va else va.map (·.add (237 * z * 1))) = ad3 := ⟨_, rfl⟩
   have hsub := hv2.sub (lo := 237 * z) (hi := u) (by omega) (by omega) had3
   have htk : (val.drop (237 * z)).take (u - 237 * z) = (val.drop (237 * z)).take 237 := by
    rw [List.take_eq_take_iff, List.length_drop]; omega
   rw [htk] at hsub
   have hlen : ((val.drop (237 * z)).take 237).length = u - 237 * z := by rw [List.length_take, List.length_drop]; omega
   have hpC : PageC S2 Hr [.int .i64 3, .int .u64 0, .int .i64 (more : Int), .slice none 0 0, .slice none 0 0, .slice ad3 (u - 237 * z) (vc - 237 * z), .slice none 0 0] pc := by
    rw [← hpc]
    exact ⟨_, _, _, _, rfl, ⟨[], Rd.nil .., trivial⟩, ⟨[], Rd.nil .., trivial⟩, hsub, Rd.nil ..⟩
   have hpS : Small pc := by
    rw [← hpc]
    exact ⟨by show 3 < 256; decide, by show 0 < 2 ^ 64; decide, hm, by show 0 ≤ 100000; decide, (fun x hx => by cases hx), by show 0 ≤ 100000; decide, (fun x hx => by cases hx), by show ((val.drop (237 * z)).take 237).length ≤ 100000; omega, by show 0 ≤ 100000; decide, (fun x hx => by cases hx)⟩
   refine C.know (d := 9) (u := .int .i64 ((237 * z : Nat) : Int)) rfl (congrArg (Value.int .i64) (by omega)) ?_
   refine sK (sC (sB (sC ?_)))
   refine C.drawC [] (Hp w0 F S2 ((b8, .cells #[.slice ka key.length kc, .slice none 0 0, .int .i64 (val.length : Int), .int .i64 (more : Int)] 112 (0, 0)) :: Hr)) (fun w h => h.sub zSub) (by kernel_rfl) rfl (fun w hw => hw.drawn _) ?_
   refine D.take 0 (listed' := #[true, false, false, false, false, false, false, false, false, false, false, false, false, false, false, false, false, false]) rfl (by kernel_rfl) rfl rfl rfl rfl (V.move rfl) (fun w h => h.sub zSub) ?_
   refine D.take 1 (listed' := #[true, true, false, false, false, false, false, false, false, false, false, false, false, false, false, false, false, false]) rfl (by kernel_rfl) rfl rfl rfl rfl (V.fa rfl underlying112 rfl rfl sizeOf3) (fun w h => h.sub zSub) ?_
   refine D.take 2 (listed' := #[true, true, true, false, false, false, false, false, false, false, false, false, false, false, false, false, false, false]) rfl (by kernel_rfl) rfl rfl rfl rfl (V.load rfl isAgg3 zAt (by rfl)) (fun w h => h.sub zSub) ?_
   refine D.take 3 (listed' := #[true, true, true, true, false, false, false, false, false, false, false, false, false, false, false, false, false, false]) rfl (by kernel_rfl) rfl rfl rfl rfl (V.move rfl) (fun w h => h.sub zSub) ?_
   refine D.take 4 (listed' := #[true, true, true, true, true, false, false, false, false, false, false, false, false, false, false, false, false, false]) rfl (by kernel_rfl) rfl rfl rfl rfl (V.move rfl) (fun w h => h.sub zSub) ?_
   refine D.take 5 (listed' := #[true, true, true, true, true, true, false, false, false, false, false, false, false, false, false, false, false, false]) rfl (by kernel_rfl) rfl rfl rfl rfl (V.move rfl) (fun w h => h.sub zSub) ?_
   refine D.take 6 (listed' := #[true, true, true, true, true, true, true, false, false, false, false, false, false, false, false, false, false, false]) rfl (by kernel_rfl) rfl rfl rfl rfl (V.add (c := ((237 * z + 237 : Nat) : Int)) rfl rfl (by rw [w64 (by omega) (by omega)]; omega)) (fun w h => h.sub zSub) ?_
   refine D.take 7 (listed' := #[true, true, true, true, true, true, true, true, false, false, false, false, false, false, false, false, false, false]) rfl (by kernel_rfl) rfl rfl rfl rfl (V.move rfl) (fun w h => h.sub zSub) ?_
   refine D.take 8 (listed' := #[true, true, true, true, true, true, true, true, true, false, false, false, false, false, false, false, false, false]) rfl (by kernel_rfl) rfl rfl rfl rfl (V.len rfl underlying22) (fun w h => h.sub zSub) ?_
   refine D.take 9 (listed' := #[true, true, true, true, true, true, true, true, true, true, false, false, false, false, false, false, false, false]) rfl (by kernel_rfl) rfl rfl rfl rfl (V.minN (c := (u : Int)) rfl rfl (by omega)) (fun w h => h.sub zSub) ?_
   refine D.take 10 (listed' := #[true, true, true, true, true, true, true, true, true, true, true, false, false, false, false, false, false, false]) rfl (by kernel_rfl) rfl rfl rfl rfl (V.slice (l := 237 * z) (u := u) rfl underlying22 sizeOf5 ⟨_, rfl⟩ ⟨_, rfl⟩ (by omega) (by omega) had3) (fun w h => h.sub zSub) ?_
   refine D.take 11 (listed' := #[true, true, true, true, true, true, true, true, true, true, true, true, false, false, false, false, false, false]) rfl (by kernel_rfl) rfl rfl rfl rfl (V.build rfl underlying125 zeroValue125 (pl := [(0, 1), (1, 1), (2, 1), (3, 1), (4, 1), (5, 1), (6, 1)]) (fun w => by kernel_rfl) (Fills.cons rfl rfl rfl zPut (Fills.cons rfl rfl rfl zPut (Fills.cons rfl rfl rfl zPut Fills.nil)))) (fun w h => h.sub zSub) ?_
   refine D.step 12 (listed' := #[true, true, true, true, true, true, true, true, true, true, true, true, true, false, false, false, false, false]) (by kernel_rfl) rfl rfl (.inr (fun w h => h.sub zSub)) ?_
   refine L.call rfl rfl rfl call106 rfl (fun w hw => pgAdd_ok (Hr := (b8, .cells #[.slice ka key.length kc, .slice none 0 0, .int .i64 (val.length : Int), .int .i64 (more : Int)] 112 (0, 0)) :: (b6, .cells #[.slice none 0 0, .slice none 0 0, .int .i64 0, .int .i64 0] 112 (0, 0)) :: Hr) hd2 (hpC.mono (.refl _) (fun q hq => by simp [hq])) hpS (hw.re zRe)) ?_
   rintro _ a w hst ⟨S3, f3, rfl, le3, hd3, hw⟩
   refine hst.go rfl hw ?_
   clear hst hw w a
   refine D.back ?_
   refine D.step 13 (listed' := #[true, true, true, true, true, true, true, true, true, true, true, true, true, true, false, false, false, false]) (by kernel_rfl) rfl rfl (.inr (fun w h => by first | (refine h.sub ?_; exact zSub) | (refine (h.less le3).sub ?_; exact zSub))) ?_
   refine sM rfl ?_
   refine D.back ?_
   refine D.take 14 (listed' := #[true, true, true, true, true, true, true, true, true, true, true, true, true, true, true, false, false, false]) rfl (by kernel_rfl) rfl rfl rfl rfl (V.extract rfl rfl) (fun w h => by first | (refine h.sub ?_; exact zSub) | (refine (h.less le3).sub ?_; exact zSub)) ?_
   refine D.take 15 (listed' := #[true, true, true, true, true, true, true, true, true, true, true, true, true, true, true, true, false, false]) rfl (by kernel_rfl) rfl rfl rfl rfl (V.extract rfl rfl) (fun w h => by first | (refine h.sub ?_; exact zSub) | (refine (h.less le3).sub ?_; exact zSub)) ?_
   refine D.step 16 (listed' := #[true, true, true, true, true, true, true, true, true, true, true, true, true, true, true, true, true, false]) (by kernel_rfl) rfl rfl (.inr (fun w h => by first | (refine h.sub ?_; exact zSub) | (refine (h.less le3).sub ?_; exact zSub))) ?_
   refine sA rfl ?_
   refine D.back ?_
   refine D.step 17 (listed' := #[true, true, true, true, true, true, true, true, true, true, true, true, true, true, true, true, true, true]) (by kernel_rfl) rfl rfl (.inr (fun w h => by first | (refine h.sub ?_; exact zSub) | (refine (h.less le3).sub ?_; exact zSub))) ?_
   refine sA rfl ?_
   refine D.back ?_
   refine D.done (by kernel_rfl) (.inr (fun w h => by first | (refine h.sub ?_; exact zSub) | (refine (h.less le3).sub ?_; exact zSub))) (N.seq ?_)
   refine sC (sD (sM rfl (sQb rfl (sN ?_))))
   refine C.cond rfl (fun h50 => ?_) (fun h50 => ?_)
   ·try simp only [sq] at h50
    refine sD ?_
    refine L.w rfl (V.loadBox rfl isAgg112 sizeOf112 zAt (by rfl)) ?_
    refine sM rfl ?_
    refine L.storeBox rfl rfl rfl sizeOf112 rfl rfl (by rfl) zUp ?_
    refine sA rfl (sN ?_)
    refine R.retct results54 rfl rfl (fun w hw => run_box hw isAgg112 sizeOf112 zAt rfl) (fun w hw => ?_)
    have h50 : (s2.add pc).2.2 ≠ 0 := h50
    rw [if_pos h50] at hF
    subst hF
    exact ⟨S3, f3, _, _, _, _, _, rfl, le1.trans (le2.trans le3), hd3, rfl, .inr ⟨rfl, h50⟩, hw.sub zSub⟩
   ·try simp only [sq] at h50
    have h50 : (s2.add pc).2.2 = 0 := h50
    rw [if_neg (fun h => h h50)] at hF
    have hidr := Pr.add_id hd2.fl h50
    have hls := hd2.ok.size
    have hl1 := hd2.ok.s1
    refine sK (sR (sM rfl ?_))
    refine L.w rfl (V.fa rfl underlying112 rfl rfl sizeOf3) ?_
    refine L.store rfl rfl rfl sizeOf3 rfl zUp zSet ?_
    refine L.nil (N.blk (N.seq ?_))
    refine sR (sM rfl ?_)
    refine L.w rfl (V.sub (c := (237 * (z : Int)) - 237) rfl rfl (by rw [w64 (by omega) (by omega)]; omega)) ?_
    refine sA rfl ?_
    refine L.nil ?_
    refine N.round (z, (s2.add pc).1, (s2.add pc).2.1.toNat, S3, f3) (by show z < z + 1; omega) ⟨rfl, rfl, rfl, rfl, ?_, trivial⟩ (fun w hw => ⟨⟨hF, by show z ≤ n0 + 1; omega, by show (s2.add pc).2.1.toNat < 2 ^ 32; omega, le2.trans le3, hd3⟩, ?_⟩)
    ·exact congrArg (fun q : Int => some (Value.int .i64 q)) (by omega)
    ·show Hp w0 F S3 ((b8, .cells #[.slice ka key.length kc, .slice none 0 0, .int .i64 (val.length : Int), .int .i64 ((s2.add pc).2.1.toNat : Int)] 112 (0, 0)) :: (b6, .cells #[.slice none 0 0, .slice none 0 0, .int .i64 0, .int .i64 0] 112 (0, 0)) :: (f3 ++ Hr)) w
     rw [Int.toNat_of_nonneg (by omega)]
     exact Hp.re hw zRe
  ·try simp only [sq] at h30
   refine sZ rfl (sD ?_)
   refine L.w rfl (V.loadBox rfl isAgg112 sizeOf112 zAt (by rfl)) ?_
   refine L.storeBox rfl rfl rfl sizeOf112 rfl rfl (by rfl) zUp ?_
   refine sA rfl (sN ?_)
   refine R.retct results54 rfl rfl (fun w hw => run_box hw isAgg112 sizeOf112 zAt rfl) (fun w hw => ?_)
   have hz0 : z = 0 := by omega
   subst hz0
   rw [itemF] at hF
   subst hF
   exact ⟨S2, f2, _, _, _, _, 0, rfl, le1.trans le2, hd2, rfl, .inl ⟨_, rfl, rfl, ⟨_, _, rfl, hk1.mono (Sees.le le2 _), Rd.nil ..⟩, rfl, by show 0 ≤ 64; decide, rfl, hm⟩, hw.sub zSub⟩
end
end Go.Proofs.YtijgbppkdaiikaaGreat

set_option linter.unusedSimpArgs false
set_option linter.unusedVariables false
namespace Go.Proofs.YtijgbppkdaiikaaGreat
open Go.Proofs.Tryz Go.Tk

section
variable {α : Type}
def sumU (u : α → Nat) (l : List α) : Nat := (l.map u).sum
def cutF (u : α → Nat) (l : List α) : Nat → Nat → Nat
 | 0, n => n
 | f + 1, n => if n < l.length - 1 ∧ 2 * sumU u (l.take n) < sumU u l ∧ sumU u (l.take (n + 1)) ≤ 237 then cutF u l f (n + 1) else n
def cut (u : α → Nat) (l : List α) : Nat := cutF u l l.length 1
def partsF (u : α → Nat) : Nat → List α → List (List α)
 | 0, l => [l]
 | f + 1, l => if sumU u l ≤ 237 then [l] else l.take (cut u l) :: partsF u f (l.drop (cut u l))
/-- Things cut into pages that hold them. -/
def parts (u : α → Nat) (l : List α) : List (List α) := partsF u (l.length + 1) l

theorem cutF_bound (u : α → Nat) (l : List α) : ∀ (f n : Nat), 1 ≤ n → n ≤ max 1 (l.length - 1) → 1 ≤ cutF u l f n ∧ cutF u l f n ≤ max 1 (l.length - 1)
 | 0, n, h1, h2 => ⟨h1, h2⟩
 | f + 1, n, h1, h2 => by
   unfold cutF
   split
   ·rename_i h; exact cutF_bound u l f (n + 1) (by omega) (by omega)
   ·exact ⟨h1, h2⟩
theorem cut_bound (u : α → Nat) (l : List α) : 1 ≤ cut u l ∧ cut u l ≤ max 1 (l.length - 1) := cutF_bound u l _ 1 (Nat.le_refl _) (by omega)
theorem partsF_fuel (u : α → Nat) : ∀ (f g : Nat) (l : List α), l.length < f → l.length < g → partsF u f l = partsF u g l
 | 0, _, _, h, _ => by omega
 | _, 0, _, _, h => by omega
 | f + 1, g + 1, l, h1, h2 => by
   unfold partsF
   split
   ·rfl
   ·rename_i h
    have hl : l ≠ [] := fun e => by subst e; simp [sumU] at h
    have h0 : 0 < l.length := List.length_pos_iff.2 hl
    have := (cut_bound u l).1
    rw [partsF_fuel u f g (l.drop (cut u l)) (by rw [List.length_drop]; omega) (by rw [List.length_drop]; omega)]
theorem parts_eq (u : α → Nat) (l : List α) : parts u l = if sumU u l ≤ 237 then [l] else l.take (cut u l) :: parts u (l.drop (cut u l)) := by
 unfold parts
 rw [partsF]
 split
 ·rfl
 ·rename_i h
  have hl : l ≠ [] := fun e => by subst e; simp [sumU] at h
  have h0 : 0 < l.length := List.length_pos_iff.2 hl
  have := (cut_bound u l).1
  rw [partsF_fuel u l.length _ (l.drop (cut u l)) (by rw [List.length_drop]; omega) (Nat.lt_succ_self _)]
theorem parts_flat (u : α → Nat) : ∀ (n : Nat) (l : List α), l.length ≤ n → (parts u l).flatten = l
 | n, l, hn => by
   rw [parts_eq]
   split
   ·simp
   ·rename_i h
    have hl : l ≠ [] := fun e => by subst e; simp [sumU] at h
    have h0 : 0 < l.length := List.length_pos_iff.2 hl
    have := (cut_bound u l).1
    match n, hn with
    | n + 1, hn => rw [List.flatten_cons, parts_flat u n _ (by rw [List.length_drop]; omega), List.take_append_drop]
    | 0, hn => omega
theorem sumU_le (u : α → Nat) {m : Nat} (l : List α) (h : ∀ x ∈ l, u x ≤ m) : sumU u l ≤ l.length * m := by
 induction l with
 | nil => simp [sumU]
 | cons x l ih =>
   have h1 := h x (List.mem_cons_self ..)
   have h2 := ih (fun y hy => h y (List.mem_cons_of_mem _ hy))
   unfold sumU at h2 ⊢
   rw [List.map_cons, List.sum_cons, List.length_cons, Nat.add_mul]; omega
theorem parts_ne (u : α → Nat) : ∀ (n : Nat) (l : List α), l.length ≤ n → l ≠ [] → (∀ x ∈ l, u x ≤ 118) → ∀ p ∈ parts u l, p ≠ []
 | n, l, hn, hl, hu, p, hp => by
   rw [parts_eq] at hp
   split at hp
   ·rw [List.mem_singleton.1 hp]; exact hl
   ·rename_i h
    have h0 : 0 < l.length := List.length_pos_iff.2 hl
    have hs := sumU_le u l hu
    have h3 : 3 ≤ l.length := by
     rcases (by omega : l.length = 1 ∨ l.length = 2 ∨ 3 ≤ l.length) with e | e | e
     ·rw [e] at hs; omega
     ·rw [e] at hs; omega
     ·exact e
    have hc := cut_bound u l
    rcases List.mem_cons.1 hp with rfl | hp
    ·intro e; have h9 : (l.take (cut u l)).length = 0 := (by rw [e]; rfl); rw [List.length_take] at h9; omega
    ·match n, hn with
     | n + 1, hn => exact parts_ne u n _ (by rw [List.length_drop]; omega) (fun e => by have h9 : (l.drop (cut u l)).length = 0 := (by rw [e]; rfl); rw [List.length_drop] at h9; omega) (fun x hx => hu x (List.mem_of_mem_drop hx)) p hp
     | 0, hn => omega
theorem parts_len (u : α → Nat) : ∀ (n : Nat) (l : List α), l.length ≤ n → (parts u l).length ≤ l.length + 1
 | n, l, hn => by
   rw [parts_eq]
   split
   ·simp
   ·rename_i h
    have hl : l ≠ [] := fun e => by subst e; simp [sumU] at h
    have h0 : 0 < l.length := List.length_pos_iff.2 hl
    have := (cut_bound u l).1
    match n, hn with
    | n + 1, hn => have := parts_len u n (l.drop (cut u l)) (by rw [List.length_drop]; omega); rw [List.length_cons]; rw [List.length_drop] at this; omega
    | 0, hn => omega
end

theorem Items.sub {S : Store} {H : Heap} {ad ad' : Option Addr} {c lo hi : Nat} {l : List Item} (h : Items S H (.slice ad l.length c) l) (h1 : lo ≤ hi) (h2 : hi ≤ l.length)
 (had : (if c = lo then ad else ad.map (·.add (lo * 4))) = ad') : Items S H (.slice ad' (hi - lo) (c - lo)) ((l.drop lo).take (hi - lo)) := by
 obtain ⟨rows, hr, ha⟩ := h
 have := Rd.sub hr h1 h2 had
 have h4 := rows4 ha
 rw [rows_drop rows h4, rows_take (rows.drop lo) (fun r hr => h4 r (List.mem_of_mem_drop hr))] at this
 refine ⟨(rows.drop lo).take (hi - lo), ?_, (ha.drop lo).take (hi - lo)⟩
 rw [show ((l.drop lo).take (hi - lo)).length = hi - lo from by rw [List.length_take, List.length_drop]; omega]
 exact this
theorem Kids.sub {S : Store} {H : Heap} {ad ad' : Option Addr} {c lo hi : Nat} {l : List Kid} (h : Kids S H (.slice ad l.length c) l) (h1 : lo ≤ hi) (h2 : hi ≤ l.length)
 (had : (if c = lo then ad else ad.map (·.add (lo * 2))) = ad') : Kids S H (.slice ad' (hi - lo) (c - lo)) ((l.drop lo).take (hi - lo)) := by
 obtain ⟨rows, hr, ha⟩ := h
 have := Rd.sub hr h1 h2 had
 have h4 := rows2 ha
 rw [rows_drop rows h4, rows_take (rows.drop lo) (fun r hr => h4 r (List.mem_of_mem_drop hr))] at this
 refine ⟨(rows.drop lo).take (hi - lo), ?_, (ha.drop lo).take (hi - lo)⟩
 rw [show ((l.drop lo).take (hi - lo)).length = hi - lo from by rw [List.length_take, List.length_drop]; omega]
 exact this

theorem sumU_take_le {α : Type} (u : α → Nat) (l : List α) (n : Nat) : sumU u (l.take n) ≤ sumU u l := by
 have : sumU u l = sumU u (l.take n) + sumU u (l.drop n) := by
  unfold sumU; rw [← List.sum_append_nat, ← List.map_append, List.take_append_drop]
 omega
/-- Things that are not beyond reason. -/
def SmallI (l : List Item) : Prop := l.length ≤ 1000 ∧ ∀ x ∈ l, x.key.length ≤ 1000 ∧ x.val.length ≤ 1000 ∧ x.size < 2 ^ 32 ∧ x.more < 2 ^ 32
def SmallK (l : List Kid) : Prop := l.length ≤ 1000 ∧ ∀ x ∈ l, x.key.length ≤ 1000 ∧ x.page < 2 ^ 32
theorem SmallI.take {l : List Item} (h : SmallI l) (n : Nat) : SmallI (l.take n) := ⟨by rw [List.length_take]; have := h.1; omega, fun x hx => h.2 x (List.mem_of_mem_take hx)⟩
theorem SmallI.drop {l : List Item} (h : SmallI l) (n : Nat) : SmallI (l.drop n) := ⟨by rw [List.length_drop]; have := h.1; omega, fun x hx => h.2 x (List.mem_of_mem_drop hx)⟩
theorem SmallK.take {l : List Kid} (h : SmallK l) (n : Nat) : SmallK (l.take n) := ⟨by rw [List.length_take]; have := h.1; omega, fun x hx => h.2 x (List.mem_of_mem_take hx)⟩
theorem SmallK.drop {l : List Kid} (h : SmallK l) (n : Nat) : SmallK (l.drop n) := ⟨by rw [List.length_drop]; have := h.1; omega, fun x hx => h.2 x (List.mem_of_mem_drop hx)⟩
theorem SmallI.sum {l : List Item} (h : SmallI l) : sumU itemUsed l ≤ 3000000 := by
 have := sumU_le itemUsed (m := 3000) l (fun x hx => by have := h.2 x hx; unfold itemUsed; split <;> omega)
 have := h.1
 have : l.length * 3000 ≤ 1000 * 3000 := Nat.mul_le_mul_right _ h.1
 omega
theorem SmallK.sum {l : List Kid} (h : SmallK l) : sumU kidUsed l ≤ 3000000 := by
 have := sumU_le kidUsed (m := 3000) l (fun x hx => by have := h.2 x hx; unfold kidUsed; omega)
 have := h.1
 have : l.length * 3000 ≤ 1000 * 3000 := Nat.mul_le_mul_right _ h.1
 omega
theorem smallI_page {l : List Item} (h : SmallI l) (k : Nat) (hk : k < 256) : Small ⟨k, 0, 0, l, [], [], []⟩ :=
 ⟨hk, by show 0 < 2 ^ 64; decide, by show 0 < 2 ^ 32; decide, by show l.length ≤ 100000; have := h.1; omega, fun x hx => by have := h.2 x hx; omega, by show 0 ≤ 100000; decide, (fun x hx => by cases hx), by show 0 ≤ 100000; decide, by show 0 ≤ 100000; decide, (fun x hx => by cases hx)⟩
theorem smallK_page {l : List Kid} (h : SmallK l) (k : Nat) (hk : k < 256) : Small ⟨k, 0, 0, [], l, [], []⟩ :=
 ⟨hk, by show 0 < 2 ^ 64; decide, by show 0 < 2 ^ 32; decide, by show 0 ≤ 100000; decide, (fun x hx => by cases hx), by show l.length ≤ 100000; have := h.1; omega, fun x hx => by have := h.2 x hx; omega, by show 0 ≤ 100000; decide, by show 0 ≤ 100000; decide, (fun x hx => by cases hx)⟩

section
variable {w0 : World} {F : Nat → Prop} {S : Store} {Hr H0 : Heap} {w : World}

theorem usedItems_ok {v : Value} {l : List Item} (hr : Items S Hr v l) (hs : SmallI l) (hw : Hp w0 F S Hr w) :
 Calls Tryz.prog 108 #[v] w fun e w' => e = .returned (.int .i64 (sumU itemUsed l : Nat)) ∧ Hp w0 F S Hr w' := by
 obtain ⟨ad, c, rfl, _⟩ := hr.form
 have hu : usedN (⟨0, 0, 0, l, [], [], []⟩ : Page) = sumU itemUsed l := by simp [usedN, sumU]
 refine enterA hw func108 rfl ntmps108 rfl rfl ?_
 refine sD (sA rfl (sE (sM rfl ?_)))
 refine L.w rfl (V.build rfl underlying125 zeroValue125 (pl := [(0, 1), (1, 1), (2, 1), (3, 1), (4, 1), (5, 1), (6, 1)]) (fun w => by kernel_rfl) (Fills.cons rfl rfl rfl zPut Fills.nil)) ?_
 refine L.call rfl rfl rfl call145 rfl (fun w hw => used_ok (p := (⟨0, 0, 0, l, [], [], []⟩ : Page)) ⟨_, _, _, _, rfl, hr, ⟨[], Rd.nil .., trivial⟩, Rd.nil .., Rd.nil ..⟩ (smallI_page hs 0 (by decide)) hw) ?_
 rintro _ a w hst ⟨rfl, hw⟩
 refine hst.go rfl hw ?_
 clear hst hw w a
 rw [hu]
 refine sA rfl (sN ?_)
 refine R.ret1 results108 rfl (fun w hw => ?_)
 exact ⟨rfl, hw⟩
theorem usedKids_ok {v : Value} {l : List Kid} (hr : Kids S Hr v l) (hs : SmallK l) (hw : Hp w0 F S Hr w) :
 Calls Tryz.prog 151 #[v] w fun e w' => e = .returned (.int .i64 (sumU kidUsed l : Nat)) ∧ Hp w0 F S Hr w' := by
 obtain ⟨ad, c, rfl, _⟩ := hr.form
 have hu : usedN (⟨0, 0, 0, [], l, [], []⟩ : Page) = sumU kidUsed l := by simp [usedN, sumU]
 refine enterA hw func151 rfl ntmps151 rfl rfl ?_
 refine sD (sA rfl (sE (sM rfl ?_)))
 refine L.w rfl (V.build rfl underlying125 zeroValue125 (pl := [(0, 1), (1, 1), (2, 1), (3, 1), (4, 1), (5, 1), (6, 1)]) (fun w => by kernel_rfl) (Fills.cons rfl rfl rfl zPut Fills.nil)) ?_
 refine L.call rfl rfl rfl call145 rfl (fun w hw => used_ok (p := (⟨0, 0, 0, [], l, [], []⟩ : Page)) ⟨_, _, _, _, rfl, ⟨[], Rd.nil .., trivial⟩, hr, Rd.nil .., Rd.nil ..⟩ (smallK_page hs 0 (by decide)) hw) ?_
 rintro _ a w hst ⟨rfl, hw⟩
 refine hst.go rfl hw ?_
 clear hst hw w a
 rw [hu]
 refine sA rfl (sN ?_)
 refine R.ret1 results151 rfl (fun w hw => ?_)
 exact ⟨rfl, hw⟩

theorem partsItems_ok : ∀ (m : Nat) {v : Value} {l : List Item} {Hr : Heap} {w : World}, l.length ≤ m → Items S H0 v l → (∀ p ∈ H0, p ∈ Hr) → SmallI l → Hp w0 F S Hr w →
 Calls Tryz.prog 107 #[v, .func (.func 108) #[] #[]] w fun e w' => ∃ v' xs fp, e = .returned v' ∧ Own 118 1 v' (parts itemUsed l).length xs fp ∧ All2 (fun x p => Items S H0 x p) xs (parts itemUsed l) ∧ Hp w0 F S (fp ++ Hr) w' := by
 intro m
 induction m using Nat.strongRecOn with
 | _ m ih =>
   intro v l Hr w hm hr hsub hs hw
   obtain ⟨ad, c, rfl, hcc⟩ := hr.form
   have hsum := hs.sum
   have hl := hs.1
   refine enterA hw func107 rfl ntmps107 rfl rfl ?_
   refine sD (sA rfl (sN (sC (sD (sM rfl (sM rfl ?_))))))
   refine L.call rfl rfl rfl call108 rfl (fun w hw => usedItems_ok (hr.mono (.refl S) hsub) hs hw) ?_
   rintro _ a w hst ⟨rfl, hw⟩
   refine hst.go rfl hw ?_
   clear hst hw w a
   refine sQd rfl (sN ?_)
   refine C.cond rfl (fun h9 => ?_) (fun h9 => ?_)
   ·try simp only [sq] at h9
    refine sD (sM rfl ?_)
    refine L.slice1 rfl rfl rfl underlying208 sizeOf118 zeroValue118 rfl (by decide) (by decide) (vs := [.slice ad l.length c]) rfl rfl (fun b11 => ?_)
    refine sA rfl (sN ?_)
    refine R.ret1 results107 rfl (fun w hw => ?_)
    have e1 : parts itemUsed l = [l] := by rw [parts_eq, if_pos (by omega)]
    rw [e1]
    exact ⟨_, [.slice ad l.length c], _, rfl, Own.full (by rfl) (by decide), ⟨hr, trivial⟩, hw⟩
   ·try simp only [sq] at h9
    have hbig : ¬ sumU itemUsed l ≤ 237 := by omega
    have h0 : 0 < l.length := by
     rcases Nat.eq_zero_or_pos l.length with h | h
     ·rw [List.eq_nil_of_length_eq_zero h] at hbig; simp [sumU] at hbig
     ·exact h
    have e1 : parts itemUsed l = l.take (cut itemUsed l) :: parts itemUsed (l.drop (cut itemUsed l)) := by rw [parts_eq, if_neg hbig]
    rw [e1]
    obtain ⟨RZ, hRZ⟩ : ∃ R, cut itemUsed l = R := ⟨_, rfl⟩
    have hcb := cut_bound itemUsed l
    rw [hRZ] at hcb ⊢
    refine sK (sD (sA rfl (sN (sC (sB ?_)))))
    refine C.loop (α := Nat × Nat) (fun z => [(0, .slice ad l.length c), (1, .func (.func 108) #[] #[]), (5, .int .i64 (z.2 : Int))]) (fun z w => (RZ = cutF itemUsed l z.1 z.2 ∧ z.1 + z.2 = l.length + 1 ∧ 1 ≤ z.2 ∧ z.2 ≤ max 1 (l.length - 1)) ∧ Hp w0 F S Hr w) (fun z => z.1) (l.length, 1) ⟨rfl, rfl, rfl, trivial⟩ (fun w hw => ⟨⟨hRZ.symm, by show l.length + 1 = l.length + 1; rfl, Nat.le_refl 1, by show 1 ≤ max 1 _; omega⟩, hw⟩) (fun zz => C.pure (fun hzz => ?_))
    obtain ⟨f, z⟩ := zz
    obtain ⟨hF, hfz, hz1, hz2⟩ := hzz
    dsimp only at hF hfz hz1 hz2 ⊢
    have hA := hr.sub (lo := 0) (hi := z) (by omega) (by omega) (ad' := ad) (by split <;> cases ad <;> simp [Addr.add])
    rw [List.drop_zero] at hA
    have hA : Items S H0 (.slice ad (z - 0) (c - 0)) (l.take z) := hA
    obtain ⟨ad3, had3⟩ : ∃ ad3, (if c = z then ad else ad.map (·.add (z * 4))) = ad3 := ⟨_, rfl⟩
    have hC := hr.sub (lo := z) (hi := l.length) (by omega) (Nat.le_refl _) had3
    rw [List.take_of_length_le (by rw [List.length_drop]; omega)] at hC
    have hps := parts_len itemUsed l.length (l.drop z) (by rw [List.length_drop]; omega)
    rw [List.length_drop] at hps
    refine sC (sD (sM rfl (sM rfl ?_)))
    refine L.w rfl (V.len rfl underlying118) ?_
    refine L.w rfl (V.sub (c := ((l.length - 1 : Nat) : Int)) rfl rfl (by rw [w64 (by omega) (by omega)]; omega)) ?_
    refine sQc rfl (sM rfl ?_)
    refine L.fork (d := 17) rfl (fun h17 => ?_) (fun h17 => ?_)
    ·try simp only [sq] at h17
     have hB := hr.sub (lo := 0) (hi := z + 1) (by omega) (by omega) (ad' := ad) (by split <;> cases ad <;> simp [Addr.add])
     rw [List.drop_zero] at hB
     have hB : Items S H0 (.slice ad (z + 1 - 0) (c - 0)) (l.take (z + 1)) := hB
     have hs1 := (hs.take z).sum
     have hs2 := (hs.take (z + 1)).sum
     obtain ⟨f, rfl⟩ : ∃ g, f = g + 1 := ⟨f - 1, by omega⟩
     refine sM rfl (sM rfl (sM rfl ?_))
     refine L.w rfl (V.slice (l := 0) (u := z) rfl underlying118 sizeOf112 rfl ⟨_, rfl⟩ (by omega) (by omega) (ad' := ad) (by split <;> cases ad <;> simp [Addr.add])) ?_
     refine L.call rfl rfl rfl call108 rfl (fun w hw => usedItems_ok (hA.mono (.refl S) hsub) (hs.take z) hw) ?_
     rintro _ a w hst ⟨rfl, hw⟩
     refine hst.go rfl hw ?_
     clear hst hw w a
     refine L.w rfl (V.mul (c := ((2 * sumU itemUsed (l.take z) : Nat) : Int)) rfl rfl (by rw [w64 (by omega) (by omega)]; omega)) ?_
     refine sM rfl (sM rfl ?_)
     refine L.call rfl rfl rfl call108 rfl (fun w hw => usedItems_ok (hr.mono (.refl S) hsub) hs hw) ?_
     rintro _ a w hst ⟨rfl, hw⟩
     refine hst.go rfl hw ?_
     clear hst hw w a
     refine sQc rfl (sT rfl (sM rfl ?_))
     refine L.fork (d := 29) rfl (fun h29 => ?_) (fun h29 => ?_)
     ·try simp only [sq] at h29
      refine sM rfl (sM rfl (sM rfl ?_))
      refine L.w rfl (V.add (c := ((z + 1 : Nat) : Int)) rfl rfl (by rw [w64 (by omega) (by omega)]; omega)) ?_
      refine L.w rfl (V.slice (l := 0) (u := z + 1) rfl underlying118 sizeOf112 rfl ⟨_, rfl⟩ (by omega) (by omega) (ad' := ad) (by split <;> cases ad <;> simp [Addr.add])) ?_
      refine L.call rfl rfl rfl call108 rfl (fun w hw => usedItems_ok (hB.mono (.refl S) hsub) (hs.take (z + 1)) hw) ?_
      rintro _ a w hst ⟨rfl, hw⟩
      refine hst.go rfl hw ?_
      clear hst hw w a
      refine sQd rfl (sT rfl (sN ?_))
      refine C.cond rfl (fun h37 => ?_) (fun h37 => ?_)
      ·try simp only [sq] at h37
       refine sK (sB (sR (sM rfl ?_)))
       refine L.w rfl (V.add (c := ((z + 1 : Nat) : Int)) rfl rfl (by rw [w64 (by omega) (by omega)]; omega)) ?_
       refine sA rfl ?_
       refine L.nil (N.blk ?_)
       refine N.round (f, z + 1) (by show f < f + 1; omega) ⟨rfl, rfl, rfl, trivial⟩ (fun w hw => ⟨⟨by rw [hF, cutF, if_pos ⟨by omega, by omega, by omega⟩], by show f + (z + 1) = _; omega, by show 1 ≤ z + 1; omega, by show z + 1 ≤ _; omega⟩, hw⟩)
      ·try simp only [sq] at h37
       have hRz : RZ = z := by rw [hF, cutF, if_neg (by omega)]
       refine sZ rfl (sC ?_)
       refine C.drawC [] (Hp w0 F S Hr) (fun w h => h.sub zSub) (by kernel_rfl) rfl (fun w hw => hw.drawn _) ?_
       refine D.take 0 (listed' := #[true, false, false, false, false, false, false, false, false, false, false]) rfl (by kernel_rfl) rfl rfl rfl rfl (V.move rfl) (fun w h => h.sub zSub) ?_
       refine D.take 1 (listed' := #[true, true, false, false, false, false, false, false, false, false, false]) rfl (by kernel_rfl) rfl rfl rfl rfl (V.move rfl) (fun w h => h.sub zSub) ?_
       refine D.take 2 (listed' := #[true, true, true, false, false, false, false, false, false, false, false]) rfl (by kernel_rfl) rfl rfl rfl rfl (V.slice (l := 0) (u := z) rfl underlying118 sizeOf112 rfl ⟨_, rfl⟩ (by omega) (by omega) (ad' := ad) (by split <;> cases ad <;> simp [Addr.add])) (fun w h => h.sub zSub) ?_
       refine D.take 4 (listed' := #[true, true, true, false, true, false, false, false, false, false, false]) rfl (by kernel_rfl) rfl rfl rfl rfl (V.move rfl) (fun w h => h.sub zSub) ?_
       refine D.take 5 (listed' := #[true, true, true, false, true, true, false, false, false, false, false]) rfl (by kernel_rfl) rfl rfl rfl rfl (V.move rfl) (fun w h => h.sub zSub) ?_
       refine D.take 6 (listed' := #[true, true, true, false, true, true, true, false, false, false, false]) rfl (by kernel_rfl) rfl rfl rfl rfl (V.slice (l := z) (u := l.length) rfl underlying118 sizeOf112 ⟨_, rfl⟩ rfl (by omega) (by omega) had3) (fun w h => h.sub zSub) ?_
       refine D.take 7 (listed' := #[true, true, true, false, true, true, true, true, false, false, false]) rfl (by kernel_rfl) rfl rfl rfl rfl (V.move rfl) (fun w h => h.sub zSub) ?_
       refine D.two 3 8 (l1 := #[true, true, true, true, true, true, true, true, false, false, false]) (l2 := #[true, true, true, false, true, true, true, true, true, false, false]) (by kernel_rfl) rfl rfl rfl rfl (.inr (fun w h => h.sub zSub)) ?_ ?_
       ·skip
        refine L.slice1 rfl rfl rfl underlying208 sizeOf118 zeroValue118 rfl (by decide) (by decide) (vs := [.slice ad (z - 0) (c - 0)]) rfl rfl (fun b43 => ?_)
        refine D.back ?_
        refine D.step 8 (listed' := #[true, true, true, true, true, true, true, true, true, false, false]) (by kernel_rfl) rfl rfl (.inr (fun w h => h.sub zSub)) ?_
        refine L.call rfl rfl rfl call107 rfl (fun w hw => ih (l.drop z).length (by rw [List.length_drop]; omega) (Nat.le_refl _) hC (fun p hp => by first | exact hsub p hp | exact List.mem_cons_of_mem _ (hsub p hp)) (hs.drop z) hw) ?_
        rintro _ a w hst ⟨v48, xs48, f48, rfl, ho48, ha48, hw⟩
        refine hst.go rfl hw ?_
        clear hst hw w a
        refine D.back ?_
        refine D.step 9 (listed' := #[true, true, true, true, true, true, true, true, true, true, false]) (by kernel_rfl) rfl rfl (.inr (fun w h => h.sub zSub)) ?_
        have ho43 : Own 118 1 (.slice (some ⟨b43, 0, none⟩) 1 1) 1 [Value.slice ad (z - 0) (c - 0)] [(b43, .cells [Value.slice ad (z - 0) (c - 0)].toArray 118 (0, 0))] := Own.full rfl (by decide)
        have hx48 : ∀ u ∈ xs48, u.oneCell' = true := ha48.left (fun x p h => by obtain ⟨_, _, rfl, _⟩ := h.form; rfl)
        have hr48 : Rd S f48 1 v48 (parts itemUsed (l.drop z)).length xs48 := ho48.rd (fun p hp => hp)
        first
         | refine L.append (by' := 24) (sz := 1) (l := (parts itemUsed (l.drop z)).length) (ys := xs48) (Hr := f48 ++ Hr) rfl rfl rfl rfl underlying208 info_items rfl rfl rfl rfl ho43 .done (hr48.mono (Sees.of (.refl _) (fun q hq => by simp [hq]))) hx48 (by omega) (by omega) (fun v49 f49 ho49 => ?_)
         | refine L.append (by' := 24) (sz := 1) (l := (parts itemUsed (l.drop z)).length) (ys := xs48) (Hr := f48 ++ Hr) rfl rfl rfl rfl underlying208 info_items rfl rfl rfl rfl ho43 (.skipl .done) (hr48.mono (Sees.of (.refl _) (fun q hq => by simp [hq]))) hx48 (by omega) (by omega) (fun v49 f49 ho49 => ?_)
        refine D.back ?_
        refine D.step 10 (listed' := #[true, true, true, true, true, true, true, true, true, true, true]) (by kernel_rfl) rfl rfl (.inr (fun w h => h.sub zSub)) ?_
        refine sA rfl ?_
        refine D.back ?_
        refine D.done (by kernel_rfl) (.inr (fun w h => h.sub zSub)) (N.seq ?_)
        refine R.ret1 results107 rfl (fun w hw => ?_)
        rw [hRz]
        refine ⟨v49, Value.slice ad (z - 0) (c - 0) :: xs48, f49, rfl, ?_, ⟨hA, ha48⟩, hw.sub zSub⟩
        rw [List.length_cons, Nat.add_comm]; exact ho49
       ·skip
        refine L.call rfl rfl rfl call107 rfl (fun w hw => ih (l.drop z).length (by rw [List.length_drop]; omega) (Nat.le_refl _) hC (fun p hp => by first | exact hsub p hp | exact List.mem_cons_of_mem _ (hsub p hp)) (hs.drop z) hw) ?_
        rintro _ a w hst ⟨v48, xs48, f48, rfl, ho48, ha48, hw⟩
        refine hst.go rfl hw ?_
        clear hst hw w a
        refine D.back ?_
        refine D.step 3 (listed' := #[true, true, true, true, true, true, true, true, true, false, false]) (by kernel_rfl) rfl rfl (.inr (fun w h => h.sub zSub)) ?_
        refine L.slice1 rfl rfl rfl underlying208 sizeOf118 zeroValue118 rfl (by decide) (by decide) (vs := [.slice ad (z - 0) (c - 0)]) rfl rfl (fun b43 => ?_)
        refine D.back ?_
        refine D.step 9 (listed' := #[true, true, true, true, true, true, true, true, true, true, false]) (by kernel_rfl) rfl rfl (.inr (fun w h => h.sub zSub)) ?_
        have ho43 : Own 118 1 (.slice (some ⟨b43, 0, none⟩) 1 1) 1 [Value.slice ad (z - 0) (c - 0)] [(b43, .cells [Value.slice ad (z - 0) (c - 0)].toArray 118 (0, 0))] := Own.full rfl (by decide)
        have hx48 : ∀ u ∈ xs48, u.oneCell' = true := ha48.left (fun x p h => by obtain ⟨_, _, rfl, _⟩ := h.form; rfl)
        have hr48 : Rd S f48 1 v48 (parts itemUsed (l.drop z)).length xs48 := ho48.rd (fun p hp => hp)
        first
         | refine L.append (by' := 24) (sz := 1) (l := (parts itemUsed (l.drop z)).length) (ys := xs48) (Hr := f48 ++ Hr) rfl rfl rfl rfl underlying208 info_items rfl rfl rfl rfl ho43 .done (hr48.mono (Sees.of (.refl _) (fun q hq => by simp [hq]))) hx48 (by omega) (by omega) (fun v49 f49 ho49 => ?_)
         | refine L.append (by' := 24) (sz := 1) (l := (parts itemUsed (l.drop z)).length) (ys := xs48) (Hr := f48 ++ Hr) rfl rfl rfl rfl underlying208 info_items rfl rfl rfl rfl ho43 (.skipl .done) (hr48.mono (Sees.of (.refl _) (fun q hq => by simp [hq]))) hx48 (by omega) (by omega) (fun v49 f49 ho49 => ?_)
        refine D.back ?_
        refine D.step 10 (listed' := #[true, true, true, true, true, true, true, true, true, true, true]) (by kernel_rfl) rfl rfl (.inr (fun w h => h.sub zSub)) ?_
        refine sA rfl ?_
        refine D.back ?_
        refine D.done (by kernel_rfl) (.inr (fun w h => h.sub zSub)) (N.seq ?_)
        refine R.ret1 results107 rfl (fun w hw => ?_)
        rw [hRz]
        refine ⟨v49, Value.slice ad (z - 0) (c - 0) :: xs48, f49, rfl, ?_, ⟨hA, ha48⟩, hw.sub zSub⟩
        rw [List.length_cons, Nat.add_comm]; exact ho49
     ·try simp only [sq] at h29
      have hRz : RZ = z := by rw [hF, cutF, if_neg (by omega)]
      refine sS rfl (sS rfl (sS rfl (sS rfl (sS rfl (sS rfl (sS rfl (sU rfl (sN (sP rfl (sZ rfl (sC ?_)))))))))))
      refine C.drawC [] (Hp w0 F S Hr) (fun w h => h.sub zSub) (by kernel_rfl) rfl (fun w hw => hw.drawn _) ?_
      refine D.take 0 (listed' := #[true, false, false, false, false, false, false, false, false, false, false]) rfl (by kernel_rfl) rfl rfl rfl rfl (V.move rfl) (fun w h => h.sub zSub) ?_
      refine D.take 1 (listed' := #[true, true, false, false, false, false, false, false, false, false, false]) rfl (by kernel_rfl) rfl rfl rfl rfl (V.move rfl) (fun w h => h.sub zSub) ?_
      refine D.take 2 (listed' := #[true, true, true, false, false, false, false, false, false, false, false]) rfl (by kernel_rfl) rfl rfl rfl rfl (V.slice (l := 0) (u := z) rfl underlying118 sizeOf112 rfl ⟨_, rfl⟩ (by omega) (by omega) (ad' := ad) (by split <;> cases ad <;> simp [Addr.add])) (fun w h => h.sub zSub) ?_
      refine D.take 4 (listed' := #[true, true, true, false, true, false, false, false, false, false, false]) rfl (by kernel_rfl) rfl rfl rfl rfl (V.move rfl) (fun w h => h.sub zSub) ?_
      refine D.take 5 (listed' := #[true, true, true, false, true, true, false, false, false, false, false]) rfl (by kernel_rfl) rfl rfl rfl rfl (V.move rfl) (fun w h => h.sub zSub) ?_
      refine D.take 6 (listed' := #[true, true, true, false, true, true, true, false, false, false, false]) rfl (by kernel_rfl) rfl rfl rfl rfl (V.slice (l := z) (u := l.length) rfl underlying118 sizeOf112 ⟨_, rfl⟩ rfl (by omega) (by omega) had3) (fun w h => h.sub zSub) ?_
      refine D.take 7 (listed' := #[true, true, true, false, true, true, true, true, false, false, false]) rfl (by kernel_rfl) rfl rfl rfl rfl (V.move rfl) (fun w h => h.sub zSub) ?_
      refine D.two 3 8 (l1 := #[true, true, true, true, true, true, true, true, false, false, false]) (l2 := #[true, true, true, false, true, true, true, true, true, false, false]) (by kernel_rfl) rfl rfl rfl rfl (.inr (fun w h => h.sub zSub)) ?_ ?_
      ·skip
       refine L.slice1 rfl rfl rfl underlying208 sizeOf118 zeroValue118 rfl (by decide) (by decide) (vs := [.slice ad (z - 0) (c - 0)]) rfl rfl (fun b43 => ?_)
       refine D.back ?_
       refine D.step 8 (listed' := #[true, true, true, true, true, true, true, true, true, false, false]) (by kernel_rfl) rfl rfl (.inr (fun w h => h.sub zSub)) ?_
       refine L.call rfl rfl rfl call107 rfl (fun w hw => ih (l.drop z).length (by rw [List.length_drop]; omega) (Nat.le_refl _) hC (fun p hp => by first | exact hsub p hp | exact List.mem_cons_of_mem _ (hsub p hp)) (hs.drop z) hw) ?_
       rintro _ a w hst ⟨v48, xs48, f48, rfl, ho48, ha48, hw⟩
       refine hst.go rfl hw ?_
       clear hst hw w a
       refine D.back ?_
       refine D.step 9 (listed' := #[true, true, true, true, true, true, true, true, true, true, false]) (by kernel_rfl) rfl rfl (.inr (fun w h => h.sub zSub)) ?_
       have ho43 : Own 118 1 (.slice (some ⟨b43, 0, none⟩) 1 1) 1 [Value.slice ad (z - 0) (c - 0)] [(b43, .cells [Value.slice ad (z - 0) (c - 0)].toArray 118 (0, 0))] := Own.full rfl (by decide)
       have hx48 : ∀ u ∈ xs48, u.oneCell' = true := ha48.left (fun x p h => by obtain ⟨_, _, rfl, _⟩ := h.form; rfl)
       have hr48 : Rd S f48 1 v48 (parts itemUsed (l.drop z)).length xs48 := ho48.rd (fun p hp => hp)
       first
        | refine L.append (by' := 24) (sz := 1) (l := (parts itemUsed (l.drop z)).length) (ys := xs48) (Hr := f48 ++ Hr) rfl rfl rfl rfl underlying208 info_items rfl rfl rfl rfl ho43 .done (hr48.mono (Sees.of (.refl _) (fun q hq => by simp [hq]))) hx48 (by omega) (by omega) (fun v49 f49 ho49 => ?_)
        | refine L.append (by' := 24) (sz := 1) (l := (parts itemUsed (l.drop z)).length) (ys := xs48) (Hr := f48 ++ Hr) rfl rfl rfl rfl underlying208 info_items rfl rfl rfl rfl ho43 (.skipl .done) (hr48.mono (Sees.of (.refl _) (fun q hq => by simp [hq]))) hx48 (by omega) (by omega) (fun v49 f49 ho49 => ?_)
       refine D.back ?_
       refine D.step 10 (listed' := #[true, true, true, true, true, true, true, true, true, true, true]) (by kernel_rfl) rfl rfl (.inr (fun w h => h.sub zSub)) ?_
       refine sA rfl ?_
       refine D.back ?_
       refine D.done (by kernel_rfl) (.inr (fun w h => h.sub zSub)) (N.seq ?_)
       refine R.ret1 results107 rfl (fun w hw => ?_)
       rw [hRz]
       refine ⟨v49, Value.slice ad (z - 0) (c - 0) :: xs48, f49, rfl, ?_, ⟨hA, ha48⟩, hw.sub zSub⟩
       rw [List.length_cons, Nat.add_comm]; exact ho49
      ·skip
       refine L.call rfl rfl rfl call107 rfl (fun w hw => ih (l.drop z).length (by rw [List.length_drop]; omega) (Nat.le_refl _) hC (fun p hp => by first | exact hsub p hp | exact List.mem_cons_of_mem _ (hsub p hp)) (hs.drop z) hw) ?_
       rintro _ a w hst ⟨v48, xs48, f48, rfl, ho48, ha48, hw⟩
       refine hst.go rfl hw ?_
       clear hst hw w a
       refine D.back ?_
       refine D.step 3 (listed' := #[true, true, true, true, true, true, true, true, true, false, false]) (by kernel_rfl) rfl rfl (.inr (fun w h => h.sub zSub)) ?_
       refine L.slice1 rfl rfl rfl underlying208 sizeOf118 zeroValue118 rfl (by decide) (by decide) (vs := [.slice ad (z - 0) (c - 0)]) rfl rfl (fun b43 => ?_)
       refine D.back ?_
       refine D.step 9 (listed' := #[true, true, true, true, true, true, true, true, true, true, false]) (by kernel_rfl) rfl rfl (.inr (fun w h => h.sub zSub)) ?_
       have ho43 : Own 118 1 (.slice (some ⟨b43, 0, none⟩) 1 1) 1 [Value.slice ad (z - 0) (c - 0)] [(b43, .cells [Value.slice ad (z - 0) (c - 0)].toArray 118 (0, 0))] := Own.full rfl (by decide)
       have hx48 : ∀ u ∈ xs48, u.oneCell' = true := ha48.left (fun x p h => by obtain ⟨_, _, rfl, _⟩ := h.form; rfl)
       have hr48 : Rd S f48 1 v48 (parts itemUsed (l.drop z)).length xs48 := ho48.rd (fun p hp => hp)
       first
        | refine L.append (by' := 24) (sz := 1) (l := (parts itemUsed (l.drop z)).length) (ys := xs48) (Hr := f48 ++ Hr) rfl rfl rfl rfl underlying208 info_items rfl rfl rfl rfl ho43 .done (hr48.mono (Sees.of (.refl _) (fun q hq => by simp [hq]))) hx48 (by omega) (by omega) (fun v49 f49 ho49 => ?_)
        | refine L.append (by' := 24) (sz := 1) (l := (parts itemUsed (l.drop z)).length) (ys := xs48) (Hr := f48 ++ Hr) rfl rfl rfl rfl underlying208 info_items rfl rfl rfl rfl ho43 (.skipl .done) (hr48.mono (Sees.of (.refl _) (fun q hq => by simp [hq]))) hx48 (by omega) (by omega) (fun v49 f49 ho49 => ?_)
       refine D.back ?_
       refine D.step 10 (listed' := #[true, true, true, true, true, true, true, true, true, true, true]) (by kernel_rfl) rfl rfl (.inr (fun w h => h.sub zSub)) ?_
       refine sA rfl ?_
       refine D.back ?_
       refine D.done (by kernel_rfl) (.inr (fun w h => h.sub zSub)) (N.seq ?_)
       refine R.ret1 results107 rfl (fun w hw => ?_)
       rw [hRz]
       refine ⟨v49, Value.slice ad (z - 0) (c - 0) :: xs48, f49, rfl, ?_, ⟨hA, ha48⟩, hw.sub zSub⟩
       rw [List.length_cons, Nat.add_comm]; exact ho49
    ·try simp only [sq] at h17
     have hRz : RZ = z := by
      rw [hF]
      cases f with
      | zero => rfl
      | succ f => rw [cutF, if_neg (by omega)]
     refine sS rfl (sS rfl (sS rfl (sS rfl (sS rfl (sS rfl (sS rfl (sS rfl (sS rfl (sS rfl (sU rfl (sM rfl (sS rfl (sS rfl ?_)))))))))))))
     refine sS rfl (sS rfl (sS rfl (sS rfl (sS rfl (sU rfl (sN (sP rfl (sZ rfl (sC ?_)))))))))
     refine C.drawC [] (Hp w0 F S Hr) (fun w h => h.sub zSub) (by kernel_rfl) rfl (fun w hw => hw.drawn _) ?_
     refine D.take 0 (listed' := #[true, false, false, false, false, false, false, false, false, false, false]) rfl (by kernel_rfl) rfl rfl rfl rfl (V.move rfl) (fun w h => h.sub zSub) ?_
     refine D.take 1 (listed' := #[true, true, false, false, false, false, false, false, false, false, false]) rfl (by kernel_rfl) rfl rfl rfl rfl (V.move rfl) (fun w h => h.sub zSub) ?_
     refine D.take 2 (listed' := #[true, true, true, false, false, false, false, false, false, false, false]) rfl (by kernel_rfl) rfl rfl rfl rfl (V.slice (l := 0) (u := z) rfl underlying118 sizeOf112 rfl ⟨_, rfl⟩ (by omega) (by omega) (ad' := ad) (by split <;> cases ad <;> simp [Addr.add])) (fun w h => h.sub zSub) ?_
     refine D.take 4 (listed' := #[true, true, true, false, true, false, false, false, false, false, false]) rfl (by kernel_rfl) rfl rfl rfl rfl (V.move rfl) (fun w h => h.sub zSub) ?_
     refine D.take 5 (listed' := #[true, true, true, false, true, true, false, false, false, false, false]) rfl (by kernel_rfl) rfl rfl rfl rfl (V.move rfl) (fun w h => h.sub zSub) ?_
     refine D.take 6 (listed' := #[true, true, true, false, true, true, true, false, false, false, false]) rfl (by kernel_rfl) rfl rfl rfl rfl (V.slice (l := z) (u := l.length) rfl underlying118 sizeOf112 ⟨_, rfl⟩ rfl (by omega) (by omega) had3) (fun w h => h.sub zSub) ?_
     refine D.take 7 (listed' := #[true, true, true, false, true, true, true, true, false, false, false]) rfl (by kernel_rfl) rfl rfl rfl rfl (V.move rfl) (fun w h => h.sub zSub) ?_
     refine D.two 3 8 (l1 := #[true, true, true, true, true, true, true, true, false, false, false]) (l2 := #[true, true, true, false, true, true, true, true, true, false, false]) (by kernel_rfl) rfl rfl rfl rfl (.inr (fun w h => h.sub zSub)) ?_ ?_
     ·skip
      refine L.slice1 rfl rfl rfl underlying208 sizeOf118 zeroValue118 rfl (by decide) (by decide) (vs := [.slice ad (z - 0) (c - 0)]) rfl rfl (fun b43 => ?_)
      refine D.back ?_
      refine D.step 8 (listed' := #[true, true, true, true, true, true, true, true, true, false, false]) (by kernel_rfl) rfl rfl (.inr (fun w h => h.sub zSub)) ?_
      refine L.call rfl rfl rfl call107 rfl (fun w hw => ih (l.drop z).length (by rw [List.length_drop]; omega) (Nat.le_refl _) hC (fun p hp => by first | exact hsub p hp | exact List.mem_cons_of_mem _ (hsub p hp)) (hs.drop z) hw) ?_
      rintro _ a w hst ⟨v48, xs48, f48, rfl, ho48, ha48, hw⟩
      refine hst.go rfl hw ?_
      clear hst hw w a
      refine D.back ?_
      refine D.step 9 (listed' := #[true, true, true, true, true, true, true, true, true, true, false]) (by kernel_rfl) rfl rfl (.inr (fun w h => h.sub zSub)) ?_
      have ho43 : Own 118 1 (.slice (some ⟨b43, 0, none⟩) 1 1) 1 [Value.slice ad (z - 0) (c - 0)] [(b43, .cells [Value.slice ad (z - 0) (c - 0)].toArray 118 (0, 0))] := Own.full rfl (by decide)
      have hx48 : ∀ u ∈ xs48, u.oneCell' = true := ha48.left (fun x p h => by obtain ⟨_, _, rfl, _⟩ := h.form; rfl)
      have hr48 : Rd S f48 1 v48 (parts itemUsed (l.drop z)).length xs48 := ho48.rd (fun p hp => hp)
      first
       | refine L.append (by' := 24) (sz := 1) (l := (parts itemUsed (l.drop z)).length) (ys := xs48) (Hr := f48 ++ Hr) rfl rfl rfl rfl underlying208 info_items rfl rfl rfl rfl ho43 .done (hr48.mono (Sees.of (.refl _) (fun q hq => by simp [hq]))) hx48 (by omega) (by omega) (fun v49 f49 ho49 => ?_)
       | refine L.append (by' := 24) (sz := 1) (l := (parts itemUsed (l.drop z)).length) (ys := xs48) (Hr := f48 ++ Hr) rfl rfl rfl rfl underlying208 info_items rfl rfl rfl rfl ho43 (.skipl .done) (hr48.mono (Sees.of (.refl _) (fun q hq => by simp [hq]))) hx48 (by omega) (by omega) (fun v49 f49 ho49 => ?_)
      refine D.back ?_
      refine D.step 10 (listed' := #[true, true, true, true, true, true, true, true, true, true, true]) (by kernel_rfl) rfl rfl (.inr (fun w h => h.sub zSub)) ?_
      refine sA rfl ?_
      refine D.back ?_
      refine D.done (by kernel_rfl) (.inr (fun w h => h.sub zSub)) (N.seq ?_)
      refine R.ret1 results107 rfl (fun w hw => ?_)
      rw [hRz]
      refine ⟨v49, Value.slice ad (z - 0) (c - 0) :: xs48, f49, rfl, ?_, ⟨hA, ha48⟩, hw.sub zSub⟩
      rw [List.length_cons, Nat.add_comm]; exact ho49
     ·skip
      refine L.call rfl rfl rfl call107 rfl (fun w hw => ih (l.drop z).length (by rw [List.length_drop]; omega) (Nat.le_refl _) hC (fun p hp => by first | exact hsub p hp | exact List.mem_cons_of_mem _ (hsub p hp)) (hs.drop z) hw) ?_
      rintro _ a w hst ⟨v48, xs48, f48, rfl, ho48, ha48, hw⟩
      refine hst.go rfl hw ?_
      clear hst hw w a
      refine D.back ?_
      refine D.step 3 (listed' := #[true, true, true, true, true, true, true, true, true, false, false]) (by kernel_rfl) rfl rfl (.inr (fun w h => h.sub zSub)) ?_
      refine L.slice1 rfl rfl rfl underlying208 sizeOf118 zeroValue118 rfl (by decide) (by decide) (vs := [.slice ad (z - 0) (c - 0)]) rfl rfl (fun b43 => ?_)
      refine D.back ?_
      refine D.step 9 (listed' := #[true, true, true, true, true, true, true, true, true, true, false]) (by kernel_rfl) rfl rfl (.inr (fun w h => h.sub zSub)) ?_
      have ho43 : Own 118 1 (.slice (some ⟨b43, 0, none⟩) 1 1) 1 [Value.slice ad (z - 0) (c - 0)] [(b43, .cells [Value.slice ad (z - 0) (c - 0)].toArray 118 (0, 0))] := Own.full rfl (by decide)
      have hx48 : ∀ u ∈ xs48, u.oneCell' = true := ha48.left (fun x p h => by obtain ⟨_, _, rfl, _⟩ := h.form; rfl)
      have hr48 : Rd S f48 1 v48 (parts itemUsed (l.drop z)).length xs48 := ho48.rd (fun p hp => hp)
      first
       | refine L.append (by' := 24) (sz := 1) (l := (parts itemUsed (l.drop z)).length) (ys := xs48) (Hr := f48 ++ Hr) rfl rfl rfl rfl underlying208 info_items rfl rfl rfl rfl ho43 .done (hr48.mono (Sees.of (.refl _) (fun q hq => by simp [hq]))) hx48 (by omega) (by omega) (fun v49 f49 ho49 => ?_)
       | refine L.append (by' := 24) (sz := 1) (l := (parts itemUsed (l.drop z)).length) (ys := xs48) (Hr := f48 ++ Hr) rfl rfl rfl rfl underlying208 info_items rfl rfl rfl rfl ho43 (.skipl .done) (hr48.mono (Sees.of (.refl _) (fun q hq => by simp [hq]))) hx48 (by omega) (by omega) (fun v49 f49 ho49 => ?_)
      refine D.back ?_
      refine D.step 10 (listed' := #[true, true, true, true, true, true, true, true, true, true, true]) (by kernel_rfl) rfl rfl (.inr (fun w h => h.sub zSub)) ?_
      refine sA rfl ?_
      refine D.back ?_
      refine D.done (by kernel_rfl) (.inr (fun w h => h.sub zSub)) (N.seq ?_)
      refine R.ret1 results107 rfl (fun w hw => ?_)
      rw [hRz]
      refine ⟨v49, Value.slice ad (z - 0) (c - 0) :: xs48, f49, rfl, ?_, ⟨hA, ha48⟩, hw.sub zSub⟩
      rw [List.length_cons, Nat.add_comm]; exact ho49
theorem partsKids_ok : ∀ (m : Nat) {v : Value} {l : List Kid} {Hr : Heap} {w : World}, l.length ≤ m → Kids S H0 v l → (∀ p ∈ H0, p ∈ Hr) → SmallK l → Hp w0 F S Hr w →
 Calls Tryz.prog 150 #[v, .func (.func 151) #[] #[]] w fun e w' => ∃ v' xs fp, e = .returned v' ∧ Own 115 1 v' (parts kidUsed l).length xs fp ∧ All2 (fun x p => Kids S H0 x p) xs (parts kidUsed l) ∧ Hp w0 F S (fp ++ Hr) w' := by
 intro m
 induction m using Nat.strongRecOn with
 | _ m ih =>
   intro v l Hr w hm hr hsub hs hw
   obtain ⟨ad, c, rfl, hcc⟩ := hr.form
   have hsum := hs.sum
   have hl := hs.1
   refine enterA hw func150 rfl ntmps150 rfl rfl ?_
   refine sD (sA rfl (sN (sC (sD (sM rfl (sM rfl ?_))))))
   refine L.call rfl rfl rfl call151 rfl (fun w hw => usedKids_ok (hr.mono (.refl S) hsub) hs hw) ?_
   rintro _ a w hst ⟨rfl, hw⟩
   refine hst.go rfl hw ?_
   clear hst hw w a
   refine sQd rfl (sN ?_)
   refine C.cond rfl (fun h9 => ?_) (fun h9 => ?_)
   ·try simp only [sq] at h9
    refine sD (sM rfl ?_)
    refine L.slice1 rfl rfl rfl underlying254 sizeOf115 zeroValue115 rfl (by decide) (by decide) (vs := [.slice ad l.length c]) rfl rfl (fun b11 => ?_)
    refine sA rfl (sN ?_)
    refine R.ret1 results150 rfl (fun w hw => ?_)
    have e1 : parts kidUsed l = [l] := by rw [parts_eq, if_pos (by omega)]
    rw [e1]
    exact ⟨_, [.slice ad l.length c], _, rfl, Own.full (by rfl) (by decide), ⟨hr, trivial⟩, hw⟩
   ·try simp only [sq] at h9
    have hbig : ¬ sumU kidUsed l ≤ 237 := by omega
    have h0 : 0 < l.length := by
     rcases Nat.eq_zero_or_pos l.length with h | h
     ·rw [List.eq_nil_of_length_eq_zero h] at hbig; simp [sumU] at hbig
     ·exact h
    have e1 : parts kidUsed l = l.take (cut kidUsed l) :: parts kidUsed (l.drop (cut kidUsed l)) := by rw [parts_eq, if_neg hbig]
    rw [e1]
    obtain ⟨RZ, hRZ⟩ : ∃ R, cut kidUsed l = R := ⟨_, rfl⟩
    have hcb := cut_bound kidUsed l
    rw [hRZ] at hcb ⊢
    refine sK (sD (sA rfl (sN (sC (sB ?_)))))
    refine C.loop (α := Nat × Nat) (fun z => [(0, .slice ad l.length c), (1, .func (.func 151) #[] #[]), (5, .int .i64 (z.2 : Int))]) (fun z w => (RZ = cutF kidUsed l z.1 z.2 ∧ z.1 + z.2 = l.length + 1 ∧ 1 ≤ z.2 ∧ z.2 ≤ max 1 (l.length - 1)) ∧ Hp w0 F S Hr w) (fun z => z.1) (l.length, 1) ⟨rfl, rfl, rfl, trivial⟩ (fun w hw => ⟨⟨hRZ.symm, by show l.length + 1 = l.length + 1; rfl, Nat.le_refl 1, by show 1 ≤ max 1 _; omega⟩, hw⟩) (fun zz => C.pure (fun hzz => ?_))
    obtain ⟨f, z⟩ := zz
    obtain ⟨hF, hfz, hz1, hz2⟩ := hzz
    dsimp only at hF hfz hz1 hz2 ⊢
    have hA := hr.sub (lo := 0) (hi := z) (by omega) (by omega) (ad' := ad) (by split <;> cases ad <;> simp [Addr.add])
    rw [List.drop_zero] at hA
    have hA : Kids S H0 (.slice ad (z - 0) (c - 0)) (l.take z) := hA
    obtain ⟨ad3, had3⟩ : ∃ ad3, (if c = z then ad else ad.map (·.add (z * 2))) = ad3 := ⟨_, rfl⟩
    have hC := hr.sub (lo := z) (hi := l.length) (by omega) (Nat.le_refl _) had3
    rw [List.take_of_length_le (by rw [List.length_drop]; omega)] at hC
    have hps := parts_len kidUsed l.length (l.drop z) (by rw [List.length_drop]; omega)
    rw [List.length_drop] at hps
    refine sC (sD (sM rfl (sM rfl ?_)))
    refine L.w rfl (V.len rfl underlying115) ?_
    refine L.w rfl (V.sub (c := ((l.length - 1 : Nat) : Int)) rfl rfl (by rw [w64 (by omega) (by omega)]; omega)) ?_
    refine sQc rfl (sM rfl ?_)
    refine L.fork (d := 17) rfl (fun h17 => ?_) (fun h17 => ?_)
    ·try simp only [sq] at h17
     have hB := hr.sub (lo := 0) (hi := z + 1) (by omega) (by omega) (ad' := ad) (by split <;> cases ad <;> simp [Addr.add])
     rw [List.drop_zero] at hB
     have hB : Kids S H0 (.slice ad (z + 1 - 0) (c - 0)) (l.take (z + 1)) := hB
     have hs1 := (hs.take z).sum
     have hs2 := (hs.take (z + 1)).sum
     obtain ⟨f, rfl⟩ : ∃ g, f = g + 1 := ⟨f - 1, by omega⟩
     refine sM rfl (sM rfl (sM rfl ?_))
     refine L.w rfl (V.slice (l := 0) (u := z) rfl underlying115 sizeOf129 rfl ⟨_, rfl⟩ (by omega) (by omega) (ad' := ad) (by split <;> cases ad <;> simp [Addr.add])) ?_
     refine L.call rfl rfl rfl call151 rfl (fun w hw => usedKids_ok (hA.mono (.refl S) hsub) (hs.take z) hw) ?_
     rintro _ a w hst ⟨rfl, hw⟩
     refine hst.go rfl hw ?_
     clear hst hw w a
     refine L.w rfl (V.mul (c := ((2 * sumU kidUsed (l.take z) : Nat) : Int)) rfl rfl (by rw [w64 (by omega) (by omega)]; omega)) ?_
     refine sM rfl (sM rfl ?_)
     refine L.call rfl rfl rfl call151 rfl (fun w hw => usedKids_ok (hr.mono (.refl S) hsub) hs hw) ?_
     rintro _ a w hst ⟨rfl, hw⟩
     refine hst.go rfl hw ?_
     clear hst hw w a
     refine sQc rfl (sT rfl (sM rfl ?_))
     refine L.fork (d := 29) rfl (fun h29 => ?_) (fun h29 => ?_)
     ·try simp only [sq] at h29
      refine sM rfl (sM rfl (sM rfl ?_))
      refine L.w rfl (V.add (c := ((z + 1 : Nat) : Int)) rfl rfl (by rw [w64 (by omega) (by omega)]; omega)) ?_
      refine L.w rfl (V.slice (l := 0) (u := z + 1) rfl underlying115 sizeOf129 rfl ⟨_, rfl⟩ (by omega) (by omega) (ad' := ad) (by split <;> cases ad <;> simp [Addr.add])) ?_
      refine L.call rfl rfl rfl call151 rfl (fun w hw => usedKids_ok (hB.mono (.refl S) hsub) (hs.take (z + 1)) hw) ?_
      rintro _ a w hst ⟨rfl, hw⟩
      refine hst.go rfl hw ?_
      clear hst hw w a
      refine sQd rfl (sT rfl (sN ?_))
      refine C.cond rfl (fun h37 => ?_) (fun h37 => ?_)
      ·try simp only [sq] at h37
       refine sK (sB (sR (sM rfl ?_)))
       refine L.w rfl (V.add (c := ((z + 1 : Nat) : Int)) rfl rfl (by rw [w64 (by omega) (by omega)]; omega)) ?_
       refine sA rfl ?_
       refine L.nil (N.blk ?_)
       refine N.round (f, z + 1) (by show f < f + 1; omega) ⟨rfl, rfl, rfl, trivial⟩ (fun w hw => ⟨⟨by rw [hF, cutF, if_pos ⟨by omega, by omega, by omega⟩], by show f + (z + 1) = _; omega, by show 1 ≤ z + 1; omega, by show z + 1 ≤ _; omega⟩, hw⟩)
      ·try simp only [sq] at h37
       have hRz : RZ = z := by rw [hF, cutF, if_neg (by omega)]
       refine sZ rfl (sC ?_)
       refine C.drawC [] (Hp w0 F S Hr) (fun w h => h.sub zSub) (by kernel_rfl) rfl (fun w hw => hw.drawn _) ?_
       refine D.take 0 (listed' := #[true, false, false, false, false, false, false, false, false, false, false]) rfl (by kernel_rfl) rfl rfl rfl rfl (V.move rfl) (fun w h => h.sub zSub) ?_
       refine D.take 1 (listed' := #[true, true, false, false, false, false, false, false, false, false, false]) rfl (by kernel_rfl) rfl rfl rfl rfl (V.move rfl) (fun w h => h.sub zSub) ?_
       refine D.take 2 (listed' := #[true, true, true, false, false, false, false, false, false, false, false]) rfl (by kernel_rfl) rfl rfl rfl rfl (V.slice (l := 0) (u := z) rfl underlying115 sizeOf129 rfl ⟨_, rfl⟩ (by omega) (by omega) (ad' := ad) (by split <;> cases ad <;> simp [Addr.add])) (fun w h => h.sub zSub) ?_
       refine D.take 4 (listed' := #[true, true, true, false, true, false, false, false, false, false, false]) rfl (by kernel_rfl) rfl rfl rfl rfl (V.move rfl) (fun w h => h.sub zSub) ?_
       refine D.take 5 (listed' := #[true, true, true, false, true, true, false, false, false, false, false]) rfl (by kernel_rfl) rfl rfl rfl rfl (V.move rfl) (fun w h => h.sub zSub) ?_
       refine D.take 6 (listed' := #[true, true, true, false, true, true, true, false, false, false, false]) rfl (by kernel_rfl) rfl rfl rfl rfl (V.slice (l := z) (u := l.length) rfl underlying115 sizeOf129 ⟨_, rfl⟩ rfl (by omega) (by omega) had3) (fun w h => h.sub zSub) ?_
       refine D.take 7 (listed' := #[true, true, true, false, true, true, true, true, false, false, false]) rfl (by kernel_rfl) rfl rfl rfl rfl (V.move rfl) (fun w h => h.sub zSub) ?_
       refine D.two 3 8 (l1 := #[true, true, true, true, true, true, true, true, false, false, false]) (l2 := #[true, true, true, false, true, true, true, true, true, false, false]) (by kernel_rfl) rfl rfl rfl rfl (.inr (fun w h => h.sub zSub)) ?_ ?_
       ·skip
        refine L.slice1 rfl rfl rfl underlying254 sizeOf115 zeroValue115 rfl (by decide) (by decide) (vs := [.slice ad (z - 0) (c - 0)]) rfl rfl (fun b43 => ?_)
        refine D.back ?_
        refine D.step 8 (listed' := #[true, true, true, true, true, true, true, true, true, false, false]) (by kernel_rfl) rfl rfl (.inr (fun w h => h.sub zSub)) ?_
        refine L.call rfl rfl rfl call150 rfl (fun w hw => ih (l.drop z).length (by rw [List.length_drop]; omega) (Nat.le_refl _) hC (fun p hp => by first | exact hsub p hp | exact List.mem_cons_of_mem _ (hsub p hp)) (hs.drop z) hw) ?_
        rintro _ a w hst ⟨v48, xs48, f48, rfl, ho48, ha48, hw⟩
        refine hst.go rfl hw ?_
        clear hst hw w a
        refine D.back ?_
        refine D.step 9 (listed' := #[true, true, true, true, true, true, true, true, true, true, false]) (by kernel_rfl) rfl rfl (.inr (fun w h => h.sub zSub)) ?_
        have ho43 : Own 115 1 (.slice (some ⟨b43, 0, none⟩) 1 1) 1 [Value.slice ad (z - 0) (c - 0)] [(b43, .cells [Value.slice ad (z - 0) (c - 0)].toArray 115 (0, 0))] := Own.full rfl (by decide)
        have hx48 : ∀ u ∈ xs48, u.oneCell' = true := ha48.left (fun x p h => by obtain ⟨_, _, rfl, _⟩ := h.form; rfl)
        have hr48 : Rd S f48 1 v48 (parts kidUsed (l.drop z)).length xs48 := ho48.rd (fun p hp => hp)
        first
         | refine L.append (by' := 24) (sz := 1) (l := (parts kidUsed (l.drop z)).length) (ys := xs48) (Hr := f48 ++ Hr) rfl rfl rfl rfl underlying254 info_kids rfl rfl rfl rfl ho43 .done (hr48.mono (Sees.of (.refl _) (fun q hq => by simp [hq]))) hx48 (by omega) (by omega) (fun v49 f49 ho49 => ?_)
         | refine L.append (by' := 24) (sz := 1) (l := (parts kidUsed (l.drop z)).length) (ys := xs48) (Hr := f48 ++ Hr) rfl rfl rfl rfl underlying254 info_kids rfl rfl rfl rfl ho43 (.skipl .done) (hr48.mono (Sees.of (.refl _) (fun q hq => by simp [hq]))) hx48 (by omega) (by omega) (fun v49 f49 ho49 => ?_)
        refine D.back ?_
        refine D.step 10 (listed' := #[true, true, true, true, true, true, true, true, true, true, true]) (by kernel_rfl) rfl rfl (.inr (fun w h => h.sub zSub)) ?_
        refine sA rfl ?_
        refine D.back ?_
        refine D.done (by kernel_rfl) (.inr (fun w h => h.sub zSub)) (N.seq ?_)
        refine R.ret1 results150 rfl (fun w hw => ?_)
        rw [hRz]
        refine ⟨v49, Value.slice ad (z - 0) (c - 0) :: xs48, f49, rfl, ?_, ⟨hA, ha48⟩, hw.sub zSub⟩
        rw [List.length_cons, Nat.add_comm]; exact ho49
       ·skip
        refine L.call rfl rfl rfl call150 rfl (fun w hw => ih (l.drop z).length (by rw [List.length_drop]; omega) (Nat.le_refl _) hC (fun p hp => by first | exact hsub p hp | exact List.mem_cons_of_mem _ (hsub p hp)) (hs.drop z) hw) ?_
        rintro _ a w hst ⟨v48, xs48, f48, rfl, ho48, ha48, hw⟩
        refine hst.go rfl hw ?_
        clear hst hw w a
        refine D.back ?_
        refine D.step 3 (listed' := #[true, true, true, true, true, true, true, true, true, false, false]) (by kernel_rfl) rfl rfl (.inr (fun w h => h.sub zSub)) ?_
        refine L.slice1 rfl rfl rfl underlying254 sizeOf115 zeroValue115 rfl (by decide) (by decide) (vs := [.slice ad (z - 0) (c - 0)]) rfl rfl (fun b43 => ?_)
        refine D.back ?_
        refine D.step 9 (listed' := #[true, true, true, true, true, true, true, true, true, true, false]) (by kernel_rfl) rfl rfl (.inr (fun w h => h.sub zSub)) ?_
        have ho43 : Own 115 1 (.slice (some ⟨b43, 0, none⟩) 1 1) 1 [Value.slice ad (z - 0) (c - 0)] [(b43, .cells [Value.slice ad (z - 0) (c - 0)].toArray 115 (0, 0))] := Own.full rfl (by decide)
        have hx48 : ∀ u ∈ xs48, u.oneCell' = true := ha48.left (fun x p h => by obtain ⟨_, _, rfl, _⟩ := h.form; rfl)
        have hr48 : Rd S f48 1 v48 (parts kidUsed (l.drop z)).length xs48 := ho48.rd (fun p hp => hp)
        first
         | refine L.append (by' := 24) (sz := 1) (l := (parts kidUsed (l.drop z)).length) (ys := xs48) (Hr := f48 ++ Hr) rfl rfl rfl rfl underlying254 info_kids rfl rfl rfl rfl ho43 .done (hr48.mono (Sees.of (.refl _) (fun q hq => by simp [hq]))) hx48 (by omega) (by omega) (fun v49 f49 ho49 => ?_)
         | refine L.append (by' := 24) (sz := 1) (l := (parts kidUsed (l.drop z)).length) (ys := xs48) (Hr := f48 ++ Hr) rfl rfl rfl rfl underlying254 info_kids rfl rfl rfl rfl ho43 (.skipl .done) (hr48.mono (Sees.of (.refl _) (fun q hq => by simp [hq]))) hx48 (by omega) (by omega) (fun v49 f49 ho49 => ?_)
        refine D.back ?_
        refine D.step 10 (listed' := #[true, true, true, true, true, true, true, true, true, true, true]) (by kernel_rfl) rfl rfl (.inr (fun w h => h.sub zSub)) ?_
        refine sA rfl ?_
        refine D.back ?_
        refine D.done (by kernel_rfl) (.inr (fun w h => h.sub zSub)) (N.seq ?_)
        refine R.ret1 results150 rfl (fun w hw => ?_)
        rw [hRz]
        refine ⟨v49, Value.slice ad (z - 0) (c - 0) :: xs48, f49, rfl, ?_, ⟨hA, ha48⟩, hw.sub zSub⟩
        rw [List.length_cons, Nat.add_comm]; exact ho49
     ·try simp only [sq] at h29
      have hRz : RZ = z := by rw [hF, cutF, if_neg (by omega)]
      refine sS rfl (sS rfl (sS rfl (sS rfl (sS rfl (sS rfl (sS rfl (sU rfl (sN (sP rfl (sZ rfl (sC ?_)))))))))))
      refine C.drawC [] (Hp w0 F S Hr) (fun w h => h.sub zSub) (by kernel_rfl) rfl (fun w hw => hw.drawn _) ?_
      refine D.take 0 (listed' := #[true, false, false, false, false, false, false, false, false, false, false]) rfl (by kernel_rfl) rfl rfl rfl rfl (V.move rfl) (fun w h => h.sub zSub) ?_
      refine D.take 1 (listed' := #[true, true, false, false, false, false, false, false, false, false, false]) rfl (by kernel_rfl) rfl rfl rfl rfl (V.move rfl) (fun w h => h.sub zSub) ?_
      refine D.take 2 (listed' := #[true, true, true, false, false, false, false, false, false, false, false]) rfl (by kernel_rfl) rfl rfl rfl rfl (V.slice (l := 0) (u := z) rfl underlying115 sizeOf129 rfl ⟨_, rfl⟩ (by omega) (by omega) (ad' := ad) (by split <;> cases ad <;> simp [Addr.add])) (fun w h => h.sub zSub) ?_
      refine D.take 4 (listed' := #[true, true, true, false, true, false, false, false, false, false, false]) rfl (by kernel_rfl) rfl rfl rfl rfl (V.move rfl) (fun w h => h.sub zSub) ?_
      refine D.take 5 (listed' := #[true, true, true, false, true, true, false, false, false, false, false]) rfl (by kernel_rfl) rfl rfl rfl rfl (V.move rfl) (fun w h => h.sub zSub) ?_
      refine D.take 6 (listed' := #[true, true, true, false, true, true, true, false, false, false, false]) rfl (by kernel_rfl) rfl rfl rfl rfl (V.slice (l := z) (u := l.length) rfl underlying115 sizeOf129 ⟨_, rfl⟩ rfl (by omega) (by omega) had3) (fun w h => h.sub zSub) ?_
      refine D.take 7 (listed' := #[true, true, true, false, true, true, true, true, false, false, false]) rfl (by kernel_rfl) rfl rfl rfl rfl (V.move rfl) (fun w h => h.sub zSub) ?_
      refine D.two 3 8 (l1 := #[true, true, true, true, true, true, true, true, false, false, false]) (l2 := #[true, true, true, false, true, true, true, true, true, false, false]) (by kernel_rfl) rfl rfl rfl rfl (.inr (fun w h => h.sub zSub)) ?_ ?_
      ·skip
       refine L.slice1 rfl rfl rfl underlying254 sizeOf115 zeroValue115 rfl (by decide) (by decide) (vs := [.slice ad (z - 0) (c - 0)]) rfl rfl (fun b43 => ?_)
       refine D.back ?_
       refine D.step 8 (listed' := #[true, true, true, true, true, true, true, true, true, false, false]) (by kernel_rfl) rfl rfl (.inr (fun w h => h.sub zSub)) ?_
       refine L.call rfl rfl rfl call150 rfl (fun w hw => ih (l.drop z).length (by rw [List.length_drop]; omega) (Nat.le_refl _) hC (fun p hp => by first | exact hsub p hp | exact List.mem_cons_of_mem _ (hsub p hp)) (hs.drop z) hw) ?_
       rintro _ a w hst ⟨v48, xs48, f48, rfl, ho48, ha48, hw⟩
       refine hst.go rfl hw ?_
       clear hst hw w a
       refine D.back ?_
       refine D.step 9 (listed' := #[true, true, true, true, true, true, true, true, true, true, false]) (by kernel_rfl) rfl rfl (.inr (fun w h => h.sub zSub)) ?_
       have ho43 : Own 115 1 (.slice (some ⟨b43, 0, none⟩) 1 1) 1 [Value.slice ad (z - 0) (c - 0)] [(b43, .cells [Value.slice ad (z - 0) (c - 0)].toArray 115 (0, 0))] := Own.full rfl (by decide)
       have hx48 : ∀ u ∈ xs48, u.oneCell' = true := ha48.left (fun x p h => by obtain ⟨_, _, rfl, _⟩ := h.form; rfl)
       have hr48 : Rd S f48 1 v48 (parts kidUsed (l.drop z)).length xs48 := ho48.rd (fun p hp => hp)
       first
        | refine L.append (by' := 24) (sz := 1) (l := (parts kidUsed (l.drop z)).length) (ys := xs48) (Hr := f48 ++ Hr) rfl rfl rfl rfl underlying254 info_kids rfl rfl rfl rfl ho43 .done (hr48.mono (Sees.of (.refl _) (fun q hq => by simp [hq]))) hx48 (by omega) (by omega) (fun v49 f49 ho49 => ?_)
        | refine L.append (by' := 24) (sz := 1) (l := (parts kidUsed (l.drop z)).length) (ys := xs48) (Hr := f48 ++ Hr) rfl rfl rfl rfl underlying254 info_kids rfl rfl rfl rfl ho43 (.skipl .done) (hr48.mono (Sees.of (.refl _) (fun q hq => by simp [hq]))) hx48 (by omega) (by omega) (fun v49 f49 ho49 => ?_)
       refine D.back ?_
       refine D.step 10 (listed' := #[true, true, true, true, true, true, true, true, true, true, true]) (by kernel_rfl) rfl rfl (.inr (fun w h => h.sub zSub)) ?_
       refine sA rfl ?_
       refine D.back ?_
       refine D.done (by kernel_rfl) (.inr (fun w h => h.sub zSub)) (N.seq ?_)
       refine R.ret1 results150 rfl (fun w hw => ?_)
       rw [hRz]
       refine ⟨v49, Value.slice ad (z - 0) (c - 0) :: xs48, f49, rfl, ?_, ⟨hA, ha48⟩, hw.sub zSub⟩
       rw [List.length_cons, Nat.add_comm]; exact ho49
      ·skip
       refine L.call rfl rfl rfl call150 rfl (fun w hw => ih (l.drop z).length (by rw [List.length_drop]; omega) (Nat.le_refl _) hC (fun p hp => by first | exact hsub p hp | exact List.mem_cons_of_mem _ (hsub p hp)) (hs.drop z) hw) ?_
       rintro _ a w hst ⟨v48, xs48, f48, rfl, ho48, ha48, hw⟩
       refine hst.go rfl hw ?_
       clear hst hw w a
       refine D.back ?_
       refine D.step 3 (listed' := #[true, true, true, true, true, true, true, true, true, false, false]) (by kernel_rfl) rfl rfl (.inr (fun w h => h.sub zSub)) ?_
       refine L.slice1 rfl rfl rfl underlying254 sizeOf115 zeroValue115 rfl (by decide) (by decide) (vs := [.slice ad (z - 0) (c - 0)]) rfl rfl (fun b43 => ?_)
       refine D.back ?_
       refine D.step 9 (listed' := #[true, true, true, true, true, true, true, true, true, true, false]) (by kernel_rfl) rfl rfl (.inr (fun w h => h.sub zSub)) ?_
       have ho43 : Own 115 1 (.slice (some ⟨b43, 0, none⟩) 1 1) 1 [Value.slice ad (z - 0) (c - 0)] [(b43, .cells [Value.slice ad (z - 0) (c - 0)].toArray 115 (0, 0))] := Own.full rfl (by decide)
       have hx48 : ∀ u ∈ xs48, u.oneCell' = true := ha48.left (fun x p h => by obtain ⟨_, _, rfl, _⟩ := h.form; rfl)
       have hr48 : Rd S f48 1 v48 (parts kidUsed (l.drop z)).length xs48 := ho48.rd (fun p hp => hp)
       first
        | refine L.append (by' := 24) (sz := 1) (l := (parts kidUsed (l.drop z)).length) (ys := xs48) (Hr := f48 ++ Hr) rfl rfl rfl rfl underlying254 info_kids rfl rfl rfl rfl ho43 .done (hr48.mono (Sees.of (.refl _) (fun q hq => by simp [hq]))) hx48 (by omega) (by omega) (fun v49 f49 ho49 => ?_)
        | refine L.append (by' := 24) (sz := 1) (l := (parts kidUsed (l.drop z)).length) (ys := xs48) (Hr := f48 ++ Hr) rfl rfl rfl rfl underlying254 info_kids rfl rfl rfl rfl ho43 (.skipl .done) (hr48.mono (Sees.of (.refl _) (fun q hq => by simp [hq]))) hx48 (by omega) (by omega) (fun v49 f49 ho49 => ?_)
       refine D.back ?_
       refine D.step 10 (listed' := #[true, true, true, true, true, true, true, true, true, true, true]) (by kernel_rfl) rfl rfl (.inr (fun w h => h.sub zSub)) ?_
       refine sA rfl ?_
       refine D.back ?_
       refine D.done (by kernel_rfl) (.inr (fun w h => h.sub zSub)) (N.seq ?_)
       refine R.ret1 results150 rfl (fun w hw => ?_)
       rw [hRz]
       refine ⟨v49, Value.slice ad (z - 0) (c - 0) :: xs48, f49, rfl, ?_, ⟨hA, ha48⟩, hw.sub zSub⟩
       rw [List.length_cons, Nat.add_comm]; exact ho49
    ·try simp only [sq] at h17
     have hRz : RZ = z := by
      rw [hF]
      cases f with
      | zero => rfl
      | succ f => rw [cutF, if_neg (by omega)]
     refine sS rfl (sS rfl (sS rfl (sS rfl (sS rfl (sS rfl (sS rfl (sS rfl (sS rfl (sS rfl (sU rfl (sM rfl (sS rfl (sS rfl ?_)))))))))))))
     refine sS rfl (sS rfl (sS rfl (sS rfl (sS rfl (sU rfl (sN (sP rfl (sZ rfl (sC ?_)))))))))
     refine C.drawC [] (Hp w0 F S Hr) (fun w h => h.sub zSub) (by kernel_rfl) rfl (fun w hw => hw.drawn _) ?_
     refine D.take 0 (listed' := #[true, false, false, false, false, false, false, false, false, false, false]) rfl (by kernel_rfl) rfl rfl rfl rfl (V.move rfl) (fun w h => h.sub zSub) ?_
     refine D.take 1 (listed' := #[true, true, false, false, false, false, false, false, false, false, false]) rfl (by kernel_rfl) rfl rfl rfl rfl (V.move rfl) (fun w h => h.sub zSub) ?_
     refine D.take 2 (listed' := #[true, true, true, false, false, false, false, false, false, false, false]) rfl (by kernel_rfl) rfl rfl rfl rfl (V.slice (l := 0) (u := z) rfl underlying115 sizeOf129 rfl ⟨_, rfl⟩ (by omega) (by omega) (ad' := ad) (by split <;> cases ad <;> simp [Addr.add])) (fun w h => h.sub zSub) ?_
     refine D.take 4 (listed' := #[true, true, true, false, true, false, false, false, false, false, false]) rfl (by kernel_rfl) rfl rfl rfl rfl (V.move rfl) (fun w h => h.sub zSub) ?_
     refine D.take 5 (listed' := #[true, true, true, false, true, true, false, false, false, false, false]) rfl (by kernel_rfl) rfl rfl rfl rfl (V.move rfl) (fun w h => h.sub zSub) ?_
     refine D.take 6 (listed' := #[true, true, true, false, true, true, true, false, false, false, false]) rfl (by kernel_rfl) rfl rfl rfl rfl (V.slice (l := z) (u := l.length) rfl underlying115 sizeOf129 ⟨_, rfl⟩ rfl (by omega) (by omega) had3) (fun w h => h.sub zSub) ?_
     refine D.take 7 (listed' := #[true, true, true, false, true, true, true, true, false, false, false]) rfl (by kernel_rfl) rfl rfl rfl rfl (V.move rfl) (fun w h => h.sub zSub) ?_
     refine D.two 3 8 (l1 := #[true, true, true, true, true, true, true, true, false, false, false]) (l2 := #[true, true, true, false, true, true, true, true, true, false, false]) (by kernel_rfl) rfl rfl rfl rfl (.inr (fun w h => h.sub zSub)) ?_ ?_
     ·skip
      refine L.slice1 rfl rfl rfl underlying254 sizeOf115 zeroValue115 rfl (by decide) (by decide) (vs := [.slice ad (z - 0) (c - 0)]) rfl rfl (fun b43 => ?_)
      refine D.back ?_
      refine D.step 8 (listed' := #[true, true, true, true, true, true, true, true, true, false, false]) (by kernel_rfl) rfl rfl (.inr (fun w h => h.sub zSub)) ?_
      refine L.call rfl rfl rfl call150 rfl (fun w hw => ih (l.drop z).length (by rw [List.length_drop]; omega) (Nat.le_refl _) hC (fun p hp => by first | exact hsub p hp | exact List.mem_cons_of_mem _ (hsub p hp)) (hs.drop z) hw) ?_
      rintro _ a w hst ⟨v48, xs48, f48, rfl, ho48, ha48, hw⟩
      refine hst.go rfl hw ?_
      clear hst hw w a
      refine D.back ?_
      refine D.step 9 (listed' := #[true, true, true, true, true, true, true, true, true, true, false]) (by kernel_rfl) rfl rfl (.inr (fun w h => h.sub zSub)) ?_
      have ho43 : Own 115 1 (.slice (some ⟨b43, 0, none⟩) 1 1) 1 [Value.slice ad (z - 0) (c - 0)] [(b43, .cells [Value.slice ad (z - 0) (c - 0)].toArray 115 (0, 0))] := Own.full rfl (by decide)
      have hx48 : ∀ u ∈ xs48, u.oneCell' = true := ha48.left (fun x p h => by obtain ⟨_, _, rfl, _⟩ := h.form; rfl)
      have hr48 : Rd S f48 1 v48 (parts kidUsed (l.drop z)).length xs48 := ho48.rd (fun p hp => hp)
      first
       | refine L.append (by' := 24) (sz := 1) (l := (parts kidUsed (l.drop z)).length) (ys := xs48) (Hr := f48 ++ Hr) rfl rfl rfl rfl underlying254 info_kids rfl rfl rfl rfl ho43 .done (hr48.mono (Sees.of (.refl _) (fun q hq => by simp [hq]))) hx48 (by omega) (by omega) (fun v49 f49 ho49 => ?_)
       | refine L.append (by' := 24) (sz := 1) (l := (parts kidUsed (l.drop z)).length) (ys := xs48) (Hr := f48 ++ Hr) rfl rfl rfl rfl underlying254 info_kids rfl rfl rfl rfl ho43 (.skipl .done) (hr48.mono (Sees.of (.refl _) (fun q hq => by simp [hq]))) hx48 (by omega) (by omega) (fun v49 f49 ho49 => ?_)
      refine D.back ?_
      refine D.step 10 (listed' := #[true, true, true, true, true, true, true, true, true, true, true]) (by kernel_rfl) rfl rfl (.inr (fun w h => h.sub zSub)) ?_
      refine sA rfl ?_
      refine D.back ?_
      refine D.done (by kernel_rfl) (.inr (fun w h => h.sub zSub)) (N.seq ?_)
      refine R.ret1 results150 rfl (fun w hw => ?_)
      rw [hRz]
      refine ⟨v49, Value.slice ad (z - 0) (c - 0) :: xs48, f49, rfl, ?_, ⟨hA, ha48⟩, hw.sub zSub⟩
      rw [List.length_cons, Nat.add_comm]; exact ho49
     ·skip
      refine L.call rfl rfl rfl call150 rfl (fun w hw => ih (l.drop z).length (by rw [List.length_drop]; omega) (Nat.le_refl _) hC (fun p hp => by first | exact hsub p hp | exact List.mem_cons_of_mem _ (hsub p hp)) (hs.drop z) hw) ?_
      rintro _ a w hst ⟨v48, xs48, f48, rfl, ho48, ha48, hw⟩
      refine hst.go rfl hw ?_
      clear hst hw w a
      refine D.back ?_
      refine D.step 3 (listed' := #[true, true, true, true, true, true, true, true, true, false, false]) (by kernel_rfl) rfl rfl (.inr (fun w h => h.sub zSub)) ?_
      refine L.slice1 rfl rfl rfl underlying254 sizeOf115 zeroValue115 rfl (by decide) (by decide) (vs := [.slice ad (z - 0) (c - 0)]) rfl rfl (fun b43 => ?_)
      refine D.back ?_
      refine D.step 9 (listed' := #[true, true, true, true, true, true, true, true, true, true, false]) (by kernel_rfl) rfl rfl (.inr (fun w h => h.sub zSub)) ?_
      have ho43 : Own 115 1 (.slice (some ⟨b43, 0, none⟩) 1 1) 1 [Value.slice ad (z - 0) (c - 0)] [(b43, .cells [Value.slice ad (z - 0) (c - 0)].toArray 115 (0, 0))] := Own.full rfl (by decide)
      have hx48 : ∀ u ∈ xs48, u.oneCell' = true := ha48.left (fun x p h => by obtain ⟨_, _, rfl, _⟩ := h.form; rfl)
      have hr48 : Rd S f48 1 v48 (parts kidUsed (l.drop z)).length xs48 := ho48.rd (fun p hp => hp)
      first
       | refine L.append (by' := 24) (sz := 1) (l := (parts kidUsed (l.drop z)).length) (ys := xs48) (Hr := f48 ++ Hr) rfl rfl rfl rfl underlying254 info_kids rfl rfl rfl rfl ho43 .done (hr48.mono (Sees.of (.refl _) (fun q hq => by simp [hq]))) hx48 (by omega) (by omega) (fun v49 f49 ho49 => ?_)
       | refine L.append (by' := 24) (sz := 1) (l := (parts kidUsed (l.drop z)).length) (ys := xs48) (Hr := f48 ++ Hr) rfl rfl rfl rfl underlying254 info_kids rfl rfl rfl rfl ho43 (.skipl .done) (hr48.mono (Sees.of (.refl _) (fun q hq => by simp [hq]))) hx48 (by omega) (by omega) (fun v49 f49 ho49 => ?_)
      refine D.back ?_
      refine D.step 10 (listed' := #[true, true, true, true, true, true, true, true, true, true, true]) (by kernel_rfl) rfl rfl (.inr (fun w h => h.sub zSub)) ?_
      refine sA rfl ?_
      refine D.back ?_
      refine D.done (by kernel_rfl) (.inr (fun w h => h.sub zSub)) (N.seq ?_)
      refine R.ret1 results150 rfl (fun w hw => ?_)
      rw [hRz]
      refine ⟨v49, Value.slice ad (z - 0) (c - 0) :: xs48, f49, rfl, ?_, ⟨hA, ha48⟩, hw.sub zSub⟩
      rw [List.length_cons, Nat.add_comm]; exact ho49
end
end Go.Proofs.YtijgbppkdaiikaaGreat

set_option linter.unusedSimpArgs false
set_option linter.unusedVariables false
namespace Go.Proofs.YtijgbppkdaiikaaGreat
open Go.Proofs.Tryz Go.Tk

def leafP (l : List Item) : Page := ⟨1, 0, 0, l, [], [], []⟩
def branchP (l : List Kid) : Page := ⟨2, 0, 0, [], l, [], []⟩
section
variable {α : Type}
/-- A page for each part; the kids that hold them. -/
noncomputable def kidsF (mk : List α → Page) (key : α → List UInt8) : Pr → List (List α) → List Kid → Pr × Except Int (List Kid)
 | s, [], out => (s, .ok out)
 | s, x :: r, out => if (s.add (mk x)).2.2 ≠ 0 then ((s.add (mk x)).1, .error (s.add (mk x)).2.2) else
    kidsF mk key (s.add (mk x)).1 r (out ++ [⟨(x.head?.map key).getD [], (s.add (mk x)).2.1.toNat⟩])
end
noncomputable def Pr.leaves (s : Pr) (l : List Item) : Pr × Except Int (List Kid) := if l = [] then (s, .ok []) else kidsF leafP (·.key) s (parts itemUsed l) []
noncomputable def Pr.branches (s : Pr) (l : List Kid) : Pr × Except Int (List Kid) := if l = [] then (s, .ok []) else kidsF branchP (·.key) s (parts kidUsed l) []

def FineI (l : List Item) : Prop := l.length ≤ 1000 ∧ ∀ x ∈ l, x.key.length ≤ 32 ∧ x.val.length ≤ 64 ∧ x.size < 2 ^ 32 ∧ x.more < 2 ^ 32
def FineK (l : List Kid) : Prop := l.length ≤ 1000 ∧ ∀ x ∈ l, x.key.length ≤ 32 ∧ x.page < 2 ^ 32
theorem FineI.small {l : List Item} (h : FineI l) : SmallI l := ⟨h.1, fun x hx => by have := h.2 x hx; omega⟩
theorem FineK.small {l : List Kid} (h : FineK l) : SmallK l := ⟨h.1, fun x hx => by have := h.2 x hx; omega⟩
theorem FineI.used {l : List Item} (h : FineI l) : ∀ x ∈ l, itemUsed x ≤ 118 := fun x hx => by have := h.2 x hx; unfold itemUsed; split <;> omega
theorem FineK.used {l : List Kid} (h : FineK l) : ∀ x ∈ l, kidUsed x ≤ 118 := fun x hx => by have := h.2 x hx; unfold kidUsed; omega

theorem cut_two {α : Type} (u : α → Nat) (l : List α) (hu : ∀ x ∈ l, u x ≤ 118) (hs : ¬ sumU u l ≤ 237) : 2 ≤ cut u l := by
 have h1 := sumU_le u l hu
 have h3 : 3 ≤ l.length := by
  rcases Nat.lt_or_ge l.length 3 with e | e
  ·have : l.length * 118 ≤ 2 * 118 := Nat.mul_le_mul_right _ (by omega)
   omega
  ·exact e
 have a1 := sumU_le u (l.take 1) (fun x hx => hu x (List.mem_of_mem_take hx))
 have a2 := sumU_le u (l.take 2) (fun x hx => hu x (List.mem_of_mem_take hx))
 rw [List.length_take, Nat.min_eq_left (by omega)] at a1 a2
 obtain ⟨f, hf⟩ : ∃ f, l.length = f + 1 := ⟨l.length - 1, by omega⟩
 unfold cut
 rw [hf, cutF, if_pos ⟨by omega, by omega, by show sumU u (l.take 2) ≤ 237; omega⟩]
 exact (cutF_bound u l f 2 (by omega) (by omega)).1 |> fun _ => by
  have : ∀ (f n : Nat), n ≤ cutF u l f n := by
   intro f
   induction f with
   | zero => intro n; exact Nat.le_refl _
   | succ f ih => intro n; unfold cutF; split; exact Nat.le_trans (Nat.le_succ n) (ih (n + 1)); exact Nat.le_refl _
  exact this f 2
theorem parts_le {α : Type} (u : α → Nat) : ∀ (n : Nat) (l : List α), l.length ≤ n → l ≠ [] → (∀ x ∈ l, u x ≤ 118) → (parts u l).length ≤ l.length / 2 + 1 ∧ (2 ≤ l.length → (parts u l).length < l.length)
 | n, l, hn, hl, hu => by
   have h0 : 0 < l.length := List.length_pos_iff.2 hl
   rw [parts_eq]
   split
   ·rw [List.length_singleton]; omega
   ·rename_i h
    have hc := cut_two u l hu h
    have hc2 := (cut_bound u l).2
    have hs := sumU_le u l hu
    have h3 : 3 ≤ l.length := by
     rcases Nat.lt_or_ge l.length 3 with e | e
     ·have : l.length * 118 ≤ 2 * 118 := Nat.mul_le_mul_right _ (by omega)
      omega
     ·exact e
    match n, hn with
    | n + 1, hn =>
      have := (parts_le u n (l.drop (cut u l)) (by rw [List.length_drop]; omega) (fun e => by have h9 : (l.drop (cut u l)).length = 0 := (by rw [e]; rfl); rw [List.length_drop] at h9; omega) (fun x hx => hu x (List.mem_of_mem_drop hx)))
      rw [List.length_drop] at this
      rw [List.length_cons]; omega
    | 0, hn => omega

section
variable {w0 : World} {F : Nat → Prop} {S : Store} {Hr : Heap} {w : World}

theorem leaves_ok {b db : Nat} {s : Pr} {fp : Heap} {v : Value} {l : List Item} (hd : PgR S b db s fp) (hl : Items S Hr v l) (hs : FineI l) (hw : Hp w0 F S (fp ++ Hr) w) :
 Calls Tryz.prog 55 #[.pointer (some ⟨b, 0, none⟩), v] w fun e w' => ∃ S' fp' v' f err, e = .returned (.tuple #[v', .int .i64 err]) ∧ S.le S' ∧ PgR S' b db (s.leaves l).1 fp' ∧
  ((∃ ks, (s.leaves l).2 = .ok ks ∧ err = 0 ∧ KidsO S' v' ks f ∧ FineK ks ∧ ks.length ≤ l.length / 2 + 1 ∧ (2 ≤ l.length → ks.length < l.length)) ∨ ((s.leaves l).2 = .error err ∧ err ≠ 0 ∧ v' = .slice none 0 0 ∧ f = [])) ∧ Hp w0 F S' (f ++ (fp' ++ Hr)) w' := by
 obtain ⟨ad, c, rfl, hcc⟩ := hl.form
 refine enterA hw func55 rfl ntmps55 rfl rfl ?_
 refine sD (sA rfl (sA rfl (sE (sA rfl (sN (sC (sD (sM rfl ?_))))))))
 refine L.w rfl (V.len rfl underlying118) ?_
 refine sQa rfl (sN ?_)
 refine C.cond rfl (fun h13 => ?_) (fun h13 => ?_)
 ·try simp only [sq] at h13
  refine sD (sA rfl (sA rfl (sN ?_)))
  refine R.ret2 results55 rfl rfl (fun w hw => ?_)
  have e0 : l = [] := List.eq_nil_of_length_eq_zero (by omega)
  have e1 : s.leaves l = (s, .ok []) := if_pos e0
  rw [e1]
  exact ⟨S, fp, _, [], 0, rfl, .refl S, hd, .inl ⟨[], rfl, rfl, ⟨[], Own.nil _ _, trivial⟩, ⟨Nat.zero_le _, fun x hx => by cases hx⟩, Nat.zero_le _, fun h => by rw [e0] at h; cases h⟩, hw⟩
 ·try simp only [sq] at h13
  have hne : l ≠ [] := fun e => by subst e; exact h13 rfl
  obtain ⟨ps, hps⟩ : ∃ ps, parts itemUsed l = ps := ⟨_, rfl⟩
  obtain ⟨RZ, hRZ⟩ : ∃ R, kidsF leafP (·.key) s ps [] = R := ⟨_, rfl⟩
  have e1 : s.leaves l = RZ := by rw [← hRZ, ← hps]; exact if_neg hne
  rw [e1]
  have hpne := parts_ne itemUsed l.length l (Nat.le_refl _) hne hs.used
  have hple := (parts_le itemUsed l.length l (Nat.le_refl _) hne hs.used)
  have hpfl := parts_flat itemUsed l.length l (Nat.le_refl _)
  rw [hps] at hpne hple hpfl
  have hl1 := hs.1
  have hpin : ∀ p ∈ ps, ∀ x ∈ p, x ∈ l := fun p hp x hx => by rw [← hpfl]; exact List.mem_flatten.2 ⟨p, hp, hx⟩
  refine sK (sC (sD (sM rfl ?_)))
  refine L.call rfl rfl rfl call107 rfl (fun w hw => partsItems_ok (H0 := Hr) l.length (Nat.le_refl _) hl (fun p hp => List.mem_append_right _ hp) hs.small hw) ?_
  rintro _ a w hst ⟨v15, xs, f15, rfl, ho15, hxs, hw⟩
  refine hst.go rfl hw ?_
  clear hst hw w a
  rw [hps] at ho15 hxs
  have hxl := hxs.length
  obtain ⟨a15, c15, rfl⟩ := ho15.form
  have hr15 : Rd S f15 1 (.slice a15 ps.length c15) ps.length xs := ho15.rd (fun p hp => hp)
  refine L.w rfl (V.len rfl underlying208) ?_
  refine sM rfl (sN (sB ?_))
  refine C.loop (α := Nat × Pr × List Kid × Store × Value × Heap × Heap) (fun z => [(0, .pointer (some ⟨b, 0, none⟩)), (6, z.2.2.2.2.1), (15, .slice a15 ps.length c15), (16, .int .i64 (ps.length : Int)), (17, .int .i64 (z.1 : Int))])
   (fun z w => (RZ = kidsF leafP (·.key) z.2.1 (ps.drop z.1) z.2.2.1 ∧ z.1 ≤ ps.length ∧ z.2.2.1.length = z.1 ∧ (∀ x ∈ z.2.2.1, x.key.length ≤ 32 ∧ x.page < 2 ^ 32) ∧ S.le z.2.2.2.1 ∧ PgR z.2.2.2.1 b db z.2.1 z.2.2.2.2.2.1 ∧ KidsO z.2.2.2.1 z.2.2.2.2.1 z.2.2.1 z.2.2.2.2.2.2) ∧
     Hp w0 F z.2.2.2.1 (z.2.2.2.2.2.2 ++ (f15 ++ (z.2.2.2.2.2.1 ++ Hr))) w)
   (fun z => ps.length - z.1) (0, s, [], S, .slice none 0 0, fp, []) ⟨rfl, rfl, rfl, rfl, rfl, trivial⟩ (fun w hw => ⟨⟨hRZ.symm, Nat.zero_le _, rfl, (fun x hx => by cases hx), .refl _, hd, ⟨[], Own.nil _ _, trivial⟩⟩, hw⟩) (fun zz => C.pure (fun hzz => ?_))
  obtain ⟨z, s2, out, S2, v6, f2, f6⟩ := zz
  obtain ⟨hF, hz, hol, hofi, le2, hd2, ho6⟩ := hzz
  dsimp only at hF hz hol hofi le2 hd2 ho6 ⊢
  refine sD (sQc rfl (sN (sC ?_)))
  refine C.cond rfl (fun h18 => ?_) (fun h18 => ?_)
  ·try simp only [sq] at h18
   have hj : z < ps.length := by omega
   obtain ⟨pt, hpt⟩ : ∃ pt, ps[z] = pt := ⟨_, rfl⟩
   obtain ⟨xv, hxv⟩ : ∃ xv, xs[z]'(by omega) = xv := ⟨_, rfl⟩
   have hptR := hxs.get z (by omega) hj
   rw [hpt, hxv] at hptR
   have hpm : pt ∈ ps := hpt ▸ List.getElem_mem hj
   obtain ⟨b8, o8, cs8, T8, fz8, rfl, q1, q2⟩ := hr15.pos (by omega)
   have q3 : cs8[o8 + z * 1]? = some xv := by rw [Nat.mul_one, q2 z (by omega), List.getElem?_eq_getElem (by omega), hxv]
   have hpt3 : Items S2 Hr xv pt := hptR.mono le2 (fun q hq => hq)
   obtain ⟨xa, xc, rfl, _⟩ := hpt3.form
   have h0 : 0 < pt.length := List.length_pos_iff.2 (hpne pt hpm)
   have hptS : FineI pt := ⟨by have h8 := (List.sublist_flatten_of_mem hpm).length_le; rw [hpfl] at h8; omega, fun x hx => hs.2 x (hpin pt hpm x hx)⟩
   rw [List.drop_eq_getElem_cons hj, hpt, kidsF] at hF
   obtain ⟨hk, hhk⟩ : ∃ hk, (pt.head?.map (·.key)).getD [] = hk := ⟨_, rfl⟩
   have hk0 : pt[0].key = hk := by
    rw [← hhk]
    cases pt with
    | nil => simp at h0
    | cons y r => rfl
   have hkl := (hptS.2 _ (List.getElem_mem h0)).1
   rw [hk0] at hkl
   rw [hhk] at hF
   refine sK (sC (sB (sD ?_)))
   refine L.w rfl (V.indexAddr rfl rfl underlying208 sizeOf118 rfl (by omega)) ?_
   refine L.w rfl (V.load rfl isAgg118 (.apr (.apl (Sees.le le2 _ _ _ q1))) q3) ?_
   refine sA rfl (sE (sM rfl (sM rfl ?_)))
   refine L.w rfl (V.build rfl underlying125 zeroValue125 (pl := [(0, 1), (1, 1), (2, 1), (3, 1), (4, 1), (5, 1), (6, 1)]) (fun w => by kernel_rfl) (Fills.cons rfl rfl rfl zPut (Fills.cons rfl rfl rfl zPut Fills.nil))) ?_
   have hpc : PageC S2 Hr [.int .i64 1, .int .u64 0, .int .i64 0, .slice xa pt.length xc, .slice none 0 0, .slice none 0 0, .slice none 0 0] (leafP pt) := ⟨_, _, _, _, rfl, hpt3, ⟨[], Rd.nil .., trivial⟩, Rd.nil .., Rd.nil ..⟩
   refine L.call rfl rfl rfl call106 rfl (fun w hw => pgAdd_ok (Hr := f6 ++ (f15 ++ Hr)) hd2 (hpc.mono (.refl _) (fun q hq => by simp [hq])) (smallI_page hptS.small 1 (by decide)) (hw.re zRe)) ?_
   rintro _ a w hst ⟨S3, f3, rfl, le3, hd3, hw⟩
   refine hst.go rfl hw ?_
   clear hst hw w a
   refine sM rfl (sX rfl (sX rfl (sA rfl (sA rfl (sN (sC (sD (sM rfl (sQb rfl (sN ?_))))))))))
   refine C.cond rfl (fun h29 => ?_) (fun h29 => ?_)
   ·try simp only [sq] at h29
    refine sD (sM rfl (sA rfl (sA rfl (sN ?_))))
    refine R.ret2 results55 rfl rfl (fun w hw => ?_)
    have h29 : (s2.add (leafP pt)).2.2 ≠ 0 := h29
    rw [if_pos h29] at hF
    subst hF
    exact ⟨S3, f3, _, [], _, rfl, le2.trans le3, hd3, .inr ⟨rfl, h29, rfl, rfl⟩, hw.sub zSub⟩
   ·try simp only [sq] at h29
    have h29 : (s2.add (leafP pt)).2.2 = 0 := h29
    rw [if_neg (fun h => h h29)] at hF
    have hidr := Pr.add_id hd2.fl h29
    have hls := hd2.ok.size
    have hl2 := hd2.ok.s1
    obtain ⟨b9, o9, cs9, T9, fz9, k9, v9, rfl, g1, g2, g3, g4, g5, g6⟩ := hpt3.at h0
    rw [hk0] at g4
    obtain ⟨ka, kc, rfl, _⟩ := g4.form
    refine sK (sR (sM rfl (sM rfl ?_)))
    refine L.w rfl (V.indexAddr (j := 0) rfl rfl underlying118 sizeOf112 rfl h0) ?_
    refine L.w rfl (V.fa rfl underlying112 rfl rfl sizeOf22) ?_
    refine L.w rfl (V.load rfl isAgg22 (.apr (.apr (.apr (Sees.le le3 _ _ _ g1)))) g6) ?_
    refine sM rfl ?_
    refine L.w rfl (V.build rfl underlying129 zeroValue129 (pl := [(0, 1), (1, 1)]) (fun w => by kernel_rfl) (Fills.cons rfl rfl rfl zPut (Fills.cons rfl rfl rfl zPut Fills.nil))) ?_
    refine L.slice1 rfl rfl rfl underlying115 sizeOf129 zeroValue129 rfl (by decide) (by decide) (vs := [.slice ka hk.length kc, .int .i64 (s2.add (leafP pt)).2.1]) rfl rfl (fun b38 => ?_)
    obtain ⟨rows, ho6r, ho6a⟩ := ho6
    refine L.append (by' := 32) (sz := 2) (l := 1) (ys := [.slice ka hk.length kc, .int .i64 (s2.add (leafP pt)).2.1]) rfl rfl rfl rfl underlying115 info_kid rfl rfl rfl rfl ho6r (.skip (.skipl .done)) ⟨rfl, .inr ⟨b38, 0, 1, _, _, _, rfl, ⟨Nat.le_refl _, by omega⟩, .apr .head, fun j hj => by simp⟩⟩ (by intro u hu; simp at hu; rcases hu with rfl | rfl <;> rfl) (by omega) (by omega) (fun v39 f39 ho39 => ?_)
    have ho39 : KidsO S3 v39 (out ++ [⟨hk, (s2.add (leafP pt)).2.1.toNat⟩]) f39 := KidsO.snoc ho39 (ho6a.mono fun a b h => h.mono le3) ⟨_, by rw [Int.toNat_of_nonneg (by omega)], g4.mono (Sees.le le3 _)⟩
    have hofi3 : ∀ x ∈ out ++ [(⟨hk, (s2.add (leafP pt)).2.1.toNat⟩ : Kid)], x.key.length ≤ 32 ∧ x.page < 2 ^ 32 := fun x hx => by
     rcases List.mem_append.1 hx with hx | hx
     ·exact hofi x hx
     ·rw [List.mem_singleton] at hx; subst hx; exact ⟨hkl, by show (s2.add (leafP pt)).2.1.toNat < 2 ^ 32; omega⟩
    refine sA rfl ?_
    refine L.nil (N.blk (N.seq ?_))
    refine sR ?_
    refine L.w rfl (V.add (c := ((z + 1 : Nat) : Int)) rfl rfl (by rw [w64 (by omega) (by omega)]; omega)) ?_
    refine sM rfl ?_
    refine L.nil ?_
    refine N.round (z + 1, (s2.add (leafP pt)).1, out ++ [⟨hk, (s2.add (leafP pt)).2.1.toNat⟩], S3, v39, f3, f39) (by show ps.length - (z + 1) < ps.length - z; omega) ⟨rfl, rfl, rfl, rfl, rfl, trivial⟩ (fun w hw => ⟨⟨hF, by show z + 1 ≤ _; omega, by show (out ++ [_]).length = z + 1; rw [List.length_append, hol]; rfl, hofi3, le2.trans le3, hd3, ho39⟩, ?_⟩)
    exact Hp.re (hw.sub (H' := f39 ++ (f3 ++ (f15 ++ Hr))) zSub) zRe
  ·try simp only [sq] at h18
   refine sZ rfl (sD (sM rfl (sA rfl (sA rfl (sN ?_)))))
   refine R.ret2 results55 rfl rfl (fun w hw => ?_)
   have ez : z = ps.length := by omega
   subst ez
   rw [List.drop_length, kidsF] at hF
   subst hF
   exact ⟨S2, f2, v6, f6, 0, rfl, le2, hd2, .inl ⟨out, rfl, rfl, ho6, ⟨by omega, hofi⟩, by omega, fun h => by have := hple.2 h; omega⟩, hw.sub zSub⟩
theorem branches_ok {b db : Nat} {s : Pr} {fp : Heap} {v : Value} {l : List Kid} (hd : PgR S b db s fp) (hl : Kids S Hr v l) (hs : FineK l) (hw : Hp w0 F S (fp ++ Hr) w) :
 Calls Tryz.prog 113 #[.pointer (some ⟨b, 0, none⟩), v] w fun e w' => ∃ S' fp' v' f err, e = .returned (.tuple #[v', .int .i64 err]) ∧ S.le S' ∧ PgR S' b db (s.branches l).1 fp' ∧
  ((∃ ks, (s.branches l).2 = .ok ks ∧ err = 0 ∧ KidsO S' v' ks f ∧ FineK ks ∧ ks.length ≤ l.length / 2 + 1 ∧ (2 ≤ l.length → ks.length < l.length)) ∨ ((s.branches l).2 = .error err ∧ err ≠ 0 ∧ v' = .slice none 0 0 ∧ f = [])) ∧ Hp w0 F S' (f ++ (fp' ++ Hr)) w' := by
 obtain ⟨ad, c, rfl, hcc⟩ := hl.form
 refine enterA hw func113 rfl ntmps113 rfl rfl ?_
 refine sD (sA rfl (sA rfl (sE (sA rfl (sN (sC (sD (sM rfl ?_))))))))
 refine L.w rfl (V.len rfl underlying115) ?_
 refine sQa rfl (sN ?_)
 refine C.cond rfl (fun h13 => ?_) (fun h13 => ?_)
 ·try simp only [sq] at h13
  refine sD (sA rfl (sA rfl (sN ?_)))
  refine R.ret2 results113 rfl rfl (fun w hw => ?_)
  have e0 : l = [] := List.eq_nil_of_length_eq_zero (by omega)
  have e1 : s.branches l = (s, .ok []) := if_pos e0
  rw [e1]
  exact ⟨S, fp, _, [], 0, rfl, .refl S, hd, .inl ⟨[], rfl, rfl, ⟨[], Own.nil _ _, trivial⟩, ⟨Nat.zero_le _, fun x hx => by cases hx⟩, Nat.zero_le _, fun h => by rw [e0] at h; cases h⟩, hw⟩
 ·try simp only [sq] at h13
  have hne : l ≠ [] := fun e => by subst e; exact h13 rfl
  obtain ⟨ps, hps⟩ : ∃ ps, parts kidUsed l = ps := ⟨_, rfl⟩
  obtain ⟨RZ, hRZ⟩ : ∃ R, kidsF branchP (·.key) s ps [] = R := ⟨_, rfl⟩
  have e1 : s.branches l = RZ := by rw [← hRZ, ← hps]; exact if_neg hne
  rw [e1]
  have hpne := parts_ne kidUsed l.length l (Nat.le_refl _) hne hs.used
  have hple := (parts_le kidUsed l.length l (Nat.le_refl _) hne hs.used)
  have hpfl := parts_flat kidUsed l.length l (Nat.le_refl _)
  rw [hps] at hpne hple hpfl
  have hl1 := hs.1
  have hpin : ∀ p ∈ ps, ∀ x ∈ p, x ∈ l := fun p hp x hx => by rw [← hpfl]; exact List.mem_flatten.2 ⟨p, hp, hx⟩
  refine sK (sC (sD (sM rfl ?_)))
  refine L.call rfl rfl rfl call150 rfl (fun w hw => partsKids_ok (H0 := Hr) l.length (Nat.le_refl _) hl (fun p hp => List.mem_append_right _ hp) hs.small hw) ?_
  rintro _ a w hst ⟨v15, xs, f15, rfl, ho15, hxs, hw⟩
  refine hst.go rfl hw ?_
  clear hst hw w a
  rw [hps] at ho15 hxs
  have hxl := hxs.length
  obtain ⟨a15, c15, rfl⟩ := ho15.form
  have hr15 : Rd S f15 1 (.slice a15 ps.length c15) ps.length xs := ho15.rd (fun p hp => hp)
  refine L.w rfl (V.len rfl underlying254) ?_
  refine sM rfl (sN (sB ?_))
  refine C.loop (α := Nat × Pr × List Kid × Store × Value × Heap × Heap) (fun z => [(0, .pointer (some ⟨b, 0, none⟩)), (6, z.2.2.2.2.1), (15, .slice a15 ps.length c15), (16, .int .i64 (ps.length : Int)), (17, .int .i64 (z.1 : Int))])
   (fun z w => (RZ = kidsF branchP (·.key) z.2.1 (ps.drop z.1) z.2.2.1 ∧ z.1 ≤ ps.length ∧ z.2.2.1.length = z.1 ∧ (∀ x ∈ z.2.2.1, x.key.length ≤ 32 ∧ x.page < 2 ^ 32) ∧ S.le z.2.2.2.1 ∧ PgR z.2.2.2.1 b db z.2.1 z.2.2.2.2.2.1 ∧ KidsO z.2.2.2.1 z.2.2.2.2.1 z.2.2.1 z.2.2.2.2.2.2) ∧
     Hp w0 F z.2.2.2.1 (z.2.2.2.2.2.2 ++ (f15 ++ (z.2.2.2.2.2.1 ++ Hr))) w)
   (fun z => ps.length - z.1) (0, s, [], S, .slice none 0 0, fp, []) ⟨rfl, rfl, rfl, rfl, rfl, trivial⟩ (fun w hw => ⟨⟨hRZ.symm, Nat.zero_le _, rfl, (fun x hx => by cases hx), .refl _, hd, ⟨[], Own.nil _ _, trivial⟩⟩, hw⟩) (fun zz => C.pure (fun hzz => ?_))
  obtain ⟨z, s2, out, S2, v6, f2, f6⟩ := zz
  obtain ⟨hF, hz, hol, hofi, le2, hd2, ho6⟩ := hzz
  dsimp only at hF hz hol hofi le2 hd2 ho6 ⊢
  refine sD (sQc rfl (sN (sC ?_)))
  refine C.cond rfl (fun h18 => ?_) (fun h18 => ?_)
  ·try simp only [sq] at h18
   have hj : z < ps.length := by omega
   obtain ⟨pt, hpt⟩ : ∃ pt, ps[z] = pt := ⟨_, rfl⟩
   obtain ⟨xv, hxv⟩ : ∃ xv, xs[z]'(by omega) = xv := ⟨_, rfl⟩
   have hptR := hxs.get z (by omega) hj
   rw [hpt, hxv] at hptR
   have hpm : pt ∈ ps := hpt ▸ List.getElem_mem hj
   obtain ⟨b8, o8, cs8, T8, fz8, rfl, q1, q2⟩ := hr15.pos (by omega)
   have q3 : cs8[o8 + z * 1]? = some xv := by rw [Nat.mul_one, q2 z (by omega), List.getElem?_eq_getElem (by omega), hxv]
   have hpt3 : Kids S2 Hr xv pt := hptR.mono le2 (fun q hq => hq)
   obtain ⟨xa, xc, rfl, _⟩ := hpt3.form
   have h0 : 0 < pt.length := List.length_pos_iff.2 (hpne pt hpm)
   have hptS : FineK pt := ⟨by have h8 := (List.sublist_flatten_of_mem hpm).length_le; rw [hpfl] at h8; omega, fun x hx => hs.2 x (hpin pt hpm x hx)⟩
   rw [List.drop_eq_getElem_cons hj, hpt, kidsF] at hF
   obtain ⟨hk, hhk⟩ : ∃ hk, (pt.head?.map (·.key)).getD [] = hk := ⟨_, rfl⟩
   have hk0 : pt[0].key = hk := by
    rw [← hhk]
    cases pt with
    | nil => simp at h0
    | cons y r => rfl
   have hkl := (hptS.2 _ (List.getElem_mem h0)).1
   rw [hk0] at hkl
   rw [hhk] at hF
   refine sK (sC (sB (sD ?_)))
   refine L.w rfl (V.indexAddr rfl rfl underlying254 sizeOf115 rfl (by omega)) ?_
   refine L.w rfl (V.load rfl isAgg115 (.apr (.apl (Sees.le le2 _ _ _ q1))) q3) ?_
   refine sA rfl (sE (sM rfl (sM rfl ?_)))
   refine L.w rfl (V.build rfl underlying125 zeroValue125 (pl := [(0, 1), (1, 1), (2, 1), (3, 1), (4, 1), (5, 1), (6, 1)]) (fun w => by kernel_rfl) (Fills.cons rfl rfl rfl zPut (Fills.cons rfl rfl rfl zPut Fills.nil))) ?_
   have hpc : PageC S2 Hr [.int .i64 2, .int .u64 0, .int .i64 0, .slice none 0 0, .slice xa pt.length xc, .slice none 0 0, .slice none 0 0] (branchP pt) := ⟨_, _, _, _, rfl, ⟨[], Rd.nil .., trivial⟩, hpt3, Rd.nil .., Rd.nil ..⟩
   refine L.call rfl rfl rfl call106 rfl (fun w hw => pgAdd_ok (Hr := f6 ++ (f15 ++ Hr)) hd2 (hpc.mono (.refl _) (fun q hq => by simp [hq])) (smallK_page hptS.small 2 (by decide)) (hw.re zRe)) ?_
   rintro _ a w hst ⟨S3, f3, rfl, le3, hd3, hw⟩
   refine hst.go rfl hw ?_
   clear hst hw w a
   refine sM rfl (sX rfl (sX rfl (sA rfl (sA rfl (sN (sC (sD (sM rfl (sQb rfl (sN ?_))))))))))
   refine C.cond rfl (fun h29 => ?_) (fun h29 => ?_)
   ·try simp only [sq] at h29
    refine sD (sM rfl (sA rfl (sA rfl (sN ?_))))
    refine R.ret2 results113 rfl rfl (fun w hw => ?_)
    have h29 : (s2.add (branchP pt)).2.2 ≠ 0 := h29
    rw [if_pos h29] at hF
    subst hF
    exact ⟨S3, f3, _, [], _, rfl, le2.trans le3, hd3, .inr ⟨rfl, h29, rfl, rfl⟩, hw.sub zSub⟩
   ·try simp only [sq] at h29
    have h29 : (s2.add (branchP pt)).2.2 = 0 := h29
    rw [if_neg (fun h => h h29)] at hF
    have hidr := Pr.add_id hd2.fl h29
    have hls := hd2.ok.size
    have hl2 := hd2.ok.s1
    obtain ⟨b9, o9, cs9, T9, fz9, k9, rfl, g1, g2, g3, g4, g6, g7⟩ := hpt3.at h0
    rw [hk0] at g4
    obtain ⟨ka, kc, rfl, _⟩ := g4.form
    refine sK (sR (sM rfl (sM rfl ?_)))
    refine L.w rfl (V.indexAddr (j := 0) rfl rfl underlying115 sizeOf129 rfl h0) ?_
    refine L.w rfl (V.fa rfl underlying129 rfl rfl sizeOf22) ?_
    refine L.w rfl (V.load rfl isAgg22 (.apr (.apr (.apr (Sees.le le3 _ _ _ g1)))) g6) ?_
    refine sM rfl ?_
    refine L.w rfl (V.build rfl underlying129 zeroValue129 (pl := [(0, 1), (1, 1)]) (fun w => by kernel_rfl) (Fills.cons rfl rfl rfl zPut (Fills.cons rfl rfl rfl zPut Fills.nil))) ?_
    refine L.slice1 rfl rfl rfl underlying115 sizeOf129 zeroValue129 rfl (by decide) (by decide) (vs := [.slice ka hk.length kc, .int .i64 (s2.add (branchP pt)).2.1]) rfl rfl (fun b38 => ?_)
    obtain ⟨rows, ho6r, ho6a⟩ := ho6
    refine L.append (by' := 32) (sz := 2) (l := 1) (ys := [.slice ka hk.length kc, .int .i64 (s2.add (branchP pt)).2.1]) rfl rfl rfl rfl underlying115 info_kid rfl rfl rfl rfl ho6r (.skip (.skipl .done)) ⟨rfl, .inr ⟨b38, 0, 1, _, _, _, rfl, ⟨Nat.le_refl _, by omega⟩, .apr .head, fun j hj => by simp⟩⟩ (by intro u hu; simp at hu; rcases hu with rfl | rfl <;> rfl) (by omega) (by omega) (fun v39 f39 ho39 => ?_)
    have ho39 : KidsO S3 v39 (out ++ [⟨hk, (s2.add (branchP pt)).2.1.toNat⟩]) f39 := KidsO.snoc ho39 (ho6a.mono fun a b h => h.mono le3) ⟨_, by rw [Int.toNat_of_nonneg (by omega)], g4.mono (Sees.le le3 _)⟩
    have hofi3 : ∀ x ∈ out ++ [(⟨hk, (s2.add (branchP pt)).2.1.toNat⟩ : Kid)], x.key.length ≤ 32 ∧ x.page < 2 ^ 32 := fun x hx => by
     rcases List.mem_append.1 hx with hx | hx
     ·exact hofi x hx
     ·rw [List.mem_singleton] at hx; subst hx; exact ⟨hkl, by show (s2.add (branchP pt)).2.1.toNat < 2 ^ 32; omega⟩
    refine sA rfl ?_
    refine L.nil (N.blk (N.seq ?_))
    refine sR ?_
    refine L.w rfl (V.add (c := ((z + 1 : Nat) : Int)) rfl rfl (by rw [w64 (by omega) (by omega)]; omega)) ?_
    refine sM rfl ?_
    refine L.nil ?_
    refine N.round (z + 1, (s2.add (branchP pt)).1, out ++ [⟨hk, (s2.add (branchP pt)).2.1.toNat⟩], S3, v39, f3, f39) (by show ps.length - (z + 1) < ps.length - z; omega) ⟨rfl, rfl, rfl, rfl, rfl, trivial⟩ (fun w hw => ⟨⟨hF, by show z + 1 ≤ _; omega, by show (out ++ [_]).length = z + 1; rw [List.length_append, hol]; rfl, hofi3, le2.trans le3, hd3, ho39⟩, ?_⟩)
    exact Hp.re (hw.sub (H' := f39 ++ (f3 ++ (f15 ++ Hr))) zSub) zRe
  ·try simp only [sq] at h18
   refine sZ rfl (sD (sM rfl (sA rfl (sA rfl (sN ?_)))))
   refine R.ret2 results113 rfl rfl (fun w hw => ?_)
   have ez : z = ps.length := by omega
   subst ez
   rw [List.drop_length, kidsF] at hF
   subst hF
   exact ⟨S2, f2, v6, f6, 0, rfl, le2, hd2, .inl ⟨out, rfl, rfl, ho6, ⟨by omega, hofi⟩, by omega, fun h => by have := hple.2 h; omega⟩, hw.sub zSub⟩
end
end Go.Proofs.YtijgbppkdaiikaaGreat
