/- The walks, joined. -/
import Derived.WalkKit
import Derived.Deep.Quiet
import Derived.Lib.Bytealg
import Derived.Laws.Externs
import Derived.Laws.BytesString
import Derived.MapKept
import Derived.Maps.RangeRun
import Derived.Lib.AppendZerosOnto
import Derived.Lib.Overlaps
import Derived.Shelf.Sort.Plain
import Derived.Lib.AppendStr
import Derived.Test.YtijgbppkdaiikaaGreatProg
namespace Go.Tk

abbrev Env := List (Nat × Value)

def Env.get : Env → Nat → Option Value
 | [], _ => none
 | (k, v) :: E, t => bif Nat.beq k t then some v else Env.get E t

def Env.ev (E : Env) : Operand → Option Value
 | .tmp t => E.get t
 | .const v => some v
 | .global g => some (.pointer (some ⟨g, 0, none⟩))
 | .func f => some (.func (.func f) #[] #[])

def Env.evs (E : Env) : List Operand → Option (List Value)
 | [] => some []
 | x :: xs => match E.ev x, Env.evs E xs with
   | some v, some vs => some (v :: vs)
   | _, _ => none

structure St (n : Nat) (E : Env) (a : Act) : Prop where
 size : a.tmps.size = n
 defers : a.defers = []
 get : ∀ t v, E.get t = some v → a.tmps[t]? = some v

theorem St.ev {n : Nat} {E : Env} {a : Act} (h : St n E a) {x : Operand} {v : Value} (hx : E.ev x = some v) : a.eval x = v := by
 cases x with
 | tmp t =>
   have := h.get t v hx
   show a.tmps.getD t undef = v
   simp [Array.getD_eq_getD_getElem?, this]
 | const c => simpa [Env.ev, Act.eval] using hx
 | global g => simpa [Env.ev, Act.eval] using hx
 | func f => simpa [Env.ev, Act.eval] using hx

theorem St.evs {n : Nat} {E : Env} {a : Act} (h : St n E a) : ∀ {xs : List Operand} {vs : List Value}, E.evs xs = some vs → xs.map a.eval = vs
 | [], vs, hx => by simp only [Env.evs, Option.some.injEq] at hx; subst hx; rfl
 | x :: xs, vs, hx => by
   simp only [Env.evs] at hx
   cases h1 : E.ev x with
   | none => simp [h1] at hx
   | some v =>
     cases h2 : Env.evs E xs with
     | none => simp [h1, h2] at hx
     | some us =>
       simp only [h1, h2, Option.some.injEq] at hx
       subst hx
       rw [List.map_cons, h.ev h1, h.evs h2]

theorem St.put {n : Nat} {E : Env} {a : Act} (h : St n E a) {d : Nat} (hd : Nat.blt d n = true) (v : Value) : St n ((d, v) :: E) (a.put (some d) v) := by
 have hd' : d < n := by simpa [Nat.blt_eq] using hd
 refine ⟨by simp [Act.put, h.size], h.defers, fun t u ht => ?_⟩
 simp only [Env.get] at ht
 cases hb : Nat.beq d t with
 | true =>
   have e : d = t := Nat.eq_of_beq_eq_true hb
   simp only [hb, cond_true, Option.some.injEq] at ht
   subst e ht
   simp [Act.put, h.size, hd']
 | false =>
   have e : d ≠ t := Nat.ne_of_beq_eq_false hb
   simp only [hb, cond_false] at ht
   have := h.get t u ht
   simp only [Act.put]
   rw [Array.getElem?_setIfInBounds_ne e]
   exact this

/-- A part of the slots is as it is. -/
inductive Pick (E : Env) : List Nat → Env → Prop
 | nil : Pick E [] []
 | cons {t : Nat} {ts : List Nat} {v : Value} {E' : Env} (h : E.get t = some v) (r : Pick E ts E') : Pick E (t :: ts) ((t, v) :: E')

theorem Pick.get {E E' : Env} {ts : List Nat} (p : Pick E ts E') : ∀ t v, E'.get t = some v → E.get t = some v := by
 induction p with
 | nil => intro t v h; simp [Env.get] at h
 | cons h r ih =>
   rename_i t0 ts v0 E'
   intro t v ht
   simp only [Env.get] at ht
   cases hb : Nat.beq t0 t with
   | true =>
     have e : t0 = t := Nat.eq_of_beq_eq_true hb
     simp only [hb, cond_true, Option.some.injEq] at ht
     subst e ht; exact h
   | false => simp only [hb, cond_false] at ht; exact ih t v ht

theorem St.pick {n : Nat} {E E' : Env} {a : Act} {ts : List Nat} (h : St n E a) (p : Pick E ts E') : St n E' a :=
 ⟨h.size, h.defers, fun t v ht => h.get t v (p.get t v ht)⟩

/-- All that E' tells stands in E. -/
def Sub (E : Env) : Env → Prop
 | [] => True
 | (t, v) :: r => E.get t = some v ∧ Sub E r

theorem Sub.get {E : Env} : ∀ {E' : Env}, Sub E E' → ∀ t v, E'.get t = some v → E.get t = some v
 | [], _, t, v, h => by simp [Env.get] at h
 | (t0, v0) :: r, ⟨h0, hr⟩, t, v, ht => by
   simp only [Env.get] at ht
   cases hb : Nat.beq t0 t with
   | true =>
     have e : t0 = t := Nat.eq_of_beq_eq_true hb
     simp only [hb, cond_true, Option.some.injEq] at ht
     subst e ht; exact h0
   | false => simp only [hb, cond_false] at ht; exact Sub.get hr t v ht

theorem St.sub {n : Nat} {E E' : Env} {a : Act} (h : St n E a) (s : Sub E E') : St n E' a :=
 ⟨h.size, h.defers, fun t v ht => h.get t v (s.get t v ht)⟩

inductive Fr where
 | seq (y : Code)
 | blk (id : Nat)
 | cut (K : Act → World → Prop)

section
variable (P : Program) (B : Exit → Act → World → Prop)

def Ks : List Fr → Exit → Act → World → Prop
 | [] => B
 | .seq y :: k => Exit.then (y.wp P (Ks k)) (Ks k)
 | .blk id :: k => Exit.inBlock id (Ks k)
 | .cut K :: k => Exit.then K (Ks k)

def C (c : Code) (k : List Fr) (n : Nat) (E : Env) (A : World → Prop) : Prop := ∀ a w, St n E a → A w → c.wp P (Ks P B k) a w
def N (k : List Fr) (n : Nat) (E : Env) (A : World → Prop) : Prop := ∀ a w, St n E a → A w → Ks P B k .normal a w
def L (ops : Array Oper) (l : List Oper) (k : List Fr) (n : Nat) (E : Env) (A : World → Prop) : Prop := ∀ a w, St n E a → A w → wpList P ops (Ks P B k) l a w
end

section
variable {P : Program} {B : Exit → Act → World → Prop} {k : List Fr} {n : Nat} {E : Env} {A : World → Prop}

theorem Ks_ret : ∀ (k : List Fr), Ks P B k .ret = B .ret
 | [] => rfl
 | .seq y :: k => by rw [← Ks_ret k]; rfl
 | .blk id :: k => by rw [← Ks_ret k]; rfl
 | .cut K :: k => by rw [← Ks_ret k]; rfl

theorem Ks_outgrown : ∀ (k : List Fr), Ks P B k .outgrown = B .outgrown
 | [] => rfl
 | .seq y :: k => by rw [← Ks_outgrown k]; rfl
 | .blk id :: k => by rw [← Ks_outgrown k]; rfl
 | .cut K :: k => by rw [← Ks_outgrown k]; rfl

theorem C.seq {x y : Code} (h : C P B x (.seq y :: k) n E A) : C P B (.seq x y) k n E A := fun a w hs hA => wp_seq (h a w hs hA)
theorem C.skip (h : N P B k n E A) : C P B .skip k n E A := fun a w hs hA => wp_skip (h a w hs hA)
theorem C.region {l : List Oper} {id : Nat} (h : L P B l.toArray l k n E A) : C P B (.region id l.toArray false) k n E A := fun a w hs hA => wp_region_lit (h a w hs hA)
theorem C.block {c : Code} {id : Nat} (h : C P B c (.blk id :: k) n E A) : C P B (.block id c) k n E A := fun a w hs hA => wp_block (h a w hs hA)
theorem C.cond {c : Operand} {x y : Code} {t : Bool} (hc : E.ev c = some (.bool t)) (h1 : t = true → C P B x k n E A) (h2 : t = false → C P B y k n E A) : C P B (.cond c x y) k n E A :=
 fun a w hs hA => wp_cond_split (hs.ev hc) (fun ht => h1 ht a w hs hA) (fun ht => h2 ht a w hs hA)
theorem C.condT {c : Operand} {x y : Code} {t : Bool} (hc : E.ev c = some (.bool t)) (ht : t = true) (h1 : C P B x k n E A) : C P B (.cond c x y) k n E A :=
 fun a w hs hA => by subst ht; exact wp_cond_true (hs.ev hc) (h1 a w hs hA)
theorem C.condF {c : Operand} {x y : Code} {t : Bool} (hc : E.ev c = some (.bool t)) (ht : t = false) (h1 : C P B y k n E A) : C P B (.cond c x y) k n E A :=
 fun a w hs hA => by subst ht; exact wp_cond_false (hs.ev hc) (h1 a w hs hA)

def exitK : Nat → List Fr → Option (List Fr)
 | _, [] => none
 | id, .seq _ :: k => exitK id k
 | id, .blk i :: k => bif Nat.beq id i then some k else exitK id k
 | id, .cut _ :: k => exitK id k

theorem Ks_exit {id : Nat} : ∀ {k k' : List Fr}, exitK id k = some k' → Ks P B k (.exit id) = Ks P B k' .normal
 | [], _, h => by simp [exitK] at h
 | .seq y :: k, k', h => by rw [← Ks_exit (k := k) h]; rfl
 | .cut K :: k, k', h => by rw [← Ks_exit (k := k) h]; rfl
 | .blk i :: k, k', h => by
   simp only [exitK] at h
   cases hb : Nat.beq id i with
   | true =>
     simp only [hb, cond_true, Option.some.injEq] at h
     subst h
     have e : id = i := Nat.eq_of_beq_eq_true hb
     funext a w
     simp [Ks, Exit.inBlock, e]
   | false =>
     simp only [hb, cond_false] at h
     have e : ¬ id = i := Nat.ne_of_beq_eq_false hb
     rw [← Ks_exit (k := k) h]
     funext a w
     simp [Ks, Exit.inBlock, e]

theorem C.exit {id : Nat} {k' : List Fr} (he : exitK id k = some k') (h : N P B k' n E A) : C P B (.exit id) k n E A :=
 fun a w hs hA => wp_exit (by rw [Ks_exit he]; exact h a w hs hA)
theorem C.ret (h : ∀ a w, St n E a → A w → B .ret a w) : C P B .ret k n E A := fun a w hs hA => wp_ret (by rw [Ks_ret]; exact h a w hs hA)

theorem N.seq {y : Code} (h : C P B y k n E A) : N P B (.seq y :: k) n E A := h
theorem N.blk {id : Nat} (h : N P B k n E A) : N P B (.blk id :: k) n E A := h
theorem N.cut {K : Act → World → Prop} (h : ∀ a w, St n E a → A w → K a w) : N P B (.cut K :: k) n E A := h
theorem N.nil (h : ∀ a w, St n E a → A w → B .normal a w) : N P B [] n E A := h

/-- Only these slots go on. -/
theorem C.pick {c : Code} {ts : List Nat} {E' : Env} (p : Pick E ts E') (h : C P B c k n E' A) : C P B c k n E A := fun a w hs hA => h a w (hs.pick p) hA
theorem C.cons {c : Code} {A' : World → Prop} (hA : ∀ w, A w → A' w) (h : C P B c k n E A') : C P B c k n E A := fun a w hs h0 => h a w hs (hA w h0)
theorem C.ex {α : Type} {c : Code} {A : α → World → Prop} (h : ∀ z, C P B c k n E (A z)) : C P B c k n E (fun w => ∃ z, A z w) := fun a w hs ⟨z, h0⟩ => h z a w hs h0
theorem C.pure {c : Code} {p : Prop} {A : World → Prop} (h : p → C P B c k n E A) : C P B c k n E (fun w => p ∧ A w) := fun a w hs ⟨hp, h0⟩ => h hp a w hs h0
theorem C.set {c : Code} {E' : Env} (hE : E = E') (h : C P B c k n E' A) : C P B c k n E A := hE ▸ h

/-- Ways that meet again: what holds there is told by z. -/
theorem C.join {α : Type} {x y : Code} (E' : α → Env) (A' : α → World → Prop)
 (h1 : C P B x (.cut (fun a w => ∃ z, St n (E' z) a ∧ A' z w) :: k) n E A) (h2 : ∀ z, C P B y k n (E' z) (A' z)) : C P B (.seq x y) k n E A :=
 fun a w hs hA => wp_seq (by
  refine Code.wp_mono (fun e a' w' hq => ?_) (h1 a w hs hA)
  cases e with
  | normal => obtain ⟨z, hs', hA'⟩ := hq; exact h2 z a' w' hs' hA'
  | _ => exact hq)

theorem N.join {α : Type} {E' : α → Env} {A' : α → World → Prop} (z : α) (hE : Sub E (E' z)) (hA : ∀ w, A w → A' z w) :
 N P B (.cut (fun a w => ∃ z, St n (E' z) a ∧ A' z w) :: k) n E A := fun _ w hs h0 => ⟨z, hs.sub hE, hA w h0⟩

theorem N.joinp {α : Type} {E' : α → Env} {A' : α → World → Prop} {ts : List Nat} (z : α) (hE : Pick E ts (E' z)) (hA : ∀ w, A w → A' z w) :
 N P B (.cut (fun a w => ∃ z, St n (E' z) a ∧ A' z w) :: k) n E A := fun _ w hs h0 => ⟨z, hs.pick hE, hA w h0⟩

theorem C.loop {α : Type} {c : Code} (E' : α → Env) (A' : α → World → Prop) (μ : α → Nat) (z : α) (hE : Sub E (E' z)) (hA : ∀ w, A w → A' z w)
 (round : ∀ z, C P B c (.cut (fun a w => ∃ y, (μ y < μ z ∧ St n (E' y) a ∧ A' y w)) :: k) n (E' z) (A' z)) : C P B (.loop c) k n E A := by
 intro a w hs h0
 intro b kk cs
 have key : ∀ m z a w, μ z = m → St n (E' z) a → A' z w →
  ∃ e a' w', Ks P B k e a' w' ∧ Arrives P (lone (b.at a (.code c :: .inLoop c :: kk)) cs w) b kk cs e a' w' := by
  intro m
  induction m using Nat.strongRecOn with
  | _ m ih =>
    intro z a w hm hst hI
    obtain ⟨e, a₁, w₁, hq, harr⟩ := round z a w hst hI b (.inLoop c :: kk) cs
    cases e with
    | normal =>
      obtain ⟨y, hlt, hs1, hI₁⟩ := hq
      obtain ⟨e₂, a₂, w₂, hq₂, harr₂⟩ := ih (μ y) (hm ▸ hlt) y a₁ w₁ rfl hs1 hI₁
      exact ⟨e₂, a₂, w₂, hq₂, .of_steps (Steps.trans harr (.one step_inLoop)) harr₂⟩
    | exit id => exact ⟨_, a₁, w₁, hq, .pass (x := .inLoop c) rfl (fun _ _ => .inl (by simp)) harr⟩
    | goto l => exact ⟨_, a₁, w₁, hq, .pass (x := .inLoop c) rfl (fun _ _ => .inl (by simp)) harr⟩
    | ret => exact ⟨_, a₁, w₁, hq, .pass (x := .inLoop c) rfl (fun _ _ => .inl (by simp)) harr⟩
    | panic ch => exact ⟨_, a₁, w₁, hq, .pass (x := .inLoop c) rfl (fun _ _ => .inl (by simp)) harr⟩
    | outgrown => exact ⟨_, a₁, w₁, hq, .pass (x := .inLoop c) rfl (fun _ _ => .inl (by simp)) harr⟩
 obtain ⟨e, a', w', hq, harr⟩ := key _ z a w rfl (hs.sub hE) (hA w h0)
 exact ⟨e, a', w', hq, .of_steps (.one step_loop) harr⟩

theorem N.round {α : Type} {E' : α → Env} {A' : α → World → Prop} {m : Nat} {μ : α → Nat} (z : α) (hm : μ z < m) (hE : Sub E (E' z)) (hA : ∀ w, A w → A' z w) :
 N P B (.cut (fun a w => ∃ y, (μ y < m ∧ St n (E' y) a ∧ A' y w)) :: k) n E A := fun _ w hs h0 => ⟨z, hm, hs.sub hE, hA w h0⟩

/-! ### lists of operations -/

theorem L.nil {ops : Array Oper} (h : N P B k n E A) : L P B ops [] k n E A := fun a w hs hA => wpList_nil (h a w hs hA)
theorem L.nilc {ops : Array Oper} {y : Code} (h : C P B y k n E A) : L P B ops [] (.seq y :: k) n E A := fun a w hs hA => wpList_nil (show _ from h a w hs hA)

/-- Is the operation wanted? -/
def wantedE (ops : Array Oper) (E : Env) : Option (Nat × Bool) → Option Bool
 | none => some true
 | some (j, b) => match (ops[j]?).bind (·.dst) with
   | some d => match E.get d with
     | some (.bool t) => some (t == b)
     | some (.tuple _) => some false
     | _ => none
   | none => none

theorem wantedE_spec {ops : Array Oper} {o : Oper} {a : Act} {t : Bool} (hs : St n E a) (h : wantedE ops E o.guard = some t) : Region.wanted o (yielded ops a.tmps) = t := by
 unfold Region.wanted
 unfold wantedE at h
 cases hg : o.guard with
 | none => simp [hg] at h; simp [h]
 | some p =>
   obtain ⟨j, b⟩ := p
   simp only [hg] at h
   cases hd : (ops[j]?).bind (·.dst) with
   | none => simp [hd] at h
   | some d =>
     simp only [hd] at h
     cases hv : E.get d with
     | none => simp [hv] at h
     | some v =>
       simp only [hv] at h
       have h1 := hs.get d v hv
       cases v <;> simp at h
       ·rename_i q
        simp only [yielded, hd, Option.bind_some, h1]
        rw [← h]
        cases q <;> cases b <;> rfl
       ·subst h
        simp only [yielded, hd, Option.bind_some, h1]
        cases b <;> rfl

theorem L.skip {ops : Array Oper} {o : Oper} {rest : List Oper} {d : Nat} (hd : o.dst = some d) (hn : Nat.blt d n = true) (hw : wantedE ops E o.guard = some false)
 (h : L P B ops rest k n ((d, undef) :: E) A) : L P B ops (o :: rest) k n E A := fun a w hs hA =>
 wpList_skip (wantedE_spec hs hw) (by rw [hd]; exact h _ w (hs.put hn undef) hA)

theorem L.skip0 {ops : Array Oper} {o : Oper} {rest : List Oper} (hd : o.dst = none) (hw : wantedE ops E o.guard = some false)
 (h : L P B ops rest k n E A) : L P B ops (o :: rest) k n E A := fun a w hs hA =>
 wpList_skip (wantedE_spec hs hw) (by rw [hd]; exact h _ w hs hA)

theorem wpList_on {ops : Array Oper} {o : Oper} {rest : List Oper} {Q : Exit → Act → World → Prop} {a : Act} {w : World} (hw : Region.wanted o (yielded ops a.tmps) = true)
 (h : o.wp P a w (wpList P ops Q rest) Q) : wpList P ops Q (o :: rest) a w := by
 unfold wpList; rw [if_pos hw]; exact .inl h

/-- An operation that yields a value. -/
theorem L.val {ops : Array Oper} {o : Oper} {rest : List Oper} {d : Nat} {v : Value} (A' : World → Prop) (hd : o.dst = some d) (hn : Nat.blt d n = true) (hw : wantedE ops E o.guard = some true)
 (hop : ∀ a w, St n E a → A w → ∃ w', (execOp a.eval o).run P w = .ok (.value v) w' ∧ A' w')
 (h : L P B ops rest k n ((d, v) :: E) A') : L P B ops (o :: rest) k n E A := fun a w hs hA => by
 obtain ⟨w', hr, hA'⟩ := hop a w hs hA
 refine wpList_on (wantedE_spec hs hw) ?_
 unfold Oper.wp
 rw [hr, Oper.upon_value, hd]
 exact h _ w' (hs.put hn v) hA'

theorem L.val0 {ops : Array Oper} {o : Oper} {rest : List Oper} (A' : World → Prop) (hd : o.dst = none) (hw : wantedE ops E o.guard = some true)
 (hop : ∀ a w, St n E a → A w → ∃ w' v, (execOp a.eval o).run P w = .ok (.value v) w' ∧ A' w')
 (h : L P B ops rest k n E A') : L P B ops (o :: rest) k n E A := fun a w hs hA => by
 obtain ⟨w', v, hr, hA'⟩ := hop a w hs hA
 refine wpList_on (wantedE_spec hs hw) ?_
 unfold Oper.wp
 rw [hr, Oper.upon_value, hd]
 exact h _ w' hs hA'

/-- An operation that yields nothing. -/
theorem L.eff {ops : Array Oper} {o : Oper} {rest : List Oper} (A' : World → Prop) (hd : o.dst = none) (hw : wantedE ops E o.guard = some true)
 (hop : ∀ a w, St n E a → A w → ∃ w', (execOp a.eval o).run P w = .ok .skip w' ∧ A' w')
 (h : L P B ops rest k n E A') : L P B ops (o :: rest) k n E A := fun a w hs hA => by
 obtain ⟨w', hr, hA'⟩ := hop a w hs hA
 refine wpList_on (wantedE_spec hs hw) ?_
 unfold Oper.wp
 rw [hr, Oper.upon_skip, hd]
 exact h _ w' hs hA'

theorem L.ex {α : Type} {ops : Array Oper} {l : List Oper} {A : α → World → Prop} (h : ∀ z, L P B ops l k n E (A z)) : L P B ops l k n E (fun w => ∃ z, A z w) := fun a w hs ⟨z, h0⟩ => h z a w hs h0
theorem L.pure {ops : Array Oper} {l : List Oper} {p : Prop} {A : World → Prop} (h : p → L P B ops l k n E A) : L P B ops l k n E (fun w => p ∧ A w) := fun a w hs ⟨hp, h0⟩ => h hp a w hs h0
theorem L.cons {ops : Array Oper} {l : List Oper} {A' : World → Prop} (hA : ∀ w, A w → A' w) (h : L P B ops l k n E A') : L P B ops l k n E A := fun a w hs h0 => h a w hs (hA w h0)
theorem L.keep {ops : Array Oper} {l : List Oper} {ts : List Nat} {E' : Env} (p : Pick E ts E') (h : L P B ops l k n E' A) : L P B ops l k n E A := fun a w hs hA => h a w (hs.pick p) hA
end

/-! ### a function's begin and end -/

def Env.ofArgs : Nat → List Value → Env
 | _, [] => []
 | i, v :: vs => (i, v) :: Env.ofArgs (i + 1) vs

theorem Env.ofArgs_get : ∀ (vs : List Value) (i t : Nat) (v : Value), (Env.ofArgs i vs).get t = some v → i ≤ t ∧ vs[t - i]? = some v
 | [], i, t, v, h => by simp [Env.ofArgs, Env.get] at h
 | u :: vs, i, t, v, h => by
   simp only [Env.ofArgs, Env.get] at h
   cases hb : Nat.beq i t with
   | true =>
     have e : i = t := Nat.eq_of_beq_eq_true hb
     simp only [hb, cond_true, Option.some.injEq] at h
     subst e h; simp
   | false =>
     have e : i ≠ t := Nat.ne_of_beq_eq_false hb
     simp only [hb, cond_false] at h
     obtain ⟨h1, h2⟩ := Env.ofArgs_get vs (i + 1) t v h
     refine ⟨by omega, ?_⟩
     have : t - i = (t - (i + 1)) + 1 := by omega
     rw [this, List.getElem?_cons_succ]; exact h2

theorem enter {P : Program} {f m : Nat} {fn : Func} {c : Code} {args : List Value} {w : World} {R : Ending → World → Prop} {E : Env}
 (hf : P.funcs[f]? = some fn) (hb : fn.body = some c) (hm : fn.ntmps = m) (hn : Nat.ble args.length m = true) (hE : Env.ofArgs 0 args = E)
 (h : C P (bodyPost P fn R) c [] m E (fun w' => w' = w)) : Calls P f args.toArray w R := by
 subst hm
 refine calls_of_wp hf hb (h _ w ⟨?_, rfl, fun t v ht => ?_⟩ rfl)
 ·have := Nat.le_of_ble_eq_true hn
  simp only [Array.size_append, Array.size_replicate, List.size_toArray]; omega
 ·subst hE
  obtain ⟨_, h2⟩ := Env.ofArgs_get args 0 t v ht
  have hlt : t < args.length := by
   rcases Nat.lt_or_ge t args.length with h | h
   ·exact h
   ·rw [Nat.sub_zero, List.getElem?_eq_none h] at h2; cases h2
  rw [Array.getElem?_append_left (by simpa using hlt)]
  simpa using h2

/-- .. with what is known of the world. -/
theorem enterA {P : Program} {f m : Nat} {fn : Func} {c : Code} {args : List Value} {w : World} {R : Ending → World → Prop} {E : Env} {A : World → Prop} (hA : A w)
 (hf : P.funcs[f]? = some fn) (hb : fn.body = some c) (hm : fn.ntmps = m) (hn : Nat.ble args.length m = true) (hE : Env.ofArgs 0 args = E)
 (h : C P (bodyPost P fn R) c [] m E A) : Calls P f args.toArray w R :=
 enter hf hb hm hn hE (C.cons (fun w' e => e ▸ hA) h)

section
variable {P : Program} {fn : Func} {R : Ending → World → Prop} {n : Nat} {E : Env} {A : World → Prop} {k : List Fr}

theorem St.getD {a : Act} (h : St n E a) {t : Nat} {v : Value} (ht : E.get t = some v) : a.tmps.getD t undef = v := by simp [Array.getD_eq_getD_getElem?, h.get t v ht]

theorem R.ret0 (hr : fn.results = #[]) (h : ∀ w, A w → R (.returned (.tuple #[])) w) : C P (bodyPost P fn R) .ret k n E A :=
 C.ret fun _ w hs hA => ⟨hs.defers, _, by simp [results, hr], h w hA⟩
theorem R.fall0 (hr : fn.results = #[]) (h : ∀ w, A w → R (.returned (.tuple #[])) w) : N P (bodyPost P fn R) [] n E A :=
 N.nil fun _ w hs hA => ⟨hs.defers, _, by simp [results, hr], h w hA⟩
theorem R.ret1 {t : Nat} {v : Value} (hr : fn.results = #[.tmp t]) (h1 : E.get t = some v) (h : ∀ w, A w → R (.returned v) w) : C P (bodyPost P fn R) .ret k n E A :=
 C.ret fun a w hs hA => ⟨hs.defers, _, (results_tmp hr a.tmps P w), by rw [hs.getD h1]; exact h w hA⟩
theorem R.fall1 {t : Nat} {v : Value} (hr : fn.results = #[.tmp t]) (h1 : E.get t = some v) (h : ∀ w, A w → R (.returned v) w) : N P (bodyPost P fn R) [] n E A :=
 N.nil fun a w hs hA => ⟨hs.defers, _, (results_tmp hr a.tmps P w), by rw [hs.getD h1]; exact h w hA⟩
theorem R.ret2 {t u : Nat} {v1 v2 : Value} (hr : fn.results = #[.tmp t, .tmp u]) (h1 : E.get t = some v1) (h2 : E.get u = some v2) (h : ∀ w, A w → R (.returned (.tuple #[v1, v2])) w) : C P (bodyPost P fn R) .ret k n E A :=
 C.ret fun a w hs hA => ⟨hs.defers, _, (results_tmp2 hr a.tmps P w), by rw [hs.getD h1, hs.getD h2]; exact h w hA⟩
theorem R.ret3 {t u s : Nat} {v1 v2 v3 : Value} (hr : fn.results = #[.tmp t, .tmp u, .tmp s]) (h1 : E.get t = some v1) (h2 : E.get u = some v2) (h3 : E.get s = some v3) (h : ∀ w, A w → R (.returned (.tuple #[v1, v2, v3])) w) : C P (bodyPost P fn R) .ret k n E A :=
 C.ret fun a w hs hA => ⟨hs.defers, .tuple #[a.tmps.getD t undef, a.tmps.getD u undef, a.tmps.getD s undef], by simp [results, hr], by rw [hs.getD h1, hs.getD h2, hs.getD h3]; exact h w hA⟩
/-- The one result lies in memory, at the address that slot q holds. -/
theorem R.retc {q ty : Nat} {ad : Addr} {v : Value} (hr : fn.results = #[.cell q ty]) (h1 : E.get q = some (.pointer (some ad)))
 (hl : ∀ w, A w → (loadVar ty ad).run P w = .ok v w) (h : ∀ w, A w → R (.returned v) w) : C P (bodyPost P fn R) .ret k n E A :=
 C.ret fun a w hs hA => ⟨hs.defers, v, by
  have h2 := hl w hA
  simp [results, hr, hs.get q _ h1, asAddr, h2], h w hA⟩
end
end Go.Tk

namespace Go.Tk

abbrev Store := Nat → Option Obj
abbrev Heap := List (Nat × Obj)

def Store.le (S S' : Store) : Prop := ∀ b o, S b = some o → S' b = some o
theorem Store.le.refl (S : Store) : S.le S := fun _ _ h => h
theorem Store.le.trans {S S' S'' : Store} (h : S.le S') (h' : S'.le S'') : S.le S'' := fun b o hb => h' b o (h b o hb)

/-- What the world is: since w0 nothing has changed but what F names; the blocks of S stand as S tells, those of H as H tells. -/
structure Hp (w0 : World) (F : Nat → Prop) (S : Store) (H : Heap) (w : World) : Prop where
 os : w.os = w0.os
 tape : w.tape = w0.tape
 output : w.output = w0.output
 size : w0.heap.size ≤ w.heap.size
 frame : ∀ b, b < w0.heap.size → ¬ F b → w.heap[b]? = w0.heap[b]?
 imm : ∀ b o, S b = some o → w.heap[b]? = some o
 own : ∀ p ∈ H, w.heap[p.1]? = some p.2
 nd : H.Pairwise (fun p q => p.1 ≠ q.1)
 sep : ∀ p ∈ H, S p.1 = none ∧ (w0.heap.size ≤ p.1 ∨ F p.1)

theorem lt_of_heap {w : World} {b : Nat} {o : Obj} (h : w.heap[b]? = some o) : b < w.heap.size := by
 rcases Nat.lt_or_ge b w.heap.size with h' | h'
 ·exact h'
 ·rw [Array.getElem?_eq_none h'] at h; cases h

inductive At (S : Store) (b : Nat) (o : Obj) : Heap → Prop
 | imm {H : Heap} (h : S b = some o) : At S b o H
 | head {H : Heap} : At S b o ((b, o) :: H)
 | tail {p : Nat × Obj} {H : Heap} (h : At S b o H) : At S b o (p :: H)
 | apr {l H : Heap} (h : At S b o H) : At S b o (l ++ H)
 | apl {l H : Heap} (h : At S b o l) : At S b o (l ++ H)

theorem At.mem {S : Store} {b : Nat} {o : Obj} {H : Heap} (h : At S b o H) : S b = some o ∨ (b, o) ∈ H := by
 induction h with
 | imm h => exact .inl h
 | head => exact .inr (List.mem_cons_self ..)
 | tail _ ih => exact ih.imp id (List.mem_cons_of_mem _)
 | apr _ ih => exact ih.imp id (fun h => List.mem_append.2 (.inr h))
 | apl _ ih => exact ih.imp id (fun h => List.mem_append.2 (.inl h))

/-- One block of H becomes another one. -/
inductive Upd (b : Nat) (o o' : Obj) : Heap → Heap → Prop
 | head {H : Heap} : Upd b o o' ((b, o) :: H) ((b, o') :: H)
 | tail {p : Nat × Obj} {H H' : Heap} (h : Upd b o o' H H') : Upd b o o' (p :: H) (p :: H')
 | apr {l H H' : Heap} (h : Upd b o o' H H') : Upd b o o' (l ++ H) (l ++ H')
 | apl {l H H' : Heap} (h : Upd b o o' H H') : Upd b o o' (H ++ l) (H' ++ l)

theorem Upd.spec {b : Nat} {o o' : Obj} {H H' : Heap} (h : Upd b o o' H H') : ∃ l r, H = l ++ (b, o) :: r ∧ H' = l ++ (b, o') :: r := by
 induction h with
 | head => exact ⟨[], _, rfl, rfl⟩
 | tail _ ih => obtain ⟨l, r, rfl, rfl⟩ := ih; exact ⟨_ :: l, r, rfl, rfl⟩
 | apr _ ih => rename_i l' _ _ _; obtain ⟨l, r, rfl, rfl⟩ := ih; exact ⟨l' ++ l, r, by simp, by simp⟩
 | apl _ ih => rename_i l' _ _ _; obtain ⟨l, r, rfl, rfl⟩ := ih; exact ⟨l, r ++ l', by simp, by simp⟩

theorem Upd.mem {b : Nat} {o o' : Obj} {H H' : Heap} (h : Upd b o o' H H') : (b, o) ∈ H := by
 obtain ⟨l, r, rfl, _⟩ := h.spec
 exact List.mem_append.2 (.inr (List.mem_cons_self ..))

/-- A part of H, and the rest. -/
inductive Take (fp : Heap) : Heap → Heap → Prop
 | done {Hr : Heap} : Take fp (fp ++ Hr) Hr
 | all : Take fp fp []
 | skip {p : Nat × Obj} {H Hr : Heap} (h : Take fp H Hr) : Take fp (p :: H) (p :: Hr)
 | skipl {l H Hr : Heap} (h : Take fp H Hr) : Take fp (l ++ H) (l ++ Hr)

theorem Take.perm {fp H Hr : Heap} (h : Take fp H Hr) : H.Perm (fp ++ Hr) := by
 induction h with
 | done => exact .refl _
 | all => simp
 | skip _ ih => exact (ih.cons _).trans (List.perm_middle.symm)
 | skipl _ ih => rename_i l H Hr _; exact (ih.append_left l).trans (by rw [← List.append_assoc, ← List.append_assoc]; exact (List.perm_append_comm).append_right _)

section
variable {w0 : World} {F : Nat → Prop} {S : Store} {H : Heap} {w : World}

theorem Hp.at (h : Hp w0 F S H w) {b : Nat} {o : Obj} (ha : At S b o H) : w.heap[b]? = some o := by
 rcases ha.mem with h1 | h1
 ·exact h.imm b o h1
 ·exact h.own _ h1

theorem Hp.perm {H' : Heap} (h : Hp w0 F S H w) (p : H.Perm H') : Hp w0 F S H' w :=
 { h with own := fun q hq => h.own q (p.mem_iff.2 hq), nd := (p.pairwise_iff (fun hab => Ne.symm hab)).1 h.nd, sep := fun q hq => h.sep q (p.mem_iff.2 hq) }

theorem Hp.take {fp Hr : Heap} (h : Hp w0 F S H w) (t : Take fp H Hr) : Hp w0 F S (fp ++ Hr) w := h.perm t.perm

/-- Blocks that nobody needs any more. -/
theorem Hp.sub {H' : Heap} (h : Hp w0 F S H w) (s : H'.Sublist H) : Hp w0 F S H' w :=
 { h with own := fun q hq => h.own q (s.subset hq), nd := h.nd.sublist s, sep := fun q hq => h.sep q (s.subset hq) }

theorem Hp.drop {p : Nat × Obj} (h : Hp w0 F S (p :: H) w) : Hp w0 F S H w := h.sub (List.sublist_cons_self ..)
theorem Hp.dropl {l : Heap} (h : Hp w0 F S (l ++ H) w) : Hp w0 F S H w := h.sub (List.sublist_append_right ..)

theorem Hp.fresh (h : Hp w0 F S H w) : S w.heap.size = none ∧ ∀ p ∈ H, p.1 ≠ w.heap.size := by
 constructor
 ·cases hs : S w.heap.size with
  | none => rfl
  | some o => have := lt_of_heap (h.imm _ _ hs); omega
 ·intro p hp e
  have := lt_of_heap (h.own p hp); omega

theorem Hp.alloc (h : Hp w0 F S H w) (o : Obj) : Hp w0 F S ((w.heap.size, o) :: H) { w with heap := w.heap.push o } := by
 obtain ⟨f1, f2⟩ := h.fresh
 have keep : ∀ b, b < w.heap.size → (w.heap.push o)[b]? = w.heap[b]? := fun b hb => by rw [Array.getElem?_push, if_neg (by omega)]
 refine ⟨h.os, h.tape, h.output, ?_, fun b hb hF => ?_, fun b o' hb => ?_, fun p hp => ?_, ?_, fun p hp => ?_⟩
 ·have := h.size; show _ ≤ (w.heap.push o).size; rw [Array.size_push]; omega
 ·have := h.size; show (w.heap.push o)[b]? = _; rw [keep b (by omega)]; exact h.frame b hb hF
 ·have h1 := h.imm b o' hb; show (w.heap.push o)[b]? = _; rw [keep b (lt_of_heap h1)]; exact h1
 ·show (w.heap.push o)[p.1]? = _
  rcases List.mem_cons.1 hp with rfl | hp
  ·simp
  ·have h1 := h.own p hp; rw [keep _ (lt_of_heap h1)]; exact h1
 ·exact List.pairwise_cons.2 ⟨fun p hp => (f2 p hp).symm, h.nd⟩
 ·rcases List.mem_cons.1 hp with rfl | hp
  ·exact ⟨f1, .inl h.size⟩
  ·exact h.sep p hp

theorem Hp.upd {b : Nat} {o o' : Obj} {H' : Heap} (h : Hp w0 F S H w) (u : Upd b o o' H H') {w' : World} (hos : w'.os = w.os) (ht : w'.tape = w.tape) (hou : w'.output = w.output)
 (hsz : w'.heap.size = w.heap.size) (hb : w'.heap[b]? = some o') (hne : ∀ c, c ≠ b → w'.heap[c]? = w.heap[c]?) : Hp w0 F S H' w' := by
 obtain ⟨l, r, rfl, rfl⟩ := u.spec
 have hmem : (b, o) ∈ l ++ (b, o) :: r := by simp
 obtain ⟨s1, s2⟩ := h.sep _ hmem
 have hnd := h.nd
 rw [List.pairwise_append, List.pairwise_cons] at hnd
 obtain ⟨n1, ⟨n2, n3⟩, n4⟩ := hnd
 have hpw : (l ++ (b, o') :: r).Pairwise (fun p q => p.1 ≠ q.1) := by
  rw [List.pairwise_append, List.pairwise_cons]
  refine ⟨n1, ⟨fun q hq => n2 q hq, n3⟩, fun p hp q hq => ?_⟩
  rcases List.mem_cons.1 hq with rfl | hq
  ·exact n4 p hp (b, o) (List.mem_cons_self ..)
  ·exact n4 p hp q (List.mem_cons_of_mem _ hq)
 refine ⟨hos.trans h.os, ht.trans h.tape, hou.trans h.output, by rw [hsz]; exact h.size, fun c hc hF => ?_, fun c o1 hc => ?_, fun p hp => ?_, hpw, fun p hp => ?_⟩
 ·rw [hne c (fun e => by subst e; exact s2.elim (fun s2 => absurd s2 (Nat.not_le.2 hc)) hF)]; exact h.frame c hc hF
 ·rw [hne c (fun e => by subst e; rw [s1] at hc; cases hc)]; exact h.imm c o1 hc
 ·rcases List.mem_append.1 hp with hp | hp
  ·rw [hne _ (n4 p hp (b, o) (List.mem_cons_self ..))]; exact h.own p (List.mem_append.2 (.inl hp))
  ·rcases List.mem_cons.1 hp with rfl | hp
   ·exact hb
   ·rw [hne _ (n2 p hp).symm]; exact h.own p (List.mem_append.2 (.inr (List.mem_cons_of_mem _ hp)))
 ·rcases List.mem_append.1 hp with hp | hp
  ·exact h.sep p (List.mem_append.2 (.inl hp))
  ·rcases List.mem_cons.1 hp with rfl | hp
   ·exact ⟨s1, s2⟩
   ·exact h.sep p (List.mem_append.2 (.inr (List.mem_cons_of_mem _ hp)))

/-- A world that differs in the count of draws alone. -/
theorem Hp.drawn (h : Hp w0 F S H w) (d : Nat) : Hp w0 F S H { w with drawn := d } := ⟨h.os, h.tape, h.output, h.size, h.frame, h.imm, h.own, h.nd, h.sep⟩

def Store.add (S : Store) (b : Nat) (o : Obj) : Store := fun c => if c = b then some o else S c
theorem Store.add_le {S : Store} {b : Nat} (o : Obj) (h : S b = none) : S.le (S.add b o) := fun c o' hc => by
 unfold Store.add
 rw [if_neg (fun e => by subst e; rw [h] at hc; cases hc)]; exact hc
theorem Store.add_self (S : Store) (b : Nat) (o : Obj) : S.add b o b = some o := by simp [Store.add]

/-- An own block is never changed again. -/
theorem Hp.shut {b : Nat} {o : Obj} (h : Hp w0 F S ((b, o) :: H) w) : Hp w0 F (S.add b o) H w ∧ S.le (S.add b o) := by
 have hn := (h.sep (b, o) (List.mem_cons_self ..)).1
 refine ⟨⟨h.os, h.tape, h.output, h.size, h.frame, fun c o' hc => ?_, fun p hp => h.own p (List.mem_cons_of_mem _ hp), (List.pairwise_cons.1 h.nd).2, fun p hp => ?_⟩, Store.add_le o hn⟩
 ·unfold Store.add at hc
  split at hc
  ·rename_i e; subst e; simp only [Option.some.injEq] at hc; subst hc; exact h.own _ (List.mem_cons_self ..)
  ·exact h.imm c o' hc
 ·obtain ⟨h1, h2⟩ := h.sep p (List.mem_cons_of_mem _ hp)
  refine ⟨?_, h2⟩
  unfold Store.add
  rw [if_neg (fun e => (List.pairwise_cons.1 h.nd).1 p hp e.symm)]; exact h1

/-- The other way round: only S's word on that block is given up. -/
theorem Hp.less {S' : Store} (h : Hp w0 F S H w) (hs : S'.le S) : Hp w0 F S' H w :=
 { h with imm := fun b o hb => h.imm b o (hs b o hb), sep := fun p hp => ⟨(by
  cases hb : S' p.1 with
  | none => rfl
  | some o => exact absurd (hs _ _ hb) (by rw [(h.sep p hp).1]; exact fun e => nomatch e)), (h.sep p hp).2⟩ }
end

/-! ### the laws of memory, as the model runs them -/

theorem cell_at {w : World} {b off : Nat} {cs : Array Value} {T : TypeId} {fz : Nat × Nat} (h : w.heap[b]? = some (.cells cs T fz)) : w.cell? ⟨b, off, none⟩ = cs[off]? := by
 simp [World.cell?, h]

theorem frozen_at {w : World} {b off : Nat} {cs : Array Value} {T : TypeId} {lo hi : Nat} (h : w.heap[b]? = some (.cells cs T (lo, hi))) : w.frozen? ⟨b, off, none⟩ = (decide (lo ≤ off) && decide (off < hi)) := by
 simp [World.frozen?, h]

theorem run_load_at {P : Program} {w : World} {a : Addr} {v : Value} {m : Mode} (h : w.cell? a = some v) : (load a m).run P w = .ok v w := by
 simp [load, Sem.run, h]

theorem add_at (b off n : Nat) : Addr.add ⟨b, off, none⟩ n = ⟨b, off + n, none⟩ := by
 unfold Addr.add; split
 ·rename_i h; subst h; rfl
 ·rfl

theorem run_loadCellsFrom {P : Program} {w : World} {b off : Nat} {cs : Array Value} {T : TypeId} {fz : Nat × Nat} (h : w.heap[b]? = some (.cells cs T fz)) :
 ∀ (m i : Nat) (acc : Array Value), off + i + m ≤ cs.size → (loadCellsFrom ⟨b, off, none⟩ i m acc).run P w = .ok (acc ++ cs.extract (off + i) (off + i + m)) w
 | 0, i, acc, _ => by simp only [loadCellsFrom, Sem.run_pure]; congr 1; apply Array.ext'; simp
 | m + 1, i, acc, hle => by
   have hlt : off + i < cs.size := by omega
   have hc : w.cell? (Addr.add ⟨b, off, none⟩ i) = some cs[off + i] := by rw [add_at, cell_at h]; simp [hlt]
   have ih := run_loadCellsFrom (P := P) (off := off) h m (i + 1) (acc.push cs[off + i]) (by omega)
   simp only [loadCellsFrom, Sem.run_bind, run_load_at hc, Result.andThen_ok]
   rw [ih]
   congr 1
   apply Array.ext'
   simp only [Array.toList_append, Array.toList_push, List.append_assoc, Array.toList_extract, List.extract_eq_take_drop]
   congr 1
   have e1 : off + (i + 1) = off + i + 1 := by omega
   rw [e1, show off + i + 1 + m - (off + i + 1) = m from by omega, show off + i + (m + 1) - (off + i) = m + 1 from by omega]
   rw [show List.drop (off + i) cs.toList = cs[off + i] :: List.drop (off + i + 1) cs.toList from by rw [List.drop_eq_getElem_cons (by simpa using hlt)]; simp, List.take_succ_cons]
   simp

theorem run_loadCells {P : Program} {w : World} {b off m : Nat} {cs : Array Value} {T : TypeId} {fz : Nat × Nat} (h : w.heap[b]? = some (.cells cs T fz)) (hle : off + m ≤ cs.size) :
 (loadCells ⟨b, off, none⟩ m).run P w = .ok (cs.extract off (off + m)) w := by
 have := run_loadCellsFrom (P := P) (off := off) h m 0 #[] (by omega)
 simpa [loadCells] using this

theorem run_loadVar1 {P : Program} {w : World} {T : TypeId} {a : Addr} {v : Value} (hg : ∀ w, (isAgg T).run P w = .ok false w) (h : w.cell? a = some v) : (loadVar T a).run P w = .ok v w := by
 simp only [loadVar, Sem.run_bind, hg, Result.andThen_ok]
 exact run_load_at h

theorem run_loadVarN {P : Program} {w : World} {T : TypeId} {b off m : Nat} {cs : Array Value} {Te : TypeId} {fz : Nat × Nat} (hg : ∀ w, (isAgg T).run P w = .ok true w) (hs : ∀ w, (sizeOf T).run P w = .ok m w)
 (h : w.heap[b]? = some (.cells cs Te fz)) (hle : off + m ≤ cs.size) : (loadVar T ⟨b, off, none⟩).run P w = .ok (.agg (cs.extract off (off + m))) w := by
 simp only [loadVar, Sem.run_bind, hg, Result.andThen_ok, if_true, hs, run_loadCells h hle, Sem.run_pure]

end Go.Tk

set_option linter.unusedSimpArgs false
set_option linter.unusedVariables false
namespace Go.Tk

section
variable {P : Program} {B : Exit → Act → World → Prop} {k : List Fr} {n : Nat} {E : Env} {A : World → Prop} {ops : Array Oper} {rest : List Oper}
 {d ty : Nat} {dd : Option Tmp} {pos : String} {aft : Array Edge} {g : Option (Nat × Bool)}

/-- An operation that leaves the world alone, and its value. -/
def V (P : Program) (n : Nat) (E : Env) (A : World → Prop) (o : Oper) (v : Value) : Prop := ∀ a w, St n E a → A w → (execOp a.eval o).run P w = .ok (.value v) w

theorem L.v {o : Oper} {v : Value} (hd : o.dst = some d) (hn : Nat.blt d n = true) (hw : wantedE ops E o.guard = some true) (hV : V P n E A o v) (h : L P B ops rest k n ((d, v) :: E) A) : L P B ops (o :: rest) k n E A :=
 L.val A hd hn hw (fun a w hs hA => ⟨w, hV a w hs hA, hA⟩) h
theorem L.v0 {o : Oper} {v : Value} (hd : o.dst = none) (hw : wantedE ops E o.guard = some true) (hV : V P n E A o v) (h : L P B ops rest k n E A) : L P B ops (o :: rest) k n E A :=
 L.val0 A hd hw (fun a w hs hA => ⟨w, v, hV a w hs hA, hA⟩) h

theorem V.move {x : Operand} {v : Value} (hx : E.ev x = some v) : V P n E A ⟨dd, .move x, ty, pos, aft, g⟩ (v) := (fun a w hs _ => by simp only [execOp, hs.ev hx, Sem.run_pure])
theorem V.assign {x : Operand} {v : Value} (hx : E.ev x = some v) : V P n E A ⟨dd, .assign x, ty, pos, aft, g⟩ (v) := (fun a w hs _ => by simp only [execOp, hs.ev hx, Sem.run_pure])
theorem V.extract {x : Operand} {i : Nat} {vs : Array Value} {v : Value} (hx : E.ev x = some (.tuple vs)) (hv : vs[i]? = some v) : V P n E A ⟨dd, .extract x i, ty, pos, aft, g⟩ (v) := (fun a w hs _ => by simp only [execOp, hs.ev hx, Instr.extract, hv, Sem.run_bind, Sem.run_pure, Result.andThen_ok])
theorem V.pick {c x y : Operand} {t : Bool} {v u : Value} (hc : E.ev c = some (.bool t)) (hx : E.ev x = some v) (hy : E.ev y = some u) : V P n E A ⟨dd, .pick c x y, ty, pos, aft, g⟩ (if t then v else u) :=
 (fun a w hs _ => by simp [execOp, hs.ev hc, hs.ev hx, hs.ev hy, asBool])
theorem V.pickT {c x y : Operand} {v : Value} (hc : E.ev c = some (.bool true)) (hx : E.ev x = some v) : V P n E A ⟨dd, .pick c x y, ty, pos, aft, g⟩ v :=
 (fun a w hs _ => by simp [execOp, hs.ev hc, hs.ev hx, asBool])
theorem V.pickF {c x y : Operand} {u : Value} (hc : E.ev c = some (.bool false)) (hy : E.ev y = some u) : V P n E A ⟨dd, .pick c x y, ty, pos, aft, g⟩ u :=
 (fun a w hs _ => by simp [execOp, hs.ev hc, hs.ev hy, asBool])

theorem St.know {a : Act} (hs : St n E a) {d : Nat} {v : Value} (hv : E.get d = some v) : St n ((d, v) :: E) a :=
 ⟨hs.size, hs.defers, fun t u ht => by
  simp only [Env.get] at ht
  cases hb : Nat.beq d t with
  | true =>
    have e : d = t := Nat.eq_of_beq_eq_true hb
    simp only [hb, cond_true, Option.some.injEq] at ht
    subst e ht; exact hs.get _ _ hv
  | false => simp only [hb, cond_false] at ht; exact hs.get _ _ ht⟩

/-- A test's two ways. -/
theorem L.fork {d : Nat} {t : Bool} {l : List Oper} (hv : E.get d = some (.bool t)) (h1 : t = true → L P B ops l k n ((d, .bool true) :: E) A) (h2 : t = false → L P B ops l k n ((d, .bool false) :: E) A) : L P B ops l k n E A :=
 fun a w hs hA => by
  cases t
  ·exact h2 rfl a w (hs.know hv) hA
  ·exact h1 rfl a w (hs.know hv) hA
/-- A slot's value in another spelling. -/
theorem L.know {d : Nat} {v u : Value} {l : List Oper} (hv : E.get d = some v) (e : v = u) (h : L P B ops l k n ((d, u) :: E) A) : L P B ops l k n E A :=
 fun a w hs hA => h a w (hs.know (e ▸ hv)) hA
theorem C.know {d : Nat} {v u : Value} {c : Code} (hv : E.get d = some v) (e : v = u) (h : C P B c k n ((d, u) :: E) A) : C P B c k n E A :=
 fun a w hs hA => h a w (hs.know (e ▸ hv)) hA
theorem C.fork {d : Nat} {t : Bool} {c : Code} (hv : E.get d = some (.bool t)) (h1 : t = true → C P B c k n ((d, .bool true) :: E) A) (h2 : t = false → C P B c k n ((d, .bool false) :: E) A) : C P B c k n E A :=
 fun a w hs hA => by
  cases t
  ·exact h2 rfl a w (hs.know hv) hA
  ·exact h1 rfl a w (hs.know hv) hA

theorem equal_of_in {T : TypeId} {x y : Value} {r : Bool} {w : World} (h : ∀ d, (Op.equalIn (d + 1) T x y).run P w = .ok r w) : (Op.equal T x y).run P w = .ok r w := h 9999

theorem V.eqlPtr {T U e : TypeId} {x y : Operand} {p : Option Addr} (hx : E.ev x = some (.pointer p)) (hy : E.ev y = some (.pointer none)) (hT : P.underlying T = some (.pointer e)) : V P n E A ⟨dd, .binOp .eql T x y U, ty, pos, aft, g⟩ (.bool p.isNone) :=
 (fun a w hs _ => by
   have : (Op.equal T (.pointer p) (.pointer none)).run P w = .ok p.isNone w := equal_of_in (fun d => by
    cases p <;> simp [Op.equalIn, run_underlying hT])
   simp only [execOp, hs.ev hx, hs.ev hy, eqGuard_at_pointer, Sem.run_bind, Sem.run_pure, Result.andThen_ok, binOp, this])
theorem V.neqPtr {T U e : TypeId} {x y : Operand} {p : Option Addr} (hx : E.ev x = some (.pointer p)) (hy : E.ev y = some (.pointer none)) (hT : P.underlying T = some (.pointer e)) : V P n E A ⟨dd, .binOp .neq T x y U, ty, pos, aft, g⟩ (.bool p.isSome) :=
 (fun a w hs _ => by
   have : (Op.equal T (.pointer p) (.pointer none)).run P w = .ok p.isNone w := equal_of_in (fun d => by
    cases p <;> simp [Op.equalIn, run_underlying hT])
   simp only [execOp, hs.ev hx, hs.ev hy, eqGuard_at_pointer, Sem.run_bind, Sem.run_pure, Result.andThen_ok, binOp, this]
   cases p <;> rfl)
theorem V.eqlNil {T U e : TypeId} {x y : Operand} {p : Option Addr} {m c : Nat} (hx : E.ev x = some (.slice p m c)) (hy : E.ev y = some (.slice none 0 0)) (hT : P.underlying T = some (.slice e)) : V P n E A ⟨dd, .binOp .eql T x y U, ty, pos, aft, g⟩ (.bool p.isNone) :=
 (fun a w hs _ => by
   have : (Op.equal T (.slice p m c) (.slice none 0 0)).run P w = .ok p.isNone w := equal_of_in (fun d => by
    cases p <;> simp [Op.equalIn, run_underlying hT])
   simp only [execOp, hs.ev hx, hs.ev hy, eqGuard_at_slice, Sem.run_bind, Sem.run_pure, Result.andThen_ok, binOp, this])
theorem V.neqNil {T U e : TypeId} {x y : Operand} {p : Option Addr} {m c : Nat} (hx : E.ev x = some (.slice p m c)) (hy : E.ev y = some (.slice none 0 0)) (hT : P.underlying T = some (.slice e)) : V P n E A ⟨dd, .binOp .neq T x y U, ty, pos, aft, g⟩ (.bool p.isSome) :=
 (fun a w hs _ => by
   have : (Op.equal T (.slice p m c) (.slice none 0 0)).run P w = .ok p.isNone w := equal_of_in (fun d => by
    cases p <;> simp [Op.equalIn, run_underlying hT])
   simp only [execOp, hs.ev hx, hs.ev hy, eqGuard_at_slice, Sem.run_bind, Sem.run_pure, Result.andThen_ok, binOp, this]
   cases p <;> rfl)
theorem V.eqlBool {T U : TypeId} {x y : Operand} {p q : Bool} (hx : E.ev x = some (.bool p)) (hy : E.ev y = some (.bool q)) (hT : P.underlying T = some .bool) : V P n E A ⟨dd, .binOp .eql T x y U, ty, pos, aft, g⟩ (.bool (p == q)) :=
 (fun a w hs _ => by
   have : (Op.equal T (.bool p) (.bool q)).run P w = .ok (p == q) w := equal_of_in (fun d => by simp [Op.equalIn, run_underlying hT])
   simp only [execOp, hs.ev hx, hs.ev hy, eqGuard_at_bool, Sem.run_bind, Sem.run_pure, Result.andThen_ok, binOp, this])
theorem V.neqBool {T U : TypeId} {x y : Operand} {p q : Bool} (hx : E.ev x = some (.bool p)) (hy : E.ev y = some (.bool q)) (hT : P.underlying T = some .bool) : V P n E A ⟨dd, .binOp .neq T x y U, ty, pos, aft, g⟩ (.bool (p != q)) :=
 (fun a w hs _ => by
   have : (Op.equal T (.bool p) (.bool q)).run P w = .ok (p == q) w := equal_of_in (fun d => by simp [Op.equalIn, run_underlying hT])
   simp only [execOp, hs.ev hx, hs.ev hy, eqGuard_at_bool, Sem.run_bind, Sem.run_pure, Result.andThen_ok, binOp, this]; rfl)

theorem V.not {T : TypeId} {x : Operand} {t : Bool} (hx : E.ev x = some (.bool t)) : V P n E A ⟨dd, .unOp .not T x, ty, pos, aft, g⟩ (.bool !t) := (fun a w hs _ => by simp [execOp, hs.ev hx, Op.unary])
theorem V.nilCheck {x : Operand} {ad : Addr} (hx : E.ev x = some (.pointer (some ad))) : V P n E A ⟨dd, .nilCheck x, ty, pos, aft, g⟩ (.pointer (some ad)) := (fun a w hs _ => by simp [execOp, hs.ev hx])
theorem V.makeFunc {fn : Fn} {first cap : Array Operand} {vs us : List Value} (hx : E.evs first.toList = some vs) (hy : E.evs cap.toList = some us) : V P n E A ⟨dd, .makeFunc fn first cap, ty, pos, aft, g⟩ (.func fn vs.toArray us.toArray) :=
 (fun a w hs _ => by
   have h1 : first.map a.eval = vs.toArray := by apply Array.ext'; simpa using hs.evs hx
   have h2 : cap.map a.eval = us.toArray := by apply Array.ext'; simpa using hs.evs hy
   simp [execOp, Instr.makeFunc, h1, h2])

/-! ### numbers -/

theorem V.bin {op : BinOp} {T U : TypeId} {x y : Operand} {kd : IntKind} {a b : Int} {v : Value} (hx : E.ev x = some (.int kd a)) (hy : E.ev y = some (.int kd b))
 (hr : ∀ w, (binOp op T (.int kd a) (.int kd b)).run P w = .ok v w) : V P n E A ⟨dd, .binOp op T x y U, ty, pos, aft, g⟩ (v) :=
 (fun a w hs _ => by simp only [execOp, hs.ev hx, hs.ev hy, eqGuard_at_int, Sem.run_bind, Sem.run_pure, Result.andThen_ok, hr])

section
variable {T U : TypeId} {x y : Operand} {kd : IntKind} {a b c : Int} (hx : E.ev x = some (.int kd a)) (hy : E.ev y = some (.int kd b))
include hx hy
theorem V.add (hc : kd.wrap (a + b) = c) : V P n E A ⟨dd, .binOp .add T x y U, ty, pos, aft, g⟩ (.int kd c) :=
 V.bin hx hy (fun w => by simp [binOp, Op.intArith, hc])
theorem V.sub (hc : kd.wrap (a - b) = c) : V P n E A ⟨dd, .binOp .sub T x y U, ty, pos, aft, g⟩ (.int kd c) :=
 V.bin hx hy (fun w => by simp [binOp, Op.intArith, hc])
theorem V.mul (hc : kd.wrap (a * b) = c) : V P n E A ⟨dd, .binOp .mul T x y U, ty, pos, aft, g⟩ (.int kd c) :=
 V.bin hx hy (fun w => by simp [binOp, Op.intArith, hc])
theorem V.quo (h0 : b ≠ 0) (hc : kd.wrap (a.tdiv b) = c) : V P n E A ⟨dd, .binOp .quo T x y U, ty, pos, aft, g⟩ (.int kd c) :=
 V.bin hx hy (fun w => by simp [binOp, Op.intDiv, h0, hc])
theorem V.rem (h0 : b ≠ 0) (hc : a.tmod b = c) : V P n E A ⟨dd, .binOp .rem T x y U, ty, pos, aft, g⟩ (.int kd c) :=
 V.bin hx hy (fun w => by simp [binOp, Op.intDiv, h0, hc])
theorem V.and (hc : kd.wrap (BitVec.ofInt kd.bits a &&& BitVec.ofInt kd.bits b).toNat = c) : V P n E A ⟨dd, .binOp .and T x y U, ty, pos, aft, g⟩ (.int kd c) :=
 V.bin hx hy (fun w => by simp only [binOp, Op.intBits, hc, ne_eq, not_true_eq_false, if_false, Sem.run_pure])
theorem V.or (hc : kd.wrap (BitVec.ofInt kd.bits a ||| BitVec.ofInt kd.bits b).toNat = c) : V P n E A ⟨dd, .binOp .or T x y U, ty, pos, aft, g⟩ (.int kd c) :=
 V.bin hx hy (fun w => by simp only [binOp, Op.intBits, hc, ne_eq, not_true_eq_false, if_false, Sem.run_pure])
theorem V.xor (hc : kd.wrap (BitVec.ofInt kd.bits a ^^^ BitVec.ofInt kd.bits b).toNat = c) : V P n E A ⟨dd, .binOp .xor T x y U, ty, pos, aft, g⟩ (.int kd c) :=
 V.bin hx hy (fun w => by simp only [binOp, Op.intBits, hc, ne_eq, not_true_eq_false, if_false, Sem.run_pure])
theorem V.eql : V P n E A ⟨dd, .binOp .eql T x y U, ty, pos, aft, g⟩ (.bool (a == b)) :=
 V.bin hx hy (fun w => by simp [binOp, Op.intCmp])
theorem V.neq : V P n E A ⟨dd, .binOp .neq T x y U, ty, pos, aft, g⟩ (.bool (a != b)) :=
 V.bin hx hy (fun w => by simp [binOp, Op.intCmp])
theorem V.lss : V P n E A ⟨dd, .binOp .lss T x y U, ty, pos, aft, g⟩ (.bool (decide (a < b))) :=
 V.bin hx hy (fun w => by simp [binOp, Op.intCmp])
theorem V.leq : V P n E A ⟨dd, .binOp .leq T x y U, ty, pos, aft, g⟩ (.bool (decide (a ≤ b))) :=
 V.bin hx hy (fun w => by simp [binOp, Op.intCmp])
theorem V.gtr : V P n E A ⟨dd, .binOp .gtr T x y U, ty, pos, aft, g⟩ (.bool (decide (b < a))) :=
 V.bin hx hy (fun w => by simp [binOp, Op.intCmp])
theorem V.geq : V P n E A ⟨dd, .binOp .geq T x y U, ty, pos, aft, g⟩ (.bool (decide (b ≤ a))) :=
 V.bin hx hy (fun w => by simp [binOp, Op.intCmp])
end

theorem V.shl {T U : TypeId} {x y : Operand} {kd kd' : IntKind} {a b c : Int} (hx : E.ev x = some (.int kd a)) (hy : E.ev y = some (.int kd' b))
 (h0 : 0 ≤ b) (hc : kd.wrap (a * 2 ^ (min b.toNat kd.bits)) = c) : V P n E A ⟨dd, .binOp .shl T x y U, ty, pos, aft, g⟩ (.int kd c) :=
 (fun a w hs _ => by
   have : ¬ b < 0 := by omega
   simp only [execOp, hs.ev hx, hs.ev hy, eqGuard_at_int, Sem.run_bind, Sem.run_pure, Result.andThen_ok, binOp, Op.shift, this, if_false, hc])
theorem V.shr {T U : TypeId} {x y : Operand} {kd kd' : IntKind} {a b c : Int} (hx : E.ev x = some (.int kd a)) (hy : E.ev y = some (.int kd' b))
 (h0 : 0 ≤ b) (hc : a.fdiv (2 ^ (min b.toNat kd.bits)) = c) : V P n E A ⟨dd, .binOp .shr T x y U, ty, pos, aft, g⟩ (.int kd c) :=
 (fun a w hs _ => by
   have : ¬ b < 0 := by omega
   simp only [execOp, hs.ev hx, hs.ev hy, eqGuard_at_int, Sem.run_bind, Sem.run_pure, Result.andThen_ok, binOp, Op.shift, this, if_false, hc])
theorem V.conv {T U : TypeId} {x : Operand} {kd kd' : IntKind} {a c : Int} {ds : TypeDesc} (hx : E.ev x = some (.int kd a))
 (hT : P.underlying T = some ds) (hU : P.underlying U = some (.int kd')) (hc : kd'.wrap a = c) : V P n E A ⟨dd, .convert T U x, ty, pos, aft, g⟩ (.int kd' c) :=
 (fun a w hs _ => by
   simp only [execOp, hs.ev hx, Sem.run_bind, convert, run_underlying hT, run_underlying hU, Conv.intToInt, Sem.run_pure, Result.andThen_ok, hc])

theorem V.minI {at1 : Array TypeId} {x y : Operand} {kd kd' : IntKind} {a b : Int} (hx : E.ev x = some (.int kd a)) (hy : E.ev y = some (.int kd' b)) : V P n E A ⟨dd, .call ⟨.builtin .min, #[x, y], at1⟩, ty, pos, aft, g⟩ (.int kd (min a b)) :=
 (fun w0 w hs _ => by
   have : (if b < a then b else a) = min a b := by omega
   simp [execOp, resolve, invoke, builtin, hs.ev hx, hs.ev hy, Builtin.min_, Builtin.min2, this])
theorem V.maxI {at1 : Array TypeId} {x y : Operand} {kd kd' : IntKind} {a b : Int} (hx : E.ev x = some (.int kd a)) (hy : E.ev y = some (.int kd' b)) : V P n E A ⟨dd, .call ⟨.builtin .max, #[x, y], at1⟩, ty, pos, aft, g⟩ (.int kd (max a b)) :=
 (fun w0 w hs _ => by
   have : (if b > a then b else a) = max a b := by omega
   simp [execOp, resolve, invoke, builtin, hs.ev hx, hs.ev hy, Builtin.max_, Builtin.max2, this])

theorem w64 {z : Int} (h1 : -9223372036854775808 ≤ z) (h2 : z ≤ 9223372036854775807) : IntKind.i64.wrap z = z := IntWalk.i64_in z ⟨h1, h2⟩

/-! ### slices and structs, without memory -/

theorem V.len {T : TypeId} {x : Operand} {ad : Option Addr} {m c : Nat} {e : TypeId} (hx : E.ev x = some (.slice ad m c))
 (hT : P.underlying T = some (.slice e)) : V P n E A ⟨dd, .call ⟨.builtin .len, #[x], #[T]⟩, ty, pos, aft, g⟩ (.int .i64 m) :=
 (fun a w hs _ => by
   have := hs.ev hx
   simp [execOp, resolve, invoke, builtin, this, Builtin.len_, underlying, hT, goInt])

theorem V.indexAddr {T e : TypeId} {x y : Operand} {b off m c j sz : Nat} {kd : IntKind} {i : Int} (hx : E.ev x = some (.slice (some ⟨b, off, none⟩) m c)) (hy : E.ev y = some (.int kd i))
 (hT : P.underlying T = some (.slice e)) (hs : ∀ w, (sizeOf e).run P w = .ok sz w) (hi : i = (j : Int)) (hj : j < m) : V P n E A ⟨dd, .indexAddr T x y, ty, pos, aft, g⟩ (.pointer (some ⟨b, off + j * sz, none⟩)) :=
 (fun a w hst _ => by
   subst hi
   have h1 : (0 : Int) ≤ (j : Int) ∧ (j : Int) < (m : Int) := ⟨by omega, by omega⟩
   simp [execOp, hst.ev hx, hst.ev hy, Instr.indexAt, asIntOf, underlying, hT, hs, h1, add_at, hj])

theorem V.fieldAddr {T : TypeId} {x : Operand} {f b off o sz : Nat} {fs : Array Field} {fl : Field} (hx : E.ev x = some (.pointer (some ⟨b, off, none⟩)))
 (hT : P.underlying T = some (.struct fs)) (hf : fs[f]? = some fl) (ho : fl.offset = o) (hs : ∀ w, (sizeOf fl.type).run P w = .ok (sz + 1) w) : V P n E A ⟨dd, .fieldAddr T x f, ty, pos, aft, g⟩ (.pointer (some ⟨b, off + o, none⟩)) :=
 (fun a w hst _ => by
   simp [execOp, hst.ev hx, Instr.fieldAt, underlying, hT, hf, Instr.sureAddr, fieldPlace, hs, add_at, ho])

/-- .. of a variable of its own: the block's beginning. -/
theorem V.fieldAddr0 {T : TypeId} {x : Operand} {f b o sz : Nat} {fs : Array Field} {fl : Field} (hx : E.ev x = some (.pointer (some ⟨b, 0, none⟩)))
 (hT : P.underlying T = some (.struct fs)) (hf : fs[f]? = some fl) (ho : fl.offset = o) (hs : ∀ w, (sizeOf fl.type).run P w = .ok (sz + 1) w) : V P n E A ⟨dd, .fieldAddr T x f, ty, pos, aft, g⟩ (.pointer (some ⟨b, o, none⟩)) :=
 by rw [← Nat.zero_add o]; exact V.fieldAddr hx hT hf ho hs

theorem run_part1 {P : Program} {T off : Nat} {cs : Array Value} {v : Value} (hg : ∀ w, (isAgg T).run P w = .ok false w) (hv : cs[off]? = some v) (w : World) : (part T cs off).run P w = .ok v w := by
 simp [part, hg, hv]
theorem run_partN {P : Program} {T off sz : Nat} {cs : Array Value} (hg : ∀ w, (isAgg T).run P w = .ok true w) (hs : ∀ w, (sizeOf T).run P w = .ok sz w) (w : World) : (part T cs off).run P w = .ok (.agg (cs.extract off (off + sz))) w := by
 simp [part, hg, hs]

/-- A field of one cell out of a struct's value. -/
theorem V.field {T : TypeId} {x : Operand} {f : Nat} {cs : Array Value} {v : Value} {fs : Array Field} {fl : Field} (hx : E.ev x = some (.agg cs))
 (hT : P.underlying T = some (.struct fs)) (hf : fs[f]? = some fl) (hg : ∀ w, (isAgg fl.type).run P w = .ok false w) (hv : cs[fl.offset]? = some v) : V P n E A ⟨dd, .field T x f, ty, pos, aft, g⟩ (v) :=
 (fun a w hst _ => by
   simp [execOp, hst.ev hx, Instr.field, underlying, hT, hf, asAgg, run_part1 hg hv])

/-- x[lo:hi] of a slice: lo ≤ hi ≤ cap. -/
theorem V.slice {T e : TypeId} {x : Operand} {lo hi : Option Operand} {ad : Option Addr} {m c l u sz : Nat} {ad' : Option Addr} (hx : E.ev x = some (.slice ad m c))
 (hT : P.underlying T = some (.slice e)) (hs : ∀ w, (sizeOf e).run P w = .ok sz w)
 (hl : match lo with | none => l = 0 | some y => ∃ kd, E.ev y = some (.int kd (l : Int))) (hu : match hi with | none => u = m | some y => ∃ kd, E.ev y = some (.int kd (u : Int)))
 (h1 : l ≤ u) (h2 : u ≤ c) (had : (if c = l then ad else ad.map (·.add (l * sz))) = ad') : V P n E A ⟨dd, .slice T x lo hi none, ty, pos, aft, g⟩ (.slice ad' (u - l) (c - l)) :=
 (fun a w hst _ => by
   cases lo with
   | none =>
     cases hi with
     | none => subst hl hu; simp only [Nat.zero_mul] at had; simp [execOp, hst.ev hx, Instr.sliceAt, Instr.slice, underlying, hT, Instr.sliceBounds, hs, had]
     | some y => subst hl; obtain ⟨kd, hy⟩ := hu; simp only [Nat.zero_mul] at had; simp [execOp, hst.ev hx, hst.ev hy, Instr.sliceAt, Instr.slice, underlying, hT, Instr.sliceBounds, Instr.sliceBound, asIntOf, hs, had, h2]
   | some z =>
     obtain ⟨kd', hz⟩ := hl
     cases hi with
     | none => subst hu; simp [execOp, hst.ev hx, hst.ev hz, Instr.sliceAt, Instr.slice, underlying, hT, Instr.sliceBounds, Instr.sliceBound, asIntOf, hs, had, h1]
     | some y => obtain ⟨kd, hy⟩ := hu; simp [execOp, hst.ev hx, hst.ev hy, hst.ev hz, Instr.sliceAt, Instr.slice, underlying, hT, Instr.sliceBounds, Instr.sliceBound, asIntOf, hs, had, h1, h2])
end
end Go.Tk

set_option linter.unusedSimpArgs false
set_option linter.unusedVariables false
namespace Go.Tk

section
variable {P : Program} {B : Exit → Act → World → Prop} {k : List Fr} {n : Nat} {E : Env} {A : World → Prop} {ops : Array Oper} {rest : List Oper}
 {d ty : Nat} {dd : Option Tmp} {pos : String} {aft : Array Edge} {g : Option (Nat × Bool)} {w0 : World} {F : Nat → Prop} {S : Store} {H : Heap}

theorem V.load {T : TypeId} {x : Operand} {b off : Nat} {cs : Array Value} {Te : TypeId} {fz : Nat × Nat} {v : Value} (hx : E.ev x = some (.pointer (some ⟨b, off, none⟩))) (hg : ∀ w, (isAgg T).run P w = .ok false w)
 (ha : At S b (.cells cs Te fz) H) (hv : cs[off]? = some v) : V P n E (Hp w0 F S H) ⟨dd, .load T x, ty, pos, aft, g⟩ v := fun a w hs hA => by
 have h1 := run_loadVar1 (P := P) hg (a := ⟨b, off, none⟩) (v := v) (by rw [cell_at (hA.at ha)]; exact hv)
 simp only [execOp, hs.ev hx, Instr.loadAt, Instr.sureAddr, Sem.run_bind, Sem.run_pure, Result.andThen_ok, h1]

/-- A struct's or an array's value out of memory. -/
theorem V.loadN {T : TypeId} {x : Operand} {b off m : Nat} {cs vs : Array Value} {Te : TypeId} {fz : Nat × Nat} (hx : E.ev x = some (.pointer (some ⟨b, off, none⟩))) (hg : ∀ w, (isAgg T).run P w = .ok true w) (hs : ∀ w, (sizeOf T).run P w = .ok m w)
 (ha : At S b (.cells cs Te fz) H) (hle : off + m ≤ cs.size) (hv : cs.extract off (off + m) = vs) : V P n E (Hp w0 F S H) ⟨dd, .load T x, ty, pos, aft, g⟩ (.agg vs) := fun a w hst hA => by
 have h1 := run_loadVarN (P := P) hg hs (hA.at ha) hle
 rw [hv] at h1
 simp only [execOp, hst.ev hx, Instr.loadAt, Instr.sureAddr, Sem.run_bind, Sem.run_pure, Result.andThen_ok, h1]

/-- .. of the whole block. -/
theorem V.loadBox {T : TypeId} {x : Operand} {b m : Nat} {vs : List Value} {Te : TypeId} {fz : Nat × Nat} (hx : E.ev x = some (.pointer (some ⟨b, 0, none⟩))) (hg : ∀ w, (isAgg T).run P w = .ok true w) (hs : ∀ w, (sizeOf T).run P w = .ok m w)
 (ha : At S b (.cells vs.toArray Te fz) H) (hle : vs.length = m) : V P n E (Hp w0 F S H) ⟨dd, .load T x, ty, pos, aft, g⟩ (.agg vs.toArray) :=
 V.loadN hx hg hs ha (by simp [hle]) (by subst hle; simp)

theorem hp_setRow {w : World} {b : Nat} {cs cs' : Array Value} {T : TypeId} {fz : Nat × Nat} {H' : Heap} (h : Hp w0 F S H w) (u : Upd b (.cells cs T fz) (.cells cs' T fz) H H') : Hp w0 F S H' (w.setRow b cs') := by
 obtain ⟨l, r, rfl, _⟩ := u.spec
 exact h.upd u rfl rfl rfl (by simp [World.setRow]) (setRow_heap w b cs cs' T fz (h.own (b, _) (by simp))) (fun c hc => setRow_other w b c cs' hc)

theorem run_storeVar {w : World} {T b off m : Nat} {cs : Array Value} {Te : TypeId} {v : Value} {vs : List Value} (hb : w.heap[b]? = some (.cells cs Te (0, 0))) (hs : ∀ w, (sizeOf T).run P w = .ok m w) (hv : v.cells = vs.toArray) (hm : vs.length = m)
 (h1 : ∀ u ∈ vs, u.oneCell' = true) (hle : off + m ≤ cs.size) : (storeVar T ⟨b, off, none⟩ v).run P w = .ok () (w.setRow b (cs.toList.take off ++ vs ++ cs.toList.drop (off + m)).toArray) := by
 have := run_storeCells_at P b off Te vs 0 cs w hb (by simpa [hm] using hle) h1
 simp only [Nat.add_zero, hm] at this
 simp only [storeVar, Sem.run_bind, hs, Result.andThen_ok, hv, List.size_toArray, hm, ne_eq, not_true_eq_false, if_false]
 simpa using this

theorem L.storeG {T : TypeId} {x y : Operand} {b off m : Nat} {cs : Array Value} {Te : TypeId} {v : Value} {vs : List Value} {H' : Heap} (hx : E.ev x = some (.pointer (some ⟨b, off, none⟩))) (hy : E.ev y = some v) (hw : wantedE ops E g = some true)
 (hs : ∀ w, (sizeOf T).run P w = .ok m w) (hv : v.cells = vs.toArray) (hm : vs.length = m) (h1 : ∀ u ∈ vs, u.oneCell' = true)
 (u : Upd b (.cells cs Te (0, 0)) (.cells (cs.toList.take off ++ vs ++ cs.toList.drop (off + m)).toArray Te (0, 0)) H H') (hle : off + m ≤ cs.size)
 (h : L P B ops rest k n E (Hp w0 F S H')) : L P B ops (⟨none, .store T x y, ty, pos, aft, g⟩ :: rest) k n E (Hp w0 F S H) := by
 refine L.eff _ rfl hw (fun a w hst hA => ⟨_, ?_, hp_setRow hA u⟩) h
 have h2 := run_storeVar (P := P) (hA.own _ u.mem) hs hv hm h1 hle
 simp only [execOp, hst.ev hx, hst.ev hy, Instr.storeAt, Instr.sureAddr, Sem.run_bind, Sem.run_pure, Result.andThen_ok, h2]

/-- Place i of a list becomes v. -/
inductive SetAt (v : Value) : Nat → List Value → List Value → Prop
 | head {x : Value} {l : List Value} : SetAt v 0 (x :: l) (v :: l)
 | tail {x : Value} {i : Nat} {l l' : List Value} (h : SetAt v i l l') : SetAt v (i + 1) (x :: l) (x :: l')

theorem SetAt.spec {v : Value} {i : Nat} {l l' : List Value} (h : SetAt v i l l') : i + 1 ≤ l.length ∧ l' = l.take i ++ [v] ++ l.drop (i + 1) := by
 induction h with
 | head => exact ⟨by simp, by simp⟩
 | tail _ ih => obtain ⟨h1, h2⟩ := ih; exact ⟨by simp; omega, by rw [h2]; simp⟩

/-- One cell of a block that is written out. -/
theorem L.store {T : TypeId} {x y : Operand} {b off : Nat} {l l' : List Value} {Te : TypeId} {v : Value} {H' : Heap} (hx : E.ev x = some (.pointer (some ⟨b, off, none⟩))) (hy : E.ev y = some v) (hw : wantedE ops E g = some true)
 (hs : ∀ w, (sizeOf T).run P w = .ok 1 w) (h1 : v.oneCell' = true) (u : Upd b (.cells l.toArray Te (0, 0)) (.cells l'.toArray Te (0, 0)) H H') (hset : SetAt v off l l')
 (h : L P B ops rest k n E (Hp w0 F S H')) : L P B ops (⟨none, .store T x y, ty, pos, aft, g⟩ :: rest) k n E (Hp w0 F S H) := by
 obtain ⟨e1, e2⟩ := hset.spec
 subst e2
 refine L.storeG (vs := [v]) hx hy hw hs ?_ rfl (by simpa using h1) u (by simpa using e1) h
 cases v <;> first | rfl | (simp [Value.oneCell'] at h1)

/-- A whole block. -/
theorem L.storeBox {T : TypeId} {x y : Operand} {b m : Nat} {l vs : List Value} {Te : TypeId} {H' : Heap} (hx : E.ev x = some (.pointer (some ⟨b, 0, none⟩))) (hy : E.ev y = some (.agg vs.toArray)) (hw : wantedE ops E g = some true)
 (hs : ∀ w, (sizeOf T).run P w = .ok m w) (hm : vs.length = m) (hl : l.length = m) (h1 : vs.all (·.oneCell') = true) (u : Upd b (.cells l.toArray Te (0, 0)) (.cells vs.toArray Te (0, 0)) H H')
 (h : L P B ops rest k n E (Hp w0 F S H')) : L P B ops (⟨none, .store T x y, ty, pos, aft, g⟩ :: rest) k n E (Hp w0 F S H) := by
 refine L.storeG (vs := vs) (cs := l.toArray) (Te := Te) hx hy hw hs rfl hm (by simpa using h1) ?_ (by simp [hl]) h
 simpa [← hl] using u

/-! ### new blocks -/

theorem L.new {o : Oper} {ob : Obj} {V : Nat → Value} (hd : o.dst = some d) (hn : Nat.blt d n = true) (hw : wantedE ops E o.guard = some true)
 (hop : ∀ a w, St n E a → Hp w0 F S H w → (execOp a.eval o).run P w = .ok (.value (V w.heap.size)) { w with heap := w.heap.push ob })
 (h : ∀ b, L P B ops rest k n ((d, V b) :: E) (Hp w0 F S ((b, ob) :: H))) : L P B ops (o :: rest) k n E (Hp w0 F S H) := fun a w hs hA => by
 refine wpList_on (wantedE_spec hs hw) ?_
 unfold Oper.wp
 rw [hop a w hs hA, Oper.upon_value, hd]
 exact h _ _ _ (hs.put hn _) (hA.alloc ob)

theorem L.allocA {T : TypeId} {cs : Array Value} (hn : Nat.blt d n = true) (hw : wantedE ops E g = some true) (hz : ∀ w, (zeroValue T).run P w = .ok (.agg cs) w)
 (h : ∀ b, L P B ops rest k n ((d, .pointer (some ⟨b, 0, none⟩)) :: E) (Hp w0 F S ((b, .cells cs T (0, 0)) :: H))) : L P B ops (⟨some d, .alloc T, ty, pos, aft, g⟩ :: rest) k n E (Hp w0 F S H) :=
 L.new (V := fun b => .pointer (some ⟨b, 0, none⟩)) rfl hn hw (fun a w hs hA => by simp [execOp, Instr.alloc, hz, newVar, newRow, Value.cells]) h
theorem L.alloc1 {T : TypeId} {z : Value} (hn : Nat.blt d n = true) (hw : wantedE ops E g = some true) (hz : ∀ w, (zeroValue T).run P w = .ok z w) (h1 : z.cells = #[z])
 (h : ∀ b, L P B ops rest k n ((d, .pointer (some ⟨b, 0, none⟩)) :: E) (Hp w0 F S ((b, .cells #[z] T (0, 0)) :: H))) : L P B ops (⟨some d, .alloc T, ty, pos, aft, g⟩ :: rest) k n E (Hp w0 F S H) :=
 L.new (V := fun b => .pointer (some ⟨b, 0, none⟩)) rfl hn hw (fun a w hs hA => by simp [execOp, Instr.alloc, hz, newVar, newRow, h1]) h
theorem L.boxA {T : TypeId} {x : Operand} {cs : Array Value} (hx : E.ev x = some (.agg cs)) (hn : Nat.blt d n = true) (hw : wantedE ops E g = some true)
 (h : ∀ b, L P B ops rest k n ((d, .pointer (some ⟨b, 0, none⟩)) :: E) (Hp w0 F S ((b, .cells cs T (0, 0)) :: H))) : L P B ops (⟨some d, .box T x, ty, pos, aft, g⟩ :: rest) k n E (Hp w0 F S H) :=
 L.new (V := fun b => .pointer (some ⟨b, 0, none⟩)) rfl hn hw (fun a w hs hA => by simp [execOp, hs.ev hx, Instr.box, newVar, newRow, Value.cells]) h
theorem L.box1 {T : TypeId} {x : Operand} {v : Value} (hx : E.ev x = some v) (h1 : v.cells = #[v]) (hn : Nat.blt d n = true) (hw : wantedE ops E g = some true)
 (h : ∀ b, L P B ops rest k n ((d, .pointer (some ⟨b, 0, none⟩)) :: E) (Hp w0 F S ((b, .cells #[v] T (0, 0)) :: H))) : L P B ops (⟨some d, .box T x, ty, pos, aft, g⟩ :: rest) k n E (Hp w0 F S H) :=
 L.new (V := fun b => .pointer (some ⟨b, 0, none⟩)) rfl hn hw (fun a w hs hA => by simp [execOp, hs.ev hx, Instr.box, newVar, newRow, h1]) h
theorem L.makeMap {T : TypeId} (hn : Nat.blt d n = true) (hw : wantedE ops E g = some true)
 (h : ∀ b, L P B ops rest k n ((d, .map (some b)) :: E) (Hp w0 F S ((b, .map #[] 0) :: H))) : L P B ops (⟨some d, .makeMap T none, ty, pos, aft, g⟩ :: rest) k n E (Hp w0 F S H) :=
 L.new (V := fun b => .map (some b)) rfl hn hw (fun a w hs hA => by simp [execOp, Instr.makeMap]) h

theorem made1 (z : Value) (c : Nat) : madeCells #[z] c = (List.replicate c z).toArray := by
 apply Array.ext
 ·simp [madeCells]
 ·intro j h1 h2
  simp [madeCells, Nat.mod_one]

/-- make([]T, m), T of one cell. -/
theorem L.make {T e : TypeId} {i : TypeInfo} {z : Value} {x y : Operand} {kd kd' : IntKind} {m c : Nat} (hx : E.ev x = some (.int kd (m : Int))) (hy : E.ev y = some (.int kd' (c : Int))) (hn : Nat.blt d n = true) (hw : wantedE ops E g = some true)
 (hT : P.underlying T = some (.slice e)) (hi : P.info? e = some i) (hz : i.zero = some z) (h1 : z.cells = #[z]) (hs : i.size = 1) (hmc : m ≤ c) (hc : i.bytes * c ≤ 281474976710656) (h63 : c ≤ 9223372036854775807)
 (h : ∀ b, L P B ops rest k n ((d, .slice (some ⟨b, 0, none⟩) m c) :: E) (Hp w0 F S ((b, .cells (List.replicate c z).toArray e (0, 0)) :: H))) : L P B ops (⟨some d, .makeSlice T x y, ty, pos, aft, g⟩ :: rest) k n E (Hp w0 F S H) :=
 L.new (V := fun b => .slice (some ⟨b, 0, none⟩) m c) rfl hn hw (fun a w hst hA => by
  have hr := run_make (P := P) w T e i z hT hi hz kd kd' m c (Int.natCast_nonneg m) (Int.ofNat_le.2 hmc) (Int.ofNat_le.2 hc) (Int.ofNat_le.2 h63)
  have hcs : madeCells z.cells ((c : Int).toNat * i.size) = (List.replicate c z).toArray := by rw [hs, h1, Int.toNat_natCast, Nat.mul_one, made1]
  rw [hcs] at hr
  simp only [execOp, hst.ev hx, hst.ev hy, Sem.run_bind, hr, Result.andThen_ok, Sem.run_pure, Int.toNat_natCast]
  rfl) h

/-! ### calls -/

theorem run_call_op {a : Act} {w : World} {fo : Operand} {xs : Array Operand} {ats : Array TypeId} {fid : FuncId} {fst cap vs : Array Value} (h1 : a.eval fo = .func (.func fid) fst cap) (h2 : xs.map a.eval = vs)
 (hc : ∀ args w, (callFunc fid args).run P w = .ok (.enter fid args) w) : (execOp a.eval ⟨dd, .call ⟨.value fo, xs, ats⟩, ty, pos, aft, g⟩).run P w = .ok (.enter fid (fst ++ vs ++ cap)) w := by
 simp [execOp, resolve, h1, h2, Deferred.ofValue, invoke, hc]

/-- A call: what is known of its end (Rr) must carry on. -/
theorem L.call {fo : Operand} {xs : List Operand} {ats : Array TypeId} {fid : FuncId} {fst cap args : Array Value} {vs : List Value} {Rr : Ending → World → Prop} (hf : E.ev fo = some (.func (.func fid) fst cap)) (hx : E.evs xs = some vs) (hw : wantedE ops E g = some true)
 (hcall : ∀ args w, (callFunc fid args).run P w = .ok (.enter fid args) w) (hargs : fst ++ vs.toArray ++ cap = args) (hc : ∀ w, A w → Calls P fid args w Rr)
 (h : ∀ e a w, St n E a → Rr e w → ∃ u, e = .returned u ∧ wpList P ops (Ks P B k) rest (a.put dd u) w) : L P B ops (⟨dd, .call ⟨.value fo, xs.toArray, ats⟩, ty, pos, aft, g⟩ :: rest) k n E A := fun a w hs hA => by
 refine wpList_on (wantedE_spec hs hw) ?_
 unfold Oper.wp
 have h2 : xs.toArray.map a.eval = vs.toArray := by simp [hs.evs hx]
 rw [run_call_op (hs.ev hf) h2 hcall, Oper.upon_enter, hargs]
 refine (hc w hA).mono (fun e w' hr => ?_)
 obtain ⟨u, rfl, h3⟩ := h e a w' hs hr
 exact h3

theorem St.go {a : Act} {w : World} {v : Value} {A' : World → Prop} (hs : St n E a) (hn : Nat.blt d n = true) (hA : A' w) (h : L P B ops rest k n ((d, v) :: E) A') :
 ∃ u, Ending.returned v = .returned u ∧ wpList P ops (Ks P B k) rest (a.put (some d) u) w := ⟨v, rfl, h _ w (hs.put hn v) hA⟩
theorem St.go0 {a : Act} {w : World} {v : Value} {A' : World → Prop} (hs : St n E a) (hA : A' w) (h : L P B ops rest k n E A') :
 ∃ u, Ending.returned v = .returned u ∧ wpList P ops (Ks P B k) rest (a.put none u) w := ⟨v, rfl, h _ w hs hA⟩

/-! ### a slice that the call itself makes, and that grows -/

/-- v is nil and xs is empty, or v lies at the begin of an own block whose first cells are xs; m: how many things. -/
def Own (e sz : Nat) (v : Value) (m : Nat) (xs : List Value) (fp : Heap) : Prop :=
 (v = .slice none 0 0 ∧ m = 0 ∧ xs = [] ∧ fp = []) ∨
 ∃ b c js, v = .slice (some ⟨b, 0, none⟩) m c ∧ fp = [(b, .cells (xs ++ js).toArray e (0, 0))] ∧ xs.length = m * sz ∧ (xs ++ js).length = c * sz ∧ m ≤ c ∧ c ≤ 9223372036854775807

theorem Own.nil (e sz : Nat) : Own e sz (.slice none 0 0) 0 [] [] := .inl ⟨rfl, rfl, rfl, rfl⟩
theorem Own.mk {e sz b m c : Nat} {xs js : List Value} (h1 : xs.length = m * sz) (h2 : (xs ++ js).length = c * sz) (h3 : m ≤ c) (h4 : c ≤ 9223372036854775807) :
 Own e sz (.slice (some ⟨b, 0, none⟩) m c) m xs [(b, .cells (xs ++ js).toArray e (0, 0))] := .inr ⟨b, c, js, rfl, rfl, h1, h2, h3, h4⟩

/-- A slice that is read: its cells, where they lie. -/
def Rd (S : Store) (H : Heap) (sz : Nat) (v : Value) (m : Nat) (xs : List Value) : Prop :=
 xs.length = m * sz ∧ ((v = .slice none 0 0 ∧ m = 0) ∨ ∃ b off c cs T fz, v = .slice (some ⟨b, off, none⟩) m c ∧ (m ≤ c ∧ c ≤ 9223372036854775807) ∧ At S b (.cells cs T fz) H ∧ ∀ j, j < xs.length → cs[off + j]? = xs[j]?)

theorem run_app_none {w : World} {t ty e : TypeId} {i : TypeInfo} {v : Value} {m c : Nat} {ad : Option Addr} (ht : P.underlying t = some (.slice e)) (hi : P.info? e = some i) (hv : v = .slice ad m c) (hmc : m ≤ c) (h0 : ad = none → m = 0) :
 (Builtin.append_ #[t, t] ty #[v, .slice none 0 0]).run P w = .ok v w := by
 subst hv
 cases ad with
 | none => simp [Builtin.append_, run_underlying ht, sizeOf, typeInfo, hi, Builtin.lenOf, Builtin.firstCells, storeCells, hmc]
 | some a => simp [Builtin.append_, run_underlying ht, sizeOf, typeInfo, hi, Builtin.lenOf, Builtin.firstCells, storeCells, hmc]

theorem run_app {w : World} {t ty e sz by' : Nat} {i : TypeInfo} {z : Value} (ht : P.underlying t = some (.slice e)) (hi : P.info? e = some i) (hz : i.zero = some z) (hsz : i.size = sz) (hby : i.bytes = by') (hzs : z.cells.size = sz)
 {v y : Value} {m l : Nat} {xs ys : List Value} {fp Hr : Heap} (ho : Own e sz v m xs fp) (hA : Hp w0 F S (fp ++ Hr) w) (hr : Rd S (fp ++ Hr) sz y l ys) (h1 : ∀ u ∈ ys, u.oneCell' = true) (hb : (m + l) * by' ≤ 140737488355328) (h63 : m + l ≤ 9223372036854775807) :
 ∃ v' fp' w', (Builtin.append_ #[t, t] ty #[v, y]).run P w = .ok v' w' ∧ Own e sz v' (m + l) (xs ++ ys) fp' ∧ Hp w0 F S (fp' ++ Hr) w' := by
 subst hsz hby
 obtain ⟨hyl, hy⟩ := hr
 rcases hy with ⟨rfl, rfl⟩ | ⟨b2, off, c2, cs2, T2, fz2, rfl, hlc, hat, hcs⟩
 ·have : ys = [] := List.eq_nil_of_length_eq_zero (by simpa using hyl)
  subst this
  refine ⟨v, fp, w, ?_, by simpa using ho, hA⟩
  rcases ho with ⟨rfl, rfl, rfl, rfl⟩ | ⟨b, c, js, rfl, rfl, h2, h3, h4, h5⟩
  ·exact run_app_none ht hi rfl (Nat.le_refl _) (fun _ => rfl)
  ·exact run_app_none ht hi rfl h4 (fun h => nomatch h)
 ·have hcell : ∀ j u, ys[j]? = some u → w.cell? ((⟨b2, off, none⟩ : Addr).add j) = some u := by
   intro j u hj
   have hlt : j < ys.length := by
    rcases Nat.lt_or_ge j ys.length with h | h
    ·exact h
    ·rw [List.getElem?_eq_none h] at hj; cases hj
   rw [add_at, cell_at (hA.at hat), hcs j hlt, hj]
  have hgrow : ∀ (c : Nat) (cells : Array Value), cells = (xs ++ ys).toArray ++ Builtin.zeroCells z.cells (grownCap w (m + l) c e - (m + l)) → xs.length = m * i.size →
   Own e i.size (.slice (some ⟨w.heap.size, 0, none⟩) (m + l) (grownCap w (m + l) c e)) (m + l) (xs ++ ys) [(w.heap.size, .cells cells e (0, 0))] := by
   intro c cells hce hx
   refine .inr ⟨w.heap.size, _, (Builtin.zeroCells z.cells (grownCap w (m + l) c e - (m + l))).toList, rfl, ?_, by rw [List.length_append, hx, hyl, Nat.add_mul], ?_, grownCap_ge w _ _ _, ?_⟩
   ·rw [hce]; congr 3; apply Array.ext'; simp
   ·have hge := grownCap_ge w (m + l) c e
    rw [List.length_append, List.length_append, hx, hyl, Array.length_toList, size_zeroCells, hzs, ← Nat.add_mul, ← Nat.add_mul]
    congr 1; omega
   ·have := grownCap_le_maxLen w (m + l) c e (by unfold maxLen; omega); unfold maxLen at this; omega
  rcases ho with ⟨rfl, rfl, rfl, rfl⟩ | ⟨b, c, js, rfl, rfl, h2, h3, h4, h5⟩
  ·by_cases hl : l = 0
   ·subst hl
    have : ys = [] := List.eq_nil_of_length_eq_zero (by simpa using hyl)
    subst this
    refine ⟨.slice none 0 0, [], w, ?_, Own.nil _ _, hA⟩
    simp [Builtin.append_, run_underlying ht, sizeOf, typeInfo, hi, Builtin.lenOf, Builtin.firstCells, loadCells, loadCellsFrom]
   ·have hr := run_append_nil (P := P) w t ty e i z ht hi hz ⟨b2, off, none⟩ l c2 ys hyl hcell (by omega) (by omega) (by rw [Nat.zero_add] at hb; omega)
    refine ⟨_, [(w.heap.size, _)], _, hr, ?_, (hA.drawn (w.drawn + 1)).alloc (.cells (ys.toArray ++ Builtin.zeroCells z.cells (grownCap w l 0 e - l)) e (0, 0))⟩
    have := hgrow 0 (ys.toArray ++ Builtin.zeroCells z.cells (grownCap w l 0 e - l)) (by simp) (by simp)
    simpa using this
  ·have hbk : w.heap[b]? = some (.cells (xs ++ js).toArray e (0, 0)) := hA.own (b, _) (by simp)
   by_cases hroom : m + l ≤ c
   ·have hfit : m * i.size + ys.length ≤ (xs ++ js).toArray.size := by rw [List.size_toArray, h3, hyl, ← Nat.add_mul]; exact Nat.mul_le_mul_right _ hroom
    have hr := run_append_room (P := P) w t ty e i ht hi b m c _ hbk ⟨b2, off, none⟩ l c2 ys hyl hcell h1 hroom hfit
    have ecs : ((xs ++ js).toArray.toList.take (m * i.size) ++ ys ++ (xs ++ js).toArray.toList.drop (m * i.size + ys.length)).toArray = (xs ++ ys ++ js.drop ys.length).toArray := by
     rw [← h2]; simp [List.drop_append]
    rw [ecs] at hr
    refine ⟨_, [(b, .cells (xs ++ ys ++ js.drop ys.length).toArray e (0, 0))], _, hr, Own.mk (by rw [List.length_append, h2, hyl, Nat.add_mul]) ?_ hroom h5, hp_setRow hA .head⟩
    have h6 := h3
    rw [List.length_append] at h6
    have h7 : ys.length ≤ js.length := by
     have : (m + l) * i.size ≤ c * i.size := Nat.mul_le_mul_right _ hroom
     rw [Nat.add_mul] at this; omega
    simp only [List.length_append, List.length_drop]; omega
   ·have hold : ∀ j u, xs[j]? = some u → w.cell? ((⟨b, 0, none⟩ : Addr).add j) = some u := by
     intro j u hj
     have hlt : j < xs.length := by
      rcases Nat.lt_or_ge j xs.length with h | h
      ·exact h
      ·rw [List.getElem?_eq_none h] at hj; cases hj
     rw [add_at, cell_at hbk, Nat.zero_add]
     simp [List.getElem?_append_left hlt, hj]
    have hr := run_append_grow (P := P) w t ty e i z ht hi hz ⟨b, 0, none⟩ m c xs h2 hold ⟨b2, off, none⟩ l c2 ys hyl hcell (by omega) (by omega) (growslice_fits (by omega) hb)
    refine ⟨_, [(w.heap.size, _)], _, hr, hgrow c (xs.toArray ++ ys.toArray ++ Builtin.zeroCells z.cells (grownCap w (m + l) c e - (m + l))) (by apply Array.ext'; simp) h2, ?_⟩
    have h8 := (hA.drawn (w.drawn + 1)).alloc (.cells (xs.toArray ++ ys.toArray ++ Builtin.zeroCells z.cells (grownCap w (m + l) c e - (m + l))) e (0, 0))
    exact h8.sub (by simp)

theorem L.append {T e sz by' : Nat} {i : TypeInfo} {z v y : Value} {s x : Operand} {m l : Nat} {xs ys : List Value} {fp Hr : Heap} (hs : E.ev s = some v) (hx : E.ev x = some y) (hn : Nat.blt d n = true) (hw : wantedE ops E g = some true)
 (ht : P.underlying T = some (.slice e)) (hi : P.info? e = some i) (hz : i.zero = some z) (hsz : i.size = sz) (hby : i.bytes = by') (hzs : z.cells.size = sz)
 (ho : Own e sz v m xs fp) (tk : Take fp H Hr) (hr : Rd S (fp ++ Hr) sz y l ys) (h1 : ∀ u ∈ ys, u.oneCell' = true) (hb : (m + l) * by' ≤ 140737488355328) (h63 : m + l ≤ 9223372036854775807)
 (h : ∀ v' fp', Own e sz v' (m + l) (xs ++ ys) fp' → L P B ops rest k n ((d, v') :: E) (Hp w0 F S (fp' ++ Hr))) :
 L P B ops (⟨some d, .call ⟨.builtin .append, #[s, x], #[T, T]⟩, ty, pos, aft, g⟩ :: rest) k n E (Hp w0 F S H) := fun a w hst hA => by
 obtain ⟨v', fp', w', h2, h3, h4⟩ := run_app (P := P) (ty := ty) ht hi hz hsz hby hzs ho (hA.take tk) hr h1 hb h63
 refine wpList_on (wantedE_spec hst hw) ?_
 unfold Oper.wp
 have : (execOp a.eval ⟨some d, .call ⟨.builtin .append, #[s, x], #[T, T]⟩, ty, pos, aft, g⟩).run P w = .ok (.value v') w' := by
  simp [execOp, resolve, invoke, builtin, hst.ev hs, hst.ev hx, h2]
 rw [this, Oper.upon_value]
 exact h v' fp' h3 _ w' (hst.put hn v') h4

/-- []T{x}, of one thing: its cells. -/
theorem run_buildSlice1 {w : World} {T e sz : Nat} {v z : Value} {vs : List Value} (hT : P.underlying T = some (.slice e)) (hs : ∀ w, (sizeOf e).run P w = .ok sz w) (hz : ∀ w, (zeroValue e).run P w = .ok z w) (hzs : z.cells.size = sz)
 (h0 : 0 < sz) (hsz : sz ≤ 1000) (hv : v.cells = vs.toArray) (hl : vs.length = sz) :
 (Instr.buildSlice T 1 #[(0, v)]).run P w = .ok (.slice (some ⟨w.heap.size, 0, none⟩) 1 1) { w with heap := w.heap.push (.cells vs.toArray e (0, 0)) } := by
 have hc : (vs.zipIdx.foldl (fun cs (x : Value × Nat) => cs.setIfInBounds x.2 x.1) ((Array.range sz).map (z.cells[· % z.cells.size]!))) = vs.toArray := by
  have key : ∀ (l : List Value) (j : Nat) (cs : Array Value), j + l.length = cs.size → (l.zipIdx j).foldl (fun cs (x : Value × Nat) => cs.setIfInBounds (0 + x.2) x.1) cs = (cs.toList.take j ++ l).toArray := by
   intro l
   induction l with
   | nil => intro j cs h; simp at h; subst h; apply Array.ext'; rw [← Array.length_toList, List.take_length]; simp
   | cons u l ih =>
     intro j cs h
     rw [List.zipIdx_cons, List.foldl_cons, ih (j + 1) _ (by simp at h ⊢; omega)]
     have hj : j < cs.size := by simp at h; omega
     apply Array.ext'
     simp only [Nat.zero_add, Array.toList_setIfInBounds]
     rw [List.take_succ_eq_append_getElem (by simpa using hj), List.take_set_of_le (Nat.le_refl _)]
     simp
  have h2 := key vs 0 ((Array.range sz).map (z.cells[· % z.cells.size]!)) (by simp [hl])
  simpa using h2
 have e1 : ¬ (1 * sz > 2 ^ 24) := by omega
 have e2 : ¬ (1 * sz = 0) := by omega
 simp only [Instr.buildSlice, run_underlying hT, Sem.run_bind, Result.andThen_ok, hs, e1, e2, if_false, hz, Sem.run_pure, Instr.fill]
 simp only [hv, List.size_toArray, hl]
 simp [newRow, hl]
 rw [hc]

theorem L.slice1 {T e sz : Nat} {x : Operand} {v z : Value} {vs : List Value} (hx : E.ev x = some v) (hn : Nat.blt d n = true) (hw : wantedE ops E g = some true)
 (hT : P.underlying T = some (.slice e)) (hs : ∀ w, (sizeOf e).run P w = .ok sz w) (hz : ∀ w, (zeroValue e).run P w = .ok z w) (hzs : z.cells.size = sz) (h0 : 0 < sz) (hsz : sz ≤ 1000) (hv : v.cells = vs.toArray) (hl : vs.length = sz)
 (h : ∀ b, L P B ops rest k n ((d, .slice (some ⟨b, 0, none⟩) 1 1) :: E) (Hp w0 F S ((b, .cells vs.toArray e (0, 0)) :: H))) : L P B ops (⟨some d, .buildSlice T 1 #[(0, x)], ty, pos, aft, g⟩ :: rest) k n E (Hp w0 F S H) :=
 L.new (V := fun b => .slice (some ⟨b, 0, none⟩) 1 1) rfl hn hw (fun a w hst hA => by
  have := run_buildSlice1 (P := P) (w := w) hT hs hz hzs h0 hsz hv hl
  simp [execOp, hst.ev hx, this]) h
end

/-! ### a region that draws its order, all of whose operations leave the world as A tells it, and yield the same in each such world -/
section
variable {P : Program} {B : Exit → Act → World → Prop} {k : List Fr} {n : Nat} {E : Env} {A : World → Prop} {ops : Array Oper} {rest : List Oper}
 {d ty : Nat} {dd : Option Tmp} {pos : String} {aft : Array Edge} {g : Option (Nat × Bool)}

def Q (P : Program) (B : Exit → Act → World → Prop) (ops : Array Oper) (l : List Oper) (k : List Fr) (n : Nat) (E : Env) (A : World → Prop) : Prop :=
 ∀ a, St n E a → wpQuiet P ops A (fun a' => ∀ w', A w' → Ks P B k .normal a' w') l a

theorem C.quiet {l : List Oper} {id : Nat} (hm : P.follows .mixedOrders = true) (hB : Region.lexB .any l.toArray = true) (hd : ∀ w, A w → A { w with drawn := w.drawn + 1 }) (h : Q P B l.toArray l k n E A) :
 C P B (.region id l.toArray true) k n E A := fun a w hs hA => wp_region_quiet (C := A) hm hB (hd w hA) (by simpa using h a hs)

theorem Q.v {o : Oper} {v : Value} (hd : o.dst = some d) (hn : Nat.blt d n = true) (hw : wantedE ops E o.guard = some true) (hV : V P n E A o v) (h : Q P B ops rest k n ((d, v) :: E) A) : Q P B ops (o :: rest) k n E A := fun a hs => by
 unfold wpQuiet
 rw [if_pos (wantedE_spec hs hw)]
 refine ⟨v, fun w hA => ?_, by rw [hd]; exact h _ (hs.put hn v)⟩
 unfold Oper.quietAt
 rw [hV a w hs hA]
 exact ⟨rfl, rfl⟩

theorem Q.call {fo : Operand} {xs : List Operand} {ats : Array TypeId} {fid : FuncId} {fst cap args : Array Value} {vs : List Value} {v : Value} (hf : E.ev fo = some (.func (.func fid) fst cap)) (hx : E.evs xs = some vs) (hn : Nat.blt d n = true) (hw : wantedE ops E g = some true)
 (hcall : ∀ args w, (callFunc fid args).run P w = .ok (.enter fid args) w) (hargs : fst ++ vs.toArray ++ cap = args) (hc : ∀ w, A w → Calls P fid args w (fun e w' => e = .returned v ∧ A w'))
 (h : Q P B ops rest k n ((d, v) :: E) A) : Q P B ops (⟨some d, .call ⟨.value fo, xs.toArray, ats⟩, ty, pos, aft, g⟩ :: rest) k n E A := fun a hs => by
 unfold wpQuiet
 rw [if_pos (wantedE_spec hs hw)]
 refine ⟨v, fun w hA => ?_, h _ (hs.put hn v)⟩
 unfold Oper.quietAt
 have h2 : xs.toArray.map a.eval = vs.toArray := by simp [hs.evs hx]
 rw [run_call_op (hs.ev hf) h2 hcall, hargs]
 exact ⟨rfl, hc w hA⟩

theorem Q.skip {o : Oper} (hd : o.dst = some d) (hn : Nat.blt d n = true) (hw : wantedE ops E o.guard = some false) (h : Q P B ops rest k n ((d, undef) :: E) A) : Q P B ops (o :: rest) k n E A := fun a hs => by
 unfold wpQuiet
 rw [if_neg (by rw [wantedE_spec hs hw]; exact fun e => nomatch e), hd]
 exact h _ (hs.put hn undef)

theorem Q.fork {d : Nat} {t : Bool} {l : List Oper} (hv : E.get d = some (.bool t)) (h1 : t = true → Q P B ops l k n ((d, .bool true) :: E) A) (h2 : t = false → Q P B ops l k n ((d, .bool false) :: E) A) : Q P B ops l k n E A :=
 fun a hs => by
  cases t
  ·exact h2 rfl a (hs.know hv)
  ·exact h1 rfl a (hs.know hv)
theorem Q.know {d : Nat} {v u : Value} {l : List Oper} (hv : E.get d = some v) (e : v = u) (h : Q P B ops l k n ((d, u) :: E) A) : Q P B ops l k n E A :=
 fun a hs => h a (hs.know (e ▸ hv))

theorem Q.nil (h : N P B k n E A) : Q P B ops [] k n E A := fun a hs w hA => h a w hs hA
end
end Go.Tk

set_option linter.unusedSimpArgs false
set_option linter.unusedVariables false
namespace Go.Tk

section
variable {w0 : World} {F : Nat → Prop} {S S' : Store} {H H' Hr : Heap} {w : World}

/-- All that can be looked up in (S, H) can be looked up in (S', H'). -/
def Sees (S : Store) (H : Heap) (S' : Store) (H' : Heap) : Prop := ∀ b o, At S b o H → At S' b o H'
theorem Sees.refl (S : Store) (H : Heap) : Sees S H S H := fun _ _ h => h
theorem Sees.trans {S1 S2 S3 : Store} {H1 H2 H3 : Heap} (h : Sees S1 H1 S2 H2) (h' : Sees S2 H2 S3 H3) : Sees S1 H1 S3 H3 := fun b o k => h' b o (h b o k)
theorem At.of_mem {b : Nat} {o : Obj} {H : Heap} (h : (b, o) ∈ H) : At S b o H := by
 induction H with
 | nil => cases h
 | cons p H ih =>
   rcases List.mem_cons.1 h with rfl | h
   ·exact .head
   ·exact .tail (ih h)
theorem At.lift {b : Nat} {o : Obj} (h : At S b o []) (H : Heap) : At S b o H := .imm (h.mem.elim id (fun q => by cases q))
theorem Sees.of (hs : S.le S') (hh : ∀ p, p ∈ H → p ∈ H') : Sees S H S' H' := fun b o h => by
 rcases h.mem with h | h
 ·exact .imm (hs _ _ h)
 ·exact .of_mem (hh _ h)
theorem Sees.le (hs : S.le S') (H : Heap) : Sees S H S' H := .of hs fun _ h => h
theorem Sees.cons (S : Store) (H : Heap) (p : Nat × Obj) : Sees S H S (p :: H) := fun _ _ h => .tail h
theorem Sees.app (S : Store) (H l : Heap) : Sees S H S (l ++ H) := fun _ _ h => .apr h
theorem Sees.nil (hs : S.le S') (H : Heap) : Sees S [] S' H := .of hs fun _ h => by cases h

theorem Rd.mono {sz m : Nat} {v : Value} {xs : List Value} (h : Rd S H sz v m xs) (s : Sees S H S' H') : Rd S' H' sz v m xs := by
 obtain ⟨h1, h2⟩ := h
 refine ⟨h1, h2.imp id ?_⟩
 rintro ⟨b, off, c, cs, T, fz, h3, h4, h5, h6⟩
 exact ⟨b, off, c, cs, T, fz, h3, h4, s _ _ h5, h6⟩

theorem Rd.nil (S : Store) (H : Heap) (sz : Nat) : Rd S H sz (.slice none 0 0) 0 [] := ⟨by simp, .inl ⟨rfl, rfl⟩⟩

theorem Rd.form {sz m : Nat} {v : Value} {xs : List Value} (h : Rd S H sz v m xs) : ∃ ad c, v = .slice ad m c ∧ m ≤ c ∧ c ≤ 9223372036854775807 := by
 obtain ⟨h1, ⟨rfl, rfl⟩ | ⟨b, off, c, cs, T, fz, rfl, h4, h5, h6⟩⟩ := h
 ·exact ⟨_, _, rfl, Nat.le_refl _, by omega⟩
 ·exact ⟨_, _, rfl, h4⟩

theorem Rd.len {sz m : Nat} {v : Value} {xs : List Value} (h : Rd S H sz v m xs) : xs.length = m * sz := h.1

/-- There is something: the block where it lies. -/
theorem Rd.pos {sz m c : Nat} {ad : Option Addr} {xs : List Value} (h : Rd S H sz (.slice ad m c) m xs) (hm : 0 < m) :
 ∃ b off cs T fz, ad = some ⟨b, off, none⟩ ∧ At S b (.cells cs T fz) H ∧ ∀ j, j < xs.length → cs[off + j]? = xs[j]? := by
 obtain ⟨h1, ⟨h2, h3⟩ | ⟨b, off, c, cs, T, fz, h2, h4, h5, h6⟩⟩ := h
 ·omega
 ·injection h2 with e1 e2 e3; exact ⟨b, off, cs, T, fz, e1, h5, h6⟩

/-- An own row is read. -/
theorem Own.rd {e sz m : Nat} {v : Value} {xs : List Value} {fp : Heap} (h : Own e sz v m xs fp) (hh : ∀ p, p ∈ fp → p ∈ H) : Rd S H sz v m xs := by
 rcases h with ⟨rfl, rfl, rfl, rfl⟩ | ⟨b, c, js, rfl, rfl, h1, h2, h3, h4⟩
 ·exact Rd.nil ..
 ·refine ⟨h1, .inr ⟨b, 0, c, _, e, (0, 0), rfl, ⟨h3, h4⟩, .of_mem (hh _ (List.mem_cons_self ..)), fun j hj => ?_⟩⟩
  simp [List.getElem?_append_left hj]

theorem Own.full {e sz b m : Nat} {xs : List Value} (h1 : xs.length = m * sz) (h2 : m ≤ 9223372036854775807) : Own e sz (.slice (some ⟨b, 0, none⟩) m m) m xs [(b, .cells xs.toArray e (0, 0))] := by
 have := Own.mk (e := e) (b := b) (js := []) h1 (by simpa using h1) (Nat.le_refl m) h2
 simpa using this

theorem Own.form {e sz m : Nat} {v : Value} {xs : List Value} {fp : Heap} (h : Own e sz v m xs fp) : ∃ ad c, v = .slice ad m c := by
 rcases h with ⟨rfl, rfl, rfl, rfl⟩ | ⟨b, c, js, rfl, rfl, h1, h2, h3, h4⟩
 ·exact ⟨_, _, rfl⟩
 ·exact ⟨_, _, rfl⟩

/-- An own row is never changed any more. -/
theorem Own.shut {e sz m : Nat} {v : Value} {xs : List Value} {fp : Heap} (h : Own e sz v m xs fp) (hw : Hp w0 F S (fp ++ H) w) : ∃ S', S.le S' ∧ Rd S' [] sz v m xs ∧ Hp w0 F S' H w := by
 rcases h with ⟨rfl, rfl, rfl, rfl⟩ | ⟨b, c, js, rfl, rfl, h1, h2, h3, h4⟩
 ·exact ⟨S, .refl S, Rd.nil .., hw⟩
 ·obtain ⟨h5, h6⟩ := hw.shut
  refine ⟨_, h6, ⟨h1, .inr ⟨b, 0, c, _, e, (0, 0), rfl, ⟨h3, h4⟩, .imm (Store.add_self ..), fun j hj => ?_⟩⟩, h5⟩
  simp [List.getElem?_append_left hj]

/-- A part of a row. -/
theorem Rd.sub {sz m c l u : Nat} {ad ad' : Option Addr} {xs : List Value} (h : Rd S H sz (.slice ad m c) m xs) (hlu : l ≤ u) (hu : u ≤ m)
 (had : (if c = l then ad else ad.map (·.add (l * sz))) = ad') : Rd S H sz (.slice ad' (u - l) (c - l)) (u - l) ((xs.drop (l * sz)).take ((u - l) * sz)) := by
 obtain ⟨ad0, c0, e0, hmc, hc63⟩ := h.form
 injection e0 with _ _ e0
 subst e0
 have hx := h.len
 have h0 : (l * sz) + (u - l) * sz ≤ m * sz := by rw [← Nat.add_mul]; exact Nat.mul_le_mul_right _ (by omega)
 refine ⟨by simp [hx]; omega, ?_⟩
 by_cases hm : m = 0
 ·subst hm
  have e1 : l = 0 := by omega
  have e2 : u = 0 := by omega
  subst e1 e2
  obtain ⟨h1, ⟨h2, h3⟩ | ⟨b, off, c', cs, T, fz, h2, h4, h5, h6⟩⟩ := h
  ·injection h2 with a1 a2 a3; subst a1 a3; left; simp at had; exact ⟨by rw [← had], rfl⟩
  ·injection h2 with a1 a2 a3
   subst a1 a3
   right
   refine ⟨b, off, c, cs, T, fz, ?_, ⟨by omega, by omega⟩, h5, by simp⟩
   rw [← had]; split <;> simp [add_at]
 ·obtain ⟨b, off, cs, T, fz, rfl, h5, h6⟩ := h.pos (by omega)
  right
  by_cases hcl : c = l
  ·have : u = l := by omega
   subst this
   rw [if_pos hcl] at had
   subst had
   exact ⟨b, off, c - u, cs, T, fz, rfl, ⟨by omega, by omega⟩, h5, by simp⟩
  ·rw [if_neg hcl] at had
   subst had
   refine ⟨b, off + l * sz, c - l, cs, T, fz, by simp [add_at], ⟨by omega, by omega⟩, h5, fun j hj => ?_⟩
   simp only [List.length_take, List.length_drop] at hj
   rw [List.getElem?_take, if_pos (by omega), List.getElem?_drop, ← h6 _ (by omega)]
   congr 1; omega
end

theorem splice1 {α : Type} (l : List α) (k : Nat) (v : α) (h : k < l.length) : l.take k ++ [v] ++ l.drop (k + 1) = l.set k v := by
 rw [List.set_eq_take_append_cons_drop, if_pos h]; simp

theorem snoc_ind {α : Type} {Q : List α → Prop} (h0 : Q []) (h1 : ∀ l x, Q l → Q (l ++ [x])) (l : List α) : Q l := by
 rw [← List.reverse_reverse l]
 induction l.reverse with
 | nil => exact h0
 | cons x l ih => rw [List.reverse_cons]; exact h1 _ _ ih

/-! ### bytes and numbers -/

def bv (x : UInt8) : Value := .int .u8 (x.toNat : Int)
def iv (x : Int) : Value := .int .i64 x

def Bs (S : Store) (H : Heap) (v : Value) (l : List UInt8) : Prop := Rd S H 1 v l.length (l.map bv)
def Is (S : Store) (H : Heap) (v : Value) (l : List Int) : Prop := Rd S H 1 v l.length (l.map iv)

theorem Bs.mono {S S' : Store} {H H' : Heap} {v : Value} {l : List UInt8} (h : Bs S H v l) (s : Sees S H S' H') : Bs S' H' v l := Rd.mono h s
theorem Is.mono {S S' : Store} {H H' : Heap} {v : Value} {l : List Int} (h : Is S H v l) (s : Sees S H S' H') : Is S' H' v l := Rd.mono h s

theorem bv_one : ∀ (l : List UInt8), ∀ u ∈ l.map bv, u.oneCell' = true := fun l u hu => by
 obtain ⟨x, _, rfl⟩ := List.mem_map.1 hu; rfl
theorem iv_one : ∀ (l : List Int), ∀ u ∈ l.map iv, u.oneCell' = true := fun l u hu => by
 obtain ⟨x, _, rfl⟩ := List.mem_map.1 hu; rfl

/-- Byte j. -/
theorem Bs.at {S : Store} {H : Heap} {ad : Option Addr} {m c : Nat} {l : List UInt8} (h : Bs S H (.slice ad m c) l) {j : Nat} (hj : j < l.length) :
 ∃ b off cs T fz, ad = some ⟨b, off, none⟩ ∧ At S b (.cells cs T fz) H ∧ cs[off + j * 1]? = some (.int .u8 (l[j].toNat : Int)) := by
 obtain ⟨ad', c', e, _⟩ := Rd.form h
 injection e with e1 e2 e3
 subst e1 e2 e3
 obtain ⟨b, off, cs, T, fz, rfl, h1, h2⟩ := Rd.pos h (by omega)
 exact ⟨b, off, cs, T, fz, rfl, h1, by rw [Nat.mul_one, h2 j (by simpa using hj)]; simp [hj, bv]⟩
theorem Is.at {S : Store} {H : Heap} {ad : Option Addr} {m c : Nat} {l : List Int} (h : Is S H (.slice ad m c) l) {j : Nat} (hj : j < l.length) :
 ∃ b off cs T fz, ad = some ⟨b, off, none⟩ ∧ At S b (.cells cs T fz) H ∧ cs[off + j * 1]? = some (.int .i64 l[j]) := by
 obtain ⟨ad', c', e, _⟩ := Rd.form h
 injection e with e1 e2 e3
 subst e1 e2 e3
 obtain ⟨b, off, cs, T, fz, rfl, h1, h2⟩ := Rd.pos h (by omega)
 exact ⟨b, off, cs, T, fz, rfl, h1, by rw [Nat.mul_one, h2 j (by simpa using hj)]; simp [hj, iv]⟩

theorem Bs.form {S : Store} {H : Heap} {v : Value} {l : List UInt8} (h : Bs S H v l) : ∃ ad c, v = .slice ad l.length c ∧ l.length ≤ c ∧ c ≤ 9223372036854775807 := Rd.form h
theorem Is.form {S : Store} {H : Heap} {v : Value} {l : List Int} (h : Is S H v l) : ∃ ad c, v = .slice ad l.length c ∧ l.length ≤ c ∧ c ≤ 9223372036854775807 := Rd.form h

theorem Bs.sub {S : Store} {H : Heap} {ad ad' : Option Addr} {c lo hi : Nat} {l : List UInt8} (h : Bs S H (.slice ad l.length c) l) (h1 : lo ≤ hi) (h2 : hi ≤ l.length)
 (had : (if c = lo then ad else ad.map (·.add (lo * 1))) = ad') : Bs S H (.slice ad' (hi - lo) (c - lo)) ((l.drop lo).take (hi - lo)) := by
 have := Rd.sub h h1 h2 had
 simp only [Nat.mul_one] at this
 unfold Bs
 rw [List.map_take, List.map_drop, show ((l.drop lo).take (hi - lo)).length = hi - lo from by simp; omega]
 exact this
theorem Is.sub {S : Store} {H : Heap} {ad ad' : Option Addr} {c lo hi : Nat} {l : List Int} (h : Is S H (.slice ad l.length c) l) (h1 : lo ≤ hi) (h2 : hi ≤ l.length)
 (had : (if c = lo then ad else ad.map (·.add (lo * 1))) = ad') : Is S H (.slice ad' (hi - lo) (c - lo)) ((l.drop lo).take (hi - lo)) := by
 have := Rd.sub h h1 h2 had
 simp only [Nat.mul_one] at this
 unfold Is
 rw [List.map_take, List.map_drop, show ((l.drop lo).take (hi - lo)).length = hi - lo from by simp; omega]
 exact this

theorem u8_wrap {z : Int} (h0 : 0 ≤ z) (h1 : z ≤ 255) : IntKind.u8.wrap z = z := by rw [IntKind.wrap_u8]; omega


/-! ### a struct put together -/
section
variable {P : Program} {B : Exit → Act → World → Prop} {k : List Fr} {n : Nat} {E : Env} {A : World → Prop} {ops : Array Oper} {rest : List Oper}
 {d ty : Nat} {dd : Option Tmp} {pos : String} {aft : Array Edge} {g : Option (Nat × Bool)} {w0 : World} {F : Nat → Prop} {S : Store} {H : Heap}

/-- From place i on the list's things are vs. -/
inductive PutAt : List Value → Nat → List Value → List Value → Prop
 | nil {l : List Value} : PutAt [] 0 l l
 | cons {v x : Value} {vs l l' : List Value} (h : PutAt vs 0 l l') : PutAt (v :: vs) 0 (x :: l) (v :: l')
 | tail {x : Value} {vs : List Value} {i : Nat} {l l' : List Value} (h : PutAt vs i l l') : PutAt vs (i + 1) (x :: l) (x :: l')

theorem PutAt.spec {vs : List Value} {i : Nat} {l l' : List Value} (h : PutAt vs i l l') : i + vs.length ≤ l.length ∧ l' = l.take i ++ vs ++ l.drop (i + vs.length) := by
 induction h with
 | nil => exact ⟨by simp, by simp⟩
 | cons _ ih => obtain ⟨h1, h2⟩ := ih; simp at h1; exact ⟨by simp; omega, by rw [h2]; simp⟩
 | tail _ ih => obtain ⟨h1, h2⟩ := ih; exact ⟨by simp; omega, by rw [h2]; simp [Nat.add_right_comm]⟩

theorem foldl_put : ∀ (vs : List Value) (off j : Nat) (cs : Array Value), off + j + vs.length ≤ cs.size →
 (vs.zipIdx j).foldl (fun cs (x : Value × Nat) => cs.setIfInBounds (off + x.2) x.1) cs = (cs.toList.take (off + j) ++ vs ++ cs.toList.drop (off + j + vs.length)).toArray
 | [], off, j, cs, h => by apply Array.ext'; simp
 | v :: vs, off, j, cs, h => by
   rw [List.length_cons] at h
   rw [List.zipIdx_cons, List.foldl_cons, foldl_put vs off (j + 1) _ (by simp; omega)]
   have hj : off + j < cs.size := by omega
   apply Array.ext'
   simp only [Array.toList_setIfInBounds, ← Nat.add_assoc]
   rw [List.take_succ_eq_append_getElem (by simpa using hj), List.take_set_of_le (Nat.le_refl _)]
   simp only [List.getElem_set_self, List.append_assoc, List.singleton_append, List.length_cons, List.cons_append]
   rw [List.drop_set_of_lt (by omega)]
   rw [show off + j + 1 + vs.length = off + j + (vs.length + 1) from by omega, List.nil_append]

inductive Fills (pl : Nat → Option (Nat × Nat)) : List Value → List (Nat × Value) → List Value → Prop
 | nil {l : List Value} : Fills pl l [] l
 | cons {l l' out vs : List Value} {i off sz : Nat} {v : Value} {ps : List (Nat × Value)} (hp : pl i = some (off, sz)) (hv : v.cells = vs.toArray) (hl : vs.length = sz) (h : PutAt vs off l l') (r : Fills pl l' ps out) : Fills pl l ((i, v) :: ps) out

theorem Fills.fill {pl : Nat → Option (Nat × Nat)} {l out : List Value} {ps : List (Nat × Value)} (h : Fills pl l ps out) : Instr.fill pl l.toArray ps = some out.toArray := by
 induction h with
 | nil => rfl
 | cons hp hv hl h r ih =>
   rename_i l l' out vs i off sz v ps
   obtain ⟨h1, h2⟩ := h.spec
   have e2 : ¬ (v.cells.size ≠ sz ∨ off + v.cells.size > l.toArray.size) := by rw [hv]; simp [hl]; omega
   have e3 : v.cells.zipIdx.foldl (fun cs (x : Value × Nat) => cs.setIfInBounds (off + x.2) x.1) l.toArray = l'.toArray := by
    rw [hv, ← Array.foldl_toList, Array.toList_zipIdx]
    have := foldl_put vs off 0 l.toArray (by simpa using h1)
    simp only [Nat.add_zero] at this
    rw [this, h2]
   simp only [Instr.fill, hp]
   rw [if_neg (by simpa using e2), e3]
   exact ih

def Env.parts (E : Env) : List (Nat × Operand) → Option (List (Nat × Value))
 | [] => some []
 | (i, x) :: ps => match E.ev x, Env.parts E ps with
   | some v, some vs => some ((i, v) :: vs)
   | _, _ => none
theorem St.parts {a : Act} (h : St n E a) : ∀ {ps : List (Nat × Operand)} {vs : List (Nat × Value)}, E.parts ps = some vs → ps.map (fun (p : Nat × Operand) => (p.1, a.eval p.2)) = vs
 | [], vs, hx => by simp only [Env.parts, Option.some.injEq] at hx; subst hx; rfl
 | (i, x) :: ps, vs, hx => by
   simp only [Env.parts] at hx
   cases h1 : E.ev x with
   | none => simp [h1] at hx
   | some v =>
     cases h2 : Env.parts E ps with
     | none => simp [h1, h2] at hx
     | some us =>
       simp only [h1, h2, Option.some.injEq] at hx
       subst hx
       simp [h.ev h1, h.parts h2]

theorem V.build {T : TypeId} {ps : List (Nat × Operand)} {vs : List (Nat × Value)} {fs : Array Field} {zs out : List Value} {pl : List (Nat × Nat)} (hx : E.parts ps = some vs) (hT : P.underlying T = some (.struct fs)) (hz : ∀ w, (zeroValue T).run P w = .ok (.agg zs.toArray) w)
 (hp : ∀ w, (fs.mapM fun (f : Field) => do pure (f.offset, ← sizeOf f.type)).run P w = .ok pl.toArray w) (hf : Fills (pl.toArray[·]?) zs vs out) : V P n E A ⟨dd, .build T ps.toArray, ty, pos, aft, g⟩ (.agg out.toArray) := fun a w hs _ => by
 have h1 := hs.parts hx
 have h2 : (ps.toArray.map fun (x : Nat × Operand) => (x.1, a.eval x.2)) = vs.toArray := by simp [h1]
 simp only [execOp, h2, Instr.build, Sem.run_bind, hz, Result.andThen_ok, run_underlying hT, hp, Value.cells, hf.fill, Sem.run_pure]

theorem V.buildA {T e len sz : Nat} {ps : List (Nat × Operand)} {vs : List (Nat × Value)} {zs out : List Value} (hx : E.parts ps = some vs) (hT : P.underlying T = some (.array len e)) (hz : ∀ w, (zeroValue T).run P w = .ok (.agg zs.toArray) w)
 (hs : ∀ w, (sizeOf e).run P w = .ok sz w) (hf : Fills (fun i => some (i * sz, sz)) zs vs out) : V P n E A ⟨dd, .build T ps.toArray, ty, pos, aft, g⟩ (.agg out.toArray) := fun a w hst _ => by
 have h1 := hst.parts hx
 have h2 : (ps.toArray.map fun (x : Nat × Operand) => (x.1, a.eval x.2)) = vs.toArray := by simp [h1]
 simp only [execOp, h2, Instr.build, Sem.run_bind, hz, Result.andThen_ok, run_underlying hT, hs, Value.cells, hf.fill, Sem.run_pure]

theorem V.index {T e len sz j : Nat} {x y : Operand} {cs : Array Value} {kd : IntKind} {i : Int} {v : Value} (hx : E.ev x = some (.agg cs)) (hy : E.ev y = some (.int kd i)) (hT : P.underlying T = some (.array len e)) (hs : ∀ w, (sizeOf e).run P w = .ok sz w)
 (hg : ∀ w, (isAgg e).run P w = .ok false w) (hi : i = (j : Int)) (hj : j < len) (hv : cs[j * sz]? = some v) : V P n E A ⟨dd, .index T x y, ty, pos, aft, g⟩ v := fun a w hst _ => by
 subst hi
 have h1 : (0 : Int) ≤ (j : Int) ∧ (j : Int) < (len : Int) := ⟨by omega, by omega⟩
 simp [execOp, hst.ev hx, hst.ev hy, Instr.index, asIntOf, run_underlying hT, hs, h1, hj, run_part1 hg hv]

theorem V.indexAddrA {T e len sz b off j : Nat} {x y : Operand} {kd : IntKind} {i : Int} (hx : E.ev x = some (.pointer (some ⟨b, off, none⟩))) (hy : E.ev y = some (.int kd i)) (hT : P.underlying T = some (.array len e)) (hs : ∀ w, (sizeOf e).run P w = .ok sz w)
 (hi : i = (j : Int)) (hj : j < len) : V P n E A ⟨dd, .indexAddr T x y, ty, pos, aft, g⟩ (.pointer (some ⟨b, off + j * sz, none⟩)) := fun a w hst _ => by
 subst hi
 have h1 : (0 : Int) ≤ (j : Int) ∧ (j : Int) < (len : Int) := ⟨by omega, by omega⟩
 simp [execOp, hst.ev hx, hst.ev hy, Instr.indexAt, asIntOf, run_underlying hT, hs, h1, hj, Instr.sureAddr, add_at]

theorem V.unXor {T : TypeId} {x : Operand} {kd : IntKind} {a c : Int} (hk : kd.signed = false) (hx : E.ev x = some (.int kd a)) (hc : kd.wrap (BitVec.ofInt kd.bits kd.max ^^^ BitVec.ofInt kd.bits a).toNat = c) :
 V P n E A ⟨dd, .unOp .xor T x, ty, pos, aft, g⟩ (.int kd c) := fun q w hst _ => by
 simp only [execOp, hst.ev hx, Op.unary, hk, Bool.false_eq_true, if_false, Op.intBits, hc, Sem.run_bind, Sem.run_pure, Result.andThen_ok]

theorem L.slice0 {T e : TypeId} (hn : Nat.blt d n = true) (hw : wantedE ops E g = some true) (hT : P.underlying T = some (.slice e)) {sz : Nat} (hs : ∀ w, (sizeOf e).run P w = .ok sz w)
 (h : ∀ b, L P B ops rest k n ((d, .slice (some ⟨b, 0, none⟩) 0 0) :: E) (Hp w0 F S ((b, .cells #[] e (0, 0)) :: H))) : L P B ops (⟨some d, .buildSlice T 0 #[], ty, pos, aft, g⟩ :: rest) k n E (Hp w0 F S H) :=
 L.new (V := fun b => .slice (some ⟨b, 0, none⟩) 0 0) rfl hn hw (fun a w hst hA => by
  simp [execOp, Instr.buildSlice, run_underlying hT, hs, Instr.fill, newRow, Array.range_zero']) h

theorem V.lenStr {T : TypeId} {x : Operand} {s : ByteArray} (hx : E.ev x = some (.string s)) (hT : P.underlying T = some .string) : V P n E A ⟨dd, .call ⟨.builtin .len, #[x], #[T]⟩, ty, pos, aft, g⟩ (.int .i64 s.size) := fun a w hs _ => by
 have := hs.ev hx
 simp [execOp, resolve, invoke, builtin, this, Builtin.len_, run_underlying hT, goInt]

theorem own0 {e b sz : Nat} : Own e sz (.slice (some ⟨b, 0, none⟩) 0 0) 0 [] [(b, .cells #[] e (0, 0))] := Own.mk (js := []) (by simp) (by simp) (Nat.le_refl _) (by omega)

/-- []byte{} and the like, then append: all in one rule for what follows. -/
theorem Bs.one {S : Store} {H : Heap} {v : Value} {l : List UInt8} (h : Bs S H v l) : Rd S H 1 v l.length (l.map bv) := h
end
end Go.Tk

set_option linter.unusedSimpArgs false
set_option linter.unusedVariables false
namespace Go.Tk

section
variable {P : Program} {ops : Array Oper} {C : World → Prop} {bs : List Nat}

def fOp (P : Program) (ops : Array Oper) (i : Nat) (K : Act → World → Prop) (a : Act) (w : World) : Prop :=
 match ops[i]? with
 | none => K a w
 | some o => if Region.wanted o (yielded ops a.tmps) then o.wp P a w K (fun _ _ _ => False) else K (a.put o.dst undef) w

def wpF (P : Program) (ops : Array Oper) (bs : List Nat) (C : World → Prop) (Q : Act → World → Prop) : Nat → Array Bool → Act → World → Prop
 | 0, listed, a, w => ((∃ b ∈ bs, listed.getD b false = true) ∨ C w) ∧ Region.ready .any ops listed = [] ∧ Q a w
 | f + 1, listed, a, w => ((∃ b ∈ bs, listed.getD b false = true) ∨ C w) ∧ (Region.ready .any ops listed = [] → Q a w) ∧
   ∀ i ∈ Region.ready .any ops listed, fOp P ops i (wpF P ops bs C Q f (listed.setIfInBounds i true)) a w

theorem wpF.cond {Q : Act → World → Prop} {f : Nat} {listed : Array Bool} {a : Act} {w : World} (h : wpF P ops bs C Q f listed a w) : (∃ b ∈ bs, listed.getD b false = true) ∨ C w := by
 cases f <;> exact h.1
theorem getD_both' {listed : Array Bool} {i : Nat} (h : listed.getD i true = false) : listed.getD i false = false := by
 rcases Nat.lt_or_ge i listed.size with h' | h'
 ·simp [h'] at h ⊢; exact h
 ·simp [Array.getElem?_eq_none h'] at h

theorem Oper.wp_noQ {o : Oper} {a : Act} {w : World} {K K' : Act → World → Prop} {Q : Exit → Act → World → Prop} (h : ∀ a w, K a w → K' a w) (hh : o.wp P a w K (fun _ _ _ => False)) : o.wp P a w K' Q := by
 unfold Oper.wp at *
 generalize (execOp a.eval o).run P w = r at *
 cases r with
 | ok n w' =>
   cases n <;> simp only [Oper.upon] at hh ⊢ <;>
    first
     | exact h _ _ hh
     | exact Calls.mono hh (fun e w'' he => by cases e <;> first | exact h _ _ he | exact he.elim | (obtain ⟨_, _, hf⟩ := he; exact hf.elim))
     | exact Rows.mono hh (fun _ _ he => h _ _ he)
 | halt x w' => cases x <;> simp only [Oper.upon] at hh ⊢ <;> exact hh.elim

theorem fOp_mono {i : Nat} {a : Act} {w : World} {K K' : Act → World → Prop} (h : ∀ a w, K a w → K' a w) (hh : fOp P ops i K a w) : fOp P ops i K' a w := by
 unfold fOp at *
 split
 ·exact h _ _ (by simpa [*] using hh)
 ·rename_i o ho
  simp only [ho] at hh
  split
  ·rename_i hw; simp only [hw, if_true] at hh; exact Oper.wp_noQ h hh
  ·rename_i hw; simp only [hw] at hh; exact h _ _ hh

theorem wpAny_of_F {Q : Act → World → Prop} {Q' : Exit → Act → World → Prop} (hQ : ∀ a w, Q a w → Q' .normal a w) : ∀ (f : Nat) (listed : Array Bool) (a : Act) (w : World),
 wpF P ops bs C Q f listed a w → wpAny P .any ops Q' f listed a w
 | 0, _, _, _, h => ⟨h.2.1, hQ _ _ h.2.2⟩
 | f + 1, _, _, _, h => ⟨fun h0 => hQ _ _ (h.2.1 h0), fun i hi => by
    have h1 := h.2.2 i hi
    unfold fOp at h1
    unfold wpOp
    split
    ·rename_i ho; simp only [ho] at h1; exact wpAny_of_F hQ f _ _ _ h1
    ·rename_i o ho
     simp only [ho] at h1
     split
     ·rename_i hw; simp only [hw, if_true] at h1; exact .inl (Oper.wp_noQ (fun a w k => wpAny_of_F hQ f _ a w k) h1)
     ·rename_i hw; simp only [hw] at h1; exact wpAny_of_F hQ f _ _ _ h1⟩

/-- In each world of the class the operation yields v and leaves the world as it is. -/
def Yv (P : Program) (ops : Array Oper) (C : World → Prop) (o : Oper) (v : Value) (a : Act) : Prop :=
 (Region.wanted o (yielded ops a.tmps) = true ∧ ∀ w, C w → (execOp a.eval o).run P w = .ok (.value v) w) ∨ (Region.wanted o (yielded ops a.tmps) = false ∧ v = undef)

theorem Yv.fOp {i : Nat} {o : Oper} {v : Value} {a : Act} {w : World} (hi : ops[i]? = some o) (hy : Yv P ops C o v a) (hC : C w) {K : Act → World → Prop} (h : K (a.put o.dst v) w) : fOp P ops i K a w := by
 unfold Tk.fOp
 simp only [hi]
 rcases hy with ⟨hw, hv⟩ | ⟨hw, rfl⟩
 ·simp only [hw, if_true]
  unfold Oper.wp
  rw [hv w hC, Oper.upon_value]; exact h
 ·simp only [hw, Bool.false_eq_true, if_false]; exact h

theorem Yv.of_same {o : Oper} {v : Value} {a a' : Act} (hy : Yv P ops C o v a) (he : execOp a'.eval o = execOp a.eval o)
 (hw : Region.wanted o (yielded ops a'.tmps) = Region.wanted o (yielded ops a.tmps)) : Yv P ops C o v a' := by
 unfold Yv at *
 rw [he, hw]; exact hy

theorem fOp_put {j : Nat} {oi oj : Oper} {v : Value} (hj : ops[j]? = some oj) (hap : oi.apart ops oj = true) (hsi : ∀ cs b, oi.op ≠ .select cs b) (hsj : ∀ cs b, oj.op ≠ .select cs b) {K : Act → World → Prop} {a : Act} {w : World}
 (hy : Yv P ops C oi v a) (h : fOp P ops j K (a.put oi.dst v) w) : fOp P ops j (fun a' w' => Yv P ops C oi v a' ∧ K (a'.put oi.dst v) w') a w := by
 obtain ⟨h1, h2, h3⟩ := Oper.apart_spec hap
 have keep : ∀ u, Yv P ops C oi v (a.put oj.dst u) := fun u => hy.of_same (execOp_put oi hsi a oj.dst u h3) (wanted_put oi a oj.dst u h3)
 have keepD : ∀ (d : Deferred) u, Yv P ops C oi v ({ a with defers := d :: a.defers }.put oj.dst u) := fun d u => by
  have : ({ a with defers := d :: a.defers }.put oj.dst u).tmps = (a.put oj.dst u).tmps := by cases oj.dst <;> rfl
  have he : Act.eval ({ a with defers := d :: a.defers }.put oj.dst u) = Act.eval (a.put oj.dst u) := by funext x; cases x <;> simp [Act.eval, this]
  exact (keep u).of_same (by rw [he]) (by rw [this])
 unfold fOp at *
 simp only [hj] at *
 rw [wanted_put oj a oi.dst v h1] at h
 split
 ·rename_i hw
  simp only [hw, if_true] at h
  unfold Oper.wp at *
  rw [execOp_put oj hsj a oi.dst v h1] at h
  generalize (execOp a.eval oj).run P w = r at *
  have swap : ∀ u, (a.put oi.dst v).put oj.dst u = (a.put oj.dst u).put oi.dst v := fun u => Act.put_comm a v u h2
  cases r with
  | ok n w' =>
    cases n <;> simp only [Oper.upon] at h ⊢
    case value u => exact ⟨keep u, by rw [← swap]; exact h⟩
    case skip => exact ⟨keep _, by rw [← swap]; exact h⟩
    case defer d =>
     refine ⟨keepD d _, ?_⟩
     have : ({ a with defers := d :: a.defers }.put oj.dst undef).put oi.dst v = ({ a.put oi.dst v with defers := d :: (a.put oi.dst v).defers }).put oj.dst undef := by
      rw [← Act.put_comm _ v undef h2]; cases oi.dst <;> rfl
     rw [this]; exact h
    case enter f args => exact h.mono (fun e w'' he => by
     cases e with
     | returned u => exact ⟨keep u, by rw [← swap]; exact he⟩
     | panicked c => exact he
     | outgrown => obtain ⟨_, _, hf⟩ := he; exact hf.elim)
    case row f args => exact h.mono (fun u w'' he => ⟨keep u, by rw [← swap]; exact he⟩)
    all_goals exact h
  | halt x w' => cases x <;> simp only [Oper.upon] at h ⊢ <;> exact h.elim
 ·rename_i hw
  simp only [hw] at h
  exact ⟨keep _, by rw [← Act.put_comm a v undef h2]; exact h⟩

theorem wpF_first {Q : Act → World → Prop} {i : Nat} {oi : Oper} {v : Value} (hi : ops[i]? = some oi) (hsel : ∀ (j : Nat) (o : Oper) cs b, ops[j]? = some o → o.op ≠ .select cs b) (hq : ∀ b ∈ bs, ∃ ob, ops[b]? = some ob ∧ ∃ e ∈ ob.after, Region.binds .any e = true ∧ e.on = i) :
 ∀ (f : Nat) (listed : Array Bool) (a : Act) (w : World),
  (∀ j oj, ops[j]? = some oj → j ≠ i → listed.getD j true = false → (∀ e ∈ oj.after, Region.binds .any e = true → e.on ≠ i) → oi.apart ops oj = true) →
  i ∈ Region.ready .any ops listed → (∀ b ∈ bs, listed.getD b false = false) → C w → Yv P ops C oi v a →
  wpF P ops bs C Q f (listed.setIfInBounds i true) (a.put oi.dst v) w → wpF P ops bs C Q (f + 1) listed a w := by
 intro f
 induction f with
 | zero =>
   intro listed a w _ hr hbs hC hy H
   refine ⟨.inr hC, fun h => (by rw [h] at hr; cases hr), fun j hj => ?_⟩
   by_cases hji : j = i
   ·subst hji; exact hy.fOp hi hC H
   ·have := ready_mono hj hji
    rw [H.2.1] at this
    cases this
 | succ f ih =>
   intro listed a w hfree hr hbs hC hy H
   refine ⟨.inr hC, fun h => (by rw [h] at hr; cases hr), fun j hj => ?_⟩
   by_cases hji : j = i
   ·subst hji; exact hy.fOp hi hC H
   ·have h1 := H.2.2 j (ready_mono hj hji)
    obtain ⟨hjun, oj, hoj, hall⟩ := mem_ready.1 hj
    have hnot : ∀ e ∈ oj.after, Region.binds .any e = true → e.on ≠ i := fun e he hb heq => by
     have h1 := hall e he hb
     have h0 := (mem_ready.1 hr).1
     rw [heq] at h1
     rcases Nat.lt_or_ge i listed.size with h' | h'
     ·simp [h'] at h0 h1; rw [h0] at h1; cases h1
     ·simp [Array.getElem?_eq_none h'] at h1
    have h2 := fOp_put hoj (hfree j oj hoj hji hjun hnot) (fun cs b => hsel i oi cs b hi) (fun cs b => hsel j oj cs b hoj) hy h1
    have hfree' : ∀ k ok, ops[k]? = some ok → k ≠ i → (listed.setIfInBounds j true).getD k true = false →
     (∀ e ∈ ok.after, Region.binds .any e = true → e.on ≠ i) → oi.apart ops ok = true := fun k ok hk hki hun hno => by
     refine hfree k ok hk hki ?_ hno
     by_cases hjk : j = k
     ·subst hjk; exact hjun
     ·rw [getD_set_ne true hjk] at hun; exact hun
    have hri : i ∈ Region.ready .any ops (listed.setIfInBounds j true) := ready_mono hr (Ne.symm hji)
    refine fOp_mono (fun a' w' h3 => ?_) h2
    have h4 := h3.2
    rw [Array.setIfInBounds_comm _ _ (fun e => hji e.symm)] at h4
    have hiun : listed.getD i false = false := getD_both' (mem_ready.1 hr).1
    have hbj : ∀ b ∈ bs, (listed.setIfInBounds j true).getD b false = false := fun b hb => by
     by_cases hbj : j = b
     ·exfalso
      subst hbj
      obtain ⟨ob, hob, e, he, hb1, hb2⟩ := hq j hb
      have : ob = oj := Option.some.inj (hob.symm.trans hoj)
      subst this
      have := hall e he hb1
      rw [hb2, hiun] at this; cases this
     ·rw [getD_set_ne false hbj]; exact hbs b hb
    have hCw : C w' := by
     have h5 : (∃ b ∈ bs, ((listed.setIfInBounds j true).setIfInBounds i true).getD b false = true) ∨ C w' := h4.cond
     rcases h5 with ⟨b, hb, h6⟩ | h5
     ·by_cases hib : i = b
      ·exfalso
       subst hib
       obtain ⟨ob, hob, e, he, hb1, hb2⟩ := hq i hb
       have h7 := (mem_ready.1 hr).2
       obtain ⟨o2, ho2, hall2⟩ := h7
       have : ob = o2 := Option.some.inj (hob.symm.trans ho2)
       subst this
       have := hall2 e he hb1
       rw [hb2, hiun] at this; cases this
      ·rw [getD_set_ne false hib, hbj b hb] at h6; cases h6
     ·exact h5
    exact ih (listed.setIfInBounds j true) a' w' hfree' hri hbj hCw h3.1 h4

/-! ### the judgement -/
variable {B : Exit → Act → World → Prop} {k : List Fr} {n : Nat} {E : Env} {A : World → Prop} {f d ty : Nat} {listed : Array Bool} {dd : Option Tmp} {pos : String} {aft : Array Edge} {g : Option (Nat × Bool)}

def D (P : Program) (B : Exit → Act → World → Prop) (ops : Array Oper) (bs : List Nat) (C : World → Prop) (f : Nat) (listed : Array Bool) (k : List Fr) (n : Nat) (E : Env) (A : World → Prop) : Prop :=
 ∀ a w, St n E a → A w → wpF P ops bs C (fun a' w' => Ks P B k .normal a' w') f listed a w

/-- bs: operations that wait for each that is taken first; C: what holds till one of them comes. -/
theorem C.draw {l : List Oper} {id m : Nat} (bs : List Nat) (hm : P.follows .mixedOrders = true) (hl : l.length = m) (hd : ∀ w, A w → A { w with drawn := w.drawn + 1 })
 (h : D P B l.toArray bs A m (Array.replicate m false) k n E A) : Tk.C P B (.region id l.toArray true) k n E A := fun a w hs hA => by
 subst hl
 refine wp_region_any hm (wpAny_of_F (bs := bs) (C := A) (Q := fun a' w' => Ks P B k .normal a' w') (fun a w h => h) _ _ _ _ ?_)
 simpa using h a _ hs (hd w hA)

/-- .. with a wider class. -/
theorem C.drawC {l : List Oper} {id m : Nat} (bs : List Nat) (Cl : World → Prop) (hAC : ∀ w, A w → Cl w) (hm : P.follows .mixedOrders = true) (hl : l.length = m) (hd : ∀ w, A w → A { w with drawn := w.drawn + 1 })
 (h : D P B l.toArray bs Cl m (Array.replicate m false) k n E A) : Tk.C P B (.region id l.toArray true) k n E A := fun a w hs hA => by
 subst hl
 refine wp_region_any hm (wpAny_of_F (bs := bs) (C := Cl) (Q := fun a' w' => Ks P B k .normal a' w') (fun a w h => h) _ _ _ _ ?_)
 simpa using h a _ hs (hd w hA)

def takeB (ops : Array Oper) (bs : List Nat) (listed : Array Bool) (i : Nat) : Bool :=
 Region.noSelect ops && Region.free .any ops listed i && (Region.ready .any ops listed).contains i && bs.all (fun b => !listed.getD b false && (match ops[b]? with | some ob => ob.after.any (fun e => Region.binds .any e && e.on == i) | none => false))

theorem D.take {o : Oper} {v : Value} (i : Nat) {listed' : Array Bool} (hi : ops[i]? = some o) (hB : takeB ops bs listed i = true) (hl : listed.setIfInBounds i true = listed') (hd : o.dst = some d) (hn : Nat.blt d n = true) (hw : wantedE ops E o.guard = some true) (hV : V P n E C o v) (hAC : ∀ w, A w → C w)
 (h : D P B ops bs C f listed' k n ((d, v) :: E) A) : D P B ops bs C (f + 1) listed k n E A := fun a w hs hA => by
 subst hl
 unfold takeB at hB
 simp only [Bool.and_eq_true, List.all_eq_true] at hB
 obtain ⟨⟨⟨h1, h2⟩, h3⟩, h4⟩ := hB
 refine wpF_first hi (Region.noSelect_spec h1) (fun b hb => ?_) f listed a w (Region.free_spec hi h2) (by simpa using h3) (fun b hb => ?_) (hAC w hA) (.inl ⟨wantedE_spec hs hw, fun w' hC => hV a w' hs hC⟩) (by rw [hd]; exact h _ w (hs.put hn v) hA)
 ·have h5 := (h4 b hb).2
  split at h5
  ·rename_i ob hob
   obtain ⟨e, he, h6⟩ := Array.any_eq_true'.1 h5
   simp only [Bool.and_eq_true, beq_iff_eq] at h6
   exact ⟨ob, hob, e, he, h6.1, h6.2⟩
  ·cases h5
 ·simpa using (h4 b hb).1

theorem D.skip {o : Oper} (i : Nat) {listed' : Array Bool} (hi : ops[i]? = some o) (hB : takeB ops bs listed i = true) (hl : listed.setIfInBounds i true = listed') (hd : o.dst = some d) (hn : Nat.blt d n = true) (hw : wantedE ops E o.guard = some false) (hAC : ∀ w, A w → C w)
 (h : D P B ops bs C f listed' k n ((d, undef) :: E) A) : D P B ops bs C (f + 1) listed k n E A := fun a w hs hA => by
 subst hl
 unfold takeB at hB
 simp only [Bool.and_eq_true, List.all_eq_true] at hB
 obtain ⟨⟨⟨h1, h2⟩, h3⟩, h4⟩ := hB
 refine wpF_first hi (Region.noSelect_spec h1) (fun b hb => ?_) f listed a w (Region.free_spec hi h2) (by simpa using h3) (fun b hb => ?_) (hAC w hA) (.inr ⟨wantedE_spec hs hw, rfl⟩) (by rw [hd]; exact h _ w (hs.put hn undef) hA)
 ·have h5 := (h4 b hb).2
  split at h5
  ·rename_i ob hob
   obtain ⟨e, he, h6⟩ := Array.any_eq_true'.1 h5
   simp only [Bool.and_eq_true, beq_iff_eq] at h6
   exact ⟨ob, hob, e, he, h6.1, h6.2⟩
  ·cases h5
 ·simpa using (h4 b hb).1

/-- One operation alone may come now: it is run as in a list that ends behind it. -/
theorem D.only {o : Oper} (i : Nat) {listed' : Array Bool} (hr : Region.ready .any ops listed = [i]) (hi : ops[i]? = some o) (hl : listed.setIfInBounds i true = listed') (hc : (∃ b ∈ bs, listed.getD b false = true) ∨ ∀ w, A w → C w)
 (h : ∀ a w, St n E a → A w → fOp P ops i (wpF P ops bs C (fun a' w' => Ks P B k .normal a' w') f listed') a w) : D P B ops bs C (f + 1) listed k n E A := fun a w hs hA => by
 subst hl
 refine ⟨hc.imp id (fun h => h w hA), fun h0 => (by rw [hr] at h0; cases h0), fun j hj => ?_⟩
 rw [hr] at hj
 rcases List.mem_singleton.1 hj with rfl
 exact h a w hs hA

theorem D.done (hr : Region.ready .any ops listed = []) (hc : (∃ b ∈ bs, listed.getD b false = true) ∨ ∀ w, A w → C w) (h : N P B k n E A) : D P B ops bs C f listed k n E A := fun a w hs hA => by
 cases f with
 | zero => exact ⟨hc.imp id (fun h => h w hA), hr, h a w hs hA⟩
 | succ f => exact ⟨hc.imp id (fun h => h w hA), fun _ => h a w hs hA, fun j hj => (by rw [hr] at hj; cases hj)⟩

/-- What a rule for a list says of its first operation. -/
theorem fOp_of_L {o : Oper} {i : Nat} {a : Act} {w : World} {Q : Act → World → Prop} (hi : ops[i]? = some o) (h : wpList P ops (fun e a w => match e with | .normal => Q a w | _ => False) [o] a w) : fOp P ops i Q a w := by
 unfold wpList at h
 unfold fOp
 simp only [hi]
 split
 ·rename_i hw
  rw [if_pos hw] at h
  rcases h with h | ⟨_, _, _, hf⟩
  ·have := Oper.wp_noQ (K := Q) (K' := Q) (Q := fun _ _ _ => False) (fun _ _ h => h) (o := o) (a := a) (w := w) (P := P)
   unfold Oper.wp at *
   generalize (execOp a.eval o).run P w = r at *
   cases r with
   | ok n w' =>
     cases n <;> simp only [Oper.upon] at h ⊢ <;>
      first
       | exact h
       | exact Calls.mono h (fun e w'' he => by cases e <;> first | exact he | (obtain ⟨_, _, hf⟩ := he; exact ⟨_, _, hf⟩))
       | exact Rows.mono h (fun _ _ he => he)
   | halt x w' => cases x <;> simp only [Oper.upon] at h ⊢ <;> exact h
  ·exact hf.elim
 ·rename_i hw; rw [if_neg hw] at h; exact h

def Bn (Q : Act → World → Prop) : Exit → Act → World → Prop
 | .normal => Q
 | _ => fun _ _ => False

/-- One operation alone may come now: by the rules for a list. -/
theorem D.step {o : Oper} (i : Nat) {listed' : Array Bool} (hr : Region.ready .any ops listed = [i]) (hi : ops[i]? = some o) (hl : listed.setIfInBounds i true = listed') (hc : (∃ b ∈ bs, listed.getD b false = true) ∨ ∀ w, A w → C w)
 (h : L P (Bn (wpF P ops bs C (fun a' w' => Ks P B k .normal a' w') f listed')) ops [o] [] n E A) : D P B ops bs C (f + 1) listed k n E A :=
 D.only i hr hi hl hc (fun a w hs hA => fOp_of_L hi (by
  have := h a w hs hA
  refine cast ?_ this
  congr 1
  funext e a w
  cases e <;> rfl))
theorem D.back {listed' : Array Bool} (h : D P B ops bs C f listed' k n E A) : L P (Bn (wpF P ops bs C (fun a' w' => Ks P B k .normal a' w') f listed')) ops [] [] n E A := fun a w hs hA => wpList_nil (h a w hs hA)
theorem D.cons {A' : World → Prop} (hA : ∀ w, A w → A' w) (h : D P B ops bs C f listed k n E A') : D P B ops bs C f listed k n E A := fun a w hs h0 => h a w hs (hA w h0)
theorem D.fork {d : Nat} {t : Bool} (hv : E.get d = some (.bool t)) (h1 : t = true → D P B ops bs C f listed k n ((d, .bool true) :: E) A) (h2 : t = false → D P B ops bs C f listed k n ((d, .bool false) :: E) A) : D P B ops bs C f listed k n E A :=
 fun a w hs hA => by
  cases t
  ·exact h2 rfl a w (hs.know hv) hA
  ·exact h1 rfl a w (hs.know hv) hA
theorem D.know {d : Nat} {v u : Value} (hv : E.get d = some v) (e : v = u) (h : D P B ops bs C f listed k n ((d, u) :: E) A) : D P B ops bs C f listed k n E A :=
 fun a w hs hA => h a w (hs.know (e ▸ hv)) hA
end
end Go.Tk

set_option linter.unusedSimpArgs false
set_option linter.unusedVariables false
namespace Go.Tk

theorem zAt {S : Store} {b : Nat} {o : Obj} {H : Heap} (h : At S b o H := by repeat (first | exact At.head | (refine At.imm ?_; assumption) | refine At.tail ?_ | refine At.apr ?_)) : At S b o H := h
theorem zUp {b : Nat} {o o' : Obj} {H H' : Heap} (h : Upd b o o' H H' := by repeat (first | exact Upd.head | apply Upd.tail | apply Upd.apr)) : Upd b o o' H H' := h
theorem zSet {v : Value} {i : Nat} {l l' : List Value} (h : SetAt v i l l' := by repeat (first | exact SetAt.head | apply SetAt.tail)) : SetAt v i l l' := h
theorem zPut {vs : List Value} {i : Nat} {l l' : List Value} (h : PutAt vs i l l' := by repeat (first | exact PutAt.nil | apply PutAt.cons | apply PutAt.tail)) : PutAt vs i l l' := h
theorem zSub {a b : Heap} (h : a.Sublist b := by (repeat (first | exact List.Sublist.refl _ | apply List.Sublist.append_left | apply List.Sublist.cons_cons | apply List.sublist_append_of_sublist_right | apply List.Sublist.cons)); done) : a.Sublist b := h
theorem zRe {a b : Heap} (h : ∀ f : Nat × Obj → Nat, (a.map f).sum = (b.map f).sum := by intro f; simp only [List.append_eq, List.nil_append, List.cons_append, List.map_append, List.map_cons, List.map_nil, List.sum_append_nat, List.sum_cons, List.sum_nil, Nat.add_zero] <;> ac_rfl) : ∀ f : Nat × Obj → Nat, (a.map f).sum = (b.map f).sum := h

/-- What tests say, in one. -/
theorem sq : (∀ (p : Prop) [Decidable p], (decide p = true) = p) ∧ (∀ (p : Prop) [Decidable p], (decide p = false) = ¬ p) ∧ (∀ (α : Type) [BEq α] [LawfulBEq α] (a b : α), ((a == b) = true) = (a = b)) ∧ (∀ (α : Type) [BEq α] [LawfulBEq α] (a b : α), ((a != b) = true) = (a ≠ b)) ∧
 (∀ (α : Type) (a b : α), (a ≠ b) = ¬ (a = b)) ∧ (∀ (α : Type) [BEq α] [LawfulBEq α] (a b : α), ((a == b) = false) = (a ≠ b)) ∧ (∀ (α : Type) [BEq α] [LawfulBEq α] (a b : α), ((a != b) = false) = (a = b)) ∧ (∀ b : Bool, ((!b) = true) = (b = false)) ∧ (∀ b : Bool, ((!b) = false) = (b = true)) ∧
 (∀ (p : Prop) [Decidable p], (¬ ¬ p) = p) ∧ (∀ a b : Int, (¬ a < b) = (b ≤ a)) ∧ (∀ a b : Int, (¬ a ≤ b) = (b < a)) :=
 ⟨fun _ _ => by simp, fun _ _ => by simp, fun _ _ _ _ _ => by simp, fun _ _ _ _ _ => by simp, fun _ _ _ => rfl, fun _ _ _ _ _ => by simp, fun _ _ _ _ _ => by simp, fun _ => by simp, fun _ => by simp, fun _ _ => by simp only [Decidable.not_not], fun _ _ => by simp only [Int.not_lt], fun _ _ => by simp only [Int.not_le]⟩

section
variable {P : Program} {B : Exit → Act → World → Prop} {ops : Array Oper} {rest : List Oper} {k : List Fr} {n d : Nat} {E : Env} {A : World → Prop}
theorem L.w {o : Oper} {v : Value} (h0 : (o.dst, Nat.blt d n, wantedE ops E o.guard) = (some d, true, some true)) (hV : V P n E A o v) (h : L P B ops rest k n ((d, v) :: E) A) : L P B ops (o :: rest) k n E A := by
 simp only [Prod.mk.injEq] at h0
 exact L.v h0.1 h0.2.1 h0.2.2 hV h

/-- A sum, written short where the left number is nothing. -/
class Plus (a b : Nat) (c : outParam Nat) : Prop where
 h : a + b = c
instance (b : Nat) : Plus 0 b b := ⟨Nat.zero_add b⟩
instance (priority := low) (a b : Nat) : Plus a b (a + b) := ⟨rfl⟩
theorem V.fa {dd : Option Tmp} {ty : Nat} {pos : String} {aft : Array Edge} {g : Option (Nat × Bool)} {T : TypeId} {x : Operand} {f b off o q sz : Nat} {fs : Array Field} {fl : Field} [hq : Plus off o q] (hx : E.ev x = some (.pointer (some ⟨b, off, none⟩)))
 (hT : P.underlying T = some (.struct fs)) (hf : fs[f]? = some fl) (ho : fl.offset = o) (hs : ∀ w, (sizeOf fl.type).run P w = .ok (sz + 1) w) : V P n E A ⟨dd, .fieldAddr T x f, ty, pos, aft, g⟩ (.pointer (some ⟨b, q, none⟩)) := by
 rw [← hq.h]; exact V.fieldAddr hx hT hf ho hs
end

section
variable {P : Program} {B : Exit → Act → World → Prop} {ops : Array Oper} {rest : List Oper} {k : List Fr} {n d ty : Nat} {E : Env} {A : World → Prop} {pos : String} {aft : Array Edge} {g : Option (Nat × Bool)}
theorem sM {x : Operand} {v : Value} (h : (Nat.blt d n, wantedE ops E g, E.ev x) = (true, some true, some v)) (z : L P B ops rest k n ((d, v) :: E) A) : L P B ops (⟨some d, .move x, ty, pos, aft, g⟩ :: rest) k n E A := by
 simp only [Prod.mk.injEq] at h
 exact L.v rfl h.1 h.2.1 (V.move h.2.2) z
theorem sA {x : Operand} {v : Value} (h : (Nat.blt d n, wantedE ops E g, E.ev x) = (true, some true, some v)) (z : L P B ops rest k n ((d, v) :: E) A) : L P B ops (⟨some d, .assign x, ty, pos, aft, g⟩ :: rest) k n E A := by
 simp only [Prod.mk.injEq] at h
 exact L.v rfl h.1 h.2.1 (V.assign h.2.2) z
theorem sX {x : Operand} {i : Nat} {vs : Array Value} {v : Value} (h : (Nat.blt d n, wantedE ops E g, E.ev x, vs[i]?) = (true, some true, some (.tuple vs), some v)) (z : L P B ops rest k n ((d, v) :: E) A) : L P B ops (⟨some d, .extract x i, ty, pos, aft, g⟩ :: rest) k n E A := by
 simp only [Prod.mk.injEq] at h
 exact L.v rfl h.1 h.2.1 (V.extract h.2.2.1 h.2.2.2) z
theorem sT {c x y : Operand} {v : Value} (h : (Nat.blt d n, wantedE ops E g, E.ev c, E.ev x) = (true, some true, some (.bool true), some v)) (z : L P B ops rest k n ((d, v) :: E) A) : L P B ops (⟨some d, .pick c x y, ty, pos, aft, g⟩ :: rest) k n E A := by
 simp only [Prod.mk.injEq] at h
 exact L.v rfl h.1 h.2.1 (V.pickT h.2.2.1 h.2.2.2) z
theorem sU {c x y : Operand} {v : Value} (h : (Nat.blt d n, wantedE ops E g, E.ev c, E.ev y) = (true, some true, some (.bool false), some v)) (z : L P B ops rest k n ((d, v) :: E) A) : L P B ops (⟨some d, .pick c x y, ty, pos, aft, g⟩ :: rest) k n E A := by
 simp only [Prod.mk.injEq] at h
 exact L.v rfl h.1 h.2.1 (V.pickF h.2.2.1 h.2.2.2) z
theorem sV {x : Operand} {T : TypeId} {t : Bool} (h : (Nat.blt d n, wantedE ops E g, E.ev x) = (true, some true, some (.bool t))) (z : L P B ops rest k n ((d, (.bool !t)) :: E) A) : L P B ops (⟨some d, .unOp .not T x, ty, pos, aft, g⟩ :: rest) k n E A := by
 simp only [Prod.mk.injEq] at h
 exact L.v rfl h.1 h.2.1 (V.not h.2.2) z
theorem sW {x : Operand} {ad : Addr} (h : (Nat.blt d n, wantedE ops E g, E.ev x) = (true, some true, some (.pointer (some ad)))) (z : L P B ops rest k n ((d, (.pointer (some ad))) :: E) A) : L P B ops (⟨some d, .nilCheck x, ty, pos, aft, g⟩ :: rest) k n E A := by
 simp only [Prod.mk.injEq] at h
 exact L.v rfl h.1 h.2.1 (V.nilCheck h.2.2) z
theorem sQa {x y : Operand} {T U : TypeId} {kk : IntKind} {a b : Int} (h : (Nat.blt d n, wantedE ops E g, E.ev x, E.ev y) = (true, some true, some (.int kk a), some (.int kk b))) (z : L P B ops rest k n ((d, (.bool (a == b))) :: E) A) : L P B ops (⟨some d, .binOp .eql T x y U, ty, pos, aft, g⟩ :: rest) k n E A := by
 simp only [Prod.mk.injEq] at h
 exact L.v rfl h.1 h.2.1 (V.eql h.2.2.1 h.2.2.2) z
theorem sQb {x y : Operand} {T U : TypeId} {kk : IntKind} {a b : Int} (h : (Nat.blt d n, wantedE ops E g, E.ev x, E.ev y) = (true, some true, some (.int kk a), some (.int kk b))) (z : L P B ops rest k n ((d, (.bool (a != b))) :: E) A) : L P B ops (⟨some d, .binOp .neq T x y U, ty, pos, aft, g⟩ :: rest) k n E A := by
 simp only [Prod.mk.injEq] at h
 exact L.v rfl h.1 h.2.1 (V.neq h.2.2.1 h.2.2.2) z
theorem sQc {x y : Operand} {T U : TypeId} {kk : IntKind} {a b : Int} (h : (Nat.blt d n, wantedE ops E g, E.ev x, E.ev y) = (true, some true, some (.int kk a), some (.int kk b))) (z : L P B ops rest k n ((d, (.bool (decide (a < b)))) :: E) A) : L P B ops (⟨some d, .binOp .lss T x y U, ty, pos, aft, g⟩ :: rest) k n E A := by
 simp only [Prod.mk.injEq] at h
 exact L.v rfl h.1 h.2.1 (V.lss h.2.2.1 h.2.2.2) z
theorem sQd {x y : Operand} {T U : TypeId} {kk : IntKind} {a b : Int} (h : (Nat.blt d n, wantedE ops E g, E.ev x, E.ev y) = (true, some true, some (.int kk a), some (.int kk b))) (z : L P B ops rest k n ((d, (.bool (decide (a ≤ b)))) :: E) A) : L P B ops (⟨some d, .binOp .leq T x y U, ty, pos, aft, g⟩ :: rest) k n E A := by
 simp only [Prod.mk.injEq] at h
 exact L.v rfl h.1 h.2.1 (V.leq h.2.2.1 h.2.2.2) z
theorem sQe {x y : Operand} {T U : TypeId} {kk : IntKind} {a b : Int} (h : (Nat.blt d n, wantedE ops E g, E.ev x, E.ev y) = (true, some true, some (.int kk a), some (.int kk b))) (z : L P B ops rest k n ((d, (.bool (decide (b < a)))) :: E) A) : L P B ops (⟨some d, .binOp .gtr T x y U, ty, pos, aft, g⟩ :: rest) k n E A := by
 simp only [Prod.mk.injEq] at h
 exact L.v rfl h.1 h.2.1 (V.gtr h.2.2.1 h.2.2.2) z
theorem sQf {x y : Operand} {T U : TypeId} {kk : IntKind} {a b : Int} (h : (Nat.blt d n, wantedE ops E g, E.ev x, E.ev y) = (true, some true, some (.int kk a), some (.int kk b))) (z : L P B ops rest k n ((d, (.bool (decide (b ≤ a)))) :: E) A) : L P B ops (⟨some d, .binOp .geq T x y U, ty, pos, aft, g⟩ :: rest) k n E A := by
 simp only [Prod.mk.injEq] at h
 exact L.v rfl h.1 h.2.1 (V.geq h.2.2.1 h.2.2.2) z
theorem sS {o : Op} (h : (Nat.blt d n, wantedE ops E g) = (true, some false)) (z : L P B ops rest k n ((d, undef) :: E) A) : L P B ops (⟨some d, o, ty, pos, aft, g⟩ :: rest) k n E A := by
 simp only [Prod.mk.injEq] at h
 exact L.skip rfl h.1 h.2 z
theorem tM {x : Operand} {v : Value} (h : (Nat.blt d n, wantedE ops E g, E.ev x) = (true, some true, some v)) (z : Q P B ops rest k n ((d, v) :: E) A) : Q P B ops (⟨some d, .move x, ty, pos, aft, g⟩ :: rest) k n E A := by
 simp only [Prod.mk.injEq] at h
 exact Q.v rfl h.1 h.2.1 (V.move h.2.2) z
theorem tA {x : Operand} {v : Value} (h : (Nat.blt d n, wantedE ops E g, E.ev x) = (true, some true, some v)) (z : Q P B ops rest k n ((d, v) :: E) A) : Q P B ops (⟨some d, .assign x, ty, pos, aft, g⟩ :: rest) k n E A := by
 simp only [Prod.mk.injEq] at h
 exact Q.v rfl h.1 h.2.1 (V.assign h.2.2) z
theorem tX {x : Operand} {i : Nat} {vs : Array Value} {v : Value} (h : (Nat.blt d n, wantedE ops E g, E.ev x, vs[i]?) = (true, some true, some (.tuple vs), some v)) (z : Q P B ops rest k n ((d, v) :: E) A) : Q P B ops (⟨some d, .extract x i, ty, pos, aft, g⟩ :: rest) k n E A := by
 simp only [Prod.mk.injEq] at h
 exact Q.v rfl h.1 h.2.1 (V.extract h.2.2.1 h.2.2.2) z
theorem tT {c x y : Operand} {v : Value} (h : (Nat.blt d n, wantedE ops E g, E.ev c, E.ev x) = (true, some true, some (.bool true), some v)) (z : Q P B ops rest k n ((d, v) :: E) A) : Q P B ops (⟨some d, .pick c x y, ty, pos, aft, g⟩ :: rest) k n E A := by
 simp only [Prod.mk.injEq] at h
 exact Q.v rfl h.1 h.2.1 (V.pickT h.2.2.1 h.2.2.2) z
theorem tU {c x y : Operand} {v : Value} (h : (Nat.blt d n, wantedE ops E g, E.ev c, E.ev y) = (true, some true, some (.bool false), some v)) (z : Q P B ops rest k n ((d, v) :: E) A) : Q P B ops (⟨some d, .pick c x y, ty, pos, aft, g⟩ :: rest) k n E A := by
 simp only [Prod.mk.injEq] at h
 exact Q.v rfl h.1 h.2.1 (V.pickF h.2.2.1 h.2.2.2) z
theorem tV {x : Operand} {T : TypeId} {t : Bool} (h : (Nat.blt d n, wantedE ops E g, E.ev x) = (true, some true, some (.bool t))) (z : Q P B ops rest k n ((d, (.bool !t)) :: E) A) : Q P B ops (⟨some d, .unOp .not T x, ty, pos, aft, g⟩ :: rest) k n E A := by
 simp only [Prod.mk.injEq] at h
 exact Q.v rfl h.1 h.2.1 (V.not h.2.2) z
theorem tW {x : Operand} {ad : Addr} (h : (Nat.blt d n, wantedE ops E g, E.ev x) = (true, some true, some (.pointer (some ad)))) (z : Q P B ops rest k n ((d, (.pointer (some ad))) :: E) A) : Q P B ops (⟨some d, .nilCheck x, ty, pos, aft, g⟩ :: rest) k n E A := by
 simp only [Prod.mk.injEq] at h
 exact Q.v rfl h.1 h.2.1 (V.nilCheck h.2.2) z
theorem tQa {x y : Operand} {T U : TypeId} {kk : IntKind} {a b : Int} (h : (Nat.blt d n, wantedE ops E g, E.ev x, E.ev y) = (true, some true, some (.int kk a), some (.int kk b))) (z : Q P B ops rest k n ((d, (.bool (a == b))) :: E) A) : Q P B ops (⟨some d, .binOp .eql T x y U, ty, pos, aft, g⟩ :: rest) k n E A := by
 simp only [Prod.mk.injEq] at h
 exact Q.v rfl h.1 h.2.1 (V.eql h.2.2.1 h.2.2.2) z
theorem tQb {x y : Operand} {T U : TypeId} {kk : IntKind} {a b : Int} (h : (Nat.blt d n, wantedE ops E g, E.ev x, E.ev y) = (true, some true, some (.int kk a), some (.int kk b))) (z : Q P B ops rest k n ((d, (.bool (a != b))) :: E) A) : Q P B ops (⟨some d, .binOp .neq T x y U, ty, pos, aft, g⟩ :: rest) k n E A := by
 simp only [Prod.mk.injEq] at h
 exact Q.v rfl h.1 h.2.1 (V.neq h.2.2.1 h.2.2.2) z
theorem tQc {x y : Operand} {T U : TypeId} {kk : IntKind} {a b : Int} (h : (Nat.blt d n, wantedE ops E g, E.ev x, E.ev y) = (true, some true, some (.int kk a), some (.int kk b))) (z : Q P B ops rest k n ((d, (.bool (decide (a < b)))) :: E) A) : Q P B ops (⟨some d, .binOp .lss T x y U, ty, pos, aft, g⟩ :: rest) k n E A := by
 simp only [Prod.mk.injEq] at h
 exact Q.v rfl h.1 h.2.1 (V.lss h.2.2.1 h.2.2.2) z
theorem tQd {x y : Operand} {T U : TypeId} {kk : IntKind} {a b : Int} (h : (Nat.blt d n, wantedE ops E g, E.ev x, E.ev y) = (true, some true, some (.int kk a), some (.int kk b))) (z : Q P B ops rest k n ((d, (.bool (decide (a ≤ b)))) :: E) A) : Q P B ops (⟨some d, .binOp .leq T x y U, ty, pos, aft, g⟩ :: rest) k n E A := by
 simp only [Prod.mk.injEq] at h
 exact Q.v rfl h.1 h.2.1 (V.leq h.2.2.1 h.2.2.2) z
theorem tQe {x y : Operand} {T U : TypeId} {kk : IntKind} {a b : Int} (h : (Nat.blt d n, wantedE ops E g, E.ev x, E.ev y) = (true, some true, some (.int kk a), some (.int kk b))) (z : Q P B ops rest k n ((d, (.bool (decide (b < a)))) :: E) A) : Q P B ops (⟨some d, .binOp .gtr T x y U, ty, pos, aft, g⟩ :: rest) k n E A := by
 simp only [Prod.mk.injEq] at h
 exact Q.v rfl h.1 h.2.1 (V.gtr h.2.2.1 h.2.2.2) z
theorem tQf {x y : Operand} {T U : TypeId} {kk : IntKind} {a b : Int} (h : (Nat.blt d n, wantedE ops E g, E.ev x, E.ev y) = (true, some true, some (.int kk a), some (.int kk b))) (z : Q P B ops rest k n ((d, (.bool (decide (b ≤ a)))) :: E) A) : Q P B ops (⟨some d, .binOp .geq T x y U, ty, pos, aft, g⟩ :: rest) k n E A := by
 simp only [Prod.mk.injEq] at h
 exact Q.v rfl h.1 h.2.1 (V.geq h.2.2.1 h.2.2.2) z
theorem tS {o : Op} (h : (Nat.blt d n, wantedE ops E g) = (true, some false)) (z : Q P B ops rest k n ((d, undef) :: E) A) : Q P B ops (⟨some d, o, ty, pos, aft, g⟩ :: rest) k n E A := by
 simp only [Prod.mk.injEq] at h
 exact Q.skip rfl h.1 h.2 z
theorem sC {x y : Code} (h : C P B x (.seq y :: k) n E A) : C P B (.seq x y) k n E A := C.seq h
theorem sR {l : List Oper} {id : Nat} (h : L P B l.toArray l k n E A) : C P B (.region id l.toArray false) k n E A := C.region h
theorem sD {l : List Oper} {id : Nat} {y : Code} (h : L P B l.toArray l (.seq y :: k) n E A) : C P B (.seq (.region id l.toArray false) y) k n E A := C.seq (C.region h)
theorem sN {y : Code} (h : C P B y k n E A) : L P B ops [] (.seq y :: k) n E A := L.nil (N.seq h)
theorem tN {y : Code} (h : C P B y k n E A) : Q P B ops [] (.seq y :: k) n E A := Q.nil (N.seq h)
theorem sE {l : List Oper} {id : Nat} {y : Code} (h : L P B l.toArray l (.seq y :: k) n E A) : L P B ops [] (.seq (.seq (.region id l.toArray false) y) :: k) n E A := L.nil (N.seq (C.seq (C.region h)))
theorem sK {y : Code} (h : C P B y k n E A) : C P B .skip (.seq y :: k) n E A := C.skip (N.seq h)
theorem sB {c : Code} {id : Nat} (h : C P B c (.blk id :: k) n E A) : C P B (.block id c) k n E A := C.block h
theorem sO {c : Operand} {x y : Code} (hc : E.ev c = some (.bool true)) (h1 : C P B x k n E A) : C P B (.cond c x y) k n E A := C.condT hc rfl h1
theorem sP {c : Operand} {x y : Code} (hc : E.ev c = some (.bool false)) (h1 : C P B y k n E A) : C P B (.cond c x y) k n E A := C.condF hc rfl h1
theorem sZ {id : Nat} {y : Code} {k' : List Fr} (he : exitK id k = some (.seq y :: k')) (h : C P B y k' n E A) : C P B (.exit id) k n E A := C.exit he (N.seq h)
end

end Go.Tk

set_option linter.unusedSimpArgs false
set_option linter.unusedVariables false
namespace Go.Tk

/-! ### rows of things of k cells -/

theorem flat_len {α : Type} {k : Nat} : ∀ (rows : List (List α)), (∀ r ∈ rows, r.length = k) → rows.flatten.length = rows.length * k
 | [], _ => by simp
 | r :: rows, h => by
   rw [List.flatten_cons, List.length_append, flat_len rows (fun r hr => h r (List.mem_cons_of_mem _ hr)), h r (List.mem_cons_self ..), List.length_cons, Nat.add_mul, Nat.add_comm, Nat.one_mul]

theorem flat_get {α : Type} {k : Nat} : ∀ (rows : List (List α)), (∀ r ∈ rows, r.length = k) → ∀ (j i : Nat) (hj : j < rows.length), i < k → rows.flatten[j * k + i]? = (rows[j])[i]?
 | [], _, j, i, hj, hi => by simp at hj
 | r :: rows, h, 0, i, hj, hi => by
   rw [List.flatten_cons, List.getElem?_append_left (by rw [h r (List.mem_cons_self ..)]; omega)]
   simp
 | r :: rows, h, j + 1, i, hj, hi => by
   have hr := h r (List.mem_cons_self ..)
   rw [List.flatten_cons, List.getElem?_append_right (by rw [hr, Nat.add_mul]; omega), hr, show (j + 1) * k + i - k = j * k + i from by rw [Nat.add_mul]; omega]
   rw [flat_get rows (fun r hr => h r (List.mem_cons_of_mem _ hr)) j i (by simpa using hj) hi]
   simp

theorem extract_of {cs : Array Value} {a k : Nat} {vs : List Value} (hcs : a ≤ cs.size ∨ 0 < k) (hk : vs.length = k) (h : ∀ i, i < k → cs[a + i]? = vs[i]?) : a + k ≤ cs.size ∧ cs.extract a (a + k) = vs.toArray := by
 have hle : a + k ≤ cs.size := by
  rcases Nat.eq_zero_or_pos k with h0 | h0
  ·subst h0; exact hcs.resolve_right (by omega)
  ·have h1 := h (k - 1) (by omega)
   rw [List.getElem?_eq_getElem (by omega)] at h1
   have := (Array.getElem?_eq_some_iff.1 h1).1
   omega
 refine ⟨hle, ?_⟩
 apply Array.ext
 ·simp [hk]; omega
 ·intro i h1 h2
  have h3 : i < k := by simpa [hk] using h2
  have h4 := h i h3
  rw [Array.getElem?_eq_getElem (by omega), List.getElem?_eq_getElem (by omega)] at h4
  simpa using h4

/-- Thing j of a row of things of k cells: where it lies, and its cells. -/
theorem Rd.row {S : Store} {H : Heap} {k m c : Nat} {ad : Option Addr} {rows : List (List Value)} (h : Rd S H k (.slice ad m c) m rows.flatten) (hk : ∀ r ∈ rows, r.length = k) (hm : rows.length = m) {j : Nat} (hj : j < rows.length) (h0 : 0 < k) :
 ∃ b off cs T fz, ad = some ⟨b, off, none⟩ ∧ At S b (.cells cs T fz) H ∧ off + j * k + k ≤ cs.size ∧ cs.extract (off + j * k) (off + j * k + k) = rows[j].toArray ∧ ∀ i, i < k → cs[off + j * k + i]? = (rows[j])[i]? := by
 obtain ⟨b, off, cs, T, fz, rfl, h1, h2⟩ := h.pos (by omega)
 have h3 : ∀ i, i < k → cs[off + j * k + i]? = (rows[j])[i]? := fun i hi => by
  rw [← flat_get rows hk j i hj hi, ← h2 (j * k + i) (by rw [flat_len rows hk]; exact Nat.lt_of_lt_of_le (Nat.add_lt_add_left hi _) (by rw [← Nat.succ_mul]; exact Nat.mul_le_mul_right _ hj)), Nat.add_assoc]
 obtain ⟨h4, h5⟩ := extract_of (.inr h0) (hk _ (List.getElem_mem hj)) h3
 exact ⟨b, off, cs, T, fz, rfl, h1, h4, h5, h3⟩

/-- .. of all things of the row at once. -/
theorem Rd.rowAll {S : Store} {H : Heap} {k m c : Nat} {ad : Option Addr} {rows : List (List Value)} (h : Rd S H k (.slice ad m c) m rows.flatten) (hk : ∀ r ∈ rows, r.length = k) (hm : rows.length = m) (h0 : 0 < k) (hpos : 0 < m) :
 ∃ b off cs T fz, ad = some ⟨b, off, none⟩ ∧ At S b (.cells cs T fz) H ∧ ∀ j (hj : j < rows.length), off + j * k + k ≤ cs.size ∧ cs.extract (off + j * k) (off + j * k + k) = rows[j].toArray ∧ ∀ i, i < k → cs[off + j * k + i]? = (rows[j])[i]? := by
 obtain ⟨b, off, cs, T, fz, rfl, h1, h2⟩ := h.pos hpos
 refine ⟨b, off, cs, T, fz, rfl, h1, fun j hj => ?_⟩
 have h3 : ∀ i, i < k → cs[off + j * k + i]? = (rows[j])[i]? := fun i hi => by
  rw [← flat_get rows hk j i hj hi, ← h2 (j * k + i) (by rw [flat_len rows hk]; exact Nat.lt_of_lt_of_le (Nat.add_lt_add_left hi _) (by rw [← Nat.succ_mul]; exact Nat.mul_le_mul_right _ hj)), Nat.add_assoc]
 obtain ⟨h4, h5⟩ := extract_of (.inr h0) (hk _ (List.getElem_mem hj)) h3
 exact ⟨h4, h5, h3⟩

/-! ### bytes read whole -/

theorem run_loadBytes {P : Program} {w : World} {b : Nat} {cs : Array Value} {T : TypeId} {fz : Nat × Nat} (h : w.heap[b]? = some (.cells cs T fz)) :
 ∀ (l : List UInt8) (off : Nat) (acc : ByteArray), (∀ i, i < l.length → cs[off + i]? = (l.map bv)[i]?) → (Extern.Bytes.loadBytes ⟨b, off, none⟩ l.length acc).run P w = .ok ⟨acc.data ++ l.toArray⟩ w
 | [], off, acc, _ => by simp [Extern.Bytes.loadBytes]
 | x :: l, off, acc, hc => by
   have h0 := hc 0 (by simp)
   simp only [Nat.add_zero, List.map_cons, List.getElem?_cons_zero] at h0
   have h1 : w.cell? ⟨b, off, none⟩ = some (.int .u8 (x.toNat : Int)) := by rw [cell_at h, h0]; rfl
   have ih := run_loadBytes (P := P) h l (off + 1) (acc.push x) (fun i hi => by
    have := hc (i + 1) (by simpa using hi)
    rw [show off + 1 + i = off + (i + 1) from by omega, this]; simp)
   have e1 : acc.push (x.toNat : Int).toNat.toUInt8 = acc.push x := by congr 1; simp [Nat.toUInt8]
   simp only [List.length_cons, Extern.Bytes.loadBytes, Sem.run_bind, run_load_at h1, Result.andThen_ok, add_at]
   rw [e1, ih]
   congr 2
   apply Array.ext'
   simp [ByteArray.push]

theorem run_bytesOf {P : Program} {S : Store} {H : Heap} {w0 : World} {F : Nat → Prop} {w : World} {v : Value} {l : List UInt8} (hb : Bs S H v l) (hw : Hp w0 F S H w) : (Extern.Bytes.bytesOf v).run P w = .ok ⟨l.toArray⟩ w := by
 obtain ⟨h1, ⟨rfl, h2⟩ | ⟨b, off, c, cs, T, fz, rfl, _, h5, h6⟩⟩ := hb
 ·have : l = [] := List.eq_nil_of_length_eq_zero h2
  subst this; rfl
 ·have := run_loadBytes (P := P) (hw.at h5) l off ByteArray.empty (by simpa using h6)
  simp only [Extern.Bytes.bytesOf]
  rw [this]
  congr 2
  apply Array.ext'
  simp [ByteArray.empty, ByteArray.emptyWithCapacity]
  rfl

theorem run_cmp {P : Program} {S : Store} {H : Heap} {w0 : World} {F : Nat → Prop} {w : World} {u v : Value} {k l : List UInt8} (ha : Bs S H u k) (hb : Bs S H v l) (hw : Hp w0 F S H w) :
 (Extern.BytealgCompare.compare #[u, v]).run P w = .ok (.int .i64 (Lib.compareBytes k l)) w := by
 change Sem.run P (do pure (goInt (Extern.BytealgCompare.cmp (← Extern.Bytes.bytesOf u) (← Extern.Bytes.bytesOf v)))) w = _
 simp only [Sem.run_bind, run_bytesOf ha hw, run_bytesOf hb hw, Result.andThen_ok, Sem.run_pure, Lib.cmp_eq]
 rfl

theorem run_bytesStr {P : Program} {S : Store} {H : Heap} {w0 : World} {F : Nat → Prop} {w : World} {v : Value} {l : List UInt8} (hb : Bs S H v l) (hw : Hp w0 F S H w) : (Conv.bytesToString v).run P w = .ok (.string ⟨l.toArray⟩) w := by
 obtain ⟨h1, ⟨rfl, h2⟩ | ⟨b, off, c, cs, T, fz, rfl, _, h5, h6⟩⟩ := hb
 ·have : l = [] := List.eq_nil_of_length_eq_zero h2
  subst this; rfl
 ·rcases l with _ | ⟨x0, l0⟩
  ·simp [Conv.bytesToString, loadCells, loadCellsFrom]; rfl
  generalize hl : x0 :: l0 = l at *
  have hpos : 0 < l.length := by rw [← hl]; simp
  have h7 := extract_of (k := l.length) (vs := l.map bv) (.inr hpos) (by simp) (by simpa using h6)
  have h8 := run_loadCells (P := P) (hw.at h5) h7.1
  rw [h7.2] at h8
  have e : l.map bv = (l.map (fun x : UInt8 => (x.toNat : Int))).map (Value.int .u8) := by simp [bv]
  rw [e] at h8
  rw [run_bytesToString w _ _ _ _ h8]
  congr 2
  have : ∀ (l : List UInt8) (s : ByteArray), (l.map (fun x : UInt8 => (x.toNat : Int))).foldl (fun r n => r.push (UInt8.ofNat n.toNat)) s = ⟨s.data ++ l.toArray⟩ := by
   intro l
   induction l with
   | nil => intro s; simp
   | cons x l ih => intro s; simp only [List.map_cons, List.foldl_cons]; rw [ih]; congr 1; apply Array.ext'; simp [ByteArray.push]
  rw [this]; congr 1; apply Array.ext'; simp [ByteArray.empty, ByteArray.emptyWithCapacity]; rfl

section
variable {P : Program} {B : Exit → Act → World → Prop} {k : List Fr} {n : Nat} {E : Env} {A : World → Prop} {ops : Array Oper} {rest : List Oper}
 {d ty : Nat} {dd : Option Tmp} {pos : String} {aft : Array Edge} {g : Option (Nat × Bool)} {w0 : World} {F : Nat → Prop} {S : Store} {H : Heap}

/-- A callee without a body that yields a value and leaves the world alone. -/
theorem V.extern {fo : Operand} {xs : List Operand} {ats : Array TypeId} {fid : FuncId} {fst cap args : Array Value} {vs : List Value} {v : Value} (hf : E.ev fo = some (.func (.func fid) fst cap)) (hx : E.evs xs = some vs) (hargs : fst ++ vs.toArray ++ cap = args)
 (hc : ∀ w, A w → (callFunc fid args).run P w = .ok (.value v) w) : V P n E A ⟨dd, .call ⟨.value fo, xs.toArray, ats⟩, ty, pos, aft, g⟩ v := fun a w hs hA => by
 have h2 : xs.toArray.map a.eval = vs.toArray := by simp [hs.evs hx]
 have := hc w hA
 subst hargs
 simp [execOp, resolve, hs.ev hf, hs.evs hx, Deferred.ofValue, invoke, this] at *
 simpa using this

theorem V.str {T U e : TypeId} {x : Operand} {v : Value} {l : List UInt8} (hx : E.ev x = some v) (hT : P.underlying T = some (.slice e)) (he : P.underlying e = some (.int .u8)) (hU : P.underlying U = some .string) (hb : Bs S H v l) :
 V P n E (Hp w0 F S H) ⟨dd, .convert T U x, ty, pos, aft, g⟩ (.string ⟨l.toArray⟩) := fun a w hs hA => by
 have h1 := run_bytesStr (P := P) hb hA
 obtain ⟨ad, c, rfl, _⟩ := hb.form
 simp only [execOp, hs.ev hx, Sem.run_bind, run_convert_bytes_string w T U e ad _ c hT he hU, h1, Result.andThen_ok, Sem.run_pure]

theorem V.eqlStr {T U : TypeId} {x y : Operand} {s t : ByteArray} (hx : E.ev x = some (.string s)) (hy : E.ev y = some (.string t)) : V P n E A ⟨dd, .binOp .eql T x y U, ty, pos, aft, g⟩ (.bool (s.toList == t.toList)) := fun a w hs _ => by
 simp only [execOp, hs.ev hx, hs.ev hy, eqGuard_at_string, Sem.run_bind, Sem.run_pure, Result.andThen_ok, binOp, Op.stringOp]
end

theorem ret_bool {p q : Bool} (h : p = true ↔ q = true) : Ending.returned (.bool p) = .returned (.bool q) := by
 cases p <;> cases q <;> simp_all

/-! ### two lists, thing by thing -/

def All2 {α β : Type} (R : α → β → Prop) : List α → List β → Prop
 | [], [] => True
 | a :: xa, b :: bs => R a b ∧ All2 R xa bs
 | _, _ => False

section
variable {α β : Type} {R : α → β → Prop}
theorem All2.length : ∀ {xa : List α} {bs : List β}, All2 R xa bs → xa.length = bs.length
 | [], [], _ => rfl
 | _ :: _, _ :: _, h => by simp [h.2.length]
theorem All2.get : ∀ {xa : List α} {bs : List β}, All2 R xa bs → ∀ (j : Nat) (h1 : j < xa.length) (h2 : j < bs.length), R xa[j] bs[j]
 | _ :: _, _ :: _, h, 0, _, _ => h.1
 | _ :: _, _ :: _, h, j + 1, h1, h2 => h.2.get j (by simpa using h1) (by simpa using h2)
theorem All2.append : ∀ {xa : List α} {bs : List β} {xa' : List α} {bs' : List β}, All2 R xa bs → All2 R xa' bs' → All2 R (xa ++ xa') (bs ++ bs')
 | [], [], _, _, _, h' => h'
 | _ :: _, _ :: _, _, _, h, h' => ⟨h.1, h.2.append h'⟩
theorem All2.take : ∀ {xa : List α} {bs : List β} (n : Nat), All2 R xa bs → All2 R (xa.take n) (bs.take n)
 | [], [], n, _ => by simp [All2]
 | _ :: _, _ :: _, 0, _ => by simp [All2]
 | _ :: _, _ :: _, n + 1, h => ⟨h.1, h.2.take n⟩
theorem All2.drop : ∀ {xa : List α} {bs : List β} (n : Nat), All2 R xa bs → All2 R (xa.drop n) (bs.drop n)
 | [], [], n, _ => by simp [All2]
 | _ :: _, _ :: _, 0, h => h
 | _ :: _, _ :: _, n + 1, h => h.2.drop n
theorem All2.mono {R' : α → β → Prop} (hR : ∀ a b, R a b → R' a b) : ∀ {xa : List α} {bs : List β}, All2 R xa bs → All2 R' xa bs
 | [], [], _ => trivial
 | _ :: _, _ :: _, h => ⟨hR _ _ h.1, h.2.mono hR⟩
theorem All2.left {Q : α → Prop} (hR : ∀ a b, R a b → Q a) : ∀ {xa : List α} {bs : List β}, All2 R xa bs → ∀ a ∈ xa, Q a
 | _ :: _, _ :: _, h, a, ha => by
   rcases List.mem_cons.1 ha with rfl | ha
   ·exact hR _ _ h.1
   ·exact h.2.left hR a ha
end
end Go.Tk

set_option linter.unusedSimpArgs false
set_option linter.unusedVariables false
namespace Go.Tk
section
variable {P : Program} {B : Exit → Act → World → Prop} {k : List Fr} {n : Nat} {E : Env} {A : World → Prop} {ops : Array Oper} {rest : List Oper}
 {d ty : Nat} {dd : Option Tmp} {pos : String} {aft : Array Edge} {g : Option (Nat × Bool)} {w0 : World} {F : Nat → Prop} {S : Store} {H : Heap}

theorem run_copy {w : World} {T T' e sz b o dl dc l m : Nat} {v : Value} {ys : List Value} {cs : Array Value} {Te : TypeId} (hT : P.underlying T = some (.slice e)) (hs : ∀ w, (sizeOf e).run P w = .ok sz w)
 (hb : w.heap[b]? = some (.cells cs Te (0, 0))) (hA : Hp w0 F S H w) (hr : Rd S H sz v l ys) (hm : m = min l dl) (h1 : ∀ u ∈ ys.take (m * sz), u.oneCell' = true) (hle : o + m * sz ≤ cs.size) :
 (Builtin.copy_ #[T, T'] ty #[.slice (some ⟨b, o, none⟩) dl dc, v]).run P w = .ok (.int .i64 (m : Int)) (w.setRow b (cs.toList.take o ++ ys.take (m * sz) ++ cs.toList.drop (o + m * sz)).toArray) := by
 obtain ⟨hyl, hy⟩ := hr
 have hmin : Nat.min l dl = m := hm.symm
 rcases hy with ⟨rfl, rfl⟩ | ⟨b2, off, c2, cs2, T2, fz2, rfl, hlc, hat, hcs⟩
 ·have hm0 : m = 0 := by omega
  subst hm0
  have : (cs.toList.take o ++ ys.take (0 * sz) ++ cs.toList.drop (o + 0 * sz)).toArray = cs := by apply Array.ext'; simp
  rw [this, setRow_self w b cs Te (0, 0) hb]
  simp [Builtin.copy_, run_underlying hT, Builtin.lenOf, Builtin.firstCells, hs, storeCells, goInt]
 ·have hml : m ≤ l := by omega
  have hms : m * sz ≤ l * sz := Nat.mul_le_mul_right _ hml
  have hl := run_loadCells_list (P := P) w ⟨b2, off, none⟩ (ys.take (m * sz)) (fun j u hj => by
   have hj2 : j < ys.length := by
    rcases Nat.lt_or_ge j ys.length with h | h
    ·exact h
    ·rw [List.getElem?_take] at hj
     split at hj
     ·rw [List.getElem?_eq_none h] at hj; cases hj
     ·cases hj
   rw [add_at, cell_at (hA.at hat), hcs j hj2]
   rw [List.getElem?_take] at hj
   split at hj
   ·exact hj
   ·cases hj)
  have hlen : (ys.take (m * sz)).length = m * sz := by rw [List.length_take]; omega
  have hst := run_storeCells_at P b o Te (ys.take (m * sz)) 0 cs w hb (by rw [hlen]; simpa using hle) h1
  rw [hlen] at hl hst
  simp only [Nat.add_zero] at hst
  simp [Builtin.copy_, run_underlying hT, Builtin.lenOf, Builtin.firstCells, hs, hmin, hl, hst, goInt]

theorem L.copy {T T' e sz b o dl dc l m : Nat} {x y : Operand} {v : Value} {ys : List Value} {cs : Array Value} {Te : TypeId} {H' : Heap} (hx : E.ev x = some (.slice (some ⟨b, o, none⟩) dl dc)) (hy : E.ev y = some v) (hn : Nat.blt d n = true) (hw : wantedE ops E g = some true)
 (hT : P.underlying T = some (.slice e)) (hs : ∀ w, (sizeOf e).run P w = .ok sz w) (hr : Rd S H sz v l ys) (hm : m = min l dl) (h1 : ∀ u ∈ ys.take (m * sz), u.oneCell' = true)
 (u : Upd b (.cells cs Te (0, 0)) (.cells (cs.toList.take o ++ ys.take (m * sz) ++ cs.toList.drop (o + m * sz)).toArray Te (0, 0)) H H') (hle : o + m * sz ≤ cs.size)
 (h : L P B ops rest k n ((d, .int .i64 (m : Int)) :: E) (Hp w0 F S H')) : L P B ops (⟨some d, .call ⟨.builtin .copy, #[x, y], #[T, T']⟩, ty, pos, aft, g⟩ :: rest) k n E (Hp w0 F S H) := by
 refine L.val _ rfl hn hw (fun a w hst hA => ⟨_, ?_, hp_setRow hA u⟩) h
 have h2 := run_copy (P := P) (ty := ty) (T' := T') (dc := dc) hT hs (hA.own _ u.mem) hA hr hm h1 hle
 simp [execOp, resolve, invoke, builtin, hst.ev hx, hst.ev hy, h2]

theorem perm_of_sum {H H' : Heap} (h : ∀ f : Nat × Obj → Nat, (H.map f).sum = (H'.map f).sum) : H.Perm H' := by
 classical
 refine List.perm_iff_count.2 (fun a => ?_)
 have key : ∀ l : Heap, (l.map (fun x => if (x == a) = true then 1 else 0)).sum = l.count a := by
  intro l
  induction l with
  | nil => rfl
  | cons x l ih => simp only [List.map_cons, List.sum_cons, ih, List.count_cons]; omega
 rw [← key, ← key]; exact h _
/-- The same blocks in another order. -/
theorem Hp.re {H H' : Heap} {w : World} (hw : Hp w0 F S H w) (h : ∀ f : Nat × Obj → Nat, (H.map f).sum = (H'.map f).sum) : Hp w0 F S H' w := hw.perm (perm_of_sum h)

/-- Own bytes. -/
def OwnB (e : Nat) (v : Value) (l : List UInt8) (fp : Heap) : Prop := Own e 1 v l.length (l.map bv) fp
theorem OwnB.bs {e : Nat} {v : Value} {l : List UInt8} {fp H : Heap} (h : OwnB e v l fp) (hh : ∀ p, p ∈ fp → p ∈ H) : Bs S H v l := Own.rd h hh
theorem OwnB.shut {e : Nat} {v : Value} {l : List UInt8} {fp : Heap} {w : World} (h : OwnB e v l fp) (hw : Hp w0 F S (fp ++ H) w) : ∃ S', S.le S' ∧ Bs S' [] v l ∧ Hp w0 F S' H w := Own.shut h hw
theorem OwnB.nil (e : Nat) : OwnB e (.slice none 0 0) [] [] := Own.nil _ _
theorem OwnB.form {e : Nat} {v : Value} {l : List UInt8} {fp : Heap} (h : OwnB e v l fp) : ∃ ad c, v = .slice ad l.length c := Own.form h
/-- An own row that nobody changes any more. -/
theorem C.shut {e sz m : Nat} {v : Value} {xs : List Value} {fp Hr : Heap} {c : Code} (ho : Own e sz v m xs fp) (tk : Take fp H Hr) (h : ∀ S', S.le S' → Rd S' [] sz v m xs → C P B c k n E (Hp w0 F S' Hr)) : C P B c k n E (Hp w0 F S H) := fun a w hs hA => by
 obtain ⟨S', h1, h2, h3⟩ := ho.shut (hA.take tk)
 exact h S' h1 h2 a w hs h3
theorem L.shut {e sz m : Nat} {v : Value} {xs : List Value} {fp Hr : Heap} (ho : Own e sz v m xs fp) (tk : Take fp H Hr) (h : ∀ S', S.le S' → Rd S' [] sz v m xs → L P B ops rest k n E (Hp w0 F S' Hr)) : L P B ops rest k n E (Hp w0 F S H) := fun a w hs hA => by
 obtain ⟨S', h1, h2, h3⟩ := ho.shut (hA.take tk)
 exact h S' h1 h2 a w hs h3
theorem C.sealB {e : Nat} {v : Value} {l : List UInt8} {fp Hr : Heap} {c : Code} (ho : OwnB e v l fp) (tk : Take fp H Hr) (h : ∀ S', S.le S' → Bs S' [] v l → C P B c k n E (Hp w0 F S' Hr)) : C P B c k n E (Hp w0 F S H) := C.shut ho tk h
theorem L.sealB {e : Nat} {v : Value} {l : List UInt8} {fp Hr : Heap} (ho : OwnB e v l fp) (tk : Take fp H Hr) (h : ∀ S', S.le S' → Bs S' [] v l → L P B ops rest k n E (Hp w0 F S' Hr)) : L P B ops rest k n E (Hp w0 F S H) := L.shut ho tk h

theorem run_box {T : TypeId} {b m : Nat} {vs : List Value} {Te : TypeId} {fz : Nat × Nat} {w : World} (hw : Hp w0 F S H w) (hg : ∀ w, (isAgg T).run P w = .ok true w) (hs : ∀ w, (sizeOf T).run P w = .ok m w)
 (ha : At S b (.cells vs.toArray Te fz) H) (hle : vs.length = m) : (loadVar T ⟨b, 0, none⟩).run P w = .ok (.agg vs.toArray) w := by
 have := run_loadVarN (P := P) (off := 0) hg hs (hw.at ha) (by simp [hle])
 rw [this]; subst hle; simp

theorem OwnB.app {e m n : Nat} {v : Value} {l l' : List UInt8} {fp : Heap} (h : Own e 1 v (m + n) (l.map bv ++ l'.map bv) fp) (hm : m = l.length) (hn : n = l'.length) : OwnB e v (l ++ l') fp := by
 subst hm hn
 unfold OwnB
 rw [List.length_append, List.map_append]; exact h
end

section
variable {P : Program} {fn : Func} {R : Ending → World → Prop} {n : Nat} {E : Env} {A : World → Prop} {k : List Fr}
theorem R.retct {q ty t : Nat} {ad : Addr} {v u : Value} (hr : fn.results = #[.cell q ty, .tmp t]) (h1 : E.get q = some (.pointer (some ad))) (h2 : E.get t = some u)
 (hl : ∀ w, A w → (loadVar ty ad).run P w = .ok v w) (h : ∀ w, A w → R (.returned (.tuple #[v, u])) w) : C P (bodyPost P fn R) .ret k n E A :=
 C.ret fun a w hs hA => ⟨hs.defers, .tuple #[v, u], by
  have h3 := hl w hA
  have h5 := hs.get t u h2
  simp [results, hr, hs.get q _ h1, asAddr, h3, h5], h w hA⟩
end
end Go.Tk

set_option linter.unusedSimpArgs false
set_option linter.unusedVariables false
namespace Go.Tk

structure Ent where
 key : Int
 val : Value
 born : Nat

def Ent.m (e : Ent) : MapEntry := ⟨.int .i64 e.key, e.val, e.born⟩
def mobj (l : List Ent) (ck : Nat) : Obj := .map (l.map Ent.m).toArray ck

def mfindI : List Ent → Int → Nat → Option (Nat × Value)
 | [], _, _ => none
 | e :: es, k, i => if k == e.key then some (i, e.val) else mfindI es k (i + 1)
def mfind : List Ent → Int → Option Value
 | [], _ => none
 | e :: es, k => if k == e.key then some e.val else mfind es k
def mput : List Ent → Int → Value → Nat → List Ent
 | [], k, v, ck => [⟨k, v, ck⟩]
 | e :: es, k, v, ck => if k == e.key then ⟨k, v, e.born⟩ :: es else e :: mput es k v ck
def mck : List Ent → Int → Nat → Nat
 | [], _, ck => ck + 1
 | e :: es, k, ck => if k == e.key then ck else mck es k ck
def mdel : List Ent → Int → List Ent
 | [], _ => []
 | e :: es, k => if k == e.key then es else e :: mdel es k

structure MapOk (l : List Ent) (ck : Nat) : Prop where
 keys : (l.map (·.key)).Nodup
 borns : (l.map (·.born)).Nodup
 lt : ∀ e ∈ l, e.born < ck

theorem MapOk.nil (ck : Nat) : MapOk [] ck := ⟨by simp, by simp, by simp⟩

theorem mfind_mem {l : List Ent} {k : Int} {v : Value} (h : mfind l k = some v) : ∃ e ∈ l, e.key = k ∧ e.val = v := by
 induction l with
 | nil => cases h
 | cons e l ih =>
   simp only [mfind] at h
   split at h
   ·rename_i hk; exact ⟨e, List.mem_cons_self .., (beq_iff_eq.1 hk).symm, Option.some.inj h⟩
   ·obtain ⟨e', h1, h2⟩ := ih h; exact ⟨e', List.mem_cons_of_mem _ h1, h2⟩
theorem mfind_none {l : List Ent} {k : Int} : mfind l k = none ↔ ∀ e ∈ l, e.key ≠ k := by
 induction l with
 | nil => simp [mfind]
 | cons e l ih =>
   simp only [mfind]
   split
   ·rename_i hk; simp; intro h; exact absurd (beq_iff_eq.1 hk).symm h
   ·rename_i hk; rw [ih]; simp only [List.mem_cons, forall_eq_or_imp]; exact ⟨fun h => ⟨fun e1 => hk (beq_iff_eq.2 e1.symm), h⟩, fun h => h.2⟩
theorem mfind_of_mem {l : List Ent} (hn : (l.map (·.key)).Nodup) {e : Ent} (he : e ∈ l) : mfind l e.key = some e.val := by
 induction l with
 | nil => cases he
 | cons x l ih =>
   simp only [List.map_cons, List.nodup_cons] at hn
   simp only [mfind]
   rcases List.mem_cons.1 he with rfl | he
   ·simp
   ·have : ¬ (e.key == x.key) = true := fun h => hn.1 (by rw [← beq_iff_eq.1 h]; exact List.mem_map_of_mem he)
    rw [if_neg this]; exact ih hn.2 he

theorem mfind_put (l : List Ent) (k : Int) (v : Value) (ck : Nat) (j : Int) : mfind (mput l k v ck) j = if j = k then some v else mfind l j := by
 induction l with
 | nil => simp only [mput, mfind]; by_cases h : j = k <;> simp [h]
 | cons e l ih =>
   simp only [mput]
   by_cases hk : (k == e.key) = true
   ·rw [if_pos hk]
    have := beq_iff_eq.1 hk
    simp only [mfind]
    by_cases hj : j = k
    ·simp [hj]
    ·have h2 : ¬ (j == e.key) = true := fun h => hj (by rw [beq_iff_eq.1 h, this])
     have h3 : ¬ (j == k) = true := fun h => hj (beq_iff_eq.1 h)
     rw [if_neg h3, if_neg hj, if_neg h2]
   ·rw [if_neg hk]
    simp only [mfind, ih]
    by_cases hj : j = k
    ·subst hj; simp [hk]
    ·simp [hj]
theorem mfind_del {l : List Ent} (hn : (l.map (·.key)).Nodup) (k : Int) (j : Int) : mfind (mdel l k) j = if j = k then none else mfind l j := by
 induction l with
 | nil => simp [mdel, mfind]
 | cons e l ih =>
   simp only [List.map_cons, List.nodup_cons] at hn
   simp only [mdel]
   by_cases hk : (k == e.key) = true
   ·rw [if_pos hk]
    have hke := beq_iff_eq.1 hk
    by_cases hj : j = k
    ·subst hj
     rw [if_pos rfl, mfind_none]
     intro x hx h
     exact hn.1 (by rw [← hke, ← h]; exact List.mem_map_of_mem hx)
    ·rw [if_neg hj]; simp only [mfind]; rw [if_neg (fun h => hj (by rw [beq_iff_eq.1 h, hke]))]
   ·rw [if_neg hk]
    simp only [mfind, ih hn.2]
    by_cases hj : j = k
    ·subst hj; simp [hk]
    ·simp [hj]

theorem mput_keys (l : List Ent) (k : Int) (v : Value) (ck : Nat) : ∀ x ∈ mput l k v ck, (x.key = k ∧ x.val = v) ∨ x ∈ l := by
 induction l with
 | nil => intro x hx; simp only [mput, List.mem_singleton] at hx; subst hx; exact .inl ⟨rfl, rfl⟩
 | cons e l ih =>
   intro x hx
   simp only [mput] at hx
   split at hx
   ·rcases List.mem_cons.1 hx with rfl | hx
    ·exact .inl ⟨rfl, rfl⟩
    ·exact .inr (List.mem_cons_of_mem _ hx)
   ·rcases List.mem_cons.1 hx with rfl | hx
    ·exact .inr (List.mem_cons_self ..)
    ·exact (ih x hx).imp id (List.mem_cons_of_mem _)
theorem mdel_sub (l : List Ent) (k : Int) : List.Sublist (mdel l k) l := by
 induction l with
 | nil => exact .slnil
 | cons e l ih =>
   simp only [mdel]
   split
   ·exact .cons _ (.refl _)
   ·exact .cons_cons _ ih

theorem mput_map (l : List Ent) (k : Int) (v : Value) (ck : Nat) : (mput l k v ck).map (·.key) = if l.any (fun e => k == e.key) then l.map (·.key) else l.map (·.key) ++ [k] := by
 induction l with
 | nil => rfl
 | cons e l ih =>
   simp only [mput]
   by_cases hk : (k == e.key) = true
   ·simp [hk, beq_iff_eq.1 hk]
   ·simp only [if_neg hk, List.map_cons, ih, List.any_cons, Bool.not_eq_true] at *
    rw [hk, Bool.false_or]
    split <;> simp
theorem mput_borns (l : List Ent) (k : Int) (v : Value) (ck : Nat) : (mput l k v ck).map (·.born) = if l.any (fun e => k == e.key) then l.map (·.born) else l.map (·.born) ++ [ck] := by
 induction l with
 | nil => rfl
 | cons e l ih =>
   simp only [mput]
   by_cases hk : (k == e.key) = true
   ·simp [hk, beq_iff_eq.1 hk]
   ·simp only [if_neg hk, List.map_cons, ih, List.any_cons, Bool.not_eq_true] at *
    rw [hk, Bool.false_or]
    split <;> simp
theorem mck_any (l : List Ent) (k : Int) (ck : Nat) : mck l k ck = if l.any (fun e => k == e.key) then ck else ck + 1 := by
 induction l with
 | nil => rfl
 | cons e l ih =>
   simp only [mck, List.any_cons, ih]
   by_cases hk : (k == e.key) = true <;> simp [hk]
theorem MapOk.put {l : List Ent} {ck : Nat} (h : MapOk l ck) (k : Int) (v : Value) : MapOk (mput l k v ck) (mck l k ck) := by
 have hlt : ∀ b ∈ (mput l k v ck).map (·.born), b < mck l k ck := by
  rw [mput_borns, mck_any]
  intro b hb
  split at hb
  ·rename_i ha; rw [if_pos ha]; obtain ⟨e, he, rfl⟩ := List.mem_map.1 hb; exact h.lt e he
  ·rename_i ha
   rw [if_neg ha]
   rcases List.mem_append.1 hb with hb | hb
   ·obtain ⟨e, he, rfl⟩ := List.mem_map.1 hb; have := h.lt e he; omega
   ·rw [List.mem_singleton.1 hb]; omega
 refine ⟨?_, ?_, fun e he => hlt _ (List.mem_map_of_mem he)⟩
 ·rw [mput_map]
  split
  ·exact h.keys
  ·rename_i ha
   rw [List.nodup_append]
   refine ⟨h.keys, by simp, fun a ha' b hb e => ?_⟩
   rw [List.mem_singleton.1 hb] at e
   subst e
   obtain ⟨x, hx, rfl⟩ := List.mem_map.1 ha'
   exact ha (List.any_eq_true.2 ⟨x, hx, by simp⟩)
 ·rw [mput_borns]
  split
  ·exact h.borns
  ·rw [List.nodup_append]
   refine ⟨h.borns, by simp, fun a ha' b hb e => ?_⟩
   rw [List.mem_singleton.1 hb] at e
   subst e
   obtain ⟨x, hx, e2⟩ := List.mem_map.1 ha'
   have := h.lt x hx
   omega
theorem MapOk.del {l : List Ent} {ck : Nat} (h : MapOk l ck) (k : Int) : MapOk (mdel l k) ck :=
 ⟨((mdel_sub l k).map _).nodup h.keys, ((mdel_sub l k).map _).nodup h.borns, fun e he => h.lt e ((mdel_sub l k).subset he)⟩

/-! ### the model's runs -/
theorem findNow_ent (l : List Ent) (k : Int) : ∀ i, Instr.findNow (.int .i64) (.int .i64 k) (l.map Ent.m) i = some (mfindI l k i) := by
 induction l with
 | nil => intro i; rfl
 | cons e l ih =>
   intro i
   simp only [List.map_cons, Instr.findNow, Ent.m, Instr.sameNow, if_pos, mfindI]
   cases hk : (k == e.key) with
   | true => simp
   | false => simp only [Bool.false_eq_true, if_false]; exact ih (i + 1)
theorem mfindI_val (l : List Ent) (k : Int) : ∀ i, (mfindI l k i).map (·.2) = mfind l k := by
 induction l with
 | nil => intro i; rfl
 | cons e l ih => intro i; simp only [mfindI, mfind]; split <;> simp [ih]
theorem mfindI_some (l : List Ent) (k : Int) (v : Value) (ck : Nat) : ∀ i a, mfindI l k i = some a → ∃ j e, a.1 = i + j ∧ l[j]? = some e ∧ e.key = k ∧ (l.map Ent.m).modify j (fun e => { e with key := .int .i64 k, val := v }) = (mput l k v ck).map Ent.m ∧ mck l k ck = ck ∧ (l.map Ent.m).eraseIdx j = (mdel l k).map Ent.m := by
 induction l with
 | nil => intro i a h; cases h
 | cons e l ih =>
   intro i a h
   simp only [mfindI] at h
   split at h
   ·rename_i hk
    obtain rfl := Option.some.inj h
    refine ⟨0, e, rfl, rfl, (beq_iff_eq.1 hk).symm, ?_, ?_, ?_⟩
    ·simp [mput, hk, Ent.m]
    ·simp [mck, hk]
    ·simp [mdel, hk]
   ·rename_i hk
    obtain ⟨j, e', h1, h2, h3, h4, h5, h6⟩ := ih _ _ h
    refine ⟨j + 1, e', by omega, by simpa using h2, h3, ?_, ?_, ?_⟩
    ·simp only [mput, if_neg hk, List.map_cons]; simpa using h4
    ·simp only [mck, if_neg hk]; exact h5
    ·simp only [mdel, if_neg hk, List.map_cons, List.eraseIdx_cons_succ, h6]
theorem mfindI_none (l : List Ent) (k : Int) (v : Value) (ck : Nat) : ∀ i, mfindI l k i = none → mput l k v ck = l ++ [⟨k, v, ck⟩] ∧ mck l k ck = ck + 1 ∧ mdel l k = l := by
 induction l with
 | nil => intro i _; exact ⟨rfl, rfl, rfl⟩
 | cons e l ih =>
   intro i h
   simp only [mfindI] at h
   split at h
   ·cases h
   ·rename_i hk
    obtain ⟨h1, h2, h3⟩ := ih _ h
    exact ⟨by simp [mput, hk, h1], by simp [mck, hk, h2], by simp [mdel, hk, h3]⟩

theorem eborn_inj : ∀ {l : List Ent}, (l.map (·.born)).Nodup → ∀ {x e : Ent}, x ∈ l → e ∈ l → x.born = e.born → x = e
 | y :: l, hn, x, e, hx, he, h => by
   simp only [List.map_cons, List.nodup_cons] at hn
   rcases List.mem_cons.1 hx with hx | hx <;> rcases List.mem_cons.1 he with he | he
   ·rw [hx, he]
   ·exact absurd (by rw [← hx, h]; exact List.mem_map_of_mem he) hn.1
   ·exact absurd (by rw [← he, ← h]; exact List.mem_map_of_mem hx) hn.1
   ·exact eborn_inj hn.2 hx he h

/-- How many entries are not seen yet. -/
def unseen (l : List Ent) (seen : Array Nat) : Nat := (l.filter (fun e => !seen.toList.contains e.born)).length
theorem unseen_lt {l : List Ent} {seen : Array Nat} {e : Ent} (he : e ∈ l) (hn : e.born ∉ seen.toList) : unseen l (seen.push e.born) < unseen l seen := by
 unfold unseen
 induction l with
 | nil => cases he
 | cons x l ih =>
   have hle : ∀ l : List Ent, (l.filter (fun e' => !(seen.push e.born).toList.contains e'.born)).length ≤ (l.filter (fun e' => !seen.toList.contains e'.born)).length := by
    intro l
    induction l with
    | nil => simp
    | cons y l ih2 =>
      simp only [List.filter_cons]
      have : (!(seen.push e.born).toList.contains y.born) = true → (!seen.toList.contains y.born) = true := by simp; intro h _; exact h
      by_cases h1 : (!(seen.push e.born).toList.contains y.born) = true
      ·rw [if_pos h1, if_pos (this h1)]; simp only [List.length_cons]; omega
      ·rw [if_neg h1]; split
       ·simp only [List.length_cons]; omega
       ·omega
   simp only [List.filter_cons]
   rcases List.mem_cons.1 he with rfl | he
   ·have h1 : (!(seen.push e.born).toList.contains e.born) = false := by simp
    have h2 : (!seen.toList.contains e.born) = true := by simpa using hn
    rw [h1, h2]
    have := hle l
    simp only [Bool.false_eq_true, if_false, if_true, List.length_cons]; omega
   ·have h := ih he
    have h3 : (!(seen.push e.born).toList.contains x.born) = true → (!seen.toList.contains x.born) = true := by simp; intro h _; exact h
    by_cases h1 : (!(seen.push e.born).toList.contains x.born) = true
    ·rw [if_pos h1, if_pos (h3 h1)]; simp only [List.length_cons]; omega
    ·rw [if_neg h1]; split
     ·simp only [List.length_cons]; omega
     ·omega

section
variable {P : Program} {B : Exit → Act → World → Prop} {k : List Fr} {n : Nat} {E : Env} {A : World → Prop} {ops : Array Oper} {rest : List Oper}
 {d ty : Nat} {dd : Option Tmp} {pos : String} {aft : Array Edge} {g : Option (Nat × Bool)} {w0 : World} {F : Nat → Prop} {S : Store} {H : Heap}

theorem run_chk {w : World} {K : TypeId} (hK : P.underlying K = some (.int .i64)) (j : Int) (e : Bool) (n : Nat) : (Instr.checkKey e (n + 1) K (.int .i64 j)).run P w = .ok () w := by
 unfold Instr.checkKey
 simp only [Sem.run_bind, run_underlying hK, Result.andThen]
 rfl
theorem run_fnd {w : World} {K : TypeId} (hK : P.underlying K = some (.int .i64)) (l : List Ent) (j : Int) : (Instr.findKey K (.int .i64 j) (l.map Ent.m)).run P w = .ok (mfindI l j 0) w := by
 simp [Instr.findKey, run_underlying hK, Result.andThen, findNow_ent]

theorem run_lookup {w : World} {T K e : TypeId} {r ck : Nat} {l : List Ent} {z : Value} {j : Int} {c : Bool} (hT : P.underlying T = some (.map K e)) (hK : P.underlying K = some (.int .i64)) (hz : ∀ w, (zeroValue e).run P w = .ok z w)
 (hb : w.heap[r]? = some (mobj l ck)) : (Instr.lookup T (.map (some r)) (.int .i64 j) c).run P w = .ok (if c then .tuple #[(mfind l j).getD z, .bool (mfind l j).isSome] else (mfind l j).getD z) w := by
 have h1 : (getObj r).run P w = .ok (.map (l.map Ent.m).toArray ck) w := MapKept.run_getObj_map hb
 have h2 := run_chk (P := P) (w := w) hK j (l.map Ent.m).toArray.isEmpty 9999
 have h3 := run_fnd (P := P) (w := w) hK l j
 have h4 := mfindI_val l j 0
 simp only [Instr.lookup, Sem.run_bind, run_underlying hT, Result.andThen_ok, h1, Sem.run_pure, h2, h3]
 cases hm : mfindI l j 0 with
 | none =>
   rw [hm] at h4
   simp only [hz, Sem.run_bind, Result.andThen_ok, Sem.run_pure, ← h4]
   cases c <;> rfl
 | some a =>
   rw [hm] at h4
   obtain ⟨i, v⟩ := a
   simp only [Sem.run_pure, Result.andThen_ok, ← h4]
   cases c <;> rfl

theorem V.lookup {T K e : TypeId} {x y : Operand} {r ck : Nat} {l : List Ent} {z : Value} {j : Int} {c : Bool} (hx : E.ev x = some (.map (some r))) (hy : E.ev y = some (.int .i64 j)) (hT : P.underlying T = some (.map K e)) (hK : P.underlying K = some (.int .i64)) (hz : ∀ w, (zeroValue e).run P w = .ok z w)
 (ha : At S r (mobj l ck) H) {v : Value} (hv : (if c then .tuple #[(mfind l j).getD z, .bool (mfind l j).isSome] else (mfind l j).getD z) = v) : V P n E (Hp w0 F S H) ⟨dd, .lookup T x y c, ty, pos, aft, g⟩ v := fun a w hs hA => by
 have h := run_lookup (P := P) (c := c) hT hK hz (hA.at ha) (j := j)
 rw [hv] at h
 simp only [execOp, hs.ev hx, hs.ev hy, Sem.run_bind, h, Result.andThen_ok, Sem.run_pure]

theorem setObj_hp {w : World} {r : Nat} {o o' : Obj} {H' : Heap} (hA : Hp w0 F S H w) (u : Upd r o o' H H') : Hp w0 F S H' { w with heap := w.heap.setIfInBounds r o' } := by
 have hb := hA.own _ u.mem
 obtain ⟨h1, h2⟩ := MapKept.heap_set (o' := o') hb
 exact hA.upd u rfl rfl rfl (by simp) h1 h2

theorem run_mapUpdate {w : World} {T K e : TypeId} {r ck : Nat} {l : List Ent} {v : Value} {j : Int} (hT : P.underlying T = some (.map K e)) (hK : P.underlying K = some (.int .i64))
 (hb : w.heap[r]? = some (mobj l ck)) : (Instr.mapUpdate T (.map (some r)) (.int .i64 j) v).run P w = .ok () { w with heap := w.heap.setIfInBounds r (mobj (mput l j v ck) (mck l j ck)) } := by
 have h1 : (getObj r).run P w = .ok (.map (l.map Ent.m).toArray ck) w := MapKept.run_getObj_map hb
 have h2 := run_chk (P := P) (w := w) hK j false 9999
 have h3 := run_fnd (P := P) (w := w) hK l j
 simp only [Instr.mapUpdate, Sem.run_bind, run_underlying hT, Result.andThen_ok, h1, Sem.run_pure, h2, h3]
 cases hm : mfindI l j 0 with
 | none =>
   obtain ⟨e1, e2, _⟩ := mfindI_none l j v ck 0 hm
   simp only [MapKept.run_setObj_map _ hb]
   rw [e1, e2]
   simp [mobj, Ent.m]
 | some a =>
   obtain ⟨q, en, h4, h5, h6, h7, h8, _⟩ := mfindI_some l j v ck 0 a hm
   have hq : (l.map Ent.m).toArray[a.1]? = some en.m := by rw [h4, Nat.zero_add]; simp [h5]
   have hs : Instr.keyThatStays (.int .i64 j) (.int .i64 j) = pure (.int .i64 j) := by
    unfold Instr.keyThatStays
    rw [if_pos (by simp [Instr.sameBits])]
   obtain ⟨i, va⟩ := a
   have hk : (((l.map Ent.m).toArray[i]?).map (·.key)).getD (.int .i64 j) = .int .i64 j := by rw [hq]; simp [Ent.m, h6]
   dsimp only
   rw [hk, hs]
   simp only [Sem.run_bind, Sem.run_pure, Result.andThen_ok, MapKept.run_setObj_map _ hb]
   have h4' : i = q := by simpa using h4
   subst h4'
   rw [h8]
   congr 4
   apply Array.ext'
   simp only [Array.toList_modify]
   exact h7

theorem L.mapUpdate {T K e : TypeId} {x y u : Operand} {r ck : Nat} {l : List Ent} {v : Value} {j : Int} {H' : Heap} (hx : E.ev x = some (.map (some r))) (hy : E.ev y = some (.int .i64 j)) (hu : E.ev u = some v) (hw : wantedE ops E g = some true)
 (hT : P.underlying T = some (.map K e)) (hK : P.underlying K = some (.int .i64)) (up : Upd r (mobj l ck) (mobj (mput l j v ck) (mck l j ck)) H H')
 (h : L P B ops rest k n E (Hp w0 F S H')) : L P B ops (⟨none, .mapUpdate T x y u, ty, pos, aft, g⟩ :: rest) k n E (Hp w0 F S H) :=
 L.eff _ rfl hw (fun a w hst hA => ⟨_, by
  have h2 := run_mapUpdate (P := P) (v := v) (j := j) hT hK (hA.own _ up.mem)
  simp only [execOp, hst.ev hx, hst.ev hy, hst.ev hu, Sem.run_bind, h2, Result.andThen_ok, Sem.run_pure], setObj_hp hA up⟩) h

theorem run_delete {w : World} {T T' K e : TypeId} {r ck : Nat} {l : List Ent} {j : Int} (hT : P.underlying T = some (.map K e)) (hK : P.underlying K = some (.int .i64))
 (hb : w.heap[r]? = some (mobj l ck)) : (Builtin.delete_ #[T, T'] ty #[.map (some r), .int .i64 j]).run P w = .ok (.tuple #[]) { w with heap := w.heap.setIfInBounds r (mobj (mdel l j) ck) } := by
 have h1 : (getObj r).run P w = .ok (.map (l.map Ent.m).toArray ck) w := MapKept.run_getObj_map hb
 have h2 := run_chk (P := P) (w := w) hK j (l.map Ent.m).toArray.isEmpty 9999
 have h3 := run_fnd (P := P) (w := w) hK l j
 simp only [Builtin.delete_, List.getElem?_toArray, List.getElem?_cons_zero, List.getElem?_cons_succ, Sem.run_bind, run_underlying hT, Result.andThen_ok, h1, Sem.run_pure, h2, h3]
 cases hm : mfindI l j 0 with
 | none =>
   obtain ⟨_, _, e3⟩ := mfindI_none l j .nilFunc ck 0 hm
   simp only [Sem.run_bind, MapKept.run_setObj_map _ hb, Result.andThen_ok, Sem.run_pure]
   rw [e3]; rfl
 | some a =>
   obtain ⟨q, en, h4, h5, h6, h7, h8, h9⟩ := mfindI_some l j .nilFunc ck 0 a hm
   obtain ⟨i, va⟩ := a
   simp only [Sem.run_bind, MapKept.run_setObj_map _ hb, Result.andThen_ok, Sem.run_pure]
   have h4' : i = q := by simpa using h4
   subst h4'
   congr 4
   apply Array.ext'
   have hi : i < (l.map Ent.m).toArray.size := by
    have := List.getElem?_eq_some_iff.1 h5
    simp; exact this.1
   unfold Array.eraseIdxIfInBounds
   rw [dif_pos hi]
   simp [h9]

theorem L.delete {T T' K e : TypeId} {x y : Operand} {r ck : Nat} {l : List Ent} {j : Int} {H' : Heap} (hx : E.ev x = some (.map (some r))) (hy : E.ev y = some (.int .i64 j)) (hw : wantedE ops E g = some true)
 (hT : P.underlying T = some (.map K e)) (hK : P.underlying K = some (.int .i64)) (up : Upd r (mobj l ck) (mobj (mdel l j) ck) H H')
 (h : L P B ops rest k n E (Hp w0 F S H')) : L P B ops (⟨none, .call ⟨.builtin .delete, #[x, y], #[T, T']⟩, ty, pos, aft, g⟩ :: rest) k n E (Hp w0 F S H) :=
 L.val0 _ rfl hw (fun a w hst hA => ⟨_, .tuple #[], by
  have h2 := run_delete (P := P) (ty := ty) (T' := T') (j := j) hT hK (hA.own _ up.mem)
  simp [execOp, resolve, invoke, builtin, hst.ev hx, hst.ev hy, h2], setObj_hp hA up⟩) h

theorem run_clear {w : World} {T K e : TypeId} {r ck : Nat} {l : List Ent} (hT : P.underlying T = some (.map K e))
 (hb : w.heap[r]? = some (mobj l ck)) : (Builtin.clear_ #[T] ty #[.map (some r)]).run P w = .ok (.tuple #[]) { w with heap := w.heap.setIfInBounds r (mobj [] ck) } := by
 have h1 : (getObj r).run P w = .ok (.map (l.map Ent.m).toArray ck) w := MapKept.run_getObj_map hb
 simp [Builtin.clear_, run_underlying hT, h1, MapKept.run_setObj_map _ hb]
 rfl
theorem L.clear {T K e : TypeId} {x : Operand} {r ck : Nat} {l : List Ent} {H' : Heap} (hx : E.ev x = some (.map (some r))) (hw : wantedE ops E g = some true)
 (hT : P.underlying T = some (.map K e)) (up : Upd r (mobj l ck) (mobj [] ck) H H')
 (h : L P B ops rest k n E (Hp w0 F S H')) : L P B ops (⟨none, .call ⟨.builtin .clear, #[x], #[T]⟩, ty, pos, aft, g⟩ :: rest) k n E (Hp w0 F S H) :=
 L.val0 _ rfl hw (fun a w hst hA => ⟨_, .tuple #[], by
  have h2 := run_clear (P := P) (ty := ty) hT (hA.own _ up.mem)
  simp [execOp, resolve, invoke, builtin, hst.ev hx, h2], setObj_hp hA up⟩) h

theorem V.lenMap {T K e : TypeId} {x : Operand} {r ck : Nat} {l : List Ent} (hx : E.ev x = some (.map (some r))) (hT : P.underlying T = some (.map K e)) (ha : At S r (mobj l ck) H) :
 V P n E (Hp w0 F S H) ⟨dd, .call ⟨.builtin .len, #[x], #[T]⟩, ty, pos, aft, g⟩ (.int .i64 (l.length : Int)) := fun a w hs hA => by
 have h1 : (getObj r).run P w = .ok (.map (l.map Ent.m).toArray ck) w := MapKept.run_getObj_map (hA.at ha)
 have := hs.ev hx
 simp [execOp, resolve, invoke, builtin, this, Builtin.len_, run_underlying hT, h1, goInt]

/-! ### range over a map that stands -/
def itObj (r ck : Nat) (seen : Array Nat) : Obj := .mapIter (some r) ck seen ck

theorem L.range {T K e : TypeId} {x : Operand} {r ck : Nat} {l : List Ent} (hx : E.ev x = some (.map (some r))) (hn : Nat.blt d n = true) (hw : wantedE ops E g = some true) (hT : P.underlying T = some (.map K e)) (ha : At S r (mobj l ck) H)
 (h : ∀ b, L P B ops rest k n ((d, .pointer (some ⟨b, 0, none⟩)) :: E) (Hp w0 F S ((b, itObj r ck #[]) :: H))) : L P B ops (⟨some d, .range T x, ty, pos, aft, g⟩ :: rest) k n E (Hp w0 F S H) :=
 L.new (V := fun b => .pointer (some ⟨b, 0, none⟩)) rfl hn hw (fun a w hs hA => by
  have h1 := run_range_map (P := P) w T K e r (l.map Ent.m).toArray ck hT (hA.at ha)
  simp only [execOp, hs.ev hx, Sem.run_bind, h1, Result.andThen_ok, Sem.run_pure]
  rfl) h

theorem hp_setBlock {w : World} {r : Nat} {o o' : Obj} {H' : Heap} (hA : Hp w0 F S H w) (u : Upd r o o' H H') : Hp w0 F S H' (ChangeMaps.setBlock w r o') := setObj_hp hA u

theorem L.next {x : Operand} {it r ck : Nat} {l : List Ent} {seen : Array Nat} (hx : E.ev x = some (.pointer (some ⟨it, 0, none⟩))) (hn : Nat.blt d n = true) (hw : wantedE ops E g = some true) (hm : MapOk l ck) (ha : At S r (mobj l ck) H)
 {H' : Ent → Heap} (up : ∀ e, Upd it (itObj r ck seen) (itObj r ck (seen.push e.born)) H (H' e))
 (h1 : ∀ e ∈ l, e.born ∉ seen.toList → L P B ops rest k n ((d, .tuple #[.bool true, .int .i64 e.key, e.val]) :: E) (Hp w0 F S (H' e)))
 (h2 : (∀ e ∈ l, e.born ∈ seen.toList) → L P B ops rest k n ((d, .tuple #[.bool false]) :: E) (Hp w0 F S H)) :
 L P B ops (⟨some d, .next x false, ty, pos, aft, g⟩ :: rest) k n E (Hp w0 F S H) := fun a w hs hA => by
 refine wpList_on (wantedE_spec hs hw) ?_
 unfold Oper.wp
 have hb : w.heap[r]? = some (.map (l.map Ent.m).toArray ck) := hA.at ha
 have hex : ∀ e0 : Ent, w.heap[it]? = some (itObj r ck seen) := fun e0 => hA.own _ (up e0).mem
 have hit : w.heap[it]? = some (.mapIter (some r) ck seen ck) := hex ⟨0, .nilFunc, 0⟩
 have hold : ∀ x ∈ (l.map Ent.m).toArray.toList, x.born < ck := fun x hx => by
  obtain ⟨e, he, rfl⟩ := List.mem_map.1 (by simpa using hx); exact hm.lt e he
 rcases run_next_at (P := P) w ty it r ck ck seen _ ck hit hb hold (Nat.le_refl _) with ⟨h0, hr⟩ | ⟨e, he, w1, hw1, hr⟩
 ·have : (execOp a.eval ⟨some d, .next x false, ty, pos, aft, g⟩).run P w = .ok (.value (.tuple #[.bool false])) w := by
   simp only [execOp, hs.ev hx, Sem.run_bind, hr, Result.andThen_ok, Sem.run_pure]
  rw [this, Oper.upon_value]
  refine h2 (fun e he => ?_) _ w (hs.put hn _) hA
  have h3 : leftOf (l.map Ent.m).toArray seen = #[] := Array.eq_empty_of_size_eq_zero h0
  unfold leftOf at h3
  rw [Array.filter_eq_empty_iff] at h3
  have := h3 e.m (by simp; exact ⟨e, he, rfl⟩)
  simpa [Ent.m] using this
 ·have hmem : e ∈ l.map Ent.m ∧ ¬ e.born ∈ seen := by simpa [leftOf] using he
  obtain ⟨e0, he0, rfl⟩ := List.mem_map.1 hmem.1
  have : (execOp a.eval ⟨some d, .next x false, ty, pos, aft, g⟩).run P w = .ok (.value (.tuple #[.bool true, e0.m.key, e0.m.val])) (ChangeMaps.setBlock w1 it (.mapIter (some r) ck (seen.push e0.m.born) ck)) := by
   simp only [execOp, hs.ev hx, Sem.run_bind, hr, Result.andThen_ok, Sem.run_pure]
  rw [this, Oper.upon_value]
  have hA1 : Hp w0 F S H w1 := by rcases hw1 with rfl | rfl; exact hA; exact hA.drawn _
  exact h1 e0 he0 (fun h => hmem.2 (by simpa [Ent.m] using h)) _ _ (hs.put hn _) (hp_setBlock hA1 (up e0))

theorem V.entry {x : Operand} {it r ck : Nat} {l : List Ent} {seen : Array Nat} {e : Ent} (hx : E.ev x = some (.pointer (some ⟨it, 0, none⟩))) (hm : MapOk l ck) (ha : At S r (mobj l ck) H) (hi : At S it (itObj r ck (seen.push e.born)) H) (he : e ∈ l) :
 V P n E (Hp w0 F S H) ⟨dd, .entry x, ty, pos, aft, g⟩ (.tuple #[.int .i64 e.key, e.val]) := fun a w hs hA => by
 have h1 := run_entry_at (P := P) w it r ck seen (l.map Ent.m).toArray ck e.m (hA.at hi) (hA.at ha) (by simp; exact ⟨e, he, rfl⟩) (by
  have : (l.map Ent.m).map (·.born) = l.map (·.born) := by rw [List.map_map]; rfl
  simp only [this]; exact hm.borns)
 simp only [execOp, hs.ev hx, Sem.run_bind, h1, Result.andThen_ok, Sem.run_pure]
 rfl
end
end Go.Tk

set_option linter.unusedSimpArgs false
set_option linter.unusedVariables false
namespace Go.Tk
section
variable {P : Program} {B : Exit → Act → World → Prop} {k : List Fr} {n : Nat} {E : Env} {A : World → Prop} {ops : Array Oper} {rest : List Oper}
 {d ty : Nat} {dd : Option Tmp} {pos : String} {aft : Array Edge} {g : Option (Nat × Bool)} {w0 : World} {F : Nat → Prop} {S : Store} {H : Heap}

/-- A callee without a body: what it does to the world is told by A'. -/
theorem L.extern {fo : Operand} {xs : List Operand} {ats : Array TypeId} {fid : FuncId} {fst cap args : Array Value} {vs : List Value} {v : Value} {A' : World → Prop} (hf : E.ev fo = some (.func (.func fid) fst cap)) (hx : E.evs xs = some vs) (hn : Nat.blt d n = true) (hw : wantedE ops E g = some true)
 (hargs : fst ++ vs.toArray ++ cap = args) (hc : ∀ w, A w → ∃ w', (callFunc fid args).run P w = .ok (.value v) w' ∧ A' w')
 (h : L P B ops rest k n ((d, v) :: E) A') : L P B ops (⟨some d, .call ⟨.value fo, xs.toArray, ats⟩, ty, pos, aft, g⟩ :: rest) k n E A :=
 L.val A' rfl hn hw (fun a w hs hA => by
  have h2 : xs.toArray.map a.eval = vs.toArray := by simp [hs.evs hx]
  obtain ⟨w', h3, h4⟩ := hc w hA
  subst hargs
  refine ⟨w', ?_, h4⟩
  simp [execOp, resolve, hs.ev hf, hs.evs hx, Deferred.ofValue, invoke, h3] at *
  simpa using h3) h

theorem run_aadd64 {w : World} {b off : Nat} {l l' : List Value} {T : TypeId} {a y : Int} {H' : Heap} (hA : Hp w0 F S H w) (hl : l[off]? = some (.int .i64 a)) (u : Upd b (.cells l.toArray T (0, 0)) (.cells l'.toArray T (0, 0)) H H') (hs : SetAt (.int .i64 (IntKind.i64.wrap (a + y))) off l l') :
 ∃ w', (Extern.Atomic.update (Op.intArith .add) .i64 true #[.pointer (some ⟨b, off, none⟩), .int .i64 y]).run P w = .ok (.int .i64 (IntKind.i64.wrap (a + y))) w' ∧ Hp w0 F S H' w' := by
 have hb : w.heap[b]? = some (.cells l.toArray T (0, 0)) := hA.own _ u.mem
 have hc : w.cell? ⟨b, off, none⟩ = some (.int .i64 a) := by rw [cell_at hb]; simpa using hl
 have hfz : w.frozen? ⟨b, off, none⟩ = false := by rw [frozen_at hb]; simp
 have h1 : (load ⟨b, off, none⟩ .atomic).run P w = .ok (.int .i64 a) w := run_load_at hc
 obtain ⟨e1, e2⟩ := hs.spec
 refine ⟨w.setRow b l'.toArray, ?_, hp_setRow hA u⟩
 have h2 : (store ⟨b, off, none⟩ (.int .i64 (IntKind.i64.wrap (a + y))) .atomic).run P w = .ok () (w.setRow b l'.toArray) := by
  rw [run_store P w _ _ _ rfl, hc]
  simp only [hfz, Bool.false_eq_true, if_false]
  rw [setCell_eq_setRow w b off l.toArray T (0, 0) _ hb]
  congr 2
  apply Array.ext'
  rw [e2, Array.toList_setIfInBounds, splice1 _ _ _ (by omega)]
 change Sem.run P (do
  let a ← asAddr (.pointer (some ⟨b, off, none⟩))
  let old ← Extern.Atomic.read (.int .i64) a
  let new ← Op.intArith .add .i64 (← asInt old) (← asInt (.int .i64 y))
  store a new .atomic
  pure (if true then new else old)) w = _
 simp [Extern.Atomic.read, asAddr, asInt, asIntOf, h1, Op.intArith, h2]
end

/-! ### optional things -/
def OptR {α β : Type} (R : α → β → Prop) : Option α → Option β → Prop
 | some a, some b => R a b
 | none, none => True
 | _, _ => False
theorem OptR.mono {α β : Type} {R R' : α → β → Prop} (h : ∀ a b, R a b → R' a b) {a : Option α} {b : Option β} (x : OptR R a b) : OptR R' a b := by
 cases a <;> cases b <;> simp only [OptR] at * <;> first | exact h _ _ x | exact x
theorem OptR.someL {α β : Type} {R : α → β → Prop} {a : α} {b : Option β} (h : OptR R (some a) b) : ∃ y, b = some y ∧ R a y := by
 cases b with
 | none => cases h
 | some y => exact ⟨y, rfl, h⟩
theorem OptR.noneL {α β : Type} {R : α → β → Prop} {b : Option β} (h : OptR R none b) : b = none := by
 cases b with
 | none => rfl
 | some y => cases h
theorem OptR.someR {α β : Type} {R : α → β → Prop} {a : Option α} {b : β} (h : OptR R a (some b)) : ∃ x, a = some x ∧ R x b := by
 cases a with
 | none => cases h
 | some y => exact ⟨y, rfl, h⟩
theorem OptR.noneR {α β : Type} {R : α → β → Prop} {a : Option α} (h : OptR R a none) : a = none := by
 cases a with
 | none => rfl
 | some y => cases h
end Go.Tk

set_option linter.unusedSimpArgs false
set_option linter.unusedVariables false
namespace Go.Tk
section
variable {P : Program} {B : Exit → Act → World → Prop} {k : List Fr} {n : Nat} {E : Env} {A : World → Prop} {ops : Array Oper} {rest : List Oper}
 {d ty : Nat} {dd : Option Tmp} {pos : String} {aft : Array Edge} {g : Option (Nat × Bool)} {w0 : World} {F : Nat → Prop} {S : Store} {H : Heap}

theorem V.cap {T e : TypeId} {x : Operand} {ad : Option Addr} {m c : Nat} (hx : E.ev x = some (.slice ad m c)) (hT : P.underlying T = some (.slice e)) :
 V P n E A ⟨dd, .call ⟨.builtin .cap, #[x], #[T]⟩, ty, pos, aft, g⟩ (.int .i64 (c : Int)) := fun a w hs _ => by
 have := hs.ev hx
 simp [execOp, resolve, invoke, builtin, this, Builtin.cap_, run_underlying hT, goInt]

theorem run_append_ty {w : World} {T T' e e' : TypeId} {s x : Value} (hT : P.underlying T = some (.slice e)) (hT' : P.underlying T' = some (.slice e')) : (Builtin.append_ #[T, T'] ty #[s, x]).run P w = (Builtin.append_ #[T, T] ty #[s, x]).run P w := by
 cases s <;> simp [Builtin.append_, run_underlying hT, run_underlying hT']

/-- append where the two types' names are not one. -/
theorem L.append' {T T' e e' sz by' : Nat} {i : TypeInfo} {z v y : Value} {s x : Operand} {m l : Nat} {xs ys : List Value} {fp Hr : Heap} (hs : E.ev s = some v) (hx : E.ev x = some y) (hn : Nat.blt d n = true) (hw : wantedE ops E g = some true)
 (ht : P.underlying T = some (.slice e)) (ht' : P.underlying T' = some (.slice e')) (hi : P.info? e = some i) (hz : i.zero = some z) (hsz : i.size = sz) (hby : i.bytes = by') (hzs : z.cells.size = sz)
 (ho : Own e sz v m xs fp) (tk : Take fp H Hr) (hr : Rd S (fp ++ Hr) sz y l ys) (h1 : ∀ u ∈ ys, u.oneCell' = true) (hb : (m + l) * by' ≤ 140737488355328) (h63 : m + l ≤ 9223372036854775807)
 (h : ∀ v' fp', Own e sz v' (m + l) (xs ++ ys) fp' → L P B ops rest k n ((d, v') :: E) (Hp w0 F S (fp' ++ Hr))) :
 L P B ops (⟨some d, .call ⟨.builtin .append, #[s, x], #[T, T']⟩, ty, pos, aft, g⟩ :: rest) k n E (Hp w0 F S H) := fun a w hst hA => by
 obtain ⟨v', fp', w', h2, h3, h4⟩ := run_app (P := P) (ty := ty) ht hi hz hsz hby hzs ho (hA.take tk) hr h1 hb h63
 refine wpList_on (wantedE_spec hst hw) ?_
 unfold Oper.wp
 have : (execOp a.eval ⟨some d, .call ⟨.builtin .append, #[s, x], #[T, T']⟩, ty, pos, aft, g⟩).run P w = .ok (.value v') w' := by
  simp [execOp, resolve, invoke, builtin, hst.ev hs, hst.ev hx, run_append_ty ht ht', h2]
 rw [this, Oper.upon_value]
 exact h v' fp' h3 _ w' (hst.put hn v') h4

/-- What stands at the head of a slice that is read. -/
theorem Rd.first {w : World} {sz m : Nat} {v : Value} {xs : List Value} (h : Rd S H sz v m xs) (hA : Hp w0 F S H w) : (Builtin.firstCells sz m v).run P w = .ok xs.toArray w := by
 obtain ⟨h1, ⟨rfl, rfl⟩ | ⟨b, off, c, cs, T, fz, rfl, h4, h5, h6⟩⟩ := h
 ·have : xs = [] := List.eq_nil_of_length_eq_zero (by simpa using h1)
  subst this; simp [Builtin.firstCells]
 ·have := run_loadCells_list (P := P) w ⟨b, off, none⟩ xs (fun j v hj => by
   have hlt : j < xs.length := by
    rcases Nat.lt_or_ge j xs.length with h | h
    ·exact h
    ·rw [List.getElem?_eq_none h] at hj; cases hj
   rw [add_at, cell_at (hA.at h5), h6 j hlt, hj])
  rw [h1] at this
  simp only [Builtin.firstCells]; exact this

theorem zc_len (z : Array Value) (m : Nat) : (Builtin.zeroCells z m).toList.length = m * z.size := by simp [Builtin.zeroCells]

/-- append(s, make([]T, q)...), no room: a new block; s as it was. -/
theorem L.appendZ {T Tn e sz by' : Nat} {i : TypeInfo} {z : Value} {s x : Operand} {ad : Option Addr} {m c q : Nat} {kq kn : IntKind} {olds : List Value} (hs : E.ev s = some (.slice ad m c)) (hx : E.ev x = some (.int kq (q : Int))) (hn : Nat.blt d n = true) (hw : wantedE ops E g = some true)
 (ht : P.underlying T = some (.slice e)) (htn : P.underlying Tn = some (.int kn)) (hi : P.info? e = some i) (hz : i.zero = some z) (hsz : i.size = sz) (hby : i.bytes = by') (hzs : z.cells.size = sz)
 (hr : Rd S H sz (.slice ad m c) m olds) (h0 : 0 < q) (hs0 : 0 < sz) (hg : c < m + q) (hb : (m + q) * by' ≤ 140737488355328) (hb0 : 0 < by')
 (h : ∀ b c' zl js, zl.length = q * sz → olds.length = m * sz → (olds ++ zl ++ js).length = c' * sz → m + q ≤ c' → c' ≤ 9223372036854775807 → L P B ops rest k n ((d, .slice (some ⟨b, 0, none⟩) (m + q) c') :: E) (Hp w0 F S ((b, .cells (olds ++ zl ++ js).toArray e (0, 0)) :: H))) :
 L P B ops (⟨some d, .call ⟨.builtin .append, #[s, x], #[T, Tn]⟩, ty, pos, aft, g⟩ :: rest) k n E (Hp w0 F S H) := fun a w hst hA => by
 subst hsz hby
 have hold := hr.first (P := P) (hA.drawn (w.drawn + 1))
 have h63 : m + q ≤ 140737488355328 := by
  have : m + q ≤ (m + q) * i.bytes := Nat.le_mul_of_pos_right _ hb0
  omega
 have hq48 : q * i.bytes ≤ 281474976710656 := by
  have : q * i.bytes ≤ (m + q) * i.bytes := Nat.mul_le_mul_right _ (by omega)
  omega
 have h2 := Lib.run_append_grow_zeros (P := P) w T Tn ty e i z kq kn ht htn hi hz ad m c olds hold q h0 hs0 hg (by omega) hq48 (growslice_fits hg hb)
 refine wpList_on (wantedE_spec hst hw) ?_
 unfold Oper.wp
 have : (execOp a.eval ⟨some d, .call ⟨.builtin .append, #[s, x], #[T, Tn]⟩, ty, pos, aft, g⟩).run P w = .ok (.value (.slice (some ⟨w.heap.size, 0, none⟩) (m + q) (grownCap w (m + q) c e))) (w.drew.alloc (.cells (olds.toArray ++ Builtin.zeroCells z.cells q ++ Builtin.zeroCells z.cells (grownCap w (m + q) c e - (m + q))) e)) := by
  simp [execOp, resolve, invoke, builtin, hst.ev hs, hst.ev hx, h2]
 rw [this, Oper.upon_value]
 have hge := grownCap_ge w (m + q) c e
 have hmx := grownCap_le_maxLen w (m + q) c e (by unfold maxLen; omega)
 have hcells : (olds.toArray ++ Builtin.zeroCells z.cells q ++ Builtin.zeroCells z.cells (grownCap w (m + q) c e - (m + q))) = (olds ++ (Builtin.zeroCells z.cells q).toList ++ (Builtin.zeroCells z.cells (grownCap w (m + q) c e - (m + q))).toList).toArray := by apply Array.ext'; simp
 rw [hcells]
 refine h w.heap.size (grownCap w (m + q) c e) _ _ (by rw [zc_len, hzs]) hr.len ?_ hge (by unfold maxLen at hmx; omega) _ _ (hst.put hn _) ((hA.drawn (w.drawn + 1)).alloc _)
 rw [List.length_append, List.length_append, zc_len, zc_len, hzs, hr.len, ← Nat.add_mul, ← Nat.add_mul]
 congr 1; omega

theorem run_overlaps {w : World} {tS tR e sz va la ca b off lb cb : Nat} {csa csb : Array Value} {Ta Tb : TypeId} {fzb : Nat × Nat} (ht : P.underlying tS = some (.slice e)) (hz : ∀ w, (sizeOf e).run P w = .ok sz w) (hne : va ≠ b)
 (ha : At S va (.cells csa Ta (0, 0)) H) (hb : At S b (.cells csb Tb fzb) H) (hkb : csb.size ≠ 0) (hA : Hp w0 F S H w) :
 (Extern.SlicesOverlaps.overlaps #[tS, tS] #[tR] #[.slice (some ⟨va, 0, none⟩) la ca, .slice (some ⟨b, off, none⟩) lb cb]).run P w = .ok (.bool false) w :=
 Lib.run_overlaps_apart w tS tR e ht sz hz ⟨va, 0, none⟩ ⟨b, off, none⟩ la ca lb cb hne Ta Tb csa.size csb.size (by simp [World.shape?, hA.at ha]) (by simp [World.shape?, hA.at hb]) hkb
  (by rw [frozen_at (hA.at ha)]; simp) (by rw [frozen_at (hA.at ha)]; simp)
end

section
variable {P : Program} {B : Exit → Act → World → Prop} {k : List Fr} {n : Nat} {E : Env} {ops : Array Oper} {rest : List Oper}
 {d ty : Nat} {dd : Option Tmp} {pos : String} {aft : Array Edge} {g : Option (Nat × Bool)} {w0 : World} {F : Nat → Prop} {S : Store} {H : Heap}
/-- copy into a block whose parts are named. -/
theorem L.copyM {T T' e sz b o dl dc l m : Nat} {x y : Operand} {v : Value} {ys Aa M R Y : List Value} {Te : TypeId} {H' : Heap} (hx : E.ev x = some (.slice (some ⟨b, o, none⟩) dl dc)) (hy : E.ev y = some v) (hn : Nat.blt d n = true) (hw : wantedE ops E g = some true)
 (hT : P.underlying T = some (.slice e)) (hs : ∀ w, (sizeOf e).run P w = .ok sz w) (hr : Rd S H sz v l ys) (hm : m = min l dl) (ho : o = Aa.length) (hM : M.length = m * sz) (hY : ys.take (m * sz) = Y) (h1 : ∀ u ∈ Y, u.oneCell' = true)
 (u : Upd b (.cells (Aa ++ M ++ R).toArray Te (0, 0)) (.cells (Aa ++ Y ++ R).toArray Te (0, 0)) H H')
 (h : L P B ops rest k n ((d, .int .i64 (m : Int)) :: E) (Hp w0 F S H')) : L P B ops (⟨some d, .call ⟨.builtin .copy, #[x, y], #[T, T']⟩, ty, pos, aft, g⟩ :: rest) k n E (Hp w0 F S H) := by
 have h1' : (Aa ++ M ++ R).take o = Aa := by rw [ho, List.append_assoc, List.take_left' rfl]
 have h2' : (Aa ++ M ++ R).drop (o + m * sz) = R := by rw [ho, ← hM, List.drop_left' (by simp)]
 refine L.copy hx hy hn hw hT hs hr hm (by rw [hY]; exact h1) (cs := (Aa ++ M ++ R).toArray) (Te := Te) (H' := H') ?_ (by simp; omega) h
 rw [show (Aa ++ M ++ R).toArray.toList = Aa ++ M ++ R from rfl, h1', h2', hY]; exact u
end

/-! ### lists -/
section
variable {α : Type}
theorem ins_room (A B C D ys : List α) (hs : C.length = ys.length) :
 (((A ++ B ++ (C ++ D)).take (A.length + ys.length) ++ (((A ++ B ++ (C ++ D)).drop A.length).take (B.length + ys.length)).take B.length ++ (A ++ B ++ (C ++ D)).drop (A.length + ys.length + B.length)).take A.length ++ ys.take ys.length ++
   ((A ++ B ++ (C ++ D)).take (A.length + ys.length) ++ (((A ++ B ++ (C ++ D)).drop A.length).take (B.length + ys.length)).take B.length ++ (A ++ B ++ (C ++ D)).drop (A.length + ys.length + B.length)).drop (A.length + ys.length)) = A ++ ys ++ B ++ D := by
 have h1 : (A ++ B ++ (C ++ D)).drop A.length = B ++ (C ++ D) := by rw [List.append_assoc, List.drop_left' rfl]
 have h2 : ((B ++ (C ++ D)).take (B.length + ys.length)).take B.length = B := by rw [List.take_take, Nat.min_eq_left (by omega), List.take_left' rfl]
 have h3 : (A ++ B ++ (C ++ D)).drop (A.length + ys.length + B.length) = D := by
  rw [show A ++ B ++ (C ++ D) = (A ++ B ++ C) ++ D from by simp, List.drop_left' (by simp; omega)]
 have h4 : (A ++ B ++ (C ++ D)).take (A.length + ys.length) = A ++ (B ++ (C ++ D)).take ys.length := by
  rw [List.append_assoc, List.take_append, List.take_of_length_le (by omega), show A.length + ys.length - A.length = ys.length from by omega]
 have h5 : ((B ++ (C ++ D)).take ys.length).length = ys.length := by simp; omega
 rw [h1, h2, h3, h4]
 have h6 : (A ++ (B ++ (C ++ D)).take ys.length ++ B ++ D).take A.length = A := by rw [List.append_assoc, List.append_assoc, List.take_left' rfl]
 have h7 : (A ++ (B ++ (C ++ D)).take ys.length ++ B ++ D).drop (A.length + ys.length) = B ++ D := by
  rw [show A ++ (B ++ (C ++ D)).take ys.length ++ B ++ D = (A ++ (B ++ (C ++ D)).take ys.length) ++ (B ++ D) from by simp, List.drop_left' (by rw [List.length_append, h5])]
 rw [h6, h7, List.take_length]; simp

theorem ins_grow (A Z B ys js : List α) (hz : Z.length = ys.length + B.length) :
 (((A ++ Z ++ js).take A.length ++ ys.take ys.length ++ (A ++ Z ++ js).drop (A.length + ys.length)).take (A.length + ys.length) ++ B.take B.length ++
   ((A ++ Z ++ js).take A.length ++ ys.take ys.length ++ (A ++ Z ++ js).drop (A.length + ys.length)).drop (A.length + ys.length + B.length)) = A ++ ys ++ B ++ js := by
 have h1 : (A ++ Z ++ js).take A.length = A := by rw [List.append_assoc, List.take_left' rfl]
 have h2 : (A ++ Z ++ js).drop (A.length + ys.length) = Z.drop ys.length ++ js := by
  rw [List.append_assoc, ← List.drop_drop, List.drop_left' rfl, List.drop_append, show ys.length - Z.length = 0 from by omega, List.drop_zero]
 rw [h1, h2, List.take_length, List.take_length]
 have h3 : (A ++ ys ++ (Z.drop ys.length ++ js)).take (A.length + ys.length) = A ++ ys := List.take_left' (by simp)
 have h4 : (A ++ ys ++ (Z.drop ys.length ++ js)).drop (A.length + ys.length + B.length) = js := by
  rw [show A ++ ys ++ (Z.drop ys.length ++ js) = (A ++ ys ++ Z.drop ys.length) ++ js from by simp, List.drop_left' (by simp; omega)]
 rw [h3, h4]
end
end Go.Tk

set_option linter.unusedSimpArgs false
set_option linter.unusedVariables false
namespace Go.Tk
open Go.Proofs
section
variable {w0 : World} {F : Nat → Prop} {S : Store} {H : Heap}

theorem Hp.grown {w : World} (h : Hp w0 F S H w) (os : Array Obj) : Hp w0 F S H (Sort.grow w os) := by
 have keep : ∀ b, b < w.heap.size → (w.heap ++ os)[b]? = w.heap[b]? := fun b hb => by rw [Array.getElem?_append_left hb]
 refine ⟨h.os, h.tape, h.output, ?_, fun b hb hF => ?_, fun b o hb => ?_, fun p hp => ?_, h.nd, h.sep⟩
 ·have := h.size; show _ ≤ (w.heap ++ os).size; rw [Array.size_append]; omega
 ·have := h.size; show (w.heap ++ os)[b]? = _; rw [keep b (by omega)]; exact h.frame b hb hF
 ·have h1 := h.imm b o hb; show (w.heap ++ os)[b]? = _; rw [keep b (lt_of_heap h1)]; exact h1
 ·have h1 := h.own p hp; show (w.heap ++ os)[p.1]? = _; rw [keep _ (lt_of_heap h1)]; exact h1

theorem putCells_all (zs d : List Int) (js : List Value) (h : d.length = zs.length) : Sort.putCells (Value.int .i64) 0 d.toArray (zs.map iv ++ js).toArray = (d.map iv ++ js).toArray := by
 unfold Sort.putCells
 apply Array.ext
 ·simp [h]
 ·intro j h1 h2
  simp only [Array.getElem_mapIdx, Nat.zero_le, true_and, Nat.zero_add, List.size_toArray, Nat.sub_zero]
  by_cases hj : j < d.length
  ·rw [if_pos hj]
   simp [List.getElem_append_left, hj, iv]
  ·rw [if_neg hj]
   simp only [List.getElem_toArray]
   rw [List.getElem_append_right (by simp; omega), List.getElem_append_right (by simp; omega)]
   simp [h]

theorem Hp.sorted {w : World} {b : Nat} {zs d : List Int} {js : List Value} {T : TypeId} (h : Hp w0 F S ((b, .cells (zs.map iv ++ js).toArray T (0, 0)) :: H) w) (hd : d.length = zs.length) (n : Nat) (os : Array Obj) :
 Hp w0 F S ((b, .cells (d.map iv ++ js).toArray T (0, 0)) :: H) (Sort.grow (Sort.putRow (Value.int .i64) (Sort.ahead w n) b 0 d.toArray) os) := by
 refine Hp.grown ?_ os
 have h1 : Hp w0 F S ((b, .cells (zs.map iv ++ js).toArray T (0, 0)) :: H) (Sort.ahead w n) := h.drawn _
 have hb := h1.own (b, _) (List.mem_cons_self ..)
 have hlt := lt_of_heap hb
 refine h1.upd (o' := .cells (d.map iv ++ js).toArray T (0, 0)) .head rfl rfl rfl (by simp [Sort.putRow, Sort.mapBlock]) ?_ (fun c hc => ?_)
 ·show ((Sort.ahead w n).heap.modify b _)[b]? = _
  rw [Array.getElem?_modify, if_pos rfl, hb]
  simp only [Option.map_some, Sort.onCells]
  rw [putCells_all zs d js hd]
 ·show ((Sort.ahead w n).heap.modify b _)[c]? = _
  rw [Array.getElem?_modify, if_neg (fun e => hc e.symm)]

theorem holds_own {w : World} {b : Nat} {zs : List Int} {js : List Value} {T : TypeId} (h : Hp w0 F S ((b, .cells (zs.map iv ++ js).toArray T (0, 0)) :: H) w) : Sort.Holds (Value.int .i64) w b 0 zs.toArray := fun j hj => by
 have hb := h.own (b, _) (List.mem_cons_self ..)
 have hj' : j < zs.length := by simpa using hj
 rw [cell_at hb, frozen_at hb]
 refine ⟨?_, by simp⟩
 rw [getElem!_pos _ _ (by simpa using hj)]
 simp [List.getElem?_append_left, hj', iv]
end
end Go.Tk

set_option linter.unusedSimpArgs false
set_option linter.unusedVariables false
namespace Go.Tk
section
variable {P : Program} {B : Exit → Act → World → Prop} {k : List Fr} {n : Nat} {E : Env} {A : World → Prop} {ops : Array Oper} {rest : List Oper}
 {d ty : Nat} {dd : Option Tmp} {pos : String} {aft : Array Edge} {g : Option (Nat × Bool)} {w0 : World} {F : Nat → Prop} {S : Store} {H : Heap}

theorem strCells_bv (l : List UInt8) : Lib.strCells ⟨l.toArray⟩ = l.map bv := by simp [Lib.strCells, bv]

theorem L.appendStr {T U e by' : Nat} {i : TypeInfo} {z v : Value} {s x : Operand} {m : Nat} {xs : List Value} {l : List UInt8} {fp Hr : Heap} (hs : E.ev s = some v) (hx : E.ev x = some (.string ⟨l.toArray⟩)) (hn : Nat.blt d n = true) (hw : wantedE ops E g = some true)
 (ht : P.underlying T = some (.slice e)) (hu : P.underlying U = some .string) (hi : P.info? e = some i) (hz : i.zero = some z) (hsz : i.size = 1) (hby : i.bytes = by') (hzs : z.cells.size = 1)
 (ho : Own e 1 v m xs fp) (hm : 0 < m) (tk : Take fp H Hr) (hb : (m + l.length) * by' ≤ 140737488355328) (h63 : m + l.length ≤ 9223372036854775807)
 (h : ∀ v' fp', Own e 1 v' (m + l.length) (xs ++ l.map bv) fp' → L P B ops rest k n ((d, v') :: E) (Hp w0 F S (fp' ++ Hr))) :
 L P B ops (⟨some d, .call ⟨.builtin .append, #[s, x], #[T, U]⟩, ty, pos, aft, g⟩ :: rest) k n E (Hp w0 F S H) := fun a w hst hA => by
 subst hby
 rcases ho with ⟨rfl, rfl, rfl, rfl⟩ | ⟨b, c, js, rfl, rfl, h2, h3, h4, h5⟩
 ·omega
 have hA2 := hA.take tk
 have hbk : w.heap[b]? = some (.cells (xs ++ js).toArray e (0, 0)) := hA2.own (b, _) (by simp)
 have hsize : (⟨l.toArray⟩ : ByteArray).size = l.length := by simp [ByteArray.size]
 rw [Nat.mul_one] at h2 h3
 refine wpList_on (wantedE_spec hst hw) ?_
 unfold Oper.wp
 by_cases hroom : m + l.length ≤ c
 ·have hr := Lib.run_append_room_string (P := P) w T U ty e i ht hu hi hsz b m c _ hbk ⟨l.toArray⟩ (by rw [hsize]; exact hroom) (by rw [hsize, List.size_toArray]; omega)
  rw [hsize, strCells_bv] at hr
  have ecs : ((xs ++ js).toArray.toList.take m ++ l.map bv ++ (xs ++ js).toArray.toList.drop (m + l.length)).toArray = (xs ++ l.map bv ++ js.drop l.length).toArray := by
   rw [← h2]; simp [List.drop_append]
  rw [ecs] at hr
  have : (execOp a.eval ⟨some d, .call ⟨.builtin .append, #[s, x], #[T, U]⟩, ty, pos, aft, g⟩).run P w = .ok (.value (.slice (some ⟨b, 0, none⟩) (m + l.length) c)) (w.setRow b (xs ++ l.map bv ++ js.drop l.length).toArray) := by
   simp [execOp, resolve, invoke, builtin, hst.ev hs, hst.ev hx, hr]
  rw [this, Oper.upon_value]
  rw [List.length_append] at h3
  exact h _ [(b, .cells (xs ++ l.map bv ++ js.drop l.length).toArray e (0, 0))] (Own.mk (by simp; omega) (by simp only [List.length_append, List.length_map, List.length_drop]; omega) hroom h5) _ _ (hst.put hn _) (hp_setRow hA2 .head)
 ·have hold : ∀ j u, xs[j]? = some u → w.cell? ((⟨b, 0, none⟩ : Addr).add j) = some u := by
   intro j u hj
   have hlt : j < xs.length := by
    rcases Nat.lt_or_ge j xs.length with h | h
    ·exact h
    ·rw [List.getElem?_eq_none h] at hj; cases hj
   rw [add_at, cell_at hbk, Nat.zero_add]
   simp [List.getElem?_append_left hlt, hj]
  have hr := Lib.run_append_grow_string (P := P) w T U ty e i z ht hu hi hz ⟨b, 0, none⟩ m c xs (by rw [hsz, Nat.mul_one]; exact h2) hold ⟨l.toArray⟩ (by rw [hsize]; omega) (by rw [hsize]; omega) (by rw [hsize]; exact growslice_fits (by omega) hb)
  rw [hsize, strCells_bv] at hr
  have hge := grownCap_ge w (m + l.length) c e
  have hmx := grownCap_le_maxLen w (m + l.length) c e (by unfold maxLen; omega)
  have ecs : (xs.toArray ++ (l.map bv).toArray ++ Builtin.zeroCells z.cells (grownCap w (m + l.length) c e - (m + l.length))) = (xs ++ l.map bv ++ (Builtin.zeroCells z.cells (grownCap w (m + l.length) c e - (m + l.length))).toList).toArray := by apply Array.ext'; simp
  rw [ecs] at hr
  have : (execOp a.eval ⟨some d, .call ⟨.builtin .append, #[s, x], #[T, U]⟩, ty, pos, aft, g⟩).run P w = .ok (.value (.slice (some ⟨w.heap.size, 0, none⟩) (m + l.length) (grownCap w (m + l.length) c e))) (w.drew.alloc (.cells (xs ++ l.map bv ++ (Builtin.zeroCells z.cells (grownCap w (m + l.length) c e - (m + l.length))).toList).toArray e (0, 0))) := by
   simp [execOp, resolve, invoke, builtin, hst.ev hs, hst.ev hx, hr]
  rw [this, Oper.upon_value]
  have h8 := (hA2.drawn (w.drawn + 1)).alloc (.cells (xs ++ l.map bv ++ (Builtin.zeroCells z.cells (grownCap w (m + l.length) c e - (m + l.length))).toList).toArray e (0, 0))
  exact h _ [(w.heap.size, .cells (xs ++ l.map bv ++ (Builtin.zeroCells z.cells (grownCap w (m + l.length) c e - (m + l.length))).toList).toArray e (0, 0))] (Own.mk (by simp; omega) (by simp only [List.length_append, List.length_map, zc_len, hzs]; omega) hge (by unfold maxLen at hmx; omega)) _ _ (hst.put hn _) (h8.sub (by simp))

theorem zeroCells1 (z : Value) (q : Nat) (hz : z.cells = #[z]) : (Builtin.zeroCells z.cells q).toList = List.replicate q z := by
 rw [hz]
 apply List.ext_getElem
 ·simp [Builtin.zeroCells]
 ·intro j h1 h2
  simp [Builtin.zeroCells, Nat.mod_one]

/-- append(b, make([]T, q)...), T of one cell. -/
theorem L.appendMk {T Tn e by' : Nat} {i : TypeInfo} {z v : Value} {s x : Operand} {m q : Nat} {kq kn : IntKind} {xs : List Value} {fp Hr : Heap} (hs : E.ev s = some v) (hx : E.ev x = some (.int kq (q : Int))) (hn : Nat.blt d n = true) (hw : wantedE ops E g = some true)
 (ht : P.underlying T = some (.slice e)) (htn : P.underlying Tn = some (.int kn)) (hi : P.info? e = some i) (hz : i.zero = some z) (hz1 : z.cells = #[z]) (hz2 : z.oneCell' = true) (hsz : i.size = 1) (hby : i.bytes = by')
 (ho : Own e 1 v m xs fp) (hm : 0 < m) (hq : 0 < q) (tk : Take fp H Hr) (hb : (m + q) * by' ≤ 140737488355328) (hb0 : 0 < by')
 (h : ∀ v' fp', Own e 1 v' (m + q) (xs ++ List.replicate q z) fp' → L P B ops rest k n ((d, v') :: E) (Hp w0 F S (fp' ++ Hr))) :
 L P B ops (⟨some d, .call ⟨.builtin .append, #[s, x], #[T, Tn]⟩, ty, pos, aft, g⟩ :: rest) k n E (Hp w0 F S H) := by
 rcases ho with ⟨rfl, rfl, rfl, rfl⟩ | ⟨b, c, js, rfl, rfl, h2, h3, h4, h5⟩
 ·omega
 rw [Nat.mul_one] at h2 h3
 have h63 : m + q ≤ 140737488355328 := by
  have : m + q ≤ (m + q) * by' := Nat.le_mul_of_pos_right _ hb0
  omega
 by_cases hroom : m + q ≤ c
 ·intro a w hst hA
  subst hby
  have hA2 := hA.take tk
  have hbk : w.heap[b]? = some (.cells (xs ++ js).toArray e (0, 0)) := hA2.own (b, _) (by simp)
  refine wpList_on (wantedE_spec hst hw) ?_
  unfold Oper.wp
  have hst2 := run_storeCells_at P b m e (List.replicate q z) 0 (xs ++ js).toArray w hbk (by simp only [List.length_replicate, List.size_toArray]; omega) (fun u hu => by rw [(List.mem_replicate.1 hu).2]; exact hz2)
  simp only [Nat.add_zero, List.length_replicate] at hst2
  have ecs : ((xs ++ js).toArray.toList.take m ++ List.replicate q z ++ (xs ++ js).toArray.toList.drop (m + q)).toArray = (xs ++ List.replicate q z ++ js.drop q).toArray := by
   rw [← h2]; simp [List.drop_append]
  rw [ecs] at hst2
  have hk : IntKind.i64.wrap (q : Int) = q := by rw [IntKind.wrap_i64]; omega
  have hq48 : ¬ (281474976710656 < (q : Int) * (i.bytes : Int)) := by
   have : q * i.bytes ≤ (m + q) * i.bytes := Nat.mul_le_mul_right _ (by omega)
   rw [← Int.natCast_mul]; omega
  have hneg : ¬ ((q : Int) < 0) := by omega
  have hq0 : q ≠ 0 := by omega
  have hzc := zeroCells1 z q hz1
  have : (execOp a.eval ⟨some d, .call ⟨.builtin .append, #[s, x], #[T, Tn]⟩, ty, pos, aft, g⟩).run P w = .ok (.value (.slice (some ⟨b, 0, none⟩) (m + q) c)) (w.setRow b (xs ++ List.replicate q z ++ js.drop q).toArray) := by
   simp [execOp, resolve, invoke, builtin, hst.ev hs, hst.ev hx, Builtin.append_, run_underlying ht, run_underlying htn, sizeOf, typeInfo, zeroValue, hi, hz, hsz, asInt, asIntOf, hk, hneg, hq48, hq0, hroom, hzc, Addr.add_lit, hst2]
  rw [this, Oper.upon_value]
  rw [List.length_append] at h3
  exact h _ [(b, .cells (xs ++ List.replicate q z ++ js.drop q).toArray e (0, 0))] (Own.mk (by simp; omega) (by simp only [List.length_append, List.length_replicate, List.length_drop]; omega) hroom h5) _ _ (hst.put hn _) (hp_setRow hA2 .head)
 ·intro a w hst hA
  subst hby
  have hA2 := hA.take tk
  have hr : Rd S ([(b, .cells (xs ++ js).toArray e (0, 0))] ++ Hr) 1 (.slice (some ⟨b, 0, none⟩) m c) m xs := ⟨by omega, .inr ⟨b, 0, c, _, _, _, rfl, ⟨h4, h5⟩, .head, fun j hj => by simp [List.getElem?_append_left hj]⟩⟩
  have hold : (Builtin.firstCells i.size m (.slice (some ⟨b, 0, none⟩) m c)).run P w.drew = .ok xs.toArray w.drew := by rw [hsz]; exact hr.first (P := P) (hA2.drawn (w.drawn + 1))
  have hq48 : q * i.bytes ≤ 281474976710656 := by
   have : q * i.bytes ≤ (m + q) * i.bytes := Nat.mul_le_mul_right _ (by omega)
   omega
  have h6 := Lib.run_append_grow_zeros (P := P) w T Tn ty e i z kq kn ht htn hi hz (some ⟨b, 0, none⟩) m c xs hold q hq (by omega) (by omega) (by omega) hq48 (growslice_fits (by omega) hb)
  have hge := grownCap_ge w (m + q) c e
  have hmx := grownCap_le_maxLen w (m + q) c e (by unfold maxLen; omega)
  have ecs : (xs.toArray ++ Builtin.zeroCells z.cells q ++ Builtin.zeroCells z.cells (grownCap w (m + q) c e - (m + q))) = (xs ++ List.replicate q z ++ List.replicate (grownCap w (m + q) c e - (m + q)) z).toArray := by
   apply Array.ext'
   simp only [Array.toList_append, zeroCells1 z _ hz1]
  rw [ecs] at h6
  refine wpList_on (wantedE_spec hst hw) ?_
  unfold Oper.wp
  have : (execOp a.eval ⟨some d, .call ⟨.builtin .append, #[s, x], #[T, Tn]⟩, ty, pos, aft, g⟩).run P w = .ok (.value (.slice (some ⟨w.heap.size, 0, none⟩) (m + q) (grownCap w (m + q) c e))) (w.drew.alloc (.cells (xs ++ List.replicate q z ++ List.replicate (grownCap w (m + q) c e - (m + q)) z).toArray e (0, 0))) := by
   simp [execOp, resolve, invoke, builtin, hst.ev hs, hst.ev hx, h6]
  rw [this, Oper.upon_value]
  have h8 := (hA2.drawn (w.drawn + 1)).alloc (.cells (xs ++ List.replicate q z ++ List.replicate (grownCap w (m + q) c e - (m + q)) z).toArray e (0, 0))
  exact h _ [(w.heap.size, .cells (xs ++ List.replicate q z ++ List.replicate (grownCap w (m + q) c e - (m + q)) z).toArray e (0, 0))] (Own.mk (by simp; omega) (by simp only [List.length_append, List.length_replicate]; omega) hge (by unfold maxLen at hmx; omega)) _ _ (hst.put hn _) (h8.sub (by simp))

/-- []T{x, y, ..}: each place told. -/
theorem L.sliceF {T e sz m : Nat} {ps : List (Nat × Operand)} {vs : List (Nat × Value)} {z : Value} {zs out : List Value} (hx : E.parts ps = some vs) (hn : Nat.blt d n = true) (hw : wantedE ops E g = some true)
 (hT : P.underlying T = some (.slice e)) (hs : ∀ w, (sizeOf e).run P w = .ok sz w) (hz : ∀ w, (zeroValue e).run P w = .ok z w) (h0 : m * sz ≠ 0) (hmx : m * sz ≤ 2 ^ 24) (hzs : ((Array.range (m * sz)).map (z.cells[· % z.cells.size]!)) = zs.toArray)
 (hf : Fills (fun i => some (i * sz, sz)) zs vs out) (h : ∀ b, L P B ops rest k n ((d, .slice (some ⟨b, 0, none⟩) m m) :: E) (Hp w0 F S ((b, .cells out.toArray e (0, 0)) :: H))) :
 L P B ops (⟨some d, .buildSlice T m ps.toArray, ty, pos, aft, g⟩ :: rest) k n E (Hp w0 F S H) :=
 L.new (V := fun b => .slice (some ⟨b, 0, none⟩) m m) rfl hn hw (fun a w hst hA => by
  have h1 := hst.parts hx
  have h2 : (ps.toArray.map fun (x : Nat × Operand) => (x.1, a.eval x.2)) = vs.toArray := by simp [h1]
  have e1 : ¬ (m * sz > 2 ^ 24) := by omega
  simp only [execOp, h2, Instr.buildSlice, Sem.run_bind, run_underlying hT, hs, Result.andThen_ok, e1, h0, if_false, hz, Sem.run_pure, hzs, hf.fill]
  simp [newRow]) h

theorem L.sliceF1 {T e m : Nat} {ps : List (Nat × Operand)} {vs : List (Nat × Value)} {z : Value} {out : List Value} (hx : E.parts ps = some vs) (hn : Nat.blt d n = true) (hw : wantedE ops E g = some true)
 (hT : P.underlying T = some (.slice e)) (hs : ∀ w, (sizeOf e).run P w = .ok 1 w) (hz : ∀ w, (zeroValue e).run P w = .ok z w) (hz1 : z.cells = #[z]) (h0 : m ≠ 0) (hmx : m ≤ 1000)
 (hf : Fills (fun i => some (i * 1, 1)) (List.replicate m z) vs out) (h : ∀ b, L P B ops rest k n ((d, .slice (some ⟨b, 0, none⟩) m m) :: E) (Hp w0 F S ((b, .cells out.toArray e (0, 0)) :: H))) :
 L P B ops (⟨some d, .buildSlice T m ps.toArray, ty, pos, aft, g⟩ :: rest) k n E (Hp w0 F S H) :=
 L.sliceF (sz := 1) (zs := List.replicate m z) hx hn hw hT hs hz (by omega) (by omega) (by
  rw [hz1]
  apply Array.ext
  ·simp
  ·intro j h1 h2
   simp [Nat.mod_one]) hf h
end
end Go.Tk

set_option linter.unusedSimpArgs false
set_option linter.unusedVariables false
namespace Go.Tk

theorem flat_set {α : Type} {k : Nat} : ∀ (rows : List (List α)), (∀ r ∈ rows, r.length = k) → ∀ (z i : Nat) (hz : z < rows.length) (u : α), i < k → rows.flatten.set (z * k + i) u = (rows.set z (rows[z].set i u)).flatten
 | [], _, z, i, hz, u, hi => by simp at hz
 | r :: rows, h, 0, i, hz, u, hi => by
   have hr := h r (List.mem_cons_self ..)
   simp only [List.flatten_cons, List.set_cons_zero, List.getElem_cons_zero, Nat.zero_mul, Nat.zero_add]
   rw [List.set_append_left _ _ (by omega)]
 | r :: rows, h, z + 1, i, hz, u, hi => by
   have hr := h r (List.mem_cons_self ..)
   simp only [List.flatten_cons, List.set_cons_succ, List.getElem_cons_succ]
   rw [List.set_append_right _ _ (by rw [hr, Nat.add_mul]; omega), hr, show (z + 1) * k + i - k = z * k + i from by rw [Nat.add_mul]; omega]
   rw [flat_set rows (fun r hr => h r (List.mem_cons_of_mem _ hr)) z i (by simpa using hz) u hi]

theorem flat_put {k : Nat} {rows : List (List Value)} {js : List Value} (h : ∀ r ∈ rows, r.length = k) {z i : Nat} (hz : z < rows.length) (u : Value) (hi : i < k) :
 (rows.flatten ++ js).take (z * k + i) ++ [u] ++ (rows.flatten ++ js).drop (z * k + i + 1) = (rows.set z (rows[z].set i u)).flatten ++ js := by
 have hl : z * k + i < rows.flatten.length := by
  rw [flat_len rows h]
  exact Nat.lt_of_lt_of_le (Nat.add_lt_add_left hi _) (by rw [← Nat.succ_mul]; exact Nat.mul_le_mul_right _ hz)
 rw [splice1 _ _ _ (by rw [List.length_append]; omega), List.set_append_left _ _ hl, flat_set rows h z i hz u hi]

theorem rows_set_len {α : Type} {k : Nat} {rows : List (List α)} (h : ∀ r ∈ rows, r.length = k) {z : Nat} {r : List α} (hr : r.length = k) : ∀ q ∈ rows.set z r, q.length = k := fun q hq => by
 rcases List.mem_or_eq_of_mem_set hq with h1 | rfl
 ·exact h q h1
 ·exact hr

theorem All2.set {α β : Type} {R : α → β → Prop} : ∀ {l1 : List α} {l2 : List β}, All2 R l1 l2 → ∀ (z : Nat) (a : α), (∀ (hz : z < l2.length), R a l2[z]) → All2 R (l1.set z a) l2
 | [], [], h, z, a, _ => h
 | _ :: _, _ :: _, h, 0, a, ha => ⟨ha (by simp), h.2⟩
 | _ :: _, _ :: _, h, z + 1, a, ha => ⟨h.1, All2.set h.2 z a (fun hz => ha (by simpa using hz))⟩

section
variable {P : Program} {B : Exit → Act → World → Prop} {k : List Fr} {n : Nat} {E : Env} {ops : Array Oper} {rest : List Oper}
 {d ty : Nat} {dd : Option Tmp} {pos : String} {aft : Array Edge} {g : Option (Nat × Bool)} {w0 : World} {F : Nat → Prop} {S : Store} {H : Heap}
/-- Cell i of row z. -/
theorem L.storeRow {T e q z i o : Nat} {x y : Operand} {b : Nat} {rows : List (List Value)} {js : List Value} {u : Value} {H' : Heap} (hx : E.ev x = some (.pointer (some ⟨b, o, none⟩))) (ho : o = z * q + i) (hy : E.ev y = some u) (hw : wantedE ops E g = some true)
 (hs : ∀ w, (sizeOf T).run P w = .ok 1 w) (h1 : u.oneCell' = true) (hk : ∀ r ∈ rows, r.length = q) (hz : z < rows.length) (hi : i < q)
 (up : Upd b (.cells (rows.flatten ++ js).toArray e (0, 0)) (.cells ((rows.set z (rows[z].set i u)).flatten ++ js).toArray e (0, 0)) H H')
 (h : L P B ops rest k n E (Hp w0 F S H')) : L P B ops (⟨none, .store T x y, ty, pos, aft, g⟩ :: rest) k n E (Hp w0 F S H) := by
 subst ho
 have hl : z * q + i < rows.flatten.length := by
  rw [flat_len rows hk]
  exact Nat.lt_of_lt_of_le (Nat.add_lt_add_left hi _) (by rw [← Nat.succ_mul]; exact Nat.mul_le_mul_right _ hz)
 refine L.storeG (vs := [u]) (m := 1) (cs := (rows.flatten ++ js).toArray) (Te := e) hx hy hw hs ?_ rfl (by simpa using h1) ?_ (by rw [List.size_toArray, List.length_append]; omega) h
 ·cases u <;> first | rfl | (simp [Value.oneCell'] at h1)
 ·rw [show (rows.flatten ++ js).toArray.toList = rows.flatten ++ js from rfl, flat_put hk hz u hi]; exact up
end
end Go.Tk

set_option linter.unusedSimpArgs false
set_option linter.unusedVariables false
namespace Go.Tk
section
variable {P : Program} {n : Nat} {E : Env} {A : World → Prop} {d ty : Nat} {dd : Option Tmp} {pos : String} {aft : Array Edge} {g : Option (Nat × Bool)}
theorem V.ifaceMap {T K e : TypeId} {x : Operand} {v : Value} (hx : E.ev x = some v) (hT : P.underlying T = some (.map K e)) : V P n E A ⟨dd, .makeInterface T x, ty, pos, aft, g⟩ (.iface T v) := fun a w hs _ => by
 simp [execOp, hs.ev hx, Instr.makeInterface, run_underlying hT]
theorem V.assertMap {T K e X : TypeId} {x : Operand} {v : Value} (hx : E.ev x = some (.iface T v)) (hT : P.underlying T = some (.map K e)) : V P n E A ⟨dd, .typeAssert x X T false, ty, pos, aft, g⟩ v := fun a w hs _ => by
 simp [execOp, hs.ev hx, Instr.typeAssert, run_underlying hT]
theorem V.eqlMap {T U K e : TypeId} {x y : Operand} {r : Nat} (hx : E.ev x = some (.map (some r))) (hy : E.ev y = some (.map none)) (hT : P.underlying T = some (.map K e)) : V P n E A ⟨dd, .binOp .eql T x y U, ty, pos, aft, g⟩ (.bool false) := fun a w hs _ => by
 have h2 : (Op.equal T (.map (some r)) (.map none)).run P w = .ok false w := equal_of_in (fun d => by simp [Op.equalIn, run_underlying hT])
 simp [execOp, hs.ev hx, hs.ev hy, binOp, h2, eqGuard, Sem.run_bind]
end
end Go.Tk

set_option linter.unusedSimpArgs false
set_option linter.unusedVariables false
namespace Go.Tk
section
variable {P : Program} {ops : Array Oper} {C : World → Prop} {bs : List Nat} {B : Exit → Act → World → Prop} {k : List Fr} {n : Nat} {E : Env} {A : World → Prop} {f : Nat} {listed : Array Bool}
theorem D.two {o1 o2 : Oper} (i j : Nat) {l1 l2 : Array Bool} (hr : Region.ready .any ops listed = [i, j]) (hi : ops[i]? = some o1) (hj : ops[j]? = some o2) (hl1 : listed.setIfInBounds i true = l1) (hl2 : listed.setIfInBounds j true = l2) (hc : (∃ b ∈ bs, listed.getD b false = true) ∨ ∀ w, A w → C w)
 (h1 : L P (Bn (wpF P ops bs C (fun a' w' => Ks P B k .normal a' w') f l1)) ops [o1] [] n E A) (h2 : L P (Bn (wpF P ops bs C (fun a' w' => Ks P B k .normal a' w') f l2)) ops [o2] [] n E A) : D P B ops bs C (f + 1) listed k n E A := fun a w hs hA => by
 subst hl1 hl2
 refine ⟨hc.imp id (fun h => h w hA), fun h0 => (by rw [hr] at h0; cases h0), fun q hq => ?_⟩
 rw [hr] at hq
 have key : ∀ (q : Nat) (o : Oper), ops[q]? = some o → L P (Bn (wpF P ops bs C (fun a' w' => Ks P B k .normal a' w') f (listed.setIfInBounds q true))) ops [o] [] n E A → fOp P ops q (wpF P ops bs C (fun a' w' => Ks P B k .normal a' w') f (listed.setIfInBounds q true)) a w := fun q o ho h => fOp_of_L ho (by
  have := h a w hs hA
  refine cast ?_ this
  congr 1
  funext e a w
  cases e <;> rfl)
 rcases List.mem_cons.1 hq with rfl | hq
 ·exact key _ _ hi h1
 ·rcases List.mem_singleton.1 hq with rfl
  exact key _ _ hj h2
end

theorem rows_drop {α : Type} {k : Nat} : ∀ (rows : List (List α)), (∀ r ∈ rows, r.length = k) → ∀ n, rows.flatten.drop (n * k) = (rows.drop n).flatten
 | [], _, n => by simp
 | r :: rows, h, 0 => by simp
 | r :: rows, h, n + 1 => by
   have hr := h r (List.mem_cons_self ..)
   rw [List.flatten_cons, List.drop_succ_cons, List.drop_append, hr, List.drop_of_length_le (by rw [hr, Nat.add_mul]; omega), List.nil_append, show (n + 1) * k - k = n * k from by rw [Nat.add_mul]; omega]
   exact rows_drop rows (fun r hr => h r (List.mem_cons_of_mem _ hr)) n
theorem rows_take {α : Type} {k : Nat} : ∀ (rows : List (List α)), (∀ r ∈ rows, r.length = k) → ∀ n, rows.flatten.take (n * k) = (rows.take n).flatten
 | [], _, n => by simp
 | r :: rows, h, 0 => by simp
 | r :: rows, h, n + 1 => by
   have hr := h r (List.mem_cons_self ..)
   rw [List.flatten_cons, List.take_succ_cons, List.flatten_cons, List.take_append, hr, List.take_of_length_le (by rw [hr, Nat.add_mul]; omega), show (n + 1) * k - k = n * k from by rw [Nat.add_mul]; omega]
   rw [rows_take rows (fun r hr => h r (List.mem_cons_of_mem _ hr)) n]
end Go.Tk

set_option linter.unusedSimpArgs false
set_option linter.unusedVariables false
namespace Go.Tk
section
variable {P : Program} {B : Exit → Act → World → Prop} {k : List Fr} {n : Nat} {E : Env} {A : World → Prop} {ops : Array Oper} {rest : List Oper}
 {d ty : Nat} {dd : Option Tmp} {pos : String} {aft : Array Edge} {g : Option (Nat × Bool)} {w0 : World} {F : Nat → Prop} {S : Store} {H : Heap}

/-- x[lo:hi:mx] of a slice. -/
theorem V.slice3 {T e : TypeId} {x lo hi mx : Operand} {ad ad' : Option Addr} {m c l u q sz : Nat} {kl ku kq : IntKind} (hx : E.ev x = some (.slice ad m c)) (hl : E.ev lo = some (.int kl (l : Int))) (hu : E.ev hi = some (.int ku (u : Int))) (hq : E.ev mx = some (.int kq (q : Int)))
 (hT : P.underlying T = some (.slice e)) (hs : ∀ w, (sizeOf e).run P w = .ok sz w) (h1 : l ≤ u) (h2 : u ≤ q) (h3 : q ≤ c) (had : (if q = l then ad else ad.map (·.add (l * sz))) = ad') :
 V P n E A ⟨dd, .slice T x (some lo) (some hi) (some mx), ty, pos, aft, g⟩ (.slice ad' (u - l) (q - l)) := fun a w hst _ => by
 simp [execOp, hst.ev hx, hst.ev hl, hst.ev hu, hst.ev hq, Instr.sliceAt, Instr.slice, underlying, hT, Instr.sliceBounds, Instr.sliceBound, asIntOf, hs, had, h1, h2, h3]

theorem hp_setSame {w : World} {b : Nat} {cs : Array Value} {T : TypeId} {H' : Heap} (hA : Hp w0 F S H w) (u : Upd b (.cells cs T (0, 0)) (.cells cs T (0, 0)) H H') : Hp w0 F S H' w :=
 hA.upd u rfl rfl rfl rfl (hA.own _ u.mem) (fun c hc => rfl)

/-- append where there is room: into the block itself; what is appended may lie in that block. -/
theorem L.appendIn {T T' e e' sz b m c l : Nat} {i : TypeInfo} {y : Value} {s x : Operand} {xs M R ys : List Value} {Te : TypeId} {H' : Heap} (hs : E.ev s = some (.slice (some ⟨b, 0, none⟩) m c)) (hx : E.ev x = some y) (hn : Nat.blt d n = true) (hw : wantedE ops E g = some true)
 (ht : P.underlying T = some (.slice e)) (ht' : P.underlying T' = some (.slice e')) (hi : P.info? e = some i) (hsz : i.size = sz)
 (hxl : xs.length = m * sz) (hM : M.length = l * sz) (hr : Rd S H sz y l ys) (h1 : ∀ u ∈ ys, u.oneCell' = true) (hroom : m + l ≤ c)
 (u : Upd b (.cells (xs ++ M ++ R).toArray Te (0, 0)) (.cells (xs ++ ys ++ R).toArray Te (0, 0)) H H')
 (h : L P B ops rest k n ((d, .slice (some ⟨b, 0, none⟩) (m + l) c) :: E) (Hp w0 F S H')) :
 L P B ops (⟨some d, .call ⟨.builtin .append, #[s, x], #[T, T']⟩, ty, pos, aft, g⟩ :: rest) k n E (Hp w0 F S H) := fun a w hst hA => by
 subst hsz
 obtain ⟨hyl, hy⟩ := hr
 refine wpList_on (wantedE_spec hst hw) ?_
 unfold Oper.wp
 rcases hy with ⟨rfl, rfl⟩ | ⟨b2, off, c2, cs2, T2, fz2, rfl, hlc, hat, hcs⟩
 ·have e1 : ys = [] := List.eq_nil_of_length_eq_zero (by simpa using hyl)
  have e2 : M = [] := List.eq_nil_of_length_eq_zero (by simpa using hM)
  subst e1 e2
  have h2 := run_app_none (P := P) (w := w) (ty := ty) ht hi (v := .slice (some ⟨b, 0, none⟩) m c) rfl (by omega) (fun h => nomatch h)
  have : (execOp a.eval ⟨some d, .call ⟨.builtin .append, #[s, x], #[T, T']⟩, ty, pos, aft, g⟩).run P w = .ok (.value (.slice (some ⟨b, 0, none⟩) m c)) w := by
   simp [execOp, resolve, invoke, builtin, hst.ev hs, hst.ev hx, run_append_ty ht ht', h2]
  rw [this, Oper.upon_value]
  exact h _ w (hst.put hn _) (hp_setSame hA u)
 ·have hbk : w.heap[b]? = some (.cells (xs ++ M ++ R).toArray Te (0, 0)) := hA.own _ u.mem
  have hcell : ∀ j v, ys[j]? = some v → w.cell? ((⟨b2, off, none⟩ : Addr).add j) = some v := by
   intro j v hj
   have hlt : j < ys.length := by
    rcases Nat.lt_or_ge j ys.length with h | h
    ·exact h
    ·rw [List.getElem?_eq_none h] at hj; cases hj
   rw [add_at, cell_at (hA.at hat), hcs j hlt, hj]
  have hfit : m * i.size + ys.length ≤ (xs ++ M ++ R).toArray.size := by rw [List.size_toArray, List.length_append, List.length_append]; omega
  have hfc := run_firstCells_some (P := P) w i.size l ⟨b2, off, none⟩ l c2 ys hyl hcell
  have hst2 := run_storeCells_at P b (m * i.size) Te ys 0 (xs ++ M ++ R).toArray w hbk (by simpa using hfit) h1
  simp only [Nat.add_zero] at hst2
  have ecs : ((xs ++ M ++ R).toArray.toList.take (m * i.size) ++ ys ++ (xs ++ M ++ R).toArray.toList.drop (m * i.size + ys.length)).toArray = (xs ++ ys ++ R).toArray := by
   rw [← hxl, show (xs ++ M ++ R).toArray.toList = xs ++ (M ++ R) from by simp, List.take_left' rfl, show xs.length + ys.length = (xs ++ M).length from by rw [List.length_append, hM, hyl], ← List.append_assoc xs M R, List.drop_left' rfl]
  rw [ecs] at hst2
  have h2 : (Builtin.append_ #[T, T] ty #[.slice (some ⟨b, 0, none⟩) m c, .slice (some ⟨b2, off, none⟩) l c2]).run P w = .ok (.slice (some ⟨b, 0, none⟩) (m + l) c) (w.setRow b (xs ++ ys ++ R).toArray) := by
   simp [Builtin.append_, run_underlying ht, sizeOf, typeInfo, hi, Builtin.lenOf, hroom, hfc, Addr.add_lit, hst2]
  have : (execOp a.eval ⟨some d, .call ⟨.builtin .append, #[s, x], #[T, T']⟩, ty, pos, aft, g⟩).run P w = .ok (.value (.slice (some ⟨b, 0, none⟩) (m + l) c)) (w.setRow b (xs ++ ys ++ R).toArray) := by
   simp [execOp, resolve, invoke, builtin, hst.ev hs, hst.ev hx, run_append_ty ht ht', h2]
  rw [this, Oper.upon_value]
  exact h _ _ (hst.put hn _) (hp_setRow hA u)

/-- clear of a slice: what stands there is of no use any more. -/
theorem L.clearS {T e sz b o m c : Nat} {x : Operand} {z : Value} {Aa M R : List Value} {Te : TypeId} {H' : List Value → Heap} (hx : E.ev x = some (.slice (some ⟨b, o, none⟩) m c)) (hw : wantedE ops E g = some true)
 (hT : P.underlying T = some (.slice e)) (hz : ∀ w, (zeroValue e).run P w = .ok z w) (hzs : z.cells.size = sz) (hz1 : ∀ u ∈ z.cells.toList, u.oneCell' = true) (ho : o = Aa.length) (hM : M.length = m * sz)
 (u : ∀ Z, Upd b (.cells (Aa ++ M ++ R).toArray Te (0, 0)) (.cells (Aa ++ Z ++ R).toArray Te (0, 0)) H (H' Z))
 (h : ∀ Z, Z.length = m * sz → L P B ops rest k n E (Hp w0 F S (H' Z))) : L P B ops (⟨none, .call ⟨.builtin .clear, #[x], #[T]⟩, ty, pos, aft, g⟩ :: rest) k n E (Hp w0 F S H) := by
 by_cases hm : m = 0
 ·subst hm
  have e2 : M = [] := List.eq_nil_of_length_eq_zero (by simpa using hM)
  subst e2
  refine L.val0 (Hp w0 F S (H' [])) rfl hw (fun a w hst hA => ⟨w, .tuple #[], ?_, hp_setSame hA (u [])⟩) (h [] (by simp))
  simp [execOp, resolve, invoke, builtin, hst.ev hx, Builtin.clear_, run_underlying hT]
 ·obtain ⟨Z, hZ⟩ : ∃ Z, (Builtin.zeroCells z.cells m).toList = Z := ⟨_, rfl⟩
  have hZl : Z.length = m * sz := by rw [← hZ, zc_len, hzs]
  have hZ1 : ∀ u ∈ Z, u.oneCell' = true := fun v hv => by
   rw [← hZ] at hv
   obtain ⟨j, hj, e⟩ := List.getElem_of_mem hv
   simp only [Builtin.zeroCells, Array.getElem_toList, Array.getElem_map] at e
   rw [← e]
   refine hz1 _ ?_
   have h0 : 0 < z.cells.size := by
    rcases Nat.eq_zero_or_pos z.cells.size with h0 | h0
    ·rw [zc_len, h0] at hj; simp at hj
    ·exact h0
   have hlt := Nat.mod_lt (Array.range (m * z.cells.size))[j]! h0
   rw [getElem!_pos z.cells _ (Nat.mod_lt _ h0)]
   simp
  refine L.val0 (Hp w0 F S (H' Z)) rfl hw (fun a w hst hA => ⟨w.setRow b (Aa ++ Z ++ R).toArray, .tuple #[], ?_, hp_setRow hA (u Z)⟩) (h Z hZl)
  have hbk : w.heap[b]? = some (.cells (Aa ++ M ++ R).toArray Te (0, 0)) := hA.own _ (u Z).mem
  have hst2 := run_storeCells_at P b o Te Z 0 (Aa ++ M ++ R).toArray w hbk (by rw [List.size_toArray, List.length_append, List.length_append]; omega) hZ1
  simp only [Nat.add_zero] at hst2
  have ecs : ((Aa ++ M ++ R).toArray.toList.take o ++ Z ++ (Aa ++ M ++ R).toArray.toList.drop (o + Z.length)).toArray = (Aa ++ Z ++ R).toArray := by
   rw [ho, show (Aa ++ M ++ R).toArray.toList = Aa ++ (M ++ R) from by simp, List.take_left' rfl, show Aa.length + Z.length = (Aa ++ M).length from by rw [List.length_append, hM, hZl], ← List.append_assoc Aa M R, List.drop_left' rfl]
  rw [ecs] at hst2
  have h2 : (Builtin.clear_ #[T] ty #[.slice (some ⟨b, o, none⟩) m c]).run P w = .ok (.tuple #[]) (w.setRow b (Aa ++ Z ++ R).toArray) := by
   cases m with
   | zero => exact absurd rfl hm
   | succ m => simp [Builtin.clear_, run_underlying hT, hz, hZ, hst2]
  simp [execOp, resolve, invoke, builtin, hst.ev hx, h2]

theorem L.clearE {T e sz b o m c : Nat} {ad : Option Addr} {x : Operand} {z : Value} {Aa M R : List Value} {Te : TypeId} {H' : List Value → Heap} (hx : E.ev x = some (.slice ad m c)) (had : 0 < m → ad = some ⟨b, o, none⟩) (hw : wantedE ops E g = some true)
 (hT : P.underlying T = some (.slice e)) (hz : ∀ w, (zeroValue e).run P w = .ok z w) (hzs : z.cells.size = sz) (hz1 : ∀ u ∈ z.cells.toList, u.oneCell' = true) (ho : o = Aa.length) (hM : M.length = m * sz)
 (u : ∀ Z, Upd b (.cells (Aa ++ M ++ R).toArray Te (0, 0)) (.cells (Aa ++ Z ++ R).toArray Te (0, 0)) H (H' Z))
 (h : ∀ Z, Z.length = m * sz → L P B ops rest k n E (Hp w0 F S (H' Z))) : L P B ops (⟨none, .call ⟨.builtin .clear, #[x], #[T]⟩, ty, pos, aft, g⟩ :: rest) k n E (Hp w0 F S H) := by
 by_cases hm : m = 0
 ·subst hm
  have e2 : M = [] := List.eq_nil_of_length_eq_zero (by simpa using hM)
  subst e2
  refine L.val0 (Hp w0 F S (H' [])) rfl hw (fun a w hst hA => ⟨w, .tuple #[], ?_, hp_setSame hA (u [])⟩) (h [] (by simp))
  cases ad with
  | none => simp [execOp, resolve, invoke, builtin, hst.ev hx, Builtin.clear_, run_underlying hT]
  | some ad => simp [execOp, resolve, invoke, builtin, hst.ev hx, Builtin.clear_, run_underlying hT]
 ·have := had (by omega)
  subst this
  exact L.clearS hx hw hT hz hzs hz1 ho hM u h
end
end Go.Tk

set_option linter.unusedSimpArgs false
set_option linter.unusedVariables false
namespace Go.Tk
section
variable {P : Program} {B : Exit → Act → World → Prop} {k : List Fr} {n : Nat} {E : Env} {A : World → Prop} {ops : Array Oper} {rest : List Oper}
 {d ty : Nat} {dd : Option Tmp} {pos : String} {aft : Array Edge} {g : Option (Nat × Bool)} {w0 : World} {F : Nat → Prop} {S : Store} {H : Heap}

/-- []byte of a constant string: its block is marked. -/
theorem L.convMark {T e : TypeId} {x : Operand} {b m c : Nat} {cs : Array Value} {Te : TypeId} {H' : Heap} (hx : E.ev x = some (.slice (some ⟨b, 0, none⟩) m c)) (hn : Nat.blt d n = true) (hw : wantedE ops E g = some true)
 (hT : P.underlying T = some (.slice e)) (he : P.underlying e = some (.int .u8)) (u : Upd b (.cells cs Te (0, 0)) (.cells cs Te (cs.size, cs.size + 1)) H H')
 (h : L P B ops rest k n ((d, .slice (some ⟨b, 0, none⟩) m c) :: E) (Hp w0 F S H')) : L P B ops (⟨some d, .convert T T x, ty, pos, aft, g⟩ :: rest) k n E (Hp w0 F S H) := by
 refine L.val (Hp w0 F S H') rfl hn hw (fun a w hst hA => ?_) h
 have hb := hA.own _ u.mem
 have hlt := lt_of_heap hb
 have hsh : w.shape? b = some (Te, cs.size) := by simp [World.shape?, hb]
 have hfz : (w.freeze ⟨b, cs.size, none⟩ 1).heap = w.heap.setIfInBounds b (.cells cs Te (cs.size, cs.size + 1)) := by
  simp [World.freeze, hb]
  apply Array.ext_getElem?
  intro i
  rw [Array.getElem?_modify, Array.getElem?_setIfInBounds]
  by_cases hi : b = i
  ·subst hi
   rw [if_pos rfl, if_pos rfl, hb, if_pos hlt]; rfl
  ·rw [if_neg hi, if_neg hi]
 refine ⟨w.freeze ⟨b, cs.size, none⟩ 1, ?_, ?_⟩
 ·simp [execOp, hst.ev hx, convert, run_underlying hT, run_underlying he, markStringish, hsh]
 ·refine hA.upd u rfl rfl rfl (by rw [hfz]; simp) (by rw [hfz, Array.getElem?_setIfInBounds, if_pos rfl, if_pos hlt]) (fun c hc => by rw [hfz, Array.getElem?_setIfInBounds, if_neg (fun e => hc e.symm)])
end
end Go.Tk

namespace Go.Proofs.YtijgbppkdaiikaaGreat
theorem info_u8 : Tryz.prog.info? 5 = some Tryz.t5 := by kernel_rfl
theorem info_int : Tryz.prog.info? 3 = some Tryz.t3 := by kernel_rfl
theorem info_item : Tryz.prog.info? 112 = some Tryz.t112 := by kernel_rfl
theorem info_kid : Tryz.prog.info? 129 = some Tryz.t129 := by kernel_rfl
theorem info_page : Tryz.prog.info? 125 = some Tryz.t125 := by kernel_rfl
theorem info_pair : Tryz.prog.info? 61 = some Tryz.t61 := by kernel_rfl
theorem info_items : Tryz.prog.info? 118 = some Tryz.t118 := by kernel_rfl
theorem info_kids : Tryz.prog.info? 115 = some Tryz.t115 := by kernel_rfl
end Go.Proofs.YtijgbppkdaiikaaGreat

set_option linter.unusedSimpArgs false
set_option linter.unusedVariables false
namespace Go.Proofs.YtijgbppkdaiikaaGreat
open Go.Proofs.Tryz Go.Tk

/-! ### the plain functions -/

/-- Bytes as a number, the greatest first. -/
def be (l : List UInt8) : Nat := l.foldl (fun n x => n * 256 + x.toNat) 0
theorem be_snoc (l : List UInt8) (x : UInt8) : be (l ++ [x]) = be l * 256 + x.toNat := by simp [be]
theorem be_lt (l : List UInt8) : be l < 256 ^ l.length := by
 induction l using snoc_ind with
 | h0 => simp [be]
 | h1 l x ih => rw [be_snoc, List.length_append, List.length_singleton, Nat.pow_succ]; have := x.toNat_lt; omega

/-- The number n as size bytes. -/
def en (n : Nat) : Nat → List UInt8
 | 0 => []
 | size + 1 => en (n / 256) size ++ [UInt8.ofNat (n % 256)]
theorem en_length (n size : Nat) : (en n size).length = size := by
 induction size generalizing n with
 | zero => rfl
 | succ s ih => simp [en, ih]
theorem be_en (n size : Nat) (h : n < 256 ^ size) : be (en n size) = n := by
 induction size generalizing n with
 | zero => simp at h; subst h; rfl
 | succ s ih =>
   rw [en, be_snoc, ih (n / 256) (by rw [Nat.pow_succ] at h; omega)]
   simp; omega
theorem en_be (l : List UInt8) : en (be l) l.length = l := by
 induction l using snoc_ind with
 | h0 => rfl
 | h1 l x ih =>
   rw [List.length_append, List.length_singleton, en, be_snoc]
   have := x.toNat_lt
   rw [show (be l * 256 + x.toNat) / 256 = be l from by omega, show (be l * 256 + x.toNat) % 256 = x.toNat from by omega, ih]
   simp

def getN (l : List UInt8) (at_ size : Int) : Nat × Int :=
 if size < 1 ∨ 8 < size then (0, 1) else if at_ < 0 ∨ (l.length : Int) < at_ ∨ (l.length : Int) - at_ < size then (0, 3) else (be ((l.drop at_.toNat).take size.toNat), 0)

theorem or256 (n x : Nat) (hn : n < 2 ^ 56) (hx : x < 256) : (BitVec.ofNat 64 (n * 256) ||| BitVec.ofNat 64 x).toNat = n * 256 + x := by
 rw [BitVec.toNat_or, BitVec.toNat_ofNat, BitVec.toNat_ofNat, Nat.mod_eq_of_lt (by omega), Nat.mod_eq_of_lt (by omega), show n * 256 = n <<< 8 from by rw [Nat.shiftLeft_eq]]
 rw [Nat.shiftLeft_add_eq_or_of_lt (by omega)]

theorem or_u64 (n x : Nat) (hn : n < 2 ^ 56) (hx : x < 256) : IntKind.u64.wrap ((BitVec.ofInt IntKind.u64.bits ((n * 256 : Nat) : Int) ||| BitVec.ofInt IntKind.u64.bits (x : Int)).toNat : Int) = ((n * 256 + x : Nat) : Int) := by
 have h : (BitVec.ofInt 64 ((n * 256 : Nat) : Int) ||| BitVec.ofInt 64 (x : Int)).toNat = n * 256 + x := by rw [BitVec.ofInt_natCast, BitVec.ofInt_natCast]; exact or256 n x hn hx
 show IntKind.u64.wrap ((BitVec.ofInt 64 ((n * 256 : Nat) : Int) ||| BitVec.ofInt 64 (x : Int)).toNat : Int) = _
 rw [h, IntKind.wrap_u64]; omega

/-- What stands in Put's row behind z rounds. -/
def putc (n size z : Nat) : List Value := (List.range size).map fun j => if size ≤ j + z then .int .u8 ((n / 256 ^ (size - 1 - j) % 256 : Nat) : Int) else .int .u8 0
theorem putc_length (n size z : Nat) : (putc n size z).length = size := by simp [putc]
theorem putc_zero (n size : Nat) : putc n size 0 = List.replicate size (.int .u8 0) := by
 apply List.ext_getElem
 ·simp [putc]
 ·intro j h1 h2
  simp [putc] at h1 ⊢; intro h; omega
theorem putc_step (n size z : Nat) (hz : z < size) : (putc n size z).take (size - 1 - z) ++ [.int .u8 ((n / 256 ^ z % 256 : Nat) : Int)] ++ (putc n size z).drop (size - 1 - z + 1) = putc n size (z + 1) := by
 rw [splice1 _ _ _ (by rw [putc_length]; omega)]
 apply List.ext_getElem
 ·simp [putc]
 ·intro j h1 h2
  simp only [putc_length] at h2
  rw [List.getElem_set]
  simp only [putc, List.getElem_map, List.getElem_range]
  by_cases hj : size - 1 - z = j
  ·subst hj
   rw [if_pos rfl, if_pos (by omega), show size - 1 - (size - 1 - z) = z from by omega]
  ·rw [if_neg hj]
   by_cases h : size ≤ j + z
   ·rw [if_pos h, if_pos (by omega)]
   ·rw [if_neg h, if_neg (by omega)]
theorem en_getElem (n size j : Nat) (h : j < (en n size).length) : (en n size)[j] = UInt8.ofNat (n / 256 ^ (size - 1 - j) % 256) := by
 induction size generalizing n with
 | zero => simp [en] at h
 | succ s ih =>
   rw [en_length] at h
   simp only [en, List.getElem_append, en_length]
   split
   ·rename_i hj
    rw [ih (n / 256) (by rw [en_length]; exact hj)]
    rw [show s + 1 - 1 - j = (s - 1 - j) + 1 from by omega, Nat.pow_succ, Nat.mul_comm, Nat.div_div_eq_div_mul]
   ·have : j = s := by omega
    subst this
    simp
theorem putc_all (n size : Nat) : putc n size size = (en n size).map bv := by
 apply List.ext_getElem
 ·simp [putc, en_length]
 ·intro j h1 h2
  simp only [putc_length] at h1
  simp only [List.getElem_map, en_getElem, putc, List.getElem_range, bv]
  rw [if_pos (by omega)]
  simp

section
variable {w0 : World} {F : Nat → Prop} {S : Store} {Hr : Heap} {w : World}

theorem get_ok {v : Value} {l : List UInt8} (hb : Bs S Hr v l) (at_ size : Int) (hs1 : -9223372036854775808 ≤ size) (ha1 : -9223372036854775808 ≤ at_) (ha2 : at_ ≤ 9223372036854775807) (hw : Hp w0 F S Hr w) :
 Calls Tryz.prog 139 #[v, .int .i64 at_, .int .i64 size] w fun e w' => e = .returned (.tuple #[.int .u64 ((getN l at_ size).1 : Int), .int .i64 (getN l at_ size).2]) ∧ Hp w0 F S Hr w' := by
 obtain ⟨ad, c, rfl, hlc, hc63⟩ := hb.form
 unfold getN
 refine enterA hw func139 rfl ntmps139 rfl rfl ?_
 refine sD (sA rfl (sA rfl (sN (sC (sD (sM rfl (sQc rfl (sM rfl ?_))))))))
 refine L.fork (d := 13) rfl (fun h13 => ?_) (fun h13 => ?_)
 ·try simp only [sq] at h13
  refine sS rfl (sS rfl (sT rfl (sN (sO rfl (sD (sA rfl (sA rfl (sN ?_))))))))
  refine R.ret2 results139 rfl rfl (fun w hw => ?_)
  exact ⟨by rw [if_pos (by omega)]; rfl, hw⟩
 ·try simp only [sq] at h13
  refine sM rfl (sQe rfl (sU rfl (sN ?_)))
  refine C.cond rfl (fun h16 => ?_) (fun h16 => ?_)
  ·try simp only [sq] at h16
   refine sD (sA rfl (sA rfl (sN ?_)))
   refine R.ret2 results139 rfl rfl (fun w hw => ?_)
   exact ⟨by rw [if_pos (by omega)]; rfl, hw⟩
  ·try simp only [sq] at h16
   refine sK (sC (sD (sM rfl (sQc rfl (sM rfl ?_)))))
   refine L.fork (d := 19) rfl (fun h19 => ?_) (fun h19 => ?_)
   ·try simp only [sq] at h19
    refine sS rfl (sS rfl (sS rfl (sS rfl (sT rfl (sM rfl (sS rfl (sS rfl (sS rfl (sS rfl (sS rfl (sS rfl (sT rfl (sN ?_)))))))))))))
    refine sO rfl (sD (sA rfl (sA rfl (sN ?_))))
    refine R.ret2 results139 rfl rfl (fun w hw => ?_)
    exact ⟨by rw [if_neg (by omega), if_pos (by omega)]; rfl, hw⟩
   ·try simp only [sq] at h19
    refine sM rfl (sM rfl ?_)
    refine L.w rfl (V.len rfl underlying22) ?_
    refine sQe rfl (sU rfl (sM rfl ?_))
    refine L.fork (d := 25) rfl (fun h25 => ?_) (fun h25 => ?_)
    ·try simp only [sq] at h25
     refine sS rfl (sS rfl (sS rfl (sS rfl (sS rfl (sS rfl (sT rfl (sN (sO rfl (sD (sA rfl (sA rfl (sN ?_))))))))))))
     refine R.ret2 results139 rfl rfl (fun w hw => ?_)
     exact ⟨by rw [if_neg (by omega), if_pos (by omega)]; rfl, hw⟩
    ·try simp only [sq] at h25
     refine sM rfl (sM rfl ?_)
     refine L.w rfl (V.len rfl underlying22) ?_
     refine sM rfl ?_
     refine L.w rfl (V.sub rfl rfl (w64 (by omega) (by omega))) ?_
     refine sQe rfl (sU rfl (sN ?_))
     refine C.cond rfl (fun h32 => ?_) (fun h32 => ?_)
     ·try simp only [sq] at h32
      refine sD (sA rfl (sA rfl (sN ?_)))
      refine R.ret2 results139 rfl rfl (fun w hw => ?_)
      exact ⟨by rw [if_neg (by omega), if_pos (by omega)]; rfl, hw⟩
     ·try simp only [sq] at h32
      refine sK (sD (sA rfl (sN (sC (sD (sM rfl (sM rfl (sM rfl (sM rfl ?_)))))))))
      refine L.w rfl (V.add rfl rfl (w64 (by omega) (by omega))) ?_
      obtain ⟨m, hm⟩ : ∃ m : Nat, m = size.toNat := ⟨_, rfl⟩
      obtain ⟨q, hq⟩ : ∃ q : Nat, q = at_.toNat := ⟨_, rfl⟩
      obtain ⟨ad2, had⟩ : ∃ ad2, (if c = q then ad else ad.map (·.add (q * 1))) = ad2 := ⟨_, rfl⟩
      refine L.w rfl (V.slice (l := q) (u := q + m) rfl underlying22 sizeOf5 ⟨_, by rw [hq, Int.toNat_of_nonneg (by omega)]; rfl⟩ ⟨_, by rw [show ((q + m : Nat) : Int) = at_ + size from by omega]; rfl⟩ (by omega) (by omega) had) ?_
      have hbs := hb.sub (lo := q) (hi := q + m) (by omega) (by omega) had
      have hlen : ((l.drop q).take (q + m - q)).length = m := by simp; omega
      generalize hd : (l.drop q).take (q + m - q) = l2 at hbs hlen
      rw [show q + m - q = l2.length from by omega] at hbs
      rw [show q + m - q = l2.length from by omega]
      refine L.w rfl (V.len rfl underlying22) ?_
      refine sM rfl (sN (sB ?_))
      refine C.loop (α := Nat) (fun z => [(38, .slice ad2 l2.length (c - q)), (39, .int .i64 (l2.length : Int)), (40, .int .i64 (z : Int)), (8, .int .u64 ((be (l2.take z) : Nat) : Int))]) (fun z w => z ≤ l2.length ∧ Hp w0 F S Hr w) (fun z => l2.length - z) 0 ⟨rfl, rfl, rfl, rfl, trivial⟩ (fun w hw => ⟨Nat.zero_le _, hw⟩) (fun z => C.pure (fun hz => ?_))
      refine sD (sQc rfl (sN (sC ?_)))
      refine C.cond rfl (fun h41 => ?_) (fun h41 => ?_)
      ·try simp only [sq] at h41
       have hj : z < l2.length := by omega
       obtain ⟨b, off, cs, T, fz, rfl, h1, h2⟩ := hbs.at hj
       have hlt := be_lt (l2.take z)
       have h56 : be (l2.take z) < 2 ^ 56 := by
        have : (256 : Nat) ^ (l2.take z).length ≤ 256 ^ 7 := Nat.pow_le_pow_right (by omega) (by simp; omega)
        omega
       have hx := l2[z].toNat_lt
       have hs := be_snoc (l2.take z) l2[z]
       rw [← List.take_succ_eq_append_getElem hj] at hs
       refine sK (sC (sB (sD ?_)))
       refine L.w rfl (V.indexAddr rfl rfl underlying22 sizeOf5 rfl (by omega)) ?_
       refine L.w rfl (V.load rfl isAgg5 h1 h2) ?_
       refine sA rfl (sN (sR (sM rfl ?_)))
       refine L.w rfl (V.shl rfl rfl (by omega) (c := ((be (l2.take z) * 256 : Nat) : Int)) (by rw [IntKind.wrap_u64]; simp [IntKind.bits]; omega)) ?_
       refine sM rfl ?_
       refine L.w rfl (V.conv (c := ((l2[z].toNat : Nat) : Int)) rfl underlying5 underlying123 (by rw [IntKind.wrap_u64]; omega)) ?_
       refine L.w rfl (V.or rfl rfl (c := ((be (l2.take (z + 1)) : Nat) : Int)) (by rw [hs]; exact or_u64 _ _ h56 hx)) ?_
       refine sA rfl ?_
       refine L.nil (N.blk (N.seq ?_))
       refine sR ?_
       refine L.w rfl (V.add rfl rfl (w64 (by omega) (by omega))) ?_
       refine sM rfl ?_
       refine L.nil ?_
       exact N.round (z + 1) (by omega) ⟨rfl, rfl, rfl, rfl, trivial⟩ (fun w hw => ⟨by omega, hw⟩)
      ·try simp only [sq] at h41
       refine sZ rfl (sD (sM rfl (sA rfl (sA rfl (sN ?_)))))
       refine R.ret2 results139 rfl rfl (fun w hw => ?_)
       refine ⟨?_, hw⟩
       rw [if_neg (by omega), if_neg (by omega), ← hm, ← hq]
       have : z = l2.length := by omega
       rw [this, List.take_length, ← hd, show q + m - q = m from by omega]

theorem put_ok (n size : Nat) (h1 : 1 ≤ size) (h8 : size ≤ 8) (hn : n < 256 ^ size) (hw : Hp w0 F S Hr w) :
 Calls Tryz.prog 140 #[.int .u64 n, .int .i64 size] w fun e w' => ∃ b, e = .returned (.tuple #[.slice (some ⟨b, 0, none⟩) size size, .int .i64 0]) ∧ Hp w0 F S ((b, .cells ((en n size).map bv).toArray 5 (0, 0)) :: Hr) w' := by
 have hn64 : n < 2 ^ 64 := Nat.lt_of_lt_of_le hn (by rw [show (2 : Nat) ^ 64 = 256 ^ 8 from by decide]; exact Nat.pow_le_pow_right (by omega) h8)
 refine enterA hw func140 rfl ntmps140 rfl rfl ?_
 refine sD (sA rfl (sA rfl (sN (sC (sD (sM rfl (sQc rfl (sM rfl ?_))))))))
 refine L.know (d := 10) (u := .bool false) rfl (congrArg Value.bool (decide_eq_false (by omega))) ?_
 refine sM rfl (sQe rfl (sU rfl (sN ?_)))
 refine C.condF rfl (decide_eq_false (by omega)) ?_
 refine sK (sC (sD (sM rfl (sQc rfl (sM rfl ?_)))))
 refine L.fork (d := 16) rfl (fun h16 => ?_) (fun h16 => ?_)
 ·try simp only [sq] at h16
  refine sM rfl (sM rfl ?_)
  refine L.w rfl (V.mul (c := ((8 * size : Nat) : Int)) rfl rfl (by rw [w64 (by omega) (by omega)]; omega)) ?_
  refine L.w rfl (V.shr (c := 0) rfl rfl (by omega) (by
  simp only [IntKind.bits, Int.toNat_natCast]
  rw [Nat.min_eq_left (by omega), Int.fdiv_eq_ediv_of_nonneg _ (by exact Int.le_of_lt (Int.pow_pos (by decide)))]
  apply Int.ediv_eq_zero_of_lt (by omega)
  rw [show (256 : Nat) ^ size = 2 ^ (8 * size) from by rw [Nat.pow_mul]] at hn
  exact_mod_cast hn)) ?_
  refine sQb rfl (sT rfl (sN (sP rfl (sK (sD (sM rfl ?_))))))
  refine L.make (m := size) (c := size) rfl rfl rfl rfl underlying22 info_u8 rfl rfl rfl (Nat.le_refl _) (by show 1 * size ≤ _; omega) (by omega) (fun b24 => ?_)
  refine sA rfl (sN (sC (sD (sM rfl (sM rfl (sN (sB ?_)))))))
  refine C.loop (α := Nat) (fun z => [(0, .int .u64 n), (1, .int .i64 size), (6, .slice (some ⟨b24, 0, none⟩) size size), (25, .int .i64 (size : Int)), (26, .int .i64 (z : Int))]) (fun z w => z ≤ size ∧ Hp w0 F S ((b24, .cells (putc n size z).toArray 5 (0, 0)) :: Hr) w) (fun z => size - z) 0 ⟨rfl, rfl, rfl, rfl, rfl, trivial⟩ (fun w hw => ⟨Nat.zero_le _, by rw [putc_zero]; exact hw⟩) (fun z => C.pure (fun hz => ?_))
  refine sD (sQc rfl (sN (sC ?_)))
  refine C.cond rfl (fun h27 => ?_) (fun h27 => ?_)
  ·try simp only [sq] at h27
   have hj : z < size := by omega
   refine sK (sC (sB (sD (sM rfl (sA rfl (sN (sR (sM rfl (sM rfl ?_)))))))))
   refine L.w rfl (V.sub rfl rfl (w64 (by omega) (by omega))) ?_
   refine sM rfl ?_
   refine L.w rfl (V.sub (c := ((size - 1 - z : Nat) : Int)) rfl rfl (by rw [w64 (by omega) (by omega)]; omega)) ?_
   refine sM rfl (sM rfl ?_)
   refine L.w rfl (V.mul (c := ((8 * z : Nat) : Int)) rfl rfl (by rw [w64 (by omega) (by omega)]; omega)) ?_
   refine L.w rfl (V.shr (c := ((n / 256 ^ z : Nat) : Int)) rfl rfl (by omega) (by
   simp only [IntKind.bits, Int.toNat_natCast]
   rw [Nat.min_eq_left (by omega), Int.fdiv_eq_ediv_of_nonneg _ (by exact Int.le_of_lt (Int.pow_pos (by decide))), show (256 : Nat) ^ z = 2 ^ (8 * z) from by rw [Nat.pow_mul]]
   simp)) ?_
   refine L.w rfl (V.conv (c := ((n / 256 ^ z % 256 : Nat) : Int)) rfl underlying123 underlying5 (by rw [IntKind.wrap_u8]; omega)) ?_
   refine L.w rfl (V.indexAddr rfl rfl underlying22 sizeOf5 rfl (by omega)) ?_
   refine L.storeG (vs := [.int .u8 ((n / 256 ^ z % 256 : Nat) : Int)]) rfl rfl rfl sizeOf5 rfl rfl (by intro u hu; rw [List.mem_singleton.1 hu]; rfl) .head (by simp [putc_length]; omega) ?_
   refine L.nil (N.blk (N.seq ?_))
   refine sR ?_
   refine L.w rfl (V.add rfl rfl (w64 (by omega) (by omega))) ?_
   refine sM rfl ?_
   refine L.nil ?_
   rw [Nat.zero_add, Nat.mul_one, putc_step n size z hj]
   exact N.round (z + 1) (by omega) ⟨rfl, rfl, rfl, rfl, rfl, trivial⟩ (fun w hw => ⟨by omega, hw⟩)
  ·try simp only [sq] at h27
   refine sZ rfl (sD (sM rfl (sA rfl (sA rfl (sN ?_)))))
   refine R.ret2 results140 rfl rfl (fun w hw => ?_)
   have : z = size := by omega
   subst this
   rw [putc_all] at hw
   exact ⟨_, rfl, hw⟩
 ·try simp only [sq] at h16
  refine sS rfl (sS rfl (sS rfl (sS rfl (sS rfl (sU rfl (sN (sP rfl (sK (sD (sM rfl ?_))))))))))
  refine L.make (m := size) (c := size) rfl rfl rfl rfl underlying22 info_u8 rfl rfl rfl (Nat.le_refl _) (by show 1 * size ≤ _; omega) (by omega) (fun b24 => ?_)
  refine sA rfl (sN (sC (sD (sM rfl (sM rfl (sN (sB ?_)))))))
  refine C.loop (α := Nat) (fun z => [(0, .int .u64 n), (1, .int .i64 size), (6, .slice (some ⟨b24, 0, none⟩) size size), (25, .int .i64 (size : Int)), (26, .int .i64 (z : Int))]) (fun z w => z ≤ size ∧ Hp w0 F S ((b24, .cells (putc n size z).toArray 5 (0, 0)) :: Hr) w) (fun z => size - z) 0 ⟨rfl, rfl, rfl, rfl, rfl, trivial⟩ (fun w hw => ⟨Nat.zero_le _, by rw [putc_zero]; exact hw⟩) (fun z => C.pure (fun hz => ?_))
  refine sD (sQc rfl (sN (sC ?_)))
  refine C.cond rfl (fun h27 => ?_) (fun h27 => ?_)
  ·try simp only [sq] at h27
   have hj : z < size := by omega
   refine sK (sC (sB (sD (sM rfl (sA rfl (sN (sR (sM rfl (sM rfl ?_)))))))))
   refine L.w rfl (V.sub rfl rfl (w64 (by omega) (by omega))) ?_
   refine sM rfl ?_
   refine L.w rfl (V.sub (c := ((size - 1 - z : Nat) : Int)) rfl rfl (by rw [w64 (by omega) (by omega)]; omega)) ?_
   refine sM rfl (sM rfl ?_)
   refine L.w rfl (V.mul (c := ((8 * z : Nat) : Int)) rfl rfl (by rw [w64 (by omega) (by omega)]; omega)) ?_
   refine L.w rfl (V.shr (c := ((n / 256 ^ z : Nat) : Int)) rfl rfl (by omega) (by
   simp only [IntKind.bits, Int.toNat_natCast]
   rw [Nat.min_eq_left (by omega), Int.fdiv_eq_ediv_of_nonneg _ (by exact Int.le_of_lt (Int.pow_pos (by decide))), show (256 : Nat) ^ z = 2 ^ (8 * z) from by rw [Nat.pow_mul]]
   simp)) ?_
   refine L.w rfl (V.conv (c := ((n / 256 ^ z % 256 : Nat) : Int)) rfl underlying123 underlying5 (by rw [IntKind.wrap_u8]; omega)) ?_
   refine L.w rfl (V.indexAddr rfl rfl underlying22 sizeOf5 rfl (by omega)) ?_
   refine L.storeG (vs := [.int .u8 ((n / 256 ^ z % 256 : Nat) : Int)]) rfl rfl rfl sizeOf5 rfl rfl (by intro u hu; rw [List.mem_singleton.1 hu]; rfl) .head (by simp [putc_length]; omega) ?_
   refine L.nil (N.blk (N.seq ?_))
   refine sR ?_
   refine L.w rfl (V.add rfl rfl (w64 (by omega) (by omega))) ?_
   refine sM rfl ?_
   refine L.nil ?_
   rw [Nat.zero_add, Nat.mul_one, putc_step n size z hj]
   exact N.round (z + 1) (by omega) ⟨rfl, rfl, rfl, rfl, rfl, trivial⟩ (fun w hw => ⟨by omega, hw⟩)
  ·try simp only [sq] at h27
   refine sZ rfl (sD (sM rfl (sA rfl (sA rfl (sN ?_)))))
   refine R.ret2 results140 rfl rfl (fun w hw => ?_)
   have : z = size := by omega
   subst this
   rw [putc_all] at hw
   exact ⟨_, rfl, hw⟩
end
end Go.Proofs.YtijgbppkdaiikaaGreat

set_option linter.unusedSimpArgs false
set_option linter.unusedVariables false
namespace Go.Proofs.YtijgbppkdaiikaaGreat
open Go.Proofs.Tryz Go.Tk
section
variable {w0 : World} {F : Nat → Prop} {S : Store} {Hr : Heap} {w : World}

theorem clone_bytes {v : Value} {m : Nat} {xs : List Value} (hr : Rd S Hr 1 v m xs) (h1 : ∀ u ∈ xs, u.oneCell' = true) (hb : m * 1 ≤ 140737488355328) (hw : Hp w0 F S Hr w) :
 Calls Tryz.prog 83 #[v] w fun e w' => ∃ v' fp, e = .returned v' ∧ Own 5 1 v' m xs fp ∧ Hp w0 F S (fp ++ Hr) w' := by
 obtain ⟨ad, c, rfl, hmc, hc63⟩ := hr.form
 refine enterA hw func83 rfl ntmps83 rfl rfl ?_
 refine sD (sA rfl (sN (sC (sD (sM rfl ?_)))))
 refine L.w rfl (V.eqlNil rfl rfl underlying22) ?_
 refine sN ?_
 refine C.cond rfl (fun h4 => ?_) (fun h4 => ?_)
 ·try simp only [sq] at h4
  refine sD (sA rfl (sN ?_))
  refine R.ret1 results83 rfl (fun w hw => ?_)
  have e0 : ad = none := by simpa using h4
  subst e0
  rcases hr with ⟨h2, ⟨h3, h5⟩ | ⟨b, off, c', cs, T, fz, h3, _⟩⟩
  ·have : xs = [] := List.eq_nil_of_length_eq_zero (by simp [h2, h5])
   subst this h5
   exact ⟨_, [], rfl, by injection h3 with _ _ h3; subst h3; exact Own.nil _ _, hw⟩
  ·injection h3 with h3; cases h3
 ·try simp only [sq] at h4
  refine sK (sD ?_)
  refine L.slice0 rfl rfl underlying22 sizeOf5 (fun b5 => ?_)
  refine sM rfl ?_
  refine L.append (by' := 1) (fp := [(b5, .cells #[] 5 (0, 0))]) rfl rfl rfl rfl underlying22 info_u8 rfl rfl rfl rfl own0 .done (hr.mono (Sees.app _ _ _)) h1 (by omega) (by omega) (fun v' fp' ho => ?_)
  rw [Nat.zero_add, List.nil_append] at ho
  refine sA rfl (sN ?_)
  refine R.ret1 results83 rfl (fun w hw => ?_)
  exact ⟨_, _, rfl, ho, hw⟩

theorem clone_u8s {v : Value} {m : Nat} {xs : List Value} (hr : Rd S Hr 1 v m xs) (h1 : ∀ u ∈ xs, u.oneCell' = true) (hb : m * 1 ≤ 140737488355328) (hw : Hp w0 F S Hr w) :
 Calls Tryz.prog 180 #[v] w fun e w' => ∃ v' fp, e = .returned v' ∧ Own 5 1 v' m xs fp ∧ Hp w0 F S (fp ++ Hr) w' := by
 obtain ⟨ad, c, rfl, hmc, hc63⟩ := hr.form
 refine enterA hw func180 rfl ntmps180 rfl rfl ?_
 refine sD (sA rfl (sN (sC (sD (sM rfl ?_)))))
 refine L.w rfl (V.eqlNil rfl rfl underlying22) ?_
 refine sN ?_
 refine C.cond rfl (fun h4 => ?_) (fun h4 => ?_)
 ·try simp only [sq] at h4
  refine sD (sA rfl (sN ?_))
  refine R.ret1 results180 rfl (fun w hw => ?_)
  have e0 : ad = none := by simpa using h4
  subst e0
  rcases hr with ⟨h2, ⟨h3, h5⟩ | ⟨b, off, c', cs, T, fz, h3, _⟩⟩
  ·have : xs = [] := List.eq_nil_of_length_eq_zero (by simp [h2, h5])
   subst this h5
   exact ⟨_, [], rfl, by injection h3 with _ _ h3; subst h3; exact Own.nil _ _, hw⟩
  ·injection h3 with h3; cases h3
 ·try simp only [sq] at h4
  refine sK (sD ?_)
  refine L.slice0 rfl rfl underlying22 sizeOf5 (fun b5 => ?_)
  refine sM rfl ?_
  refine L.append (by' := 1) (fp := [(b5, .cells #[] 5 (0, 0))]) rfl rfl rfl rfl underlying22 info_u8 rfl rfl rfl rfl own0 .done (hr.mono (Sees.app _ _ _)) h1 (by omega) (by omega) (fun v' fp' ho => ?_)
  rw [Nat.zero_add, List.nil_append] at ho
  refine sA rfl (sN ?_)
  refine R.ret1 results180 rfl (fun w hw => ?_)
  exact ⟨_, _, rfl, ho, hw⟩

theorem clone_ints {v : Value} {m : Nat} {xs : List Value} (hr : Rd S Hr 1 v m xs) (h1 : ∀ u ∈ xs, u.oneCell' = true) (hb : m * 8 ≤ 140737488355328) (hw : Hp w0 F S Hr w) :
 Calls Tryz.prog 91 #[v] w fun e w' => ∃ v' fp, e = .returned v' ∧ Own 3 1 v' m xs fp ∧ Hp w0 F S (fp ++ Hr) w' := by
 obtain ⟨ad, c, rfl, hmc, hc63⟩ := hr.form
 refine enterA hw func91 rfl ntmps91 rfl rfl ?_
 refine sD (sA rfl (sN (sC (sD (sM rfl ?_)))))
 refine L.w rfl (V.eqlNil rfl rfl underlying37) ?_
 refine sN ?_
 refine C.cond rfl (fun h4 => ?_) (fun h4 => ?_)
 ·try simp only [sq] at h4
  refine sD (sA rfl (sN ?_))
  refine R.ret1 results91 rfl (fun w hw => ?_)
  have e0 : ad = none := by simpa using h4
  subst e0
  rcases hr with ⟨h2, ⟨h3, h5⟩ | ⟨b, off, c', cs, T, fz, h3, _⟩⟩
  ·have : xs = [] := List.eq_nil_of_length_eq_zero (by simp [h2, h5])
   subst this h5
   exact ⟨_, [], rfl, by injection h3 with _ _ h3; subst h3; exact Own.nil _ _, hw⟩
  ·injection h3 with h3; cases h3
 ·try simp only [sq] at h4
  refine sK (sD ?_)
  refine L.slice0 rfl rfl underlying37 sizeOf3 (fun b5 => ?_)
  refine sM rfl ?_
  refine L.append (by' := 8) (fp := [(b5, .cells #[] 3 (0, 0))]) rfl rfl rfl rfl underlying37 info_int rfl rfl rfl rfl own0 .done (hr.mono (Sees.app _ _ _)) h1 (by omega) (by omega) (fun v' fp' ho => ?_)
  rw [Nat.zero_add, List.nil_append] at ho
  refine sA rfl (sN ?_)
  refine R.ret1 results91 rfl (fun w hw => ?_)
  exact ⟨_, _, rfl, ho, hw⟩

theorem clone_rising {v : Value} {m : Nat} {xs : List Value} (hr : Rd S Hr 1 v m xs) (h1 : ∀ u ∈ xs, u.oneCell' = true) (hb : m * 8 ≤ 140737488355328) (hw : Hp w0 F S Hr w) :
 Calls Tryz.prog 122 #[v] w fun e w' => ∃ v' fp, e = .returned v' ∧ Own 3 1 v' m xs fp ∧ Hp w0 F S (fp ++ Hr) w' := by
 obtain ⟨ad, c, rfl, hmc, hc63⟩ := hr.form
 refine enterA hw func122 rfl ntmps122 rfl rfl ?_
 refine sD (sA rfl (sN (sC (sD (sM rfl ?_)))))
 refine L.w rfl (V.eqlNil rfl rfl underlying224) ?_
 refine sN ?_
 refine C.cond rfl (fun h4 => ?_) (fun h4 => ?_)
 ·try simp only [sq] at h4
  refine sD (sA rfl (sN ?_))
  refine R.ret1 results122 rfl (fun w hw => ?_)
  have e0 : ad = none := by simpa using h4
  subst e0
  rcases hr with ⟨h2, ⟨h3, h5⟩ | ⟨b, off, c', cs, T, fz, h3, _⟩⟩
  ·have : xs = [] := List.eq_nil_of_length_eq_zero (by simp [h2, h5])
   subst this h5
   exact ⟨_, [], rfl, by injection h3 with _ _ h3; subst h3; exact Own.nil _ _, hw⟩
  ·injection h3 with h3; cases h3
 ·try simp only [sq] at h4
  refine sK (sD ?_)
  refine L.slice0 rfl rfl underlying224 sizeOf3 (fun b5 => ?_)
  refine sM rfl ?_
  refine L.append (by' := 8) (fp := [(b5, .cells #[] 3 (0, 0))]) rfl rfl rfl rfl underlying224 info_int rfl rfl rfl rfl own0 .done (hr.mono (Sees.app _ _ _)) h1 (by omega) (by omega) (fun v' fp' ho => ?_)
  rw [Nat.zero_add, List.nil_append] at ho
  refine sA rfl (sN ?_)
  refine R.ret1 results122 rfl (fun w hw => ?_)
  exact ⟨_, _, rfl, ho, hw⟩

theorem clone_kids {v : Value} {m : Nat} {xs : List Value} (hr : Rd S Hr 2 v m xs) (h1 : ∀ u ∈ xs, u.oneCell' = true) (hb : m * 32 ≤ 140737488355328) (hw : Hp w0 F S Hr w) :
 Calls Tryz.prog 110 #[v] w fun e w' => ∃ v' fp, e = .returned v' ∧ Own 129 2 v' m xs fp ∧ Hp w0 F S (fp ++ Hr) w' := by
 obtain ⟨ad, c, rfl, hmc, hc63⟩ := hr.form
 refine enterA hw func110 rfl ntmps110 rfl rfl ?_
 refine sD (sA rfl (sN (sC (sD (sM rfl ?_)))))
 refine L.w rfl (V.eqlNil rfl rfl underlying115) ?_
 refine sN ?_
 refine C.cond rfl (fun h4 => ?_) (fun h4 => ?_)
 ·try simp only [sq] at h4
  refine sD (sA rfl (sN ?_))
  refine R.ret1 results110 rfl (fun w hw => ?_)
  have e0 : ad = none := by simpa using h4
  subst e0
  rcases hr with ⟨h2, ⟨h3, h5⟩ | ⟨b, off, c', cs, T, fz, h3, _⟩⟩
  ·have : xs = [] := List.eq_nil_of_length_eq_zero (by simp [h2, h5])
   subst this h5
   exact ⟨_, [], rfl, by injection h3 with _ _ h3; subst h3; exact Own.nil _ _, hw⟩
  ·injection h3 with h3; cases h3
 ·try simp only [sq] at h4
  refine sK (sD ?_)
  refine L.slice0 rfl rfl underlying115 sizeOf129 (fun b5 => ?_)
  refine sM rfl ?_
  refine L.append (by' := 32) (fp := [(b5, .cells #[] 129 (0, 0))]) rfl rfl rfl rfl underlying115 info_kid rfl rfl rfl rfl own0 .done (hr.mono (Sees.app _ _ _)) h1 (by omega) (by omega) (fun v' fp' ho => ?_)
  rw [Nat.zero_add, List.nil_append] at ho
  refine sA rfl (sN ?_)
  refine R.ret1 results110 rfl (fun w hw => ?_)
  exact ⟨_, _, rfl, ho, hw⟩

theorem clone_items {v : Value} {m : Nat} {xs : List Value} (hr : Rd S Hr 4 v m xs) (h1 : ∀ u ∈ xs, u.oneCell' = true) (hb : m * 64 ≤ 140737488355328) (hw : Hp w0 F S Hr w) :
 Calls Tryz.prog 179 #[v] w fun e w' => ∃ v' fp, e = .returned v' ∧ Own 112 4 v' m xs fp ∧ Hp w0 F S (fp ++ Hr) w' := by
 obtain ⟨ad, c, rfl, hmc, hc63⟩ := hr.form
 refine enterA hw func179 rfl ntmps179 rfl rfl ?_
 refine sD (sA rfl (sN (sC (sD (sM rfl ?_)))))
 refine L.w rfl (V.eqlNil rfl rfl underlying118) ?_
 refine sN ?_
 refine C.cond rfl (fun h4 => ?_) (fun h4 => ?_)
 ·try simp only [sq] at h4
  refine sD (sA rfl (sN ?_))
  refine R.ret1 results179 rfl (fun w hw => ?_)
  have e0 : ad = none := by simpa using h4
  subst e0
  rcases hr with ⟨h2, ⟨h3, h5⟩ | ⟨b, off, c', cs, T, fz, h3, _⟩⟩
  ·have : xs = [] := List.eq_nil_of_length_eq_zero (by simp [h2, h5])
   subst this h5
   exact ⟨_, [], rfl, by injection h3 with _ _ h3; subst h3; exact Own.nil _ _, hw⟩
  ·injection h3 with h3; cases h3
 ·try simp only [sq] at h4
  refine sK (sD ?_)
  refine L.slice0 rfl rfl underlying118 sizeOf112 (fun b5 => ?_)
  refine sM rfl ?_
  refine L.append (by' := 64) (fp := [(b5, .cells #[] 112 (0, 0))]) rfl rfl rfl rfl underlying118 info_item rfl rfl rfl rfl own0 .done (hr.mono (Sees.app _ _ _)) h1 (by omega) (by omega) (fun v' fp' ho => ?_)
  rw [Nat.zero_add, List.nil_append] at ho
  refine sA rfl (sN ?_)
  refine R.ret1 results179 rfl (fun w hw => ?_)
  exact ⟨_, _, rfl, ho, hw⟩

/-- bytes.Clone, the bytes never to be changed. -/
theorem clone_bytes_seal {v : Value} {l : List UInt8} (hb : Bs S Hr v l) (hl : l.length ≤ 140737488355328) (hw : Hp w0 F S Hr w) :
 Calls Tryz.prog 83 #[v] w fun e w' => ∃ v' S', e = .returned v' ∧ S.le S' ∧ Bs S' [] v' l ∧ Hp w0 F S' Hr w' :=
 (clone_bytes hb (bv_one l) (by omega) hw).mono fun e w' ⟨v', fp, he, ho, h⟩ => by
   obtain ⟨S', h1, h2, h3⟩ := ho.shut h
   exact ⟨v', S', he, h1, h2, h3⟩
theorem clone_u8s_seal {v : Value} {l : List UInt8} (hb : Bs S Hr v l) (hl : l.length ≤ 140737488355328) (hw : Hp w0 F S Hr w) :
 Calls Tryz.prog 180 #[v] w fun e w' => ∃ v' S', e = .returned v' ∧ S.le S' ∧ Bs S' [] v' l ∧ Hp w0 F S' Hr w' :=
 (clone_u8s hb (bv_one l) (by omega) hw).mono fun e w' ⟨v', fp, he, ho, h⟩ => by
   obtain ⟨S', h1, h2, h3⟩ := ho.shut h
   exact ⟨v', S', he, h1, h2, h3⟩
theorem clone_ints_seal {v : Value} {l : List Int} (hb : Is S Hr v l) (hl : l.length * 8 ≤ 140737488355328) (hw : Hp w0 F S Hr w) :
 Calls Tryz.prog 91 #[v] w fun e w' => ∃ v' S', e = .returned v' ∧ S.le S' ∧ Is S' [] v' l ∧ Hp w0 F S' Hr w' :=
 (clone_ints hb (iv_one l) hl hw).mono fun e w' ⟨v', fp, he, ho, h⟩ => by
   obtain ⟨S', h1, h2, h3⟩ := ho.shut h
   exact ⟨v', S', he, h1, h2, h3⟩
theorem clone_rising_seal {v : Value} {l : List Int} (hb : Is S Hr v l) (hl : l.length * 8 ≤ 140737488355328) (hw : Hp w0 F S Hr w) :
 Calls Tryz.prog 122 #[v] w fun e w' => ∃ v' S', e = .returned v' ∧ S.le S' ∧ Is S' [] v' l ∧ Hp w0 F S' Hr w' :=
 (clone_rising hb (iv_one l) hl hw).mono fun e w' ⟨v', fp, he, ho, h⟩ => by
   obtain ⟨S', h1, h2, h3⟩ := ho.shut h
   exact ⟨v', S', he, h1, h2, h3⟩
end
end Go.Proofs.YtijgbppkdaiikaaGreat

set_option linter.unusedSimpArgs false
set_option linter.unusedVariables false
namespace Go.Proofs.YtijgbppkdaiikaaGreat
open Go.Proofs.Tryz Go.Tk

def xor32 (a b : Int) : Int := IntKind.u32.wrap (BitVec.ofInt IntKind.u32.bits a ^^^ BitVec.ofInt IntKind.u32.bits b).toNat
def and32 (a b : Int) : Int := IntKind.u32.wrap (BitVec.ofInt IntKind.u32.bits a &&& BitVec.ofInt IntKind.u32.bits b).toNat
theorem wrap32_bd (z : Int) : 0 ≤ IntKind.u32.wrap z ∧ IntKind.u32.wrap z ≤ 4294967295 := by rw [IntKind.wrap_u32]; omega

def htab (z : Nat) : Int := if z = 0 then 274646895 else if z = 1 then 549293790 else if z = 2 then 1098587580 else 2197175160
def hstep (low : Int) (c : Int) (z : Nat) : Int := if and32 (low.fdiv (2 ^ (min (z : Int).toNat IntKind.u32.bits))) 1 == 1 then xor32 c (htab z) else c
def hfold (low c : Int) : Nat → Int
 | 0 => c
 | z + 1 => hstep low (hfold low c z) z
def halfN (c : Int) : Int := hfold (and32 c 15) (c.fdiv (2 ^ (min (4 : Int).toNat IntKind.u32.bits))) 4
theorem hfold_bd (low c : Int) (h0 : 0 ≤ c) (h1 : c ≤ 4294967295) : ∀ z, 0 ≤ hfold low c z ∧ hfold low c z ≤ 4294967295
 | 0 => ⟨h0, h1⟩
 | z + 1 => by
   have ih := hfold_bd low c h0 h1 z
   simp only [hfold, hstep]
   split
   ·exact wrap32_bd _
   ·exact ih
theorem halfN_bd (c : Int) (h0 : 0 ≤ c) (h1 : c ≤ 4294967295) : 0 ≤ halfN c ∧ halfN c ≤ 4294967295 := by
 refine hfold_bd _ _ ?_ ?_ 4
 ·exact Int.fdiv_nonneg h0 (by decide)
 ·rw [Int.fdiv_eq_ediv_of_nonneg _ (by decide)]; show c / 16 ≤ _; omega
def sumF (l : List UInt8) : Int := l.foldl (fun c x => halfN (halfN (xor32 c (x.toNat : Int)))) 4294967295
theorem sumF_snoc (l : List UInt8) (x : UInt8) : sumF (l ++ [x]) = halfN (halfN (xor32 (sumF l) (x.toNat : Int))) := by simp [sumF]
def sumN (l : List UInt8) : Nat := (xor32 4294967295 (sumF l)).toNat
theorem sumN_eq (l : List UInt8) : xor32 4294967295 (sumF l) = (sumN l : Int) := by have := wrap32_bd (BitVec.ofInt IntKind.u32.bits 4294967295 ^^^ BitVec.ofInt IntKind.u32.bits (sumF l)).toNat; unfold sumN xor32; omega
theorem sumN_lt (l : List UInt8) : sumN l < 256 ^ 4 := by have := wrap32_bd (BitVec.ofInt IntKind.u32.bits 4294967295 ^^^ BitVec.ofInt IntKind.u32.bits (sumF l)).toNat; unfold sumN xor32; omega

section
variable {w0 : World} {F : Nat → Prop} {S : Store} {Hr : Heap} {w : World}

theorem half_ok (c : Int) (h0 : 0 ≤ c) (h1 : c ≤ 4294967295) (hw : Hp w0 F S Hr w) :
 Calls Tryz.prog 213 #[.int .u32 c] w fun e w' => e = .returned (.int .u32 (halfN c)) ∧ Hp w0 F S Hr w' := by
 refine enterA hw func213 rfl ntmps213 rfl rfl ?_
 refine sD (sA rfl (sE (sM rfl ?_)))
 refine L.w rfl (V.and rfl rfl (c := and32 c 15) rfl) ?_
 refine sA rfl (sE (sM rfl ?_))
 refine L.w rfl (V.shr rfl rfl (by decide) rfl) ?_
 refine sA rfl (sN (sC (sD ?_)))
 refine L.w rfl (V.buildA rfl underlying322 zeroValue322 sizeOf196 (Fills.cons (off := 0) rfl rfl rfl zPut (Fills.cons (off := 1) rfl rfl rfl zPut (Fills.cons (off := 2) rfl rfl rfl zPut (Fills.cons (off := 3) rfl rfl rfl zPut Fills.nil))))) ?_
 refine sM rfl (sN (sB ?_))
 refine C.loop (α := Nat) (fun z => [(3, .int .u32 (and32 c 15)), (10, .agg #[.int .u32 274646895, .int .u32 549293790, .int .u32 1098587580, .int .u32 2197175160]), (11, .int .i64 (z : Int)), (0, .int .u32 (hfold (and32 c 15) (c.fdiv (2 ^ (min (4 : Int).toNat IntKind.u32.bits))) z))]) (fun z w => z ≤ 4 ∧ Hp w0 F S Hr w) (fun z => 4 - z) 0 ⟨rfl, rfl, rfl, rfl, trivial⟩ (fun w hw => ⟨Nat.zero_le _, hw⟩) (fun z => C.pure (fun hz => ?_))
 refine sD (sQc rfl (sN (sC ?_)))
 refine C.cond rfl (fun h12 => ?_) (fun h12 => ?_)
 ·try simp only [sq] at h12
  have hj : z < 4 := by omega
  refine sK (sC (sB (sD (sM rfl ?_))))
  refine L.w rfl (V.index (v := .int .u32 (htab z)) rfl rfl underlying322 sizeOf196 isAgg196 rfl hj (by rcases (by omega : z = 0 ∨ z = 1 ∨ z = 2 ∨ z = 3) with rfl | rfl | rfl | rfl <;> rfl)) ?_
  refine sA rfl (sA rfl (sE (sM rfl (sM rfl ?_))))
  refine L.w rfl (V.shr rfl rfl (by omega) rfl) ?_
  refine L.w rfl (V.and rfl rfl (c := and32 ((and32 c 15).fdiv (2 ^ (min (z : Int).toNat IntKind.u32.bits))) 1) rfl) ?_
  refine sQa rfl (sN ?_)
  refine C.cond rfl (fun h19 => ?_) (fun h19 => ?_)
  ·try simp only [sq] at h19
   have hz2 : ∀ (q r : Int), q = r → (some (Value.int .u32 q)) = some (Value.int .u32 r) := fun q r h => by rw [h]
   replace hz2 := hz2 (xor32 (hfold (and32 c 15) (c.fdiv (2 ^ (min (4 : Int).toNat IntKind.u32.bits))) z) (htab z)) (hfold (and32 c 15) (c.fdiv (2 ^ (min (4 : Int).toNat IntKind.u32.bits))) (z + 1)) (by simp only [hfold, hstep]; rw [if_pos (by rw [beq_iff_eq]; exact h19)])
   refine sR (sM rfl (sM rfl ?_))
   refine L.w rfl (V.xor rfl rfl (c := xor32 (hfold (and32 c 15) (c.fdiv (2 ^ (min (4 : Int).toNat IntKind.u32.bits))) z) (htab z)) rfl) ?_
   refine sA rfl ?_
   refine L.nil (N.blk (N.seq ?_))
   refine sR ?_
   refine L.w rfl (V.add rfl rfl (w64 (by omega) (by omega))) ?_
   refine sM rfl ?_
   refine L.nil ?_
   exact N.round (z + 1) (by omega) ⟨rfl, rfl, rfl, hz2, trivial⟩ (fun w hw => ⟨by omega, hw⟩)
  ·try simp only [sq] at h19
   have hz2 : ∀ (q r : Int), q = r → (some (Value.int .u32 q)) = some (Value.int .u32 r) := fun q r h => by rw [h]
   replace hz2 := hz2 (hfold (and32 c 15) (c.fdiv (2 ^ (min (4 : Int).toNat IntKind.u32.bits))) z) (hfold (and32 c 15) (c.fdiv (2 ^ (min (4 : Int).toNat IntKind.u32.bits))) (z + 1)) (by simp only [hfold, hstep]; rw [if_neg (by rw [beq_iff_eq]; exact h19)])
   refine C.skip (N.blk (N.seq ?_))
   refine sR ?_
   refine L.w rfl (V.add rfl rfl (w64 (by omega) (by omega))) ?_
   refine sM rfl ?_
   refine L.nil ?_
   exact N.round (z + 1) (by omega) ⟨rfl, rfl, rfl, hz2, trivial⟩ (fun w hw => ⟨by omega, hw⟩)
 ·try simp only [sq] at h12
  refine sZ rfl (sD (sM rfl (sA rfl (sN ?_))))
  refine R.ret1 results213 rfl (fun w hw => ?_)
  have : z = 4 := by omega
  subst this
  exact ⟨rfl, hw⟩

theorem sum_ok {pv v : Value} {l : List UInt8} (hp : Rd S Hr 1 pv 1 [v]) (hb : Bs S Hr v l) (hw : Hp w0 F S Hr w) :
 Calls Tryz.prog 203 #[pv] w fun e w' => e = .returned (.int .u32 (sumN l : Int)) ∧ Hp w0 F S Hr w' := by
 obtain ⟨pad, pc, rfl, hpc, hpc63⟩ := hp.form
 obtain ⟨pb, poff, pcs, pT, pfz, rfl, hp1, hp2⟩ := hp.pos (by omega)
 have hp3 := hp2 0 (by simp)
 obtain ⟨ad, c, rfl, hlc, hc63⟩ := hb.form
 have bd : ∀ l : List UInt8, 0 ≤ sumF l ∧ sumF l ≤ 4294967295 := by
  intro l
  induction l using snoc_ind with
  | h0 => exact ⟨by decide, by decide⟩
  | h1 l x ih =>
    rw [sumF_snoc]
    have a1 := halfN_bd _ (wrap32_bd _).1 (wrap32_bd (BitVec.ofInt IntKind.u32.bits (sumF l) ^^^ BitVec.ofInt IntKind.u32.bits (x.toNat : Int)).toNat).2
    exact halfN_bd _ a1.1 a1.2
 refine enterA hw func203 rfl ntmps203 rfl rfl ?_
 refine sD (sA rfl (sE (sA rfl (sN (sC (sD (sM rfl ?_)))))))
 refine L.w rfl (V.len rfl underlying236) ?_
 refine sM rfl (sN (sB ?_))
 refine C.loop (α := Nat) (fun z => [(8, .slice (some ⟨pb, poff, none⟩) 1 pc), (9, .int .i64 (1 : Nat)), (10, .int .i64 (z : Int)), (3, .int .u32 (if z = 0 then 4294967295 else sumF l))]) (fun z w => z ≤ 1 ∧ Hp w0 F S Hr w) (fun z => 1 - z) 0 ⟨rfl, rfl, rfl, rfl, trivial⟩ (fun w hw => ⟨Nat.zero_le _, hw⟩) (fun z => C.pure (fun hz => ?_))
 refine sD (sQc rfl (sN (sC ?_)))
 refine C.cond rfl (fun h11 => ?_) (fun h11 => ?_)
 ·try simp only [sq] at h11
  have hz0 : z = 0 := by omega
  subst hz0
  refine sK (sC (sB (sD ?_)))
  refine L.w rfl (V.indexAddr (j := 0) rfl rfl underlying236 sizeOf22 rfl (by omega)) ?_
  refine L.w rfl (V.load rfl isAgg22 hp1 hp3) ?_
  refine sA rfl (sE (sM rfl ?_))
  refine L.w rfl (V.len rfl underlying22) ?_
  refine sM rfl (sN (sB ?_))
  refine C.loop (α := Nat) (fun y => [(8, .slice (some ⟨pb, poff, none⟩) 1 pc), (9, .int .i64 (1 : Nat)), (10, .int .i64 (0 : Int)), (14, .slice ad l.length c), (15, .int .i64 (l.length : Int)), (16, .int .i64 (y : Int)), (3, .int .u32 (sumF (l.take y)))]) (fun y w => y ≤ l.length ∧ Hp w0 F S Hr w) (fun y => l.length - y) 0 ⟨rfl, rfl, rfl, rfl, rfl, rfl, rfl, trivial⟩ (fun w hw => ⟨Nat.zero_le _, hw⟩) (fun y => C.pure (fun hy => ?_))
  refine sD (sQc rfl (sN (sC ?_)))
  refine C.cond rfl (fun h17 => ?_) (fun h17 => ?_)
  ·try simp only [sq] at h17
   have hj : y < l.length := by omega
   obtain ⟨b, off, cs, T, fz, rfl, h1, h2⟩ := hb.at hj
   have hs := sumF_snoc (l.take y) l[y]
   rw [← List.take_succ_eq_append_getElem hj] at hs
   have hx := l[y].toNat_lt
   refine sK (sC (sB (sD ?_)))
   refine L.w rfl (V.indexAddr rfl rfl underlying22 sizeOf5 rfl (by omega)) ?_
   refine L.w rfl (V.load rfl isAgg5 h1 h2) ?_
   refine sA rfl (sN (sR (sM rfl (sM rfl ?_))))
   refine L.w rfl (V.conv (c := ((l[y].toNat : Nat) : Int)) rfl underlying5 underlying196 (by rw [IntKind.wrap_u32]; omega)) ?_
   refine L.w rfl (V.xor rfl rfl (c := xor32 (sumF (l.take y)) (l[y].toNat : Int)) rfl) ?_
   refine L.call rfl rfl rfl call213 rfl (fun w hw => half_ok _ (wrap32_bd _).1 (wrap32_bd _).2 hw) ?_
   rintro _ a w hst ⟨rfl, hw⟩
   refine hst.go rfl hw ?_
   clear hst hw w a
   refine L.call rfl rfl rfl call213 rfl (fun w hw => half_ok _ (halfN_bd _ (wrap32_bd _).1 (wrap32_bd _).2).1 (halfN_bd _ (wrap32_bd _).1 (wrap32_bd _).2).2 hw) ?_
   rintro _ a w hst ⟨rfl, hw⟩
   refine hst.go rfl hw ?_
   clear hst hw w a
   refine sA rfl ?_
   refine L.nil (N.blk (N.seq ?_))
   refine sR ?_
   refine L.w rfl (V.add rfl rfl (w64 (by omega) (by omega))) ?_
   refine sM rfl ?_
   refine L.nil ?_
   exact N.round (y + 1) (by omega) ⟨rfl, rfl, rfl, rfl, rfl, rfl, by rw [hs]; rfl, trivial⟩ (fun w hw => ⟨by omega, hw⟩)
  ·try simp only [sq] at h17
   have hyl : y = l.length := by omega
   subst hyl
   refine C.exit rfl (N.blk (N.seq ?_))
   refine sR ?_
   refine L.w rfl (V.add rfl rfl (w64 (by omega) (by omega))) ?_
   refine sM rfl ?_
   refine L.nil ?_
   exact N.round (m := 1 - 0) (μ := fun z => 1 - z) 1 (by omega) ⟨rfl, rfl, rfl, by show some (Value.int .u32 (sumF (l.take l.length))) = _; rw [List.take_length]; rfl, trivial⟩ (fun w hw => ⟨by omega, hw⟩)
 ·try simp only [sq] at h11
  have hz1 : z = 1 := by omega
  subst hz1
  refine sZ rfl (sD (sM rfl ?_))
  refine L.w rfl (V.unXor rfl rfl (c := xor32 4294967295 (sumF l)) rfl) ?_
  refine sA rfl (sN ?_)
  refine R.ret1 results203 rfl (fun w hw => ?_)
  exact ⟨by rw [sumN_eq], hw⟩

theorem seal_ok {v : Value} {l : List UInt8} (hb : Bs S Hr v l) (hl : l.length ≤ 1000000) (hw : Hp w0 F S Hr w) :
 Calls Tryz.prog 170 #[v] w fun e w' => ∃ v' fp, e = .returned v' ∧ Own 5 1 v' (4 + l.length) ((en (sumN l) 4 ++ l).map bv) fp ∧ Hp w0 F S (fp ++ Hr) w' := by
 refine enterA hw func170 rfl ntmps170 rfl rfl ?_
 refine sD (sA rfl (sE (sM rfl ?_)))
 refine L.slice1 rfl rfl rfl underlying236 sizeOf22 zeroValue22 rfl (by decide) (by decide) (vs := [v]) (by obtain ⟨ad, c, rfl, _⟩ := hb.form; rfl) rfl (fun b7 => ?_)
 refine L.call rfl rfl rfl call203 rfl (fun w hw => sum_ok (l := l) ⟨rfl, .inr ⟨b7, 0, 1, _, _, _, rfl, ⟨Nat.le_refl _, by omega⟩, .head, fun j hj => by simp⟩⟩ (hb.mono (Sees.cons _ _ _)) hw) ?_
 rintro _ a w hst ⟨rfl, hw⟩
 refine hst.go rfl hw ?_
 clear hst hw w a
 refine L.w rfl (V.conv (c := ((sumN l : Nat) : Int)) rfl underlying196 underlying123 (by have := sumN_lt l; rw [IntKind.wrap_u64]; omega)) ?_
 refine L.call rfl rfl rfl call140 rfl (fun w hw => put_ok (sumN l) 4 (by omega) (by omega) (sumN_lt l) hw) ?_
 rintro _ a w hst ⟨b10, rfl, hw⟩
 refine hst.go rfl hw ?_
 clear hst hw w a
 refine sM rfl (sX rfl (sX rfl (sA rfl (sA rfl (sE (sM rfl (sM rfl ?_)))))))
 refine L.append (by' := 1) (sz := 1) (l := l.length) (fp := [(b10, .cells ((en (sumN l) 4).map bv).toArray 5 (0, 0))]) rfl rfl rfl rfl underlying22 info_u8 rfl rfl rfl rfl (m := 4) (Own.full (by simp [en_length]) (by omega)) .done (hb.mono ((Sees.cons _ _ _).trans (Sees.cons _ _ _))) (bv_one l) (by omega) (by omega) (fun v' fp' ho => ?_)
 rw [← List.map_append] at ho
 refine sA rfl (sN ?_)
 refine R.ret1 results170 rfl (fun w hw => ?_)
 exact ⟨_, _, rfl, ho, hw.sub (by simp)⟩

theorem open_ok {v : Value} {l : List UInt8} (hb : Bs S Hr v l) (h4 : 4 ≤ l.length) (hl : l.length ≤ 1000000) (hw : Hp w0 F S Hr w) :
 Calls Tryz.prog 174 #[v] w fun e w' => ∃ v' fp err, e = .returned (.tuple #[v', .int .i64 err]) ∧ ((err = 0 ∧ be (l.take 4) = sumN (l.drop 4) ∧ Own 5 1 v' (l.length - 4) ((l.drop 4).map bv) fp) ∨ (err = 6 ∧ be (l.take 4) ≠ sumN (l.drop 4) ∧ v' = .slice none 0 0 ∧ fp = [])) ∧ Hp w0 F S (fp ++ Hr) w' := by
 obtain ⟨ad, c, rfl, hlc, hc63⟩ := hb.form
 obtain ⟨ad2, had⟩ : ∃ ad2, (if c = 4 then ad else ad.map (·.add (4 * 1))) = ad2 := ⟨_, rfl⟩
 have hbs := hb.sub (lo := 4) (hi := l.length) h4 (Nat.le_refl _) had
 rw [List.take_of_length_le (by simp)] at hbs
 have hrd : Rd S Hr 1 (.slice ad2 (l.length - 4) (c - 4)) (l.length - 4) ((l.drop 4).map bv) := by have := hbs; unfold Bs at this; rw [List.length_drop] at this; exact this
 have hlt : be (l.take 4) < 4294967296 := by have := be_lt (l.take 4); rw [List.length_take, Nat.min_eq_left h4] at this; exact this
 refine enterA hw func174 rfl ntmps174 rfl rfl ?_
 refine sD (sA rfl (sA rfl (sE (sM rfl ?_))))
 refine L.call rfl rfl rfl call139 rfl (fun w hw => get_ok hb 0 4 (by omega) (by omega) (by omega) hw) ?_
 rw [show getN l 0 4 = (be (l.take 4), 0) from by unfold getN; rw [if_neg (by omega), if_neg (by omega)]; rfl]
 rintro _ a w hst ⟨rfl, hw⟩
 refine hst.go rfl hw ?_
 clear hst hw w a
 refine sM rfl (sX rfl (sX rfl (sA rfl (sA rfl (sN (sC (sB (sD (sM rfl (sQb rfl (sA rfl (sN (sP rfl ?_)))))))))))))
 refine sD (sM rfl ?_)
 refine L.w rfl (V.conv (c := ((be (l.take 4) : Nat) : Int)) rfl underlying123 underlying196 (by rw [IntKind.wrap_u32]; omega)) ?_
 refine sM rfl ?_
 refine L.w rfl (V.slice (l := 4) (u := l.length) rfl underlying22 sizeOf5 ⟨_, rfl⟩ rfl (by omega) (by omega) had) ?_
 refine L.slice1 rfl rfl rfl underlying236 sizeOf22 zeroValue22 rfl (by decide) (by decide) (vs := [.slice ad2 (l.length - 4) (c - 4)]) rfl rfl (fun b20 => ?_)
 refine L.call rfl rfl rfl call203 rfl (fun w hw => sum_ok (l := l.drop 4) ⟨rfl, .inr ⟨b20, 0, 1, _, _, _, rfl, ⟨Nat.le_refl _, by omega⟩, .head, fun j hj => by simp⟩⟩ (hbs.mono (Sees.cons _ _ _)) hw) ?_
 rintro _ a w hst ⟨rfl, hw⟩
 refine hst.go rfl hw ?_
 clear hst hw w a
 refine sQb rfl (sA rfl (sN ?_))
 refine C.cond rfl (fun h15 => ?_) (fun h15 => ?_)
 ·try simp only [sq] at h15
  refine sD (sA rfl (sA rfl (sN ?_)))
  refine R.ret2 results174 rfl rfl (fun w hw => ?_)
  exact ⟨_, [], _, rfl, .inr ⟨rfl, by omega, rfl, rfl⟩, hw.drop⟩
 ·try simp only [sq] at h15
  refine C.skip (N.blk (N.seq ?_))
  refine sD ?_
  refine L.slice0 rfl rfl underlying22 sizeOf5 (fun b23 => ?_)
  refine sM rfl ?_
  refine L.w rfl (V.slice (l := 4) (u := l.length) rfl underlying22 sizeOf5 ⟨_, rfl⟩ rfl (by omega) (by omega) had) ?_
  refine L.append (by' := 1) (sz := 1) (l := l.length - 4) (ys := (l.drop 4).map bv) (fp := [(b23, .cells #[] 5 (0, 0))]) rfl rfl rfl rfl underlying22 info_u8 rfl rfl rfl rfl own0 .done (hrd.mono ((Sees.cons _ _ _).trans (Sees.cons _ _ _))) (bv_one _) (by omega) (by omega) (fun v' fp' ho => ?_)
  rw [Nat.zero_add, List.nil_append] at ho
  refine sA rfl (sA rfl (sN ?_))
  refine R.ret2 results174 rfl rfl (fun w hw => ?_)
  exact ⟨_, fp', _, rfl, .inl ⟨rfl, by omega, ho⟩, hw.sub (by simp)⟩
end
end Go.Proofs.YtijgbppkdaiikaaGreat
