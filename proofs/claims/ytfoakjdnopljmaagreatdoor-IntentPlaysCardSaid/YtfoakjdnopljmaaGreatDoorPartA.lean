/-
  Lemmas for this claim: CoreA, CoreB, CoreC, CoreD, CoreE, CoreF, CoreG, CoreH, CoreI, CoreJ, CoreK, CoreM.
-/
import Derived.RangeFuncIn
import Derived.RangeFuncLeaves
import Derived.RangeFuncCalls
import Derived.TacticsIn
import Derived.WalkKit
import Derived.OrdersIn

set_option linter.unusedVariables false
set_option linter.unusedSimpArgs false
/- The logic of the walks: views on the world's blocks, and what a piece of code does to them. -/
namespace Go.Proofs.YtfoakjdnopljmaaGreatDoor
open Go

/-- What is known of one block. -/
inductive View where
  | obj (o : Obj)
  | cells (cs : List Value) (e : TypeId)
  | row (off : Nat) (cs : List Value) (e : TypeId) (N : Nat)
  | map (es : List (Value × Value))

def NoFroz (fr : Nat × Nat) (lo hi : Nat) : Prop := ∀ i, lo ≤ i → i < hi → ¬ (fr.1 ≤ i ∧ i < fr.2)

def View.ok : View → Obj → Prop
  | .obj o, o' => o' = o
  | .cells cs e, o => ∃ fr, o = .cells ⟨cs⟩ e fr ∧ NoFroz fr 0 cs.length
  | .row off cs e N, o => ∃ c fr, o = .cells c e fr ∧ c.size = N ∧ off + cs.length ≤ N ∧ NoFroz fr off N ∧ ∀ i v, cs[i]? = some v → c[off + i]? = some v
  | .map es, o => ∃ (en : Array MapEntry) (ck : Nat), o = .map en ck ∧ en.toList.map (fun x => (x.key, x.val)) = es ∧ (en.toList.map (·.born)).Nodup ∧ ∀ x ∈ en.toList, x.born < ck

abbrev Heap := Nat → Option View
abbrev Locs := List (Nat × View)

def Heap.set (H : Heap) (b : Nat) (V : View) : Heap := fun x => if x = b then some V else H x

def lookL (b : Nat) : Locs → Option View
  | [] => none
  | (k, V) :: r => if b = k then some V else lookL b r

def ov (G : Heap) (L : Locs) : Heap := fun b => match lookL b L with | some V => some V | none => G b

def Wf (G : Heap) (L : Locs) : Prop := (L.map (·.1)).Nodup ∧ ∀ x ∈ L, G x.1 = none

def Holds (H : Heap) (w : World) : Prop := ∀ b V, H b = some V → ∃ o, w.heap[b]? = some o ∧ V.ok o

def Frame (H : Heap) (w : World) (H' : Heap) (w' : World) : Prop :=
  (w'.os = w.os ∧ w.drawn ≤ w'.drawn) ∧ w'.tape = w.tape ∧ w'.output = w.output ∧ w.heap.size ≤ w'.heap.size ∧
    ∀ b, b < w.heap.size → H b = none → H' b = none ∧ w'.heap[b]? = w.heap[b]?

theorem Frame.refl (H : Heap) (w : World) : Frame H w H w := ⟨⟨rfl, Nat.le_refl _⟩, rfl, rfl, Nat.le_refl _, fun _ _ h => ⟨h, rfl⟩⟩

theorem Frame.trans {H H1 H2 : Heap} {w w1 w2 : World} (h : Frame H w H1 w1) (k : Frame H1 w1 H2 w2) : Frame H w H2 w2 := by
  obtain ⟨a1, a2, a3, a4, a5⟩ := h
  obtain ⟨b1, b2, b3, b4, b5⟩ := k
  refine ⟨⟨b1.1.trans a1.1, Nat.le_trans a1.2 b1.2⟩, b2.trans a2, b3.trans a3, Nat.le_trans a4 b4, fun b hb hn => ?_⟩
  obtain ⟨c1, c2⟩ := a5 b hb hn
  obtain ⟨d1, d2⟩ := b5 b (Nat.lt_of_lt_of_le hb a4) c1
  exact ⟨d1, d2.trans c2⟩

theorem Holds.lt {H : Heap} {w : World} (h : Holds H w) {b : Nat} {V : View} (hb : H b = some V) : b < w.heap.size := by
  obtain ⟨o, ho, _⟩ := h b V hb
  exact (Array.getElem?_eq_some_iff.1 ho).1

theorem Holds.fresh {H : Heap} {w : World} (h : Holds H w) {b : Nat} (hb : w.heap.size ≤ b) : H b = none := by
  cases e : H b with
  | none => rfl
  | some V => exact absurd (h.lt e) (by omega)

/-! ### Environments -/

def look (t : Nat) : List (Nat × Value) → Option Value
  | [] => none
  | (k, v) :: r => bif Nat.beq t k then some v else look t r

structure Env where
  n : Nat
  l : List (Nat × Value)
  ds : List Nat

abbrev Slots := List (Nat × Value)

def evL (l : Slots) : Operand → Option Value
  | .tmp t => look t l
  | .const v => some v
  | .global g => some (.pointer (some ⟨g, 0, none⟩))
  | .func f => some (.func (.func f) #[] #[])

@[reducible] def putL (d : Option Tmp) (v : Value) (l : Slots) : Slots :=
  match d with
  | none => l
  | some d => (d, v) :: l

def markOf (r : Nat) : Deferred := { target := .collected r, args := #[] }

def SlotsOk (l : Slots) (a : Act) : Prop := ∀ t v, look t l = some v → a.tmps[t]? = some v

def EnvOk (E : Env) (a : Act) : Prop := a.tmps.size = E.n ∧ SlotsOk E.l a ∧ a.defers = E.ds.map markOf

theorem SlotsOk.eval {l : Slots} {a : Act} (h : SlotsOk l a) {x : Operand} {v : Value} (hv : evL l x = some v) : a.eval x = v := by
  cases x with
  | tmp t =>
    have := h t v hv
    simp [Act.eval, Array.getD_eq_getD_getElem?, this]
  | const u => simpa [evL, Act.eval] using hv
  | global g => simpa [evL, Act.eval] using hv
  | func f => simpa [evL, Act.eval] using hv

theorem SlotsOk.put {l : Slots} {a : Act} (h : SlotsOk l a) (d : Option Tmp) (v : Value) (hd : ∀ k, d = some k → k < a.tmps.size) : SlotsOk (putL d v l) (a.put d v) := by
  cases d with
  | none => exact h
  | some d =>
    have hlt := hd d rfl
    intro t u hu
    simp only [putL, look] at hu
    simp only [Act.put]
    cases ht : Nat.beq t d with
    | true =>
      have : t = d := Nat.eq_of_beq_eq_true ht
      subst this
      rw [ht] at hu
      simp only [cond_true, Option.some.injEq] at hu
      subst hu
      simp [hlt]
    | false =>
      rw [ht] at hu
      simp only [cond_false] at hu
      have hne : d ≠ t := fun e => by
        subst e
        have : Nat.beq d d = true := Nat.beq_refl d
        rw [this] at ht; cases ht
      rw [Array.getElem?_setIfInBounds, if_neg hne]
      exact h t u hu

theorem EnvOk.put {E : Env} {a : Act} (h : EnvOk E a) (d : Option Tmp) (v : Value) (hd : ∀ k, d = some k → k < E.n) : EnvOk ⟨E.n, putL d v E.l, E.ds⟩ (a.put d v) := by
  obtain ⟨h1, h2, h3⟩ := h
  refine ⟨?_, h2.put d v (by rw [h1]; exact hd), ?_⟩
  · cases d <;> simp [Act.put, h1]
  · cases d <;> exact h3

/-! ### The judgements -/

def Fw (r : Option Nat) : Fence := { fn := fun _ => True, depth := none, alive := false, round := r }

abbrev Post := Exit → Env → Heap → Locs → Prop

/-- What a walk owes at its end. -/
def Ends (Q : Post) (H : Heap) (w : World) (x : Exit) (a' : Act) (w' : World) : Prop :=
  ∃ E' G' L', EnvOk E' a' ∧ Wf G' L' ∧ Holds (ov G' L') w' ∧ Frame H w (ov G' L') w' ∧ Q x E' G' L'

def WP (P : Program) (r : Option Nat) (c : Code) (Q : Post) (E : Env) (G : Heap) (L : Locs) : Prop :=
  Wf G L → ∀ a w, EnvOk E a → Holds (ov G L) w → c.wpIn (Fw r) 0 P (Ends Q (ov G L) w) a w

/-- Each operation writes a slot that is there. -/
def DstOk (n : Nat) (l : List Oper) : Prop := ∀ o ∈ l, ∀ k, o.dst = some k → k < n

def WPL (P : Program) (r : Option Nat) (ops : Array Oper) (l : List Oper) (Q : Post) (E : Env) (G : Heap) (L : Locs) : Prop :=
  DstOk E.n l → Wf G L → ∀ a w, EnvOk E a → Holds (ov G L) w → wpListIn (Fw r) 0 P ops (Ends Q (ov G L) w) l a w


theorem Ends.mono {Q Q' : Post} {H : Heap} {w : World} {x : Exit} {a' : Act} {w' : World} (h : Ends Q H w x a' w') (hq : ∀ x E G L, Q x E G L → Q' x E G L) :
    Ends Q' H w x a' w' := by
  obtain ⟨E', G', L', h1, h2, h3, h4, h5⟩ := h
  exact ⟨E', G', L', h1, h2, h3, h4, hq _ _ _ _ h5⟩

theorem Ends.from {Q : Post} {H H1 : Heap} {w w1 : World} {x : Exit} {a' : Act} {w' : World} (hf : Frame H w H1 w1) (h : Ends Q H1 w1 x a' w') :
    Ends Q H w x a' w' := by
  obtain ⟨E', G', L', h1, h2, h3, h4, h5⟩ := h
  exact ⟨E', G', L', h1, h2, h3, hf.trans h4, h5⟩

section rules
variable {P : Program} {r : Option Nat} {Q : Post} {E : Env} {G : Heap} {L : Locs}

theorem WP.mono {c : Code} {Q' : Post} (h : WP P r c Q E G L) (hq : ∀ x E G L, Q x E G L → Q' x E G L) : WP P r c Q' E G L :=
  fun wf a w he hh => wpIn_mono (h wf a w he hh) fun _ _ _ hx => hx.mono hq

theorem WP.start {c : Code} {Q : Post} {E1 : Env} {G1 : Heap} {L1 : Locs} {H : Heap} {w w1 : World} {a1 : Act}
    (h : WP P r c Q E1 G1 L1) (he : EnvOk E1 a1) (hwf : Wf G1 L1) (hh : Holds (ov G1 L1) w1) (hf : Frame H w (ov G1 L1) w1) :
    c.wpIn (Fw r) 0 P (Ends Q H w) a1 w1 :=
  wpIn_mono (h hwf a1 w1 he hh) fun _ _ _ hx => hx.from hf

def thenQ (K : Env → Heap → Locs → Prop) (Q : Post) : Post := fun x E G L => match x with | .normal => K E G L | x => Q x E G L

theorem WP.seq {x y : Code} (h : WP P r x (thenQ (WP P r y Q) Q) E G L) : WP P r (.seq x y) Q E G L := by
  intro wf a w he hh
  refine wpIn_seq (wpIn_mono (h wf a w he hh) ?_)
  rintro e a1 w1 ⟨E1, G1, L1, h1, h2, h3, h4, h5⟩
  cases e with
  | normal => exact WP.start h5 h1 h2 h3 h4
  | exit id => exact ⟨E1, G1, L1, h1, h2, h3, h4, h5⟩
  | goto l => exact ⟨E1, G1, L1, h1, h2, h3, h4, h5⟩
  | ret => exact ⟨E1, G1, L1, h1, h2, h3, h4, h5⟩
  | panic c => exact ⟨E1, G1, L1, h1, h2, h3, h4, h5⟩
  | outgrown => exact ⟨E1, G1, L1, h1, h2, h3, h4, h5⟩

theorem Ends.now {w : World} {x : Exit} {a : Act} (he : EnvOk E a) (hwf : Wf G L) (hh : Holds (ov G L) w) (hq : Q x E G L) : Ends Q (ov G L) w x a w :=
  ⟨E, G, L, he, hwf, hh, Frame.refl _ _, hq⟩

theorem WP.skip (h : Q .normal E G L) : WP P r .skip Q E G L := fun wf _ _ he hh => wpIn_skip (Ends.now he wf hh h)
theorem WP.label {l : Nat} (h : Q .normal E G L) : WP P r (.label l) Q E G L := fun wf _ _ he hh => wpIn_label (Ends.now he wf hh h)
theorem WP.exit {id : Nat} (h : Q (.exit id) E G L) : WP P r (.exit id) Q E G L := fun wf _ _ he hh => wpIn_exit (Ends.now he wf hh h)
theorem WP.ret (h : Q .ret E G L) : WP P r .ret Q E G L := fun wf _ _ he hh => wpIn_ret (Ends.now he wf hh h)

theorem WP.cond {c : Operand} {x y : Code} {t : Bool} (hc : evL E.l c = some (.bool t)) (ht : t = true → WP P r x Q E G L) (hf : t = false → WP P r y Q E G L) :
    WP P r (.cond c x y) Q E G L := by
  intro wf a w he hh
  refine wpIn_cond (he.2.1.eval hc) ?_
  cases t with
  | true => exact ht rfl wf a w he hh
  | false => exact hf rfl wf a w he hh

def inBlockQ (id : Nat) (Q : Post) : Post := fun x E G L => match x with | .exit id' => if id' = id then Q .normal E G L else Q (.exit id') E G L | x => Q x E G L

theorem WP.block {id : Nat} {c : Code} (h : WP P r c (inBlockQ id Q) E G L) : WP P r (.block id c) Q E G L := by
  intro wf a w he hh
  refine wpIn_block (wpIn_mono (h wf a w he hh) ?_)
  rintro e a1 w1 ⟨E1, G1, L1, h1, h2, h3, h4, h5⟩
  cases e with
  | exit id' =>
    simp only [Exit.inBlock]
    simp only [inBlockQ] at h5
    split at h5
    · rename_i e; rw [if_pos e]; exact ⟨E1, G1, L1, h1, h2, h3, h4, h5⟩
    · rename_i e; rw [if_neg e]; exact ⟨E1, G1, L1, h1, h2, h3, h4, h5⟩
  | normal => exact ⟨E1, G1, L1, h1, h2, h3, h4, h5⟩
  | goto l => exact ⟨E1, G1, L1, h1, h2, h3, h4, h5⟩
  | ret => exact ⟨E1, G1, L1, h1, h2, h3, h4, h5⟩
  | panic c => exact ⟨E1, G1, L1, h1, h2, h3, h4, h5⟩
  | outgrown => exact ⟨E1, G1, L1, h1, h2, h3, h4, h5⟩

/-- A loop: the state at the head is of the family I, and a number falls. -/
theorem WP.loop {ι : Type} {c : Code} (I : ι → Env → Heap → Locs → Prop) (m : ι → Nat) (i0 : ι) (h0 : I i0 E G L)
    (h : ∀ i E G L, I i E G L → WP P r c (thenQ (fun E' G' L' => ∃ j, m j < m i ∧ I j E' G' L') Q) E G L) :
    WP P r (.loop c) Q E G L := by
  intro wf a w he hh
  have key : ∀ n i E1 G1 L1 a1 w1, m i = n → I i E1 G1 L1 → EnvOk E1 a1 → Wf G1 L1 → Holds (ov G1 L1) w1 → Frame (ov G L) w (ov G1 L1) w1 →
      ∃ (J : Act → World → Prop) (μ : Act → World → Nat), True := fun _ _ _ _ _ _ _ _ _ _ _ _ _ => ⟨fun _ _ => True, fun _ _ => 0, trivial⟩
  clear key
  let J : Nat → Act → World → Prop := fun n a1 w1 => ∃ i E1 G1 L1, m i = n ∧ I i E1 G1 L1 ∧ EnvOk E1 a1 ∧ Wf G1 L1 ∧ Holds (ov G1 L1) w1 ∧ Frame (ov G L) w (ov G1 L1) w1
  -- the least measure of a state
  have hex : ∀ a1 w1, (∃ n, J n a1 w1) → ∃ n, J n a1 w1 ∧ ∀ k, J k a1 w1 → n ≤ k := by
    intro a1 w1 ⟨n, hn⟩
    induction n using Nat.strongRecOn with
    | ind n ih =>
      by_cases hk : ∃ k, k < n ∧ J k a1 w1
      · obtain ⟨k, hkn, hk⟩ := hk
        exact ih k hkn hk
      · exact ⟨n, hn, fun k hk' => Nat.le_of_not_lt fun hlt => hk ⟨k, hlt, hk'⟩⟩
  let μ : Act → World → Nat := fun a1 w1 => Classical.epsilon fun n => J n a1 w1 ∧ ∀ k, J k a1 w1 → n ≤ k
  have hμ : ∀ a1 w1, (∃ n, J n a1 w1) → J (μ a1 w1) a1 w1 ∧ ∀ k, J k a1 w1 → μ a1 w1 ≤ k := fun a1 w1 hj => Classical.epsilon_spec (hex a1 w1 hj)
  refine wpIn_loop (fun a1 w1 => ∃ n, J n a1 w1) μ ⟨m i0, i0, E, G, L, rfl, h0, he, wf, hh, Frame.refl _ _⟩ ?_
  intro a1 w1 hj
  obtain ⟨i, E1, G1, L1, hm, hi, h1, h2, h3, h4⟩ := (hμ a1 w1 hj).1
  refine wpIn_mono (WP.start (h i E1 G1 L1 hi) h1 h2 h3 h4) ?_
  rintro e a2 w2 ⟨E2, G2, L2, k1, k2, k3, k4, k5⟩
  cases e with
  | normal =>
    obtain ⟨j, hlt, hIj⟩ := k5
    have hJ : J (m j) a2 w2 := ⟨j, E2, G2, L2, rfl, hIj, k1, k2, k3, k4⟩
    exact ⟨⟨_, hJ⟩, Nat.lt_of_le_of_lt ((hμ a2 w2 ⟨_, hJ⟩).2 _ hJ) (by rw [← hm]; exact hlt)⟩
  | exit id => exact ⟨E2, G2, L2, k1, k2, k3, k4, k5⟩
  | goto l => exact ⟨E2, G2, L2, k1, k2, k3, k4, k5⟩
  | ret => exact ⟨E2, G2, L2, k1, k2, k3, k4, k5⟩
  | panic c => exact ⟨E2, G2, L2, k1, k2, k3, k4, k5⟩
  | outgrown => exact ⟨E2, G2, L2, k1, k2, k3, k4, k5⟩

def dstB (n : Nat) (ops : Array Oper) : Bool := ops.toList.all fun o => match o.dst with | some k => Nat.blt k n | none => true

theorem dstB_ok {n : Nat} {ops : Array Oper} (h : dstB n ops = true) : DstOk n ops.toList := fun o ho k hk => by
  have := List.all_eq_true.1 h o ho
  rw [hk] at this
  rwa [← Nat.blt_eq]

theorem WP.region {id : Nat} {ops : Array Oper} (hd : dstB E.n ops = true) (h : WPL P r ops ops.toList Q E G L) : WP P r (.region id ops false) Q E G L :=
  fun wf a w he hh => wpIn_region_list (h (dstB_ok hd) wf a w he hh)

theorem WPL.nil {ops : Array Oper} (h : Q .normal E G L) : WPL P r ops [] Q E G L :=
  fun _ wf _ _ he hh => wpListIn_nil (Ends.now he wf hh h)

theorem wpListIn_mono {F : Fence} {n : Nat} {ops : Array Oper} : ∀ (l : List Oper) (a : Act) (w : World) (Q1 Q2 : Exit → Act → World → Prop), (∀ e a w, Q1 e a w → Q2 e a w) →
    wpListIn F n P ops Q1 l a w → wpListIn F n P ops Q2 l a w := by
  intro l
  induction l with
  | nil => intro a w Q1 Q2 hq hx; exact hq _ _ _ hx
  | cons o l ih =>
    intro a w Q1 Q2 hq hx
    unfold wpListIn at hx ⊢
    split
    · rename_i hw
      rw [if_pos hw] at hx
      refine ⟨hx.1, ?_⟩
      have hx := hx.2
      generalize (o.semAt F.round a.eval).run P w = res at hx ⊢
      cases res with
      | ok y w2 =>
        cases y <;> simp only [Oper.uponIn] at hx ⊢ <;>
          first
            | exact ih _ _ _ _ hq hx
            | exact ⟨hx.1, CallsIn.mono hx.2 fun e w3 he => by cases e <;> first | exact ih _ _ _ _ hq he | exact hq _ _ _ he | (obtain ⟨a0, w0, h0⟩ := he; exact ⟨a0, w0, hq _ _ _ h0⟩)⟩
            | exact ⟨hx.1, RowsIn.mono hx.2 fun _ _ he => ih _ _ _ _ hq he⟩
            | exact ⟨hx.1, RoundIn.mono hx.2 fun e w3 he => by cases e <;> first | exact ih _ _ _ _ hq he | exact hq _ _ _ he | (obtain ⟨a0, w0, h0⟩ := he; exact ⟨a0, w0, hq _ _ _ h0⟩)⟩
      | halt y w2 => cases y <;> simp only [Oper.uponIn] at hx ⊢ <;> first | exact hq _ _ _ hx | exact hx
    · rename_i hw
      rw [if_neg hw] at hx
      exact ⟨hx.1, ih _ _ _ _ hq hx.2⟩

theorem WPL.goOn {ops : Array Oper} {l : List Oper} {Q : Post} {E1 : Env} {G1 : Heap} {L1 : Locs} {H : Heap} {w w1 : World} {a1 : Act} (hd : DstOk E1.n l)
    (h : WPL P r ops l Q E1 G1 L1) (he : EnvOk E1 a1) (hwf : Wf G1 L1) (hh : Holds (ov G1 L1) w1) (hf : Frame H w (ov G1 L1) w1) :
    wpListIn (Fw r) 0 P ops (Ends Q H w) l a1 w1 :=
  wpListIn_mono l a1 w1 _ _ (fun _ _ _ hx => hx.from hf) (h hd hwf a1 w1 he hh)

end rules
end Go.Proofs.YtfoakjdnopljmaaGreatDoor

namespace Go.Proofs.YtfoakjdnopljmaaGreatDoor
open Go

/-! ### Looking a block up, and turning one -/

def InR (G : Heap) (L : Locs) (b : Nat) (V : View) : Prop := Wf G L → ov G L b = some V

def UpdR (G : Heap) (L : Locs) (b : Nat) (V V' : View) (G' : Heap) (L' : Locs) : Prop :=
  Wf G L → ov G L b = some V ∧ Wf G' L' ∧ ov G' L' = (ov G L).set b V'

theorem Wf.tail {G : Heap} {x : Nat × View} {L : Locs} (h : Wf G (x :: L)) : Wf G L :=
  ⟨(List.nodup_cons.1 h.1).2, fun y hy => h.2 y (List.mem_cons_of_mem _ hy)⟩

theorem lookL_none {b : Nat} : ∀ {L : Locs}, b ∉ L.map (·.1) → lookL b L = none
  | [], _ => rfl
  | (k, V) :: r, h => by
    simp only [List.map_cons, List.mem_cons, not_or] at h
    simp only [lookL, if_neg h.1]
    exact lookL_none h.2

theorem Wf.head_none {G : Heap} {x : Nat × View} {L : Locs} (h : Wf G (x :: L)) : ov G L x.1 = none := by
  have h1 : x.1 ∉ L.map (·.1) := (List.nodup_cons.1 h.1).1
  simp only [ov, lookL_none h1]
  exact h.2 x (List.mem_cons_self ..)

theorem ov_cons (G : Heap) (b : Nat) (V : View) (L : Locs) : ov G ((b, V) :: L) = (ov G L).set b V := by
  funext x
  simp only [ov, lookL, Heap.set]
  by_cases e : x = b
  · simp only [if_pos e]
  · simp only [if_neg e]

theorem ov_nil (G : Heap) : ov G [] = G := rfl

theorem InR.here {G : Heap} {L : Locs} {b : Nat} {V : View} : InR G ((b, V) :: L) b V := fun _ => by rw [ov_cons]; simp [Heap.set]

theorem InR.there {G : Heap} {L : Locs} {b : Nat} {V : View} {x : Nat × View} (h : InR G L b V) : InR G (x :: L) b V := fun wf => by
  obtain ⟨k, U⟩ := x
  have h1 := h wf.tail
  have h2 := wf.head_none
  have : b ≠ k := fun e => by subst e; rw [h1] at h2; cases h2
  rw [ov_cons]
  simp [Heap.set, this, h1]

theorem InR.base {G : Heap} {b : Nat} {V : View} (h : G b = some V) {L : Locs} : InR G L b V := by
  induction L with
  | nil => exact fun _ => h
  | cons x L ih => exact ih.there

theorem UpdR.here {G : Heap} {L : Locs} {b : Nat} {V V' : View} : UpdR G ((b, V) :: L) b V V' G ((b, V') :: L) := fun wf => by
  refine ⟨InR.here wf, ⟨by simpa using wf.1, fun x hx => ?_⟩, ?_⟩
  · rcases List.mem_cons.1 hx with rfl | hx
    · exact wf.2 (b, V) (List.mem_cons_self ..)
    · exact wf.2 x (List.mem_cons_of_mem _ hx)
  · rw [ov_cons, ov_cons]
    funext x
    simp only [Heap.set]
    split <;> rfl

theorem UpdR.keys {G : Heap} {L : Locs} {b : Nat} {V V' : View} {G' : Heap} {L' : Locs} (h : UpdR G L b V V' G' L') (wf : Wf G L) (c : Nat) (hc : ov G L c = none) :
    ov G' L' c = none := by
  obtain ⟨h1, h2, h3⟩ := h wf
  rw [h3]
  have : c ≠ b := fun e => by subst e; rw [hc] at h1; cases h1
  simp [Heap.set, this, hc]

theorem ov_none {G : Heap} {L : Locs} {b : Nat} (h : ov G L b = none) : b ∉ L.map (·.1) ∧ G b = none := by
  induction L with
  | nil => exact ⟨by simp, h⟩
  | cons x L ih =>
    obtain ⟨k, U⟩ := x
    rw [ov_cons] at h
    simp only [Heap.set] at h
    split at h
    · cases h
    · rename_i hne
      obtain ⟨h1, h2⟩ := ih h
      exact ⟨by simp only [List.map_cons, List.mem_cons, not_or]; exact ⟨hne, h1⟩, h2⟩

theorem Wf.cons {G : Heap} {L : Locs} (h : Wf G L) {b : Nat} {V : View} (hb : ov G L b = none) : Wf G ((b, V) :: L) := by
  obtain ⟨h1, h2⟩ := ov_none hb
  refine ⟨List.nodup_cons.2 ⟨h1, h.1⟩, fun x hx => ?_⟩
  rcases List.mem_cons.1 hx with rfl | hx
  · exact h2
  · exact h.2 x hx

theorem UpdR.there {G : Heap} {L : Locs} {b : Nat} {V V' : View} {G' : Heap} {L' : Locs} {x : Nat × View} (h : UpdR G L b V V' G' L') :
    UpdR G (x :: L) b V V' G' (x :: L') := fun wf => by
  obtain ⟨k, U⟩ := x
  obtain ⟨h1, h2, h3⟩ := h wf.tail
  have hk := wf.head_none
  have hne : b ≠ k := fun e => by subst e; rw [h1] at hk; cases hk
  refine ⟨InR.there (fun _ => h1) wf, h2.cons (h.keys wf.tail k hk), ?_⟩
  rw [ov_cons, ov_cons, h3]
  funext y
  simp only [Heap.set]
  split
  · rename_i e; subst e; simp [Ne.symm hne]
  · rfl

theorem UpdR.base {G : Heap} {b : Nat} {V V' : View} (h : G b = some V) {L : Locs} : UpdR G L b V V' (G.set b V') L := by
  induction L with
  | nil =>
    refine fun wf => ⟨h, ⟨by simp, by simp⟩, ?_⟩
    rfl
  | cons x L ih => exact ih.there

/-! ### The world -/

theorem Holds.drop {G : Heap} {x : Nat × View} {L : Locs} {w : World} (wf : Wf G (x :: L)) (h : Holds (ov G (x :: L)) w) : Holds (ov G L) w := fun b V hb => by
  refine h b V ?_
  exact InR.there (fun _ => hb) wf

/-- A new block. -/
theorem holds_alloc {H : Heap} {w : World} (h : Holds H w) (o : Obj) {V : View} (hv : V.ok o) : Holds (H.set w.heap.size V) (w.alloc o) := fun b U hb => by
  simp only [Heap.set] at hb
  split at hb
  · rename_i e
    subst e
    cases hb
    exact ⟨o, Array.getElem?_push_size, hv⟩
  · obtain ⟨o', h1, h2⟩ := h b U hb
    have := (Array.getElem?_eq_some_iff.1 h1).1
    exact ⟨o', by show (w.heap.push o)[b]? = _; rw [Array.getElem?_push_lt this, ← h1, Array.getElem?_eq_getElem this], h2⟩

theorem frame_alloc (H : Heap) (w : World) (o : Obj) (V : View) : Frame H w (H.set w.heap.size V) (w.alloc o) := by
  refine ⟨⟨rfl, Nat.le_refl _⟩, rfl, rfl, by rw [World.size_alloc]; omega, fun b hb hn => ⟨?_, ?_⟩⟩
  · simp only [Heap.set]; rw [if_neg (by omega)]; exact hn
  · show (w.heap.push o)[b]? = _
    rw [Array.getElem?_push_lt hb, Array.getElem?_eq_getElem hb]

/-- A block that is known is turned into another one that the new view tells of. -/
theorem holds_put {H : Heap} {w w' : World} {b : Nat} {V' : View} (h : Holds H w)
    (ho : ∀ c, c ≠ b → w'.heap[c]? = w.heap[c]?) (hn : ∃ o, w'.heap[b]? = some o ∧ V'.ok o) : Holds (H.set b V') w' := fun c U hc => by
  simp only [Heap.set] at hc
  split at hc
  · rename_i e; subst e; cases hc; exact hn
  · rename_i e
    obtain ⟨o', h1, h2⟩ := h c U hc
    exact ⟨o', by rw [ho c e]; exact h1, h2⟩

theorem frame_put {H : Heap} {w w' : World} {b : Nat} {V V' : View} (hb : H b = some V) (hs : w'.heap.size = w.heap.size) (h1 : w'.os = w.os ∧ w.drawn ≤ w'.drawn) (h2 : w'.tape = w.tape) (h3 : w'.output = w.output)
    (ho : ∀ c, c ≠ b → w'.heap[c]? = w.heap[c]?) : Frame H w (H.set b V') w' := by
  refine ⟨h1, h2, h3, by omega, fun c _ hn => ?_⟩
  have : c ≠ b := fun e => by subst e; rw [hb] at hn; cases hn
  exact ⟨by simp [Heap.set, this, hn], ho c this⟩

theorem Holds.drawn {H : Heap} {w : World} (h : Holds H w) (n : Nat) : Holds H { w with drawn := n } := h
theorem frame_drawn (H : Heap) (w : World) (n : Nat) (hn : w.drawn ≤ n) : Frame H w H { w with drawn := n } := ⟨⟨rfl, hn⟩, rfl, rfl, Nat.le_refl _, fun _ _ h => ⟨h, rfl⟩⟩

/-! ### Cells -/

def View.cell : View → Nat → Option Value
  | .obj (.cells c _ _), o => c[o]?
  | .obj _, _ => none
  | .cells cs _, o => cs[o]?
  | .row off cs _ _, o => if off ≤ o then cs[o - off]? else none
  | .map _, _ => none

theorem View.cell_ok {V : View} {o : Obj} (h : V.ok o) {i : Nat} {v : Value} (hv : V.cell i = some v) : ∃ c e fr, o = .cells c e fr ∧ c[i]? = some v := by
  cases V with
  | obj o' =>
    have h : o = o' := h
    subst h
    cases o with
    | cells c e fr => exact ⟨_, _, _, rfl, hv⟩
    | _ => simp [View.cell] at hv
  | cells cs e =>
    obtain ⟨fr, rfl, _⟩ := h
    exact ⟨_, _, _, rfl, by simpa [View.cell] using hv⟩
  | row off cs e N =>
    obtain ⟨c, fr, rfl, h1, h2, h3, h4⟩ := h
    simp only [View.cell] at hv
    split at hv
    · have := h4 _ _ hv
      exact ⟨_, _, _, rfl, by rw [← this]; congr 1; omega⟩
    · cases hv
  | map es => simp [View.cell] at hv

theorem Holds.cell? {H : Heap} {w : World} (h : Holds H w) {b : Nat} {V : View} (hb : H b = some V) {i : Nat} {v : Value} (hv : V.cell i = some v) : w.cell? ⟨b, i, none⟩ = some v := by
  obtain ⟨o, ho, hok⟩ := h b V hb
  obtain ⟨c, e, fr, rfl, hc⟩ := View.cell_ok hok hv
  simp [World.cell?, ho, hc]

/-- n cells from a place on. -/
def View.take (V : View) : Nat → Nat → Option (List Value)
  | _, 0 => some []
  | o, n + 1 => match V.cell o, V.take (o + 1) n with
    | some v, some l => some (v :: l)
    | _, _ => none

theorem View.take_spec {V : View} : ∀ {n o : Nat} {l : List Value}, V.take o n = some l → l.length = n ∧ ∀ j v, l[j]? = some v → V.cell (o + j) = some v
  | 0, o, l, h => by
    simp only [View.take, Option.some.injEq] at h
    subst h
    simp
  | n + 1, o, l, h => by
    simp only [View.take] at h
    split at h
    · rename_i v l' h1 h2
      cases h
      obtain ⟨k1, k2⟩ := View.take_spec h2
      refine ⟨by simp [k1], fun j u hu => ?_⟩
      cases j with
      | zero => simp only [List.getElem?_cons_zero, Option.some.injEq] at hu; subst hu; exact h1
      | succ j => simp only [List.getElem?_cons_succ] at hu; have := k2 j u hu; rw [← this]; congr 1; omega
    · cases h

theorem add_none (b o n : Nat) : (⟨b, o, none⟩ : Addr).add n = ⟨b, o + n, none⟩ := by
  unfold Addr.add
  split
  · rename_i e; subst e; rfl
  · rfl

def Sub (H' H : Heap) : Prop := ∀ b V, H' b = some V → H b = some V

theorem Sub.refl (H : Heap) : Sub H H := fun _ _ h => h
theorem Sub.trans {H H1 H2 : Heap} (h : Sub H H1) (k : Sub H1 H2) : Sub H H2 := fun b V hb => k b V (h b V hb)
theorem Holds.sub {H H' : Heap} {w : World} (h : Holds H w) (hs : Sub H' H) : Holds H' w := fun b V hb => h b V (hs b V hb)
theorem Frame.sub {H H1 H' : Heap} {w w1 : World} (h : Frame H w H1 w1) (hs : Sub H' H1) : Frame H w H' w1 := by
  obtain ⟨a1, a2, a3, a4, a5⟩ := h
  refine ⟨a1, a2, a3, a4, fun b hb hn => ⟨?_, (a5 b hb hn).2⟩⟩
  cases e : H' b with
  | none => rfl
  | some V => have := hs b V e; rw [(a5 b hb hn).1] at this; cases this

theorem Sub.drop {H' G : Heap} {x : Nat × View} {L : Locs} (wf : Wf G (x :: L)) (h : Sub H' (ov G L)) : Sub H' (ov G (x :: L)) := fun b V hb => InR.there (fun _ => h b V hb) wf


end Go.Proofs.YtfoakjdnopljmaaGreatDoor

set_option linter.unusedVariables false
set_option linter.unusedSimpArgs false
namespace Go.Proofs.YtfoakjdnopljmaaGreatDoor
open Go

/-! ### What one operation does -/

/-- It computes, or reads. -/
def PS (P : Program) (o : Oper) (l : Slots) (G : Heap) (L : Locs) (v : Value) : Prop :=
  Wf G L → ∀ a w, SlotsOk l a → Holds (ov G L) w → (execOp a.eval o).run P w = .ok (.value v) w

/-- It lays one new block. -/
def NS (P : Program) (o : Oper) (l : Slots) (v : Nat → Value) (V : View) : Prop :=
  ∀ a w, SlotsOk l a → ∃ obj, (execOp a.eval o).run P w = .ok (.value (v w.heap.size)) (w.alloc obj) ∧ V.ok obj

/-- Whatever it does, told by the result and the views behind it. -/
def GS (P : Program) (r : Option Nat) (o : Oper) (l : Slots) (G : Heap) (L : Locs) (R : Value → Heap → Locs → Prop) : Prop :=
  Wf G L → ∀ a w, SlotsOk l a → Holds (ov G L) w →
    o.uponIn (Fw r) 0 P a (fun a' w' => ∃ v G' L', a' = a.put o.dst v ∧ Wf G' L' ∧ Holds (ov G' L') w' ∧ Frame (ov G L) w (ov G' L') w' ∧ R v G' L') (fun _ _ _ => False) ((execOp a.eval o).run P w)

section
variable {P : Program} {r : Option Nat} {o : Oper} {l : Slots} {G : Heap} {L : Locs}

theorem PS.gs {v : Value} (h : PS P o l G L v) : GS P r o l G L fun u G' L' => u = v ∧ G' = G ∧ L' = L := fun wf a w hs hh => by
  rw [h wf a w hs hh]
  exact ⟨v, G, L, rfl, wf, hh, Frame.refl _ _, rfl, rfl, rfl⟩

theorem NS.gs {v : Nat → Value} {V : View} (h : NS P o l v V) : GS P r o l G L fun u G' L' => ∃ b, u = v b ∧ G' = G ∧ L' = (b, V) :: L := fun wf a w hs hh => by
  obtain ⟨obj, h1, h2⟩ := h a w hs
  rw [h1]
  refine ⟨_, G, (w.heap.size, V) :: L, rfl, wf.cons (hh.fresh (Nat.le_refl _)), ?_, ?_, _, rfl, rfl, rfl⟩
  · rw [ov_cons]; exact holds_alloc hh _ h2
  · rw [ov_cons]; exact frame_alloc _ _ _ _

theorem uponIn_mono {F : Fence} {n : Nat} {a : Act} {next next' : Act → World → Prop} {Q Q' : Exit → Act → World → Prop} {res : Result Next} (h : o.uponIn F n P a next Q res)
    (hn : ∀ a w, next a w → next' a w) (hq : ∀ e a w, Q e a w → Q' e a w) : o.uponIn F n P a next' Q' res := by
  cases res with
  | ok y w2 =>
    cases y <;> simp only [Oper.uponIn] at h ⊢ <;>
      first
        | exact hn _ _ h
        | exact ⟨h.1, CallsIn.mono h.2 fun e w3 he => by cases e <;> first | exact hn _ _ he | exact hq _ _ _ he | (obtain ⟨a0, w0, h0⟩ := he; exact ⟨a0, w0, hq _ _ _ h0⟩)⟩
        | exact ⟨h.1, RowsIn.mono h.2 fun _ _ he => hn _ _ he⟩
        | exact ⟨h.1, RoundIn.mono h.2 fun e w3 he => by cases e <;> first | exact hn _ _ he | exact hq _ _ _ he | (obtain ⟨a0, w0, h0⟩ := he; exact ⟨a0, w0, hq _ _ _ h0⟩)⟩
  | halt y w2 => cases y <;> simp only [Oper.uponIn] at h ⊢ <;> first | exact hq _ _ _ h | exact h

theorem GS.mono {R R' : Value → Heap → Locs → Prop} (h : GS P r o l G L R) (hr : ∀ v G' L', R v G' L' → R' v G' L') : GS P r o l G L R' := fun wf a w hs hh =>
  uponIn_mono (h wf a w hs hh) (fun _ _ ⟨v, G', L', h1, h2, h3, h4, h5⟩ => ⟨v, G', L', h1, h2, h3, h4, hr _ _ _ h5⟩) fun _ _ _ h => h

/-- An operation with a spec is no 'defer' statement. -/
theorem GS.sem {R : Value → Heap → Locs → Prop} (h : GS P r o l G L R) (wf : Wf G L) {a : Act} {w : World} (hs : SlotsOk l a) (hh : Holds (ov G L) w) :
    (o.semAt (Fw r).round a.eval).run P w = (execOp a.eval o).run P w := by
  have hx := h wf a w hs hh
  have key : (∃ c, o.op = .defer c) → False := by
    rintro ⟨c, hc⟩
    have he : execOp a.eval o = (do pure (Next.defer (← resolve a.eval c o.type))) := by simp only [execOp, hc]
    rw [he] at hx
    simp only [Sem.run_bind] at hx
    cases hr : (resolve a.eval c o.type).run P w with
    | ok d w' =>
      rw [hr] at hx
      simp only [Result.andThen_ok, Sem.run_pure, Oper.uponIn] at hx
      obtain ⟨v, G', L', h1, _⟩ := hx
      have h2 : (({ a with defers := d :: a.defers } : Act).put o.dst undef).defers = (a.put o.dst v).defers := by rw [h1]
      have h3 : ∀ (x : Act) (u : Value), (x.put o.dst u).defers = x.defers := fun x u => by cases o.dst <;> rfl
      rw [h3, h3] at h2
      exact absurd (congrArg List.length h2) (by simp)
    | halt y w' =>
      rw [hr] at hx
      simp only [Result.andThen, Oper.uponIn] at hx
      cases y <;> simp only [Oper.uponIn] at hx <;> exact hx
  rw [Oper.semAt_eq _ _ _ (fun c hc => key ⟨c, hc⟩)]

end

/-- Is an operation carried out, as far as the slots tell? -/
def wantedL (ops : Array Oper) (l : Slots) (g : Option (Nat × Bool)) : Option Bool :=
  match g with
  | none => some true
  | some (j, b) => match (ops[j]?).bind (·.dst) with
    | none => none
    | some t => match look t l with
      | some (.bool c) => some (bif b then c else !c)
      | _ => none

theorem wantedL_ok {ops : Array Oper} {l : Slots} {o : Oper} {x : Bool} (h : wantedL ops l o.guard = some x) {a : Act} (hs : SlotsOk l a) : Region.wanted o (yielded ops a.tmps) = x := by
  unfold wantedL at h
  split at h
  · rename_i e; cases h; simp [Region.wanted, e]
  · rename_i j b e
    split at h
    · cases h
    · rename_i t ht
      split at h
      · rename_i c hc
        have hy : yielded ops a.tmps j = some c := by simp [yielded, ht, hs _ _ hc]
        cases h
        simp only [Region.wanted, e, hy]
        cases b <;> cases c <;> rfl
      · cases h

section rules
variable {P : Program} {r : Option Nat} {Q : Post} {n : Nat} {l : Slots} {ds : List Nat} {G : Heap} {L : Locs} {ops : Array Oper} {o : Oper} {rest : List Oper}

theorem DstOk.tail (h : DstOk n (o :: rest)) : DstOk n rest := fun x hx => h x (List.mem_cons_of_mem _ hx)

theorem WPL.gs {R : Value → Heap → Locs → Prop} (hw : wantedL ops l o.guard = some true) (h : GS P r o l G L R) (k : ∀ v G' L', R v G' L' → WPL P r ops rest Q ⟨n, putL o.dst v l, ds⟩ G' L') :
    WPL P r ops (o :: rest) Q ⟨n, l, ds⟩ G L := by
  intro hd wf a w he hh
  unfold wpListIn
  rw [if_pos (wantedL_ok hw he.2.1)]
  refine ⟨fun _ _ => trivial, ?_⟩
  rw [h.sem wf he.2.1 hh]
  refine uponIn_mono (h wf a w he.2.1 hh) ?_ (fun _ _ _ h => h.elim)
  rintro a' w' ⟨v, G', L', rfl, h2, h3, h4, h5⟩
  exact WPL.goOn (E1 := ⟨n, putL o.dst v l, ds⟩) (DstOk.tail hd) (k v G' L' h5) (he.put o.dst v (hd o (List.mem_cons_self ..))) h2 h3 h4

theorem WPL.ps {v : Value} (hw : wantedL ops l o.guard = some true) (h : PS P o l G L v) (k : WPL P r ops rest Q ⟨n, putL o.dst v l, ds⟩ G L) : WPL P r ops (o :: rest) Q ⟨n, l, ds⟩ G L :=
  WPL.gs hw h.gs fun u G' L' ⟨h1, h2, h3⟩ => by rw [h1, h2, h3]; exact k

theorem WPL.ns {v : Nat → Value} {V : View} (hw : wantedL ops l o.guard = some true) (h : NS P o l v V) (k : ∀ b, WPL P r ops rest Q ⟨n, putL o.dst (v b) l, ds⟩ G ((b, V) :: L)) :
    WPL P r ops (o :: rest) Q ⟨n, l, ds⟩ G L :=
  WPL.gs hw h.gs fun u G' L' ⟨b, h1, h2, h3⟩ => by rw [h1, h2, h3]; exact k b

theorem WPL.no (hw : wantedL ops l o.guard = some false) (k : WPL P r ops rest Q ⟨n, putL o.dst undef l, ds⟩ G L) : WPL P r ops (o :: rest) Q ⟨n, l, ds⟩ G L := by
  intro hd wf a w he hh
  unfold wpListIn
  rw [if_neg (by rw [wantedL_ok hw he.2.1]; simp)]
  exact ⟨fun _ _ => trivial, k (DstOk.tail hd) wf _ w (he.put o.dst undef (hd o (List.mem_cons_self ..))) hh⟩

end rules
end Go.Proofs.YtfoakjdnopljmaaGreatDoor

set_option linter.unusedVariables false
set_option linter.unusedSimpArgs false
namespace Go.Proofs.YtfoakjdnopljmaaGreatDoor
open Go

/-! ### A region that draws its order -/

def edgeB (o : Oper) (i : Nat) : Bool := o.after.toList.any fun e => e.on == i && Region.binds .any e

def plainOp : Op → Bool
  | .defer _ => false
  | .select _ _ => false
  | _ => true

/-- The first k operations stand apart but for their edges; each behind them comes behind all ahead of it. -/
def drawOk (ops : Array Oper) (k : Nat) : Bool :=
  let L := ops.toList.zipIdx
  (Nat.ble k ops.size) &&
  L.all (fun (o, i) => plainOp o.op && o.after.toList.all (fun e => !Region.binds .any e || Nat.blt e.on i) &&
    (Nat.blt i k || (List.range i).all (fun j => edgeB o j))) &&
  (L.take k).all (fun (x, i) => (L.take k).all fun (y, j) => i == j || (match x.dst with | none => true | some d => y.dst != some d && (!((y.looksAt ops).contains d) || (edgeB y i || edgeB x j))))

structure DrawOk (ops : Array Oper) (k : Nat) : Prop where
  le : k ≤ ops.size
  plain : ∀ (i : Nat) (o : Oper), ops[i]? = some o → plainOp o.op = true
  lt : ∀ (i : Nat) (o : Oper), ops[i]? = some o → ∀ e ∈ o.after.toList, Region.binds .any e = true → e.on < i
  last : ∀ (i : Nat) (o : Oper), ops[i]? = some o → k ≤ i → ∀ j, j < i → edgeB o j = true
  apart : ∀ (i j : Nat) (x y : Oper), i < k → j < k → i ≠ j → ops[i]? = some x → ops[j]? = some y → ∀ d, x.dst = some d → y.dst ≠ some d ∧ (d ∈ y.looksAt ops → edgeB y i = true ∨ edgeB x j = true)

theorem drawOk_spec {ops : Array Oper} {k : Nat} (h : drawOk ops k = true) : DrawOk ops k := by
  simp only [drawOk, Bool.and_eq_true, List.all_eq_true] at h
  obtain ⟨⟨h1, h2⟩, h3⟩ := h
  have mem : ∀ (i : Nat) (o : Oper), ops[i]? = some o → (o, i) ∈ ops.toList.zipIdx := fun i o ho => by
    rw [List.mem_zipIdx_iff_getElem?]
    simpa using ho
  have memk : ∀ i o, i < k → ops[i]? = some o → (o, i) ∈ ops.toList.zipIdx.take k := fun i o hi ho => by
    rw [List.mem_iff_getElem?]
    refine ⟨i, ?_⟩
    rw [List.getElem?_take, if_pos hi, List.getElem?_zipIdx]
    simp [ho]
  refine ⟨Nat.le_of_ble_eq_true h1, fun i o ho => (h2 _ (mem i o ho)).1.1, fun i o ho e he hbd => ?_, fun i o ho hk j hj => ?_, fun i j x y hi hj hne hx hy d hd => ?_⟩
  · have := (h2 _ (mem i o ho)).1.2 e he
    rw [hbd] at this
    simp only [Bool.not_true, Bool.false_or] at this
    rwa [← Nat.blt_eq]
  · have := (h2 _ (mem i o ho)).2
    simp only [Bool.or_eq_true] at this
    rcases this with h | h
    · rw [Nat.blt_eq] at h; omega
    · exact List.all_eq_true.1 h j (List.mem_range.2 hj)
  · have := h3 _ (memk i x hi hx) _ (memk j y hj hy)
    simp only [hd, Bool.or_eq_true, beq_iff_eq, Bool.and_eq_true, bne_iff_ne, Bool.not_eq_true'] at this
    rcases this with h | ⟨h4, h5⟩
    · exact absurd h hne
    · refine ⟨h4, fun hm => ?_⟩
      rcases h5 with h5 | h5
      · have : (y.looksAt ops).contains d = true := List.contains_iff_mem.2 hm
        rw [this] at h5; cases h5
      · exact h5

/-- Are all of an operation's edges done, R being what is not? -/
def readyR (ops : Array Oper) (R : Nat → Prop) (i : Nat) : Prop := ∀ o, ops[i]? = some o → ∀ j, edgeB o j = true → ¬ R j

def del (R : Nat → Prop) (i : Nat) : Nat → Prop := fun j => R j ∧ j ≠ i

theorem del_comm (R : Nat → Prop) (i j : Nat) : del (del R i) j = del (del R j) i := by
  funext x; simp only [del, eq_iff_iff]; exact ⟨fun ⟨⟨a, b⟩, c⟩ => ⟨⟨a, c⟩, b⟩, fun ⟨⟨a, b⟩, c⟩ => ⟨⟨a, c⟩, b⟩⟩

section
variable {P : Program} {r : Option Nat} {ops : Array Oper} {Qf : Exit → Act → World → Prop} {Z : Act → World → Prop} {K : World → Prop}

/-- What is left of the first part may be done in whatever order; K holds all the way. -/
def AnyK (P : Program) (r : Option Nat) (ops : Array Oper) (Qf : Exit → Act → World → Prop) (Z : Act → World → Prop) (K : World → Prop) : Nat → (Nat → Prop) → Act → World → Prop
  | 0, R, a, w => K w ∧ (∀ i, ¬ R i) ∧ Z a w
  | m + 1, R, a, w => K w ∧ ((∀ i, ¬ R i) → Z a w) ∧ ∀ i, R i → readyR ops R i → wpOpIn (Fw r) 0 P ops Qf i (AnyK P r ops Qf Z K m (del R i)) a w

theorem AnyK.now {m : Nat} {R : Nat → Prop} {a : Act} {w : World} (h : AnyK P r ops Qf Z K m R a w) : K w := by
  cases m <;> exact h.1

theorem AnyK.weaken {K' : World → Prop} (hk : ∀ w, K w → K' w) : ∀ {m : Nat} {R : Nat → Prop} {a : Act} {w : World}, AnyK P r ops Qf Z K m R a w → AnyK P r ops Qf Z K' m R a w := by
  intro m
  induction m with
  | zero => exact fun h => ⟨hk _ h.1, h.2⟩
  | succ m ih =>
    intro R a w h
    exact ⟨hk _ h.1, h.2.1, fun i hi hr => wpOpIn_mono (fun _ _ => ih) (h.2.2 i hi hr)⟩

theorem AnyK.more : ∀ {m : Nat} {R : Nat → Prop} {a : Act} {w : World}, AnyK P r ops Qf Z K m R a w → AnyK P r ops Qf Z K (m + 1) R a w := by
  intro m
  induction m with
  | zero => intro R a w h; exact ⟨h.1, fun _ => h.2.2, fun i hi => absurd hi (h.2.1 i)⟩
  | succ m ih =>
    intro R a w h
    exact ⟨h.1, h.2.1, fun i hi hr => wpOpIn_mono (fun _ _ => ih) (h.2.2 i hi hr)⟩

/-- Only the operation's own slot turns. -/
def Same (d : Option Tmp) (a a' : Act) : Prop := a'.tmps.size = a.tmps.size ∧ ∀ t, d ≠ some t → a'.tmps[t]? = a.tmps[t]?

theorem same_put (d : Option Tmp) (a : Act) (v : Value) : Same d a (a.put d v) := by
  cases d with
  | none => exact ⟨rfl, fun _ _ => rfl⟩
  | some d => exact ⟨by simp [Act.put], fun t ht => by simp only [Act.put]; rw [Array.getElem?_setIfInBounds, if_neg (fun e => ht (by rw [e]))]⟩

theorem plain_sem {o : Oper} (h : plainOp o.op = true) (ρ : Operand → Value) : Oper.semAt (Fw r).round ρ o = execOp ρ o :=
  Oper.semAt_eq _ _ _ (fun c hc => by rw [hc] at h; cases h)

theorem plain_sel {o : Oper} (h : plainOp o.op = true) : ∀ cs b, o.op ≠ .select cs b := fun cs b hc => by rw [hc] at h; cases h

/-- An operation that does not look at a slot goes as well with the slot as it was. -/
theorem wpOpIn_unput {i : Nat} {o : Oper} {d : Option Tmp} {v : Value} (ho : ops[i]? = some o) (hp : plainOp o.op = true) (h1 : ∀ k, d = some k → k ∉ o.looksAt ops) (h2 : ∀ k, d = some k → o.dst ≠ some k)
    {X : Act → World → Prop} {a : Act} {w : World} (h : wpOpIn (Fw r) 0 P ops Qf i X (a.put d v) w) (hq : ∀ e a w, ¬ Qf e a w) :
    wpOpIn (Fw r) 0 P ops Qf i (fun a' w' => X (a'.put d v) w' ∧ Same o.dst a a') a w := by
  unfold wpOpIn at *
  simp only [ho] at *
  rw [wanted_put o a d v h1] at h
  have comm : ∀ (x : Act) (u : Value), (x.put d v).put o.dst u = (x.put o.dst u).put d v := fun x u => Act.put_comm x v u h2
  split
  · rename_i hw
    rw [if_pos hw] at h
    refine ⟨fun _ _ => trivial, ?_⟩
    have h := h.2
    rw [plain_sem hp] at h ⊢
    rw [execOp_put o (plain_sel hp) a d v h1] at h
    cases hres : (execOp a.eval o).run P w with
    | ok y w2 =>
      rw [hres] at h
      cases y <;> simp only [Oper.uponIn] at h ⊢ <;>
        first
          | exact ⟨by rw [← comm]; exact h, same_put _ _ _⟩
          | exact ⟨h.1, CallsIn.mono h.2 fun e w3 he => by
              cases e with
              | returned u => exact ⟨by rw [← comm]; exact he, same_put _ _ _⟩
              | panicked c => exact absurd he (hq _ _ _)
              | outgrown => obtain ⟨a0, w0, h0⟩ := he; exact absurd h0 (hq _ _ _)⟩
          | exact ⟨h.1, RowsIn.mono h.2 fun u w3 he => ⟨by rw [← comm]; exact he, same_put _ _ _⟩⟩
          | exact ⟨h.1, RoundIn.mono h.2 fun e w3 he => by
              cases e with
              | returned u => exact ⟨by rw [← comm]; exact he, same_put _ _ _⟩
              | panicked c => exact absurd he (hq _ _ _)
              | outgrown => obtain ⟨a0, w0, h0⟩ := he; exact absurd h0 (hq _ _ _)⟩
          | (refine ⟨?_, ?_⟩
             · have e1 := Act.put_defers a d v ‹Deferred›
               rw [e1, comm] at h
               exact h
             · exact ⟨(same_put o.dst { a with defers := _ :: a.defers } undef).1, (same_put o.dst { a with defers := _ :: a.defers } undef).2⟩)
          | exact h
    | halt y w2 =>
      rw [hres] at h
      cases y <;> simp only [Oper.uponIn] at h ⊢ <;> first | exact absurd h (hq _ _ _) | exact h
  · rename_i hw
    rw [if_neg hw] at h
    exact ⟨fun _ _ => trivial, by rw [← comm]; exact h.2, same_put _ _ _⟩

/-- What an operation that only reads hands back, if it is carried out at all. -/
def Yld (P : Program) (ops : Array Oper) (o : Oper) (K : World → Prop) (a : Act) (v : Value) : Prop :=
  (Region.wanted o (yielded ops a.tmps) = true ∧ ∀ w, K w → (execOp a.eval o).run P w = .ok (.value v) w) ∨ (Region.wanted o (yielded ops a.tmps) = false ∧ v = undef)

theorem eval_same {d : Option Tmp} {a a' : Act} (hs : Same d a a') {x : Operand} (hx : ∀ t, x = .tmp t → d ≠ some t) : a'.eval x = a.eval x := by
  cases x with
  | tmp t =>
    have := hs.2 t (hx t rfl)
    simp [Act.eval, Array.getD_eq_getD_getElem?, this]
  | const u => rfl
  | global g => rfl
  | func f => rfl

theorem Yld.same {o : Oper} {a a' : Act} {d : Option Tmp} {v : Value} (h : Yld P ops o K a v) (hp : plainOp o.op = true) (hs : Same d a a') (hd : ∀ k, d = some k → k ∉ o.looksAt ops) : Yld P ops o K a' v := by
  have hev : execOp a'.eval o = execOp a.eval o := execOp_congr o (plain_sel hp) fun x hx => eval_same hs fun t ht hdt => hd t hdt (by
    subst ht
    exact List.mem_append_left _ (List.mem_filterMap.2 ⟨.tmp t, by simpa using hx, rfl⟩))
  have hw : Region.wanted o (yielded ops a'.tmps) = Region.wanted o (yielded ops a.tmps) := by
    unfold Region.wanted
    cases hg : o.guard with
    | none => rfl
    | some g =>
      obtain ⟨j, b⟩ := g
      simp only []
      have : yielded ops a'.tmps j = yielded ops a.tmps j := by
        unfold yielded
        cases hj : (ops[j]?).bind (·.dst) with
        | none => rfl
        | some t =>
          simp only [Option.bind_some]
          have hne : d ≠ some t := fun e => hd t e (by
            refine List.mem_append_right _ ?_
            simp only [hg, hj, Option.toList, List.mem_singleton])
          rw [hs.2 t hne]
      rw [this]
  rcases h with ⟨h1, h2⟩ | ⟨h1, h2⟩
  · exact .inl ⟨by rw [hw]; exact h1, fun w hk => by rw [hev]; exact h2 w hk⟩
  · exact .inr ⟨by rw [hw]; exact h1, h2⟩

/-- An operation that only reads may be taken first. -/
theorem AnyK.first {k : Nat} (D : DrawOk ops k) (hq : ∀ e a w, ¬ Qf e a w) {i0 : Nat} {o0 : Oper} (ho : ops[i0]? = some o0) (hi0 : i0 < k) {v : Value} :
    ∀ {m : Nat} {R : Nat → Prop} {a : Act} {w : World}, (∀ i, R i → i < k) → R i0 → readyR ops R i0 → K w → Yld P ops o0 K a v →
      AnyK P r ops Qf Z K m (del R i0) (a.put o0.dst v) w → AnyK P r ops Qf Z K (m + 1) R a w := by
  intro m
  induction m with
  | zero =>
    intro R a w hR hi hr hk hy h
    refine ⟨hk, fun hn => absurd hi (hn i0), fun i hRi hri => ?_⟩
    have hie : i = i0 := Classical.byContradiction fun hne => h.2.1 i ⟨hRi, hne⟩
    subst hie
    unfold wpOpIn
    simp only [ho]
    rcases hy with ⟨h1, h2⟩ | ⟨h1, h2⟩
    · rw [if_pos h1]
      refine ⟨fun _ _ => trivial, ?_⟩
      rw [plain_sem (D.plain _ _ ho), h2 w hk]
      exact h
    · rw [if_neg (by rw [h1]; simp)]
      subst h2
      exact ⟨fun _ _ => trivial, h⟩
  | succ m ih =>
    intro R a w hR hi hr hk hy h
    refine ⟨hk, fun hn => absurd hi (hn i0), fun i hRi hri => ?_⟩
    by_cases hie : i = i0
    · subst hie
      unfold wpOpIn
      simp only [ho]
      rcases hy with ⟨h1, h2⟩ | ⟨h1, h2⟩
      · rw [if_pos h1]
        refine ⟨fun _ _ => trivial, ?_⟩
        rw [plain_sem (D.plain _ _ ho), h2 w hk]
        exact h
      · rw [if_neg (by rw [h1]; simp)]
        subst h2
        exact ⟨fun _ _ => trivial, h⟩
    · have hik := hR i hRi
      obtain ⟨o, hoi⟩ : ∃ o, ops[i]? = some o := ⟨_, Array.getElem?_eq_getElem (Nat.lt_of_lt_of_le hik D.le)⟩
      have hstep := h.2.2 i ⟨hRi, hie⟩ (fun o' ho' j hj hRj => hri o' ho' j hj hRj.1)
      -- i0 and i stand apart
      have a1 : ∀ d, o0.dst = some d → o.dst ≠ some d ∧ (d ∈ o.looksAt ops → edgeB o i0 = true ∨ edgeB o0 i = true) := D.apart i0 i o0 o hi0 hik (Ne.symm hie) ho hoi
      have a2 : ∀ d, o.dst = some d → o0.dst ≠ some d ∧ (d ∈ o0.looksAt ops → edgeB o0 i = true ∨ edgeB o i0 = true) := D.apart i i0 o o0 hik hi0 hie hoi ho
      have b1 : ∀ d, o0.dst = some d → d ∉ o.looksAt ops := fun d hd hm => ((a1 d hd).2 hm).elim (fun e => hri o hoi i0 e hi) (fun e => hr o0 ho i e hRi)
      have b2 : ∀ d, o.dst = some d → d ∉ o0.looksAt ops := fun d hd hm => ((a2 d hd).2 hm).elim (fun e => hr o0 ho i e hRi) (fun e => hri o hoi i0 e hi)
      have hun := wpOpIn_unput hoi (D.plain _ _ hoi) b1 (fun d hd => (a1 d hd).1) hstep hq
      refine wpOpIn_mono ?_ hun
      rintro a' w' ⟨hX, hS⟩
      refine ih (fun j hj => hR j hj.1) ⟨hi, Ne.symm hie⟩ (fun o' ho' j hj hRj => hr o' ho' j hj hRj.1) hX.now (hy.same (D.plain _ _ ho) hS b2) ?_
      rw [del_comm]
      exact hX

end
end Go.Proofs.YtfoakjdnopljmaaGreatDoor

set_option linter.unusedVariables false
set_option linter.unusedSimpArgs false
namespace Go.Proofs.YtfoakjdnopljmaaGreatDoor
open Go

section
variable {P : Program} {r : Option Nat} {ops : Array Oper} {Qf : Exit → Act → World → Prop} {Z : Act → World → Prop} {K : World → Prop} {k : Nat}

theorem ready_spec {listed : Array Bool} (hl : listed.size = ops.size) {i : Nat} : i ∈ Region.ready .any ops listed ↔ ∃ o, ops[i]? = some o ∧ listed[i]? = some false ∧ ∀ e ∈ o.after.toList, Region.binds .any e = true → listed.getD e.on false = true := by
  unfold Region.ready
  rw [List.mem_filter, List.mem_range]
  constructor
  · rintro ⟨h1, h2⟩
    rw [Bool.and_eq_true] at h2
    obtain ⟨h2, h3⟩ := h2
    refine ⟨ops[i], Array.getElem?_eq_getElem h1, ?_, ?_⟩
    · have hlt : i < listed.size := by omega
      rw [Array.getElem?_eq_getElem hlt]
      simp [Array.getD_eq_getD_getElem?, Array.getElem?_eq_getElem hlt] at h2
      simpa using h2
    · rw [Array.getElem?_eq_getElem h1] at h3
      simp only [Option.map_some, Option.getD_some] at h3
      intro e he hb
      have := Array.all_eq_true_iff_forall_mem.1 h3 e (Array.mem_toList_iff.1 he)
      simpa [hb] using this
  · rintro ⟨o, ho, h1, h2⟩
    obtain ⟨hlt, rfl⟩ := Array.getElem?_eq_some_iff.1 ho
    refine ⟨hlt, ?_⟩
    rw [Bool.and_eq_true]
    refine ⟨by simp [Array.getD_eq_getD_getElem?, h1], ?_⟩
    rw [Array.getElem?_eq_getElem hlt]
    simp only [Option.map_some, Option.getD_some]
    rw [Array.all_eq_true_iff_forall_mem]
    intro e he
    cases hb : Region.binds .any e with
    | false => simp
    | true => simpa using h2 e (Array.mem_toList_iff.2 he) hb

theorem edgeB_mem {o : Oper} {j : Nat} (h : edgeB o j = true) : ∃ e ∈ o.after.toList, e.on = j ∧ Region.binds .any e = true := by
  unfold edgeB at h
  rw [List.any_eq_true] at h
  obtain ⟨e, he, h⟩ := h
  rw [Bool.and_eq_true, beq_iff_eq] at h
  exact ⟨e, he, h.1, h.2⟩

/-- The last part, in the text's order. -/
theorem any_last (D : DrawOk ops k) : ∀ (m j : Nat) (listed : Array Bool) (a : Act) (w : World), k ≤ j → j + m = ops.size → listed.size = ops.size →
    (∀ i, i < ops.size → listed[i]? = some (decide (i < j))) → wpListIn (Fw r) 0 P ops Qf (ops.toList.drop j) a w → ∀ f, m ≤ f → wpAnyIn (Fw r) 0 P .any ops Qf f listed a w := by
  intro m
  induction m with
  | zero =>
    intro j listed a w hk hj hl hli h f _
    have hnone : Region.ready .any ops listed = [] := List.eq_nil_iff_forall_not_mem.2 fun i hi => by
      obtain ⟨o, ho, h1, _⟩ := (ready_spec hl).1 hi
      have hlt := (Array.getElem?_eq_some_iff.1 ho).1
      rw [hli i hlt] at h1
      simp at h1
      omega
    have hnil : ops.toList.drop j = [] := List.drop_eq_nil_of_le (by simp; omega)
    rw [hnil] at h
    cases f with
    | zero => exact ⟨hnone, h⟩
    | succ f => exact ⟨fun _ => h, fun i hi => (by rw [hnone] at hi; cases hi)⟩
  | succ m ih =>
    intro j listed a w hk hj hl hli h f hf
    obtain ⟨f, rfl⟩ : ∃ f', f = f' + 1 := ⟨f - 1, by omega⟩
    have hlt : j < ops.size := by omega
    have ho : ops[j]? = some ops[j] := Array.getElem?_eq_getElem hlt
    have hone : ∀ i, i ∈ Region.ready .any ops listed → i = j := fun i hi => by
      obtain ⟨o, hoi, h1, h2⟩ := (ready_spec hl).1 hi
      have hilt := (Array.getElem?_eq_some_iff.1 hoi).1
      rw [hli i hilt] at h1
      simp at h1
      rcases Nat.lt_or_eq_of_le h1 with hlt' | he
      · obtain ⟨e, he, hon, hb⟩ := edgeB_mem (D.last i o hoi (by omega) j hlt')
        have := h2 e he hb
        rw [hon] at this
        simp [Array.getD_eq_getD_getElem?, hli j hlt] at this
      · exact he.symm
    have hmem : j ∈ Region.ready .any ops listed := (ready_spec hl).2 ⟨ops[j], ho, by rw [hli j hlt]; simp, fun e he hbd => by
      have := D.lt j _ ho e he hbd
      simp [Array.getD_eq_getD_getElem?, hli e.on (by omega), this]⟩
    have hdrop : ops.toList.drop j = ops[j] :: ops.toList.drop (j + 1) := by
      rw [List.drop_eq_getElem_cons (by simpa using hlt)]
      simp
    rw [hdrop] at h
    refine ⟨fun hn => (by rw [hn] at hmem; cases hmem), fun i hi => ?_⟩
    have := hone i hi
    subst this
    have hset : ∀ x, x < ops.size → (listed.setIfInBounds i true)[x]? = some (decide (x < i + 1)) := fun x hx => by
      rw [Array.getElem?_setIfInBounds]
      split
      · rename_i e; subst e; rw [if_pos (by omega)]; simp
      · rw [hli x hx]; congr 1; simp only [decide_eq_decide]; omega
    have ih' := fun a w hw => ih (i + 1) (listed.setIfInBounds i true) a w (by omega) (by omega) (by simp [hl]) hset hw f (by omega)
    unfold wpOpIn
    simp only [ho]
    unfold wpListIn at h
    split
    · rename_i hw
      rw [if_pos hw] at h
      exact ⟨h.1, uponIn_mono h.2 (fun a w hx => ih' a w hx) (fun _ _ _ hx => hx)⟩
    · rename_i hw
      rw [if_neg hw] at h
      exact ⟨h.1, ih' _ _ h.2⟩

/-- The first part, in whatever order, and the last one behind it. -/
theorem any_of (D : DrawOk ops k) : ∀ (m : Nat) (R : Nat → Prop) (listed : Array Bool) (a : Act) (w : World), (∀ i, R i → i < k) → listed.size = ops.size →
    (∀ i, i < ops.size → ∃ b, listed[i]? = some b ∧ (b = true ↔ i < k ∧ ¬ R i)) → AnyK P r ops Qf (fun a w => wpListIn (Fw r) 0 P ops Qf (ops.toList.drop k) a w) K m R a w →
    ∀ f, m + (ops.size - k) ≤ f → wpAnyIn (Fw r) 0 P .any ops Qf f listed a w := by
  intro m
  have hdone : ∀ (R : Nat → Prop) (listed : Array Bool) (a : Act) (w : World), (∀ i, ¬ R i) → listed.size = ops.size → (∀ i, i < ops.size → ∃ b, listed[i]? = some b ∧ (b = true ↔ i < k ∧ ¬ R i)) →
      wpListIn (Fw r) 0 P ops Qf (ops.toList.drop k) a w → ∀ f, ops.size - k ≤ f → wpAnyIn (Fw r) 0 P .any ops Qf f listed a w := fun R listed a w hR hl hli h f hf => by
    refine any_last D (ops.size - k) k listed a w (Nat.le_refl _) (by have := D.le; omega) hl (fun i hi => ?_) h f hf
    obtain ⟨b, hb, hbi⟩ := hli i hi
    rw [hb]
    congr 1
    cases b with
    | true => have := hbi.1 rfl; simp [this.1]
    | false =>
      have : ¬ i < k := fun hik => by have := hbi.2 ⟨hik, hR i⟩; cases this
      simp [this]
  induction m with
  | zero =>
    intro R listed a w hR hl hli h f hf
    exact hdone R listed a w h.2.1 hl hli h.2.2 f (by omega)
  | succ m ih =>
    intro R listed a w hR hl hli h f hf
    by_cases hn : ∀ i, ¬ R i
    · exact hdone R listed a w hn hl hli (h.2.1 hn) f (by omega)
    obtain ⟨f, rfl⟩ : ∃ f', f = f' + 1 := ⟨f - 1, by omega⟩
    -- the least one that is left is ready
    have hex : ∃ i, R i := Classical.byContradiction fun hx => hn fun i hi => hx ⟨i, hi⟩
    have hmin : ∃ i, R i ∧ ∀ j, R j → i ≤ j := by
      obtain ⟨i, hi⟩ := hex
      induction i using Nat.strongRecOn with
      | ind i ihi =>
        by_cases hj : ∃ j, j < i ∧ R j
        · obtain ⟨j, hlt, hj⟩ := hj; exact ihi j hlt hj
        · exact ⟨i, hi, fun j hRj => Nat.le_of_not_lt fun hlt => hj ⟨j, hlt, hRj⟩⟩
    have hrdy : ∀ i, i ∈ Region.ready .any ops listed ↔ R i ∧ readyR ops R i := fun i => by
      constructor
      · intro hi
        obtain ⟨o, ho, h1, h2⟩ := (ready_spec hl).1 hi
        have hilt := (Array.getElem?_eq_some_iff.1 ho).1
        obtain ⟨b, hb, hbi⟩ := hli i hilt
        rw [hb] at h1
        cases h1
        have hedge : ∀ j, edgeB o j = true → j < k ∧ ¬ R j := fun j hj => by
          obtain ⟨e, he, hon, hbd⟩ := edgeB_mem hj
          have h3 := h2 e he hbd
          have h4 := D.lt i o ho e he hbd
          obtain ⟨c, hc, hci⟩ := hli e.on (by omega)
          simp only [Array.getD_eq_getD_getElem?, hc, Option.getD_some] at h3
          subst h3
          rw [← hon]
          exact hci.1 rfl
        have hik : i < k := Classical.byContradiction fun hge => by
          obtain ⟨j, hj, _⟩ := hmin
          exact (hedge j (D.last i o ho (by omega) j (by have := hR j hj; omega))).2 hj
        have hRi : R i := Classical.byContradiction fun hx => by have := hbi.2 ⟨hik, hx⟩; cases this
        exact ⟨hRi, fun o' ho' j hj => by rw [ho] at ho'; cases ho'; exact (hedge j hj).2⟩
      · rintro ⟨hRi, hrd⟩
        have hik := hR i hRi
        have hlt : i < ops.size := by have := D.le; omega
        have ho : ops[i]? = some ops[i] := Array.getElem?_eq_getElem hlt
        refine (ready_spec hl).2 ⟨ops[i], ho, ?_, fun e he hbd => ?_⟩
        · obtain ⟨b, hb, hbi⟩ := hli i hlt
          rw [hb]
          cases b with
          | false => rfl
          | true => exact absurd hRi (hbi.1 rfl).2
        · have hlt' := D.lt i _ ho e he hbd
          have hed : edgeB ops[i] e.on = true := List.any_eq_true.2 ⟨e, he, by simp [hbd]⟩
          obtain ⟨c, hc, hci⟩ := hli e.on (by omega)
          have := hci.2 ⟨by omega, hrd _ ho _ hed⟩
          simp [Array.getD_eq_getD_getElem?, hc, this]
    refine ⟨fun he => ?_, fun i hi => ?_⟩
    · obtain ⟨i, hi, hle⟩ := hmin
      have : i ∈ Region.ready .any ops listed := (hrdy i).2 ⟨hi, fun o ho j hj hRj => by
        obtain ⟨e, hem, hon, hbd⟩ := edgeB_mem hj
        have := D.lt i o ho e hem hbd
        have := hle j hRj
        omega⟩
      rw [he] at this
      cases this
    · obtain ⟨hRi, hrd⟩ := (hrdy i).1 hi
      refine wpOpIn_mono (fun a' w' hx => ?_) (h.2.2 i hRi hrd)
      refine ih (del R i) (listed.setIfInBounds i true) a' w' (fun j hj => hR j hj.1) (by simp [hl]) (fun x hx' => ?_) hx f (by omega)
      rw [Array.getElem?_setIfInBounds]
      obtain ⟨b, hb, hbi⟩ := hli x hx'
      split
      · rename_i e
        subst e
        refine ⟨true, by rw [if_pos (by omega)], ?_⟩
        exact ⟨fun _ => ⟨hR _ hRi, fun hd => hd.2 rfl⟩, fun _ => rfl⟩
      · rename_i e
        refine ⟨b, hb, ?_⟩
        rw [hbi]
        exact ⟨fun ⟨h1, h2⟩ => ⟨h1, fun hd => h2 hd.1⟩, fun ⟨h1, h2⟩ => ⟨h1, fun hd => h2 ⟨hd, fun e' => e e'.symm⟩⟩⟩

end
end Go.Proofs.YtfoakjdnopljmaaGreatDoor

set_option linter.unusedVariables false
set_option linter.unusedSimpArgs false
namespace Go.Proofs.YtfoakjdnopljmaaGreatDoor
open Go

/-- An operation of the first part that lays a new block, and that nothing of the first part looks at. -/
structure LateI where
  i : Nat
  v : Nat → Value
  V : View

section
variable {P : Program} {r : Option Nat} {ops : Array Oper} {k : Nat} {Q : Post} {n : Nat} {ds : List Nat}

def LatOne (P : Program) (ops : Array Oper) (H : Heap) (w0 : World) (a : Act) (w : World) (x : LateI) : Option Nat → Prop
  | none => ∃ o, ops[x.i]? = some o ∧ o.guard = none ∧ ∀ w', ∃ obj, (execOp a.eval o).run P w' = .ok (.value (x.v w'.heap.size)) (w'.alloc obj) ∧ x.V.ok obj
  | some b => H b = none ∧ w0.heap.size ≤ b ∧ (∃ o, ops[x.i]? = some o ∧ ∀ d, o.dst = some d → a.tmps[d]? = some (x.v b)) ∧ ∃ obj, w.heap[b]? = some obj ∧ x.V.ok obj

def Lat (P : Program) (ops : Array Oper) (H : Heap) (w0 : World) (a : Act) (w : World) : List LateI → List (Option Nat) → Prop
  | [], [] => True
  | x :: X, s :: S => LatOne P ops H w0 a w x s ∧ Lat P ops H w0 a w X S
  | _, _ => False

def pendR : List LateI → List (Option Nat) → Nat → Prop
  | x :: X, s :: S, j => (s = none ∧ x.i = j) ∨ pendR X S j
  | _, _, _ => False

def pends (S : List (Option Nat)) : Nat := (S.filter (·.isNone)).length

theorem pendR_mem : ∀ {X : List LateI} {S : List (Option Nat)} {j : Nat}, pendR X S j → ∃ x ∈ X, x.i = j
  | x :: X, s :: S, j, h => by
    rcases h with ⟨_, h⟩ | h
    · exact ⟨x, List.mem_cons_self .., h⟩
    · obtain ⟨y, hy, e⟩ := pendR_mem h
      exact ⟨y, List.mem_cons_of_mem _ hy, e⟩
  | [], _, _, h => h.elim
  | _ :: _, [], _, h => h.elim

theorem Lat.mono {H H' : Heap} {w0 w w' : World} {a a' : Act} : ∀ {X : List LateI} {S : List (Option Nat)}, (∀ x ∈ X, ∀ s, LatOne P ops H w0 a w x s → LatOne P ops H' w0 a' w' x s) → Lat P ops H w0 a w X S →
    Lat P ops H' w0 a' w' X S
  | [], [], _, _ => trivial
  | x :: X, s :: S, h, hl => ⟨h x (List.mem_cons_self ..) s hl.1, Lat.mono (fun y hy => h y (List.mem_cons_of_mem _ hy)) hl.2⟩
  | [], _ :: _, _, hl => hl
  | _ :: _, [], _, hl => hl

theorem Lat.monoP {H H' : Heap} {w0 w w' : World} {a a' : Act} : ∀ {X : List LateI} {S : List (Option Nat)}, (∀ x ∈ X, ∀ s, (s = none → pendR X S x.i) → LatOne P ops H w0 a w x s → LatOne P ops H' w0 a' w' x s) → Lat P ops H w0 a w X S →
    Lat P ops H' w0 a' w' X S
  | [], [], _, _ => trivial
  | x :: X, s :: S, h, hl => ⟨h x (List.mem_cons_self ..) s (fun e => .inl ⟨e, rfl⟩) hl.1, Lat.monoP (fun y hy s' hs' => h y (List.mem_cons_of_mem _ hy) s' (fun e => .inr (hs' e))) hl.2⟩
  | [], _ :: _, _, hl => hl
  | _ :: _, [], _, hl => hl

/-- What holds all the way: nothing late waits for what is left. -/
structure Stat (ops : Array Oper) (k : Nat) (rem : List Nat) (X : List LateI) : Prop where
  nodup : (rem ++ X.map (·.i)).Nodup
  lt : ∀ i ∈ rem ++ X.map (·.i), i < k
  edge : ∀ x ∈ X, ∀ o, ops[x.i]? = some o → ∀ j ∈ rem, edgeB o j = false
  edgeX : ∀ x ∈ X, ∀ o, ops[x.i]? = some o → ∀ y ∈ X, edgeB o y.i = false

def zOf (P : Program) (r : Option Nat) (ops : Array Oper) (k : Nat) (Q : Post) (H0 : Heap) (w0 : World) : Act → World → Prop :=
  fun a w => wpListIn (Fw r) 0 P ops (Ends Q H0 w0) (ops.toList.drop k) a w

def noQ : Exit → Act → World → Prop := fun _ _ _ => False

/-- The first part of a region that draws: rem is to be done yet, X may be done already or not. -/
def Scr (P : Program) (r : Option Nat) (ops : Array Oper) (k : Nat) (Q : Post) (n : Nat) (ds : List Nat) (rem : List Nat) (X : List LateI) (l : Slots) (G : Heap) (L : Locs) : Prop :=
  DrawOk ops k → DstOk n ops.toList → Stat ops k rem X → Wf G L → ∀ (H0 : Heap) (w0 : World) (a : Act) (w : World) (S : List (Option Nat)), EnvOk ⟨n, l, ds⟩ a → Holds (ov G L) w → Frame H0 w0 (ov G L) w →
    Lat P ops (ov G L) w0 a w X S → (S.filterMap id).Nodup → ∀ m, rem.length + pends S ≤ m → AnyK P r ops noQ (zOf P r ops k Q H0 w0) (Holds (ov G L)) m (fun j => j ∈ rem ∨ pendR X S j) a w

theorem LatOne.put {D : DrawOk ops k} {H : Heap} {w0 w : World} {a : Act} {i : Nat} {o : Oper} {v : Value} (hi : i < k) (ho : ops[i]? = some o) {x : LateI} (hxi : x.i ≠ i) (hxk : x.i < k)
    (he : ∀ o', ops[x.i]? = some o' → edgeB o' i = false) {s : Option Nat} (he2 : s = none → edgeB o x.i = false) (h : LatOne P ops H w0 a w x s) : LatOne P ops H w0 (a.put o.dst v) w x s := by
  cases s with
  | none =>
    obtain ⟨ox, hox, hg, hx⟩ := h
    refine ⟨ox, hox, hg, fun w' => ?_⟩
    have hap := D.apart i x.i o ox hi hxk (Ne.symm hxi) ho hox
    rw [execOp_put ox (plain_sel (D.plain _ _ hox)) a o.dst v (fun d hd hm => by have := (hap d hd).2 hm; rw [he ox hox, he2 rfl] at this; cases this <;> contradiction)]
    exact hx w'
  | some b =>
    obtain ⟨h1, h1', ⟨ox, hox, hd⟩, h3⟩ := h
    refine ⟨h1, h1', ⟨ox, hox, fun d hdx => ?_⟩, h3⟩
    have hap := D.apart x.i i ox o hxk hi hxi hox ho
    rw [(same_put o.dst a v).2 d (fun e => (hap d hdx).1 e)]
    exact hd d hdx

/-- One of the late operations is done now. -/
theorem late_now (D : DrawOk ops k) {H : Heap} {w0 w : World} {a : Act} (hh : Holds H w) (hw0 : w0.heap.size ≤ w.heap.size) (hsz : ∀ (i : Nat) (o : Oper), ops[i]? = some o → ∀ d, o.dst = some d → d < a.tmps.size) : ∀ {X : List LateI} {S : List (Option Nat)} {i : Nat}, (∀ x ∈ X, x.i < k) → (X.map (·.i)).Nodup →
    (∀ x ∈ X, ∀ o, ops[x.i]? = some o → ∀ y ∈ X, edgeB o y.i = false) → (∀ b ∈ S.filterMap id, b < w.heap.size) → Lat P ops H w0 a w X S → pendR X S i →
    ∃ (o : Oper) (x : LateI) (obj : Obj) (S' : List (Option Nat)), x ∈ X ∧ x.i = i ∧ ops[i]? = some o ∧ o.guard = none ∧ (execOp a.eval o).run P w = .ok (.value (x.v w.heap.size)) (w.alloc obj) ∧
      Lat P ops H w0 (a.put o.dst (x.v w.heap.size)) (w.alloc obj) X S' ∧ pends S' + 1 = pends S ∧ (∀ j, pendR X S' j ↔ pendR X S j ∧ j ≠ i) ∧
      (∀ b, b ∈ S'.filterMap id ↔ b ∈ S.filterMap id ∨ b = w.heap.size) ∧ ((S.filterMap id).Nodup → (S'.filterMap id).Nodup)
  | [], _, _, _, _, _, _, _, hp => hp.elim
  | x :: X, [], _, _, _, _, _, _, hp => hp.elim
  | x :: X, s :: S, i, hk, hn, he, hb, hl, hp => by
    obtain ⟨hl1, hl2⟩ := hl
    simp only [List.map_cons, List.nodup_cons] at hn
    obtain ⟨hn1, hn2⟩ := hn
    by_cases hxi : s = none ∧ x.i = i
    · obtain ⟨rfl, rfl⟩ := hxi
      obtain ⟨o, ho, hg, hx⟩ := hl1
      obtain ⟨obj, hrun, hok⟩ := hx w
      have hlt := (Array.getElem?_eq_some_iff.1 ho).1
      refine ⟨o, x, obj, some w.heap.size :: S, List.mem_cons_self .., rfl, ho, hg, hrun, ⟨?_, ?_⟩, ?_, ?_, ?_, ?_⟩
      · refine ⟨hh.fresh (Nat.le_refl _), hw0, ⟨o, ho, fun d hd => ?_⟩, obj, Array.getElem?_push_size, hok⟩
        have hs := hsz _ _ ho d hd
        simp [hd, Act.put, hs]
      · refine Lat.mono (fun y hy s hs => ?_) hl2
        have hyne : y.i ≠ x.i := fun e => hn1 (List.mem_map.2 ⟨y, hy, e⟩)
        have := LatOne.put (D := D) (P := P) (v := x.v w.heap.size) (hk x (List.mem_cons_self ..)) ho hyne (hk y (List.mem_cons_of_mem _ hy)) (fun o' ho' => he y (List.mem_cons_of_mem _ hy) o' ho' x (List.mem_cons_self ..)) (fun _ => he x (List.mem_cons_self ..) o ho y (List.mem_cons_of_mem _ hy)) hs
        cases s with
        | none => exact this
        | some b =>
          obtain ⟨h1, h1', h2, obj', h3, h4⟩ := this
          refine ⟨h1, h1', h2, obj', ?_, h4⟩
          have hlt' := (Array.getElem?_eq_some_iff.1 h3).1
          show (w.heap.push obj)[b]? = _
          rw [Array.getElem?_push_lt hlt', ← h3, Array.getElem?_eq_getElem hlt']
      · simp [pends]
      · intro j
        constructor
        · intro h
          rcases h with ⟨h, _⟩ | h
          · cases h
          · refine ⟨.inr h, fun e => ?_⟩
            subst e
            obtain ⟨y, hy, e⟩ := pendR_mem h
            exact hn1 (List.mem_map.2 ⟨y, hy, e⟩)
        · rintro ⟨h, hne⟩
          rcases h with ⟨_, h⟩ | h
          · exact absurd h.symm hne
          · exact .inr h
      · intro b; simp [List.filterMap_cons]; exact ⟨fun h => h.elim .inr .inl, fun h => h.elim .inr .inl⟩
      · intro hnd
        simp only [List.filterMap_cons, id] at hnd ⊢
        exact List.nodup_cons.2 ⟨fun hm => by have := hb _ (by simp only [List.filterMap_cons, id]; exact hm); omega, hnd⟩
    · have hp' : pendR X S i := by
        rcases hp with hp | hp
        · exact absurd hp hxi
        · exact hp
      obtain ⟨o, y, obj, S', hy, hyi, ho, hg, hrun, hL, hc, hpd, hbs, hnd⟩ := late_now D hh hw0 hsz (fun y hy => hk y (List.mem_cons_of_mem _ hy)) hn2
        (fun y hy o ho z hz => he y (List.mem_cons_of_mem _ hy) o ho z (List.mem_cons_of_mem _ hz)) (fun b hbm => hb b (by cases s with | none => simpa [List.filterMap_cons] using hbm | some c => simp only [List.filterMap_cons, id]; exact List.mem_cons_of_mem _ hbm)) hl2 hp'
      have hxne : x.i ≠ i := fun e => hn1 (List.mem_map.2 ⟨y, hy, by rw [hyi, e]⟩)
      refine ⟨o, y, obj, s :: S', List.mem_cons_of_mem _ hy, hyi, ho, hg, hrun, ⟨?_, hL⟩, ?_, ?_, ?_, ?_⟩
      · have hik : i < k := by rw [← hyi]; exact hk y (List.mem_cons_of_mem _ hy)
        have := LatOne.put (D := D) (P := P) (v := y.v w.heap.size) hik ho hxne (hk x (List.mem_cons_self ..)) (fun o' ho' => by rw [← hyi]; exact he x (List.mem_cons_self ..) o' ho' y (List.mem_cons_of_mem _ hy)) (fun _ => he y (List.mem_cons_of_mem _ hy) o (by rw [hyi]; exact ho) x (List.mem_cons_self ..)) hl1
        cases s with
        | none => exact this
        | some b =>
          obtain ⟨h1, h1', h2, obj', h3, h4⟩ := this
          refine ⟨h1, h1', h2, obj', ?_, h4⟩
          have hlt' := (Array.getElem?_eq_some_iff.1 h3).1
          show (w.heap.push obj)[b]? = _
          rw [Array.getElem?_push_lt hlt', ← h3, Array.getElem?_eq_getElem hlt']
      · cases s with
        | none => simp only [pends, List.filter_cons, Option.isNone_none, if_true, List.length_cons] at hc ⊢; omega
        | some b => simpa [pends, List.filter_cons] using hc
      · intro j
        constructor
        · intro h
          rcases h with ⟨h1, h2⟩ | h
          · exact ⟨.inl ⟨h1, h2⟩, fun e => hxne (by rw [h2, e])⟩
          · exact ⟨.inr ((hpd j).1 h).1, ((hpd j).1 h).2⟩
        · rintro ⟨h, hne⟩
          rcases h with h | h
          · exact .inl h
          · exact .inr ((hpd j).2 ⟨h, hne⟩)
      · intro b
        cases s with
        | none => simpa [List.filterMap_cons] using hbs b
        | some c => simp only [List.filterMap_cons, id, List.mem_cons]; rw [hbs b]; exact ⟨fun h => h.elim (fun h => .inl (.inl h)) (fun h => h.elim (fun h => .inl (.inr h)) .inr), fun h => h.elim (fun h => h.elim .inl (fun h => .inr (.inl h))) (fun h => .inr (.inr h))⟩
      · intro hnd'
        cases s with
        | none => simp only [List.filterMap_cons, id] at hnd' ⊢; exact hnd hnd'
        | some c =>
          simp only [List.filterMap_cons, id] at hnd' ⊢
          obtain ⟨m1, m2⟩ := List.nodup_cons.1 hnd'
          refine List.nodup_cons.2 ⟨fun hm => ?_, hnd m2⟩
          rcases (hbs c).1 hm with h | h
          · exact m1 h
          · have := hb c (by simp [List.filterMap_cons]); omega


def dstAt (ops : Array Oper) (i : Nat) : Option Tmp := (ops[i]?).bind (·.dst)

/-- The first part has been done: the late blocks come to light. -/
def doneQ (ops : Array Oper) (C : Slots → Locs → Prop) : List LateI → Slots → Locs → Prop
  | [], l, L => C l L
  | x :: X, l, L => ∀ b, doneQ ops C X (putL (dstAt ops x.i) (x.v b) l) ((b, x.V) :: L)

theorem done_reveal {C : Slots → Locs → Prop} {G : Heap} {H0 : Heap} {w0 w : World} {a : Act} : ∀ {X : List LateI} {S : List (Option Nat)} {l : Slots} {L : Locs} {H : Heap}, pends S = 0 → Lat P ops H w0 a w X S → (S.filterMap id).Nodup →
    (∀ b, b ∈ S.filterMap id → ov G L b = none) → SlotsOk l a → Wf G L → Holds (ov G L) w → Frame H0 w0 (ov G L) w → doneQ ops C X l L →
    ∃ l' L', SlotsOk l' a ∧ Wf G L' ∧ Holds (ov G L') w ∧ Frame H0 w0 (ov G L') w ∧ C l' L'
  | [], [], l, L, H, _, _, _, _, hs, wf, hh, hf, hd => ⟨l, L, hs, wf, hh, hf, hd⟩
  | [], _ :: _, _, _, _, _, h, _, _, _, _, _, _, _ => h.elim
  | _ :: _, [], _, _, _, _, h, _, _, _, _, _, _, _ => h.elim
  | x :: X, s :: S, l, L, H, hp, hl, hn, hb, hs, wf, hh, hf, hd => by
    cases s with
    | none => simp [pends] at hp
    | some b =>
      obtain ⟨⟨h1, h2, ⟨o, ho, h3⟩, obj, h4, h5⟩, hl2⟩ := hl
      simp only [List.filterMap_cons, id] at hn hb
      obtain ⟨hn1, hn2⟩ := List.nodup_cons.1 hn
      have hbn := hb b (List.mem_cons_self ..)
      have wf' : Wf G ((b, x.V) :: L) := wf.cons hbn
      have hov : ∀ c, c ≠ b → ov G ((b, x.V) :: L) c = ov G L c := fun c hc => by rw [ov_cons]; simp [Heap.set, hc]
      refine done_reveal (H := H) (by simpa [pends, List.filter_cons] using hp) hl2 hn2 (fun c hc => ?_) ?_ wf' ?_ ?_ (hd b)
      · rw [hov c (fun e => by subst e; exact hn1 hc)]
        exact hb c (List.mem_cons_of_mem _ hc)
      · have hds : dstAt ops x.i = o.dst := by simp [dstAt, ho]
        rw [hds]
        cases hdo : o.dst with
        | none => exact hs
        | some d =>
          intro t u hu
          simp only [putL, look] at hu
          cases ht : Nat.beq t d with
          | true =>
            have : t = d := Nat.eq_of_beq_eq_true ht
            subst this
            rw [ht] at hu
            simp only [cond_true, Option.some.injEq] at hu
            subst hu
            exact h3 t hdo
          | false =>
            rw [ht] at hu
            exact hs t u hu
      · intro c V hc
        by_cases e : c = b
        · subst e
          rw [ov_cons] at hc
          simp only [Heap.set, if_pos] at hc
          cases hc
          exact ⟨obj, h4, h5⟩
        · rw [hov c e] at hc
          exact hh c V hc
      · obtain ⟨f1, f2, f3, f4, f5⟩ := hf
        refine ⟨f1, f2, f3, f4, fun c hc hn => ?_⟩
        rw [hov c (by omega)]
        exact f5 c hc hn

theorem wpOpIn_late {i : Nat} {o : Oper} {a : Act} {w w' : World} {v : Value} {X : Act → World → Prop} (ho : ops[i]? = some o) (hp : plainOp o.op = true) (hg : o.guard = none)
    (hr : (execOp a.eval o).run P w = .ok (.value v) w') (h : X (a.put o.dst v) w') : wpOpIn (Fw r) 0 P ops noQ i X a w := by
  unfold wpOpIn
  simp only [ho]
  rw [if_pos (by simp [Region.wanted, hg])]
  refine ⟨fun _ _ => trivial, ?_⟩
  rw [plain_sem hp, hr]
  exact h

theorem frame_alloc' {H : Heap} {w : World} (hh : Holds H w) (o : Obj) : Frame H w H (w.alloc o) :=
  ⟨⟨rfl, Nat.le_refl _⟩, rfl, rfl, by rw [World.size_alloc]; omega, fun b hb hn => ⟨hn, by show (w.heap.push o)[b]? = _; rw [Array.getElem?_push_lt hb, Array.getElem?_eq_getElem hb]⟩⟩

theorem holds_alloc' {H : Heap} {w : World} (hh : Holds H w) (o : Obj) : Holds H (w.alloc o) := fun b V hb => by
  obtain ⟨o', h1, h2⟩ := hh b V hb
  have := (Array.getElem?_eq_some_iff.1 h1).1
  exact ⟨o', by show (w.heap.push o)[b]? = _; rw [Array.getElem?_push_lt this, ← h1, Array.getElem?_eq_getElem this], h2⟩

theorem Lat.blocks {H : Heap} {w0 w : World} {a : Act} : ∀ {X : List LateI} {S : List (Option Nat)}, Lat P ops H w0 a w X S → ∀ b ∈ S.filterMap id, H b = none ∧ b < w.heap.size
  | [], [], _, b, hb => by simp at hb
  | [], _ :: _, h, _, _ => h.elim
  | _ :: _, [], h, _, _ => h.elim
  | x :: X, s :: S, h, b, hb => by
    cases s with
    | none => exact Lat.blocks h.2 b (by simpa [List.filterMap_cons] using hb)
    | some c =>
      simp only [List.filterMap_cons, id, List.mem_cons] at hb
      rcases hb with rfl | hb
      · obtain ⟨h1, _, _, obj, h3, _⟩ := h.1
        exact ⟨h1, (Array.getElem?_eq_some_iff.1 h3).1⟩
      · exact Lat.blocks h.2 b hb

theorem pendR_none : ∀ {X : List LateI} {S : List (Option Nat)} {H : Heap} {w0 w : World} {a : Act}, Lat P ops H w0 a w X S → (pends S = 0 ↔ ∀ j, ¬ pendR X S j)
  | [], [], _, _, _, _, _ => ⟨fun _ _ h => h, fun _ => rfl⟩
  | [], _ :: _, _, _, _, _, h => h.elim
  | _ :: _, [], _, _, _, _, h => h.elim
  | x :: X, s :: S, H, w0, w, a, h => by
    have ih := pendR_none h.2
    cases s with
    | none => simp only [pends, List.filter_cons, Option.isNone_none, if_true, List.length_cons]; exact ⟨fun h => by omega, fun h => absurd (.inl ⟨rfl, rfl⟩) (h x.i)⟩
    | some b =>
      have e : pends (some b :: S) = pends S := by simp [pends, List.filter_cons]
      rw [e, ih]
      exact ⟨fun h j hj => hj.elim (fun hj => by cases hj.1) (h j), fun h j hj => h j (.inr hj)⟩

/-- The last rule of a script: nothing is left but what may come late. -/
theorem Scr.done {X : List LateI} {l : Slots} {G : Heap} {L : Locs} (h : doneQ ops (fun l' L' => WPL P r ops (ops.toList.drop k) Q ⟨n, l', ds⟩ G L') X l L)
    (hl : ∀ x ∈ X, ∀ d, dstAt ops x.i = some d → look d l = none) : Scr P r ops k Q n ds [] X l G L := by
  intro D hdst st wf H0 w0 a w S he hh hf hL hn m hm
  induction m generalizing a w S with
  | zero =>
    have hp : pends S = 0 := by simp at hm; exact hm
    refine ⟨hh, fun i hi => hi.elim (fun h => by cases h) ((pendR_none hL).1 hp i), ?_⟩
    obtain ⟨l', L', k1, k2, k3, k4, k5⟩ := done_reveal (H0 := H0) hp hL hn (fun b hb => (hL.blocks b hb).1) he.2.1 wf hh hf h
    exact WPL.goOn (E1 := ⟨n, l', ds⟩) (fun o ho => hdst o (List.drop_subset _ _ ho)) k5 ⟨he.1, k1, he.2.2⟩ k2 k3 k4
  | succ m ih =>
    refine ⟨hh, fun hno => ?_, fun i hi hr => ?_⟩
    · have hp : pends S = 0 := (pendR_none hL).2 fun j hj => hno j (.inr hj)
      obtain ⟨l', L', k1, k2, k3, k4, k5⟩ := done_reveal (H0 := H0) hp hL hn (fun b hb => (hL.blocks b hb).1) he.2.1 wf hh hf h
      exact WPL.goOn (E1 := ⟨n, l', ds⟩) (fun o ho => hdst o (List.drop_subset _ _ ho)) k5 ⟨he.1, k1, he.2.2⟩ k2 k3 k4
    · have hp : pendR X S i := hi.elim (fun h => by cases h) id
      have hsz : ∀ (i : Nat) (o : Oper), ops[i]? = some o → ∀ d, o.dst = some d → d < a.tmps.size := fun i o ho d hd => by
        rw [he.1]; exact hdst o (by obtain ⟨h1, rfl⟩ := Array.getElem?_eq_some_iff.1 ho; simp) d hd
      obtain ⟨o, x, obj, S', hx, hxi, ho, hg, hrun, hL', hc, hpd, hbs, hnd⟩ := late_now D hh hf.2.2.2.1 hsz (fun x hx => st.lt x.i (by simp; exact ⟨x, hx, rfl⟩)) (by simpa using st.nodup) st.edgeX (fun b hb => (hL.blocks b hb).2) hL hp
      refine wpOpIn_late ho (D.plain _ _ ho) hg hrun ?_
      have hR : del (fun j => j ∈ ([] : List Nat) ∨ pendR X S j) i = fun j => j ∈ ([] : List Nat) ∨ pendR X S' j := by
        funext j
        simp only [del, List.not_mem_nil, false_or, eq_iff_iff]
        exact (hpd j).symm
      rw [hR]
      refine ih _ _ S' ⟨?_, ?_, ?_⟩ (holds_alloc' hh _) (hf.trans (frame_alloc' hh _)) hL' (hnd hn) (by simp only [List.length_nil] at hm ⊢; omega)
      · cases hd : o.dst <;> simp [Act.put, he.1]
      · intro t u hu
        have hne : o.dst ≠ some t := fun e => by
          have := hl x hx t (by rw [hxi]; simp [dstAt, ho, e])
          rw [this] at hu
          cases hu
        rw [(same_put o.dst a _).2 t hne]
        exact he.2.1 t u hu
      · cases hd : o.dst <;> exact he.2.2

end
end Go.Proofs.YtfoakjdnopljmaaGreatDoor

set_option linter.unusedVariables false
set_option linter.unusedSimpArgs false
namespace Go.Proofs.YtfoakjdnopljmaaGreatDoor
open Go

section
variable {P : Program} {r : Option Nat} {ops : Array Oper} {k : Nat} {Q : Post} {n : Nat} {ds : List Nat} {rem : List Nat} {X : List LateI} {l : Slots} {G : Heap} {L : Locs}

/-- Are all of an operation's edges done? -/
def rdyB (ops : Array Oper) (left : List Nat) (i : Nat) : Bool :=
  match ops[i]? with
  | some o => left.all fun j => !edgeB o j
  | none => false

theorem rdyB_edge {left : List Nat} {i : Nat} {o : Oper} (ho : ops[i]? = some o) (h : rdyB ops left i = true) : ∀ j ∈ left, edgeB o j = false := fun j hj => by
  simp only [rdyB, ho, List.all_eq_true] at h
  simpa using h j hj

theorem Stat.erase {i : Nat} (st : Stat ops k rem X) : Stat ops k (rem.erase i) X := by
  refine ⟨?_, ?_, ?_, st.edgeX⟩
  · have := st.nodup
    rw [List.nodup_append] at this ⊢
    exact ⟨this.1.erase i, this.2.1, fun a ha b hb => this.2.2 a (List.mem_of_mem_erase ha) b hb⟩
  · intro j hj
    rcases List.mem_append.1 hj with h | h
    · exact st.lt j (List.mem_append_left _ (List.mem_of_mem_erase h))
    · exact st.lt j (List.mem_append_right _ h)
  · exact fun x hx o ho j hj => st.edge x hx o ho j (List.mem_of_mem_erase hj)

theorem Stat.not_late (st : Stat ops k rem X) {i : Nat} (hi : i ∈ rem) : ∀ x ∈ X, x.i ≠ i := fun x hx e => by
  have := st.nodup
  rw [List.nodup_append] at this
  exact this.2.2 i hi x.i (List.mem_map.2 ⟨x, hx, rfl⟩) e.symm

theorem Stat.nodup_rem (st : Stat ops k rem X) : rem.Nodup := (List.nodup_append.1 st.nodup).1

theorem del_rem (st : Stat ops k rem X) {i : Nat} (hi : i ∈ rem) {S : List (Option Nat)} : del (fun j => j ∈ rem ∨ pendR X S j) i = fun j => j ∈ rem.erase i ∨ pendR X S j := by
  funext j
  simp only [del, eq_iff_iff]
  constructor
  · rintro ⟨h | h, hne⟩
    · exact .inl ((List.mem_erase_of_ne hne).2 h)
    · exact .inr h
  · rintro (h | h)
    · exact ⟨.inl (List.mem_of_mem_erase h), fun e => by subst e; exact (List.Nodup.not_mem_erase st.nodup_rem) h⟩
    · obtain ⟨x, hx, e⟩ := pendR_mem h
      exact ⟨.inr h, fun e' => st.not_late hi x hx (by rw [e, e'])⟩

theorem dst_lt {o : Oper} {i : Nat} (hd : DstOk n ops.toList) (ho : ops[i]? = some o) : ∀ d, o.dst = some d → d < n := fun d h =>
  hd o (by obtain ⟨h1, rfl⟩ := Array.getElem?_eq_some_iff.1 ho; simp) d h

theorem Lat.put (D : DrawOk ops k) (st : Stat ops k rem X) {i : Nat} {o : Oper} {v : Value} (hi : i ∈ rem) (ho : ops[i]? = some o) {H : Heap} {w0 w : World} {a : Act} {S : List (Option Nat)} (hp : ∀ j, pendR X S j → edgeB o j = false) (h : Lat P ops H w0 a w X S) :
    Lat P ops H w0 (a.put o.dst v) w X S :=
  Lat.monoP (fun x hx s hpd hs => LatOne.put (D := D) (st.lt i (List.mem_append_left _ hi)) ho (st.not_late hi x hx) (st.lt x.i (List.mem_append_right _ (List.mem_map.2 ⟨x, hx, rfl⟩)))
    (fun o' ho' => st.edge x hx o' ho' i hi) (fun e => hp _ (hpd e)) hs) h

/-- An operation that is passed over, or that only reads. -/
theorem Scr.yld {i : Nat} {o : Oper} {v : Value} (ho : ops[i]? = some o) (hi : i ∈ rem) (hr : rdyB ops (rem ++ X.map (·.i)) i = true)
    (h : Wf G L → ∀ a, SlotsOk l a → Yld P ops o (Holds (ov G L)) a v) (K : Scr P r ops k Q n ds (rem.erase i) X (putL o.dst v l) G L) : Scr P r ops k Q n ds rem X l G L := by
  intro D hdst st wf H0 w0 a w S he hh hf hL hn m hm
  have hpos : 0 < rem.length := List.length_pos_of_mem hi
  have hlen : (rem.erase i).length + 1 = rem.length := by rw [List.length_erase_of_mem hi]; omega
  obtain ⟨m, rfl⟩ : ∃ m', m = m' + 1 := ⟨m - 1, by omega⟩
  refine AnyK.first (k := k) (i0 := i) D (fun _ _ _ h => h) ho (st.lt i (List.mem_append_left _ hi)) (fun j hj => ?_) (.inl hi) (fun o' ho' j hj hR => ?_) hh (h wf a he.2.1) ?_
  · rcases hj with hj | hj
    · exact st.lt j (List.mem_append_left _ hj)
    · obtain ⟨x, hx, e⟩ := pendR_mem hj
      exact st.lt j (List.mem_append_right _ (List.mem_map.2 ⟨x, hx, e⟩))
  · rw [ho] at ho'
    cases ho'
    have hmem : j ∈ rem ++ X.map (·.i) := by
      rcases hR with hR | hR
      · exact List.mem_append_left _ hR
      · obtain ⟨x, hx, e⟩ := pendR_mem hR
        exact List.mem_append_right _ (List.mem_map.2 ⟨x, hx, e⟩)
    rw [rdyB_edge ho hr j hmem] at hj
    cases hj
  · rw [del_rem st hi]
    exact K D hdst st.erase wf H0 w0 _ w S (he.put o.dst v (dst_lt hdst ho)) hh hf (hL.put D st hi ho (fun j hj => rdyB_edge ho hr j (by obtain ⟨x, hx, e⟩ := pendR_mem hj; exact List.mem_append_right _ (List.mem_map.2 ⟨x, hx, e⟩)))) hn m (by omega)

theorem Scr.ps {i : Nat} {o : Oper} {v : Value} (ho : ops[i]? = some o) (hi : rem.contains i = true) (hr : rdyB ops (rem ++ X.map (·.i)) i = true) (hw : wantedL ops l o.guard = some true) (h : PS P o l G L v)
    (K : Scr P r ops k Q n ds (rem.erase i) X (putL o.dst v l) G L) : Scr P r ops k Q n ds rem X l G L :=
  Scr.yld ho (List.contains_iff_mem.1 hi) hr (fun wf a hs => .inl ⟨wantedL_ok hw hs, fun w hw => h wf a w hs hw⟩) K

theorem Scr.no {i : Nat} {o : Oper} (ho : ops[i]? = some o) (hi : rem.contains i = true) (hr : rdyB ops (rem ++ X.map (·.i)) i = true) (hw : wantedL ops l o.guard = some false)
    (K : Scr P r ops k Q n ds (rem.erase i) X (putL o.dst undef l) G L) : Scr P r ops k Q n ds rem X l G L :=
  Scr.yld ho (List.contains_iff_mem.1 hi) hr (fun wf a hs => .inr ⟨wantedL_ok hw hs, rfl⟩) K

/-- A new block that nothing of the first part looks at: it may come whenever. -/
theorem Scr.late {i : Nat} {o : Oper} {v : Nat → Value} {V : View} (ho : ops[i]? = some o) (hi : rem.contains i = true) (hr : rdyB ops (rem ++ X.map (·.i)) i = true) (hg : o.guard = none) (h : NS P o l v V)
    (hx : X.all (fun x => rdyB ops [i] x.i) = true) (K : Scr P r ops k Q n ds (rem.erase i) (⟨i, v, V⟩ :: X) l G L) : Scr P r ops k Q n ds rem X l G L := by
  have hi := List.contains_iff_mem.1 hi
  intro D hdst st wf H0 w0 a w S he hh hf hL hn m hm
  have hlen : (rem.erase i).length + 1 = rem.length := by rw [List.length_erase_of_mem hi]; have := List.length_pos_of_mem hi; omega
  have hedge := rdyB_edge ho hr
  have st' : Stat ops k (rem.erase i) (⟨i, v, V⟩ :: X) := by
    refine ⟨?_, ?_, ?_, ?_⟩
    · have h1 := st.nodup
      have hp : (rem.erase i ++ i :: X.map (·.i)).Perm (rem ++ X.map (·.i)) := by
        have : (rem.erase i ++ i :: X.map (·.i)).Perm (i :: rem.erase i ++ X.map (·.i)) := by
          simp
        exact this.trans ((List.perm_cons_erase hi).symm.append_right _)
      exact hp.nodup_iff.2 h1
    · intro j hj
      rcases List.mem_append.1 hj with h | h
      · exact st.lt j (List.mem_append_left _ (List.mem_of_mem_erase h))
      · simp only [List.map_cons, List.mem_cons] at h
        rcases h with rfl | h
        · exact st.lt j (List.mem_append_left _ hi)
        · exact st.lt j (List.mem_append_right _ h)
    · intro x hxm o' ho' j hj
      rcases List.mem_cons.1 hxm with rfl | hxm
      · rw [ho] at ho'; cases ho'
        exact hedge j (List.mem_append_left _ (List.mem_of_mem_erase hj))
      · exact st.edge x hxm o' ho' j (List.mem_of_mem_erase hj)
    · intro x hxm o' ho' y hym
      rcases List.mem_cons.1 hxm with rfl | hxm
      · rw [ho] at ho'; cases ho'
        rcases List.mem_cons.1 hym with rfl | hym
        · exact hedge _ (List.mem_append_left _ hi)
        · exact hedge y.i (List.mem_append_right _ (List.mem_map.2 ⟨y, hym, rfl⟩))
      · rcases List.mem_cons.1 hym with rfl | hym
        · exact rdyB_edge ho' (List.all_eq_true.1 hx x hxm) _ (by simp)
        · exact st.edgeX x hxm o' ho' y hym
  have hlat : Lat P ops (ov G L) w0 a w (⟨i, v, V⟩ :: X) (none :: S) := ⟨⟨o, ho, hg, fun w' => h a w' he.2.1⟩, hL⟩
  have hR : (fun j => j ∈ rem ∨ pendR X S j) = fun j => j ∈ rem.erase i ∨ pendR (⟨i, v, V⟩ :: X) (none :: S) j := by
    funext j
    simp only [pendR, true_and, eq_iff_iff]
    constructor
    · rintro (h | h)
      · by_cases e : j = i
        · exact .inr (.inl e.symm)
        · exact .inl ((List.mem_erase_of_ne e).2 h)
      · exact .inr (.inr h)
    · rintro (h | h | h)
      · exact .inl (List.mem_of_mem_erase h)
      · exact .inl (h ▸ hi)
      · exact .inr h
  rw [hR]
  exact K D hdst st' wf H0 w0 a w (none :: S) he hh hf hlat (by simpa [List.filterMap_cons] using hn) m (by simp only [pends, List.filter_cons, Option.isNone_none, if_true, List.length_cons] at hm ⊢; omega)

/-- None but c is ready, of what is left. -/
def onlyB (ops : Array Oper) (rem : List Nat) (c : Nat) : Bool :=
  rem.all fun j => j == c || (match ops[j]? with | some o => rem.any fun i => edgeB o i | none => true)

/-- An operation that turns the world, where nothing but late ones stands beside it. -/
theorem Scr.gs {i : Nat} {o : Oper} {R : Value → Heap → Locs → Prop} (ho : ops[i]? = some o) (hi : rem.contains i = true) (hone : onlyB ops rem i = true) (hw : wantedL ops l o.guard = some true) (h : GS P r o l G L R)
    (hl : ∀ x ∈ X, ∀ d, dstAt ops x.i = some d → look d l = none)
    (K : ∀ v G' L', R v G' L' → (Wf G L → Wf G' L' → Sub (ov G L) (ov G' L')) ∧ Scr P r ops k Q n ds (rem.erase i) X (putL o.dst v l) G' L') : Scr P r ops k Q n ds rem X l G L := by
  have hi := List.contains_iff_mem.1 hi
  intro D hdst st wf H0 w0 a w S he hh hf hL hn m hm
  have hlen : (rem.erase i).length + 1 = rem.length := by rw [List.length_erase_of_mem hi]; have := List.length_pos_of_mem hi; omega
  induction m generalizing a w S with
  | zero => omega
  | succ m ih =>
    refine ⟨hh, fun hno => absurd (.inl hi) (hno i), fun j hj hr => ?_⟩
    by_cases hji : j = i
    · subst hji
      unfold wpOpIn
      simp only [ho]
      rw [if_pos (wantedL_ok hw he.2.1)]
      refine ⟨fun _ _ => trivial, ?_⟩
      rw [h.sem wf he.2.1 hh]
      refine uponIn_mono (h wf a w he.2.1 hh) ?_ (fun _ _ _ h => h.elim)
      rintro a' w' ⟨v, G', L', rfl, k2, k3, k4, k5⟩
      obtain ⟨hsub, hscr⟩ := K v G' L' k5
      rw [del_rem st hi]
      have hL1 : Lat P ops (ov G L) w0 (a.put o.dst v) w X S := hL.put D st hi ho (fun j' hj' => by cases hh' : edgeB o j' with | false => rfl | true => exact absurd (.inr hj') (hr o ho j' hh'))
      have hL2 : Lat P ops (ov G' L') w0 (a.put o.dst v) w' X S := Lat.mono (fun x hx s hs => by
        cases s with
        | none => exact hs
        | some b =>
          obtain ⟨m1, m2, m3, obj, m4, m5⟩ := hs
          have hlt := (Array.getElem?_eq_some_iff.1 m4).1
          obtain ⟨f1, f2⟩ := k4.2.2.2.2 b hlt m1
          exact ⟨f1, m2, m3, obj, by rw [f2]; exact m4, m5⟩) hL1
      exact AnyK.weaken (fun w hw => hw.sub (hsub wf k2)) (hscr D hdst st.erase k2 H0 w0 _ w' S (he.put o.dst v (dst_lt hdst ho)) k3 (hf.trans k4) hL2 hn m (by omega))
    · rcases hj with hj | hj
      · exfalso
        have := List.all_eq_true.1 hone j hj
        simp only [Bool.or_eq_true, beq_iff_eq, hji, false_or] at this
        have hlt : j < ops.size := Nat.lt_of_lt_of_le (st.lt j (List.mem_append_left _ hj)) D.le
        rw [Array.getElem?_eq_getElem hlt] at this
        simp only [List.any_eq_true] at this
        obtain ⟨i', hi', he'⟩ := this
        exact hr _ (Array.getElem?_eq_getElem hlt) i' he' (.inl hi')
      · have hsz : ∀ (i : Nat) (o : Oper), ops[i]? = some o → ∀ d, o.dst = some d → d < a.tmps.size := fun i o ho d hd => by rw [he.1]; exact dst_lt hdst ho d hd
        obtain ⟨o', x, obj, S', hx, hxi, ho', hg', hrun, hL', hc, hpd, hbs, hnd⟩ := late_now D hh hf.2.2.2.1 hsz (fun x hx => st.lt x.i (List.mem_append_right _ (List.mem_map.2 ⟨x, hx, rfl⟩)))
          (List.nodup_append.1 st.nodup).2.1 st.edgeX (fun b hb => (hL.blocks b hb).2) hL hj
        refine wpOpIn_late ho' (D.plain _ _ ho') hg' hrun ?_
        have hR : del (fun j => j ∈ rem ∨ pendR X S j) j = fun j => j ∈ rem ∨ pendR X S' j := by
          funext y
          simp only [del, eq_iff_iff]
          constructor
          · rintro ⟨h | h, hne⟩
            · exact .inl h
            · exact .inr ((hpd y).2 ⟨h, hne⟩)
          · rintro (h | h)
            · exact ⟨.inl h, fun e => by subst e; exact st.not_late h x hx hxi⟩
            · exact ⟨.inr ((hpd y).1 h).1, ((hpd y).1 h).2⟩
        rw [hR]
        refine ih _ _ S' ⟨?_, ?_, ?_⟩ (holds_alloc' hh _) (hf.trans (frame_alloc' hh _)) hL' (hnd hn) (by omega)
        · cases hd : o'.dst <;> simp [Act.put, he.1]
        · intro t u hu
          have hne : o'.dst ≠ some t := fun e => by
            have := hl x hx t (by rw [hxi]; simp [dstAt, ho', e])
            rw [this] at hu
            cases hu
          rw [(same_put o'.dst a _).2 t hne]
          exact he.2.1 t u hu
        · cases hd : o'.dst <;> exact he.2.2

/-- A region that draws its order. -/
theorem WP.draw {id : Nat} (k : Nat) (hm : P.follows .mixedOrders = true) (hok : drawOk ops k = true) (hd : dstB n ops = true) (h : Scr P r ops k Q n ds (List.range k) [] l G L) :
    WP P r (.region id ops true) Q ⟨n, l, ds⟩ G L := by
  intro wf a w he hh
  have D := drawOk_spec hok
  refine wpIn_region_any hm ?_
  have hAny := h D (dstB_ok hd) ⟨by simpa using List.nodup_range, by simp, by simp, by simp⟩ wf (ov G L) w a { w with drawn := w.drawn + 1 } [] he (hh.drawn _) (frame_drawn _ _ _ (Nat.le_succ _)) trivial (by simp) k (by simp [pends])
  have key : ∀ (m : Nat) (R : Nat → Prop) (a : Act) (w' : World), AnyK P r ops noQ (zOf P r ops k Q (ov G L) w) (Holds (ov G L)) m R a w' → AnyK P r ops (Ends Q (ov G L) w) (zOf P r ops k Q (ov G L) w) (Holds (ov G L)) m R a w' := by
    intro m
    induction m with
    | zero => exact fun R a w' h => h
    | succ m ih =>
      intro R a w' h
      refine ⟨h.1, h.2.1, fun i hi hr => ?_⟩
      have := h.2.2 i hi hr
      unfold wpOpIn at this ⊢
      split
      · rename_i e; rw [e] at this; exact ih _ _ _ this
      · rename_i o e
        rw [e] at this
        simp only [] at this
        split
        · rename_i hw; rw [if_pos hw] at this; exact ⟨this.1, uponIn_mono this.2 (fun a w hx => ih _ _ _ hx) (fun _ _ _ hx => hx.elim)⟩
        · rename_i hw; rw [if_neg hw] at this; exact ⟨this.1, ih _ _ _ this.2⟩
  refine any_of D k (fun j => j ∈ List.range k ∨ pendR [] [] j) (Array.replicate ops.size false) a _ (fun i hi => ?_) (by simp) (fun i hi => ⟨false, by simp [hi], by simp [pendR]⟩) (key _ _ _ _ hAny) ops.size (by have := D.le; omega)
  rcases hi with hi | hi
  · exact List.mem_range.1 hi
  · exact hi.elim

end
end Go.Proofs.YtfoakjdnopljmaaGreatDoor

set_option linter.unusedVariables false
set_option linter.unusedSimpArgs false
namespace Go.Proofs.YtfoakjdnopljmaaGreatDoor
open Go

/-! ### Facts on types, in the walk's form -/

/-- Is a type's value an aggregate, and how many cells has it? -/
def tyK (P : Program) (t : TypeId) : Option (Bool × Nat) :=
  match P.underlying t, P.info? t with
  | some (.struct _), some i => some (true, i.size)
  | some (.array _ _), some i => some (true, i.size)
  | some _, some i => some (false, i.size)
  | _, _ => none

/-- A struct's field: is it an aggregate, where, how many cells. -/
def fieldK (P : Program) (s : TypeId) (f : Nat) : Option (Bool × Nat × Nat) :=
  match P.underlying s with
  | some (.struct fs) => match fs[f]? with
    | some fd => match tyK P fd.type with
      | some (ag, n) => some (ag, fd.offset, n)
      | none => none
    | none => none
  | _ => none

/-- A slice's or an array's elements: (the array's length), the element's type, is it an aggregate, its cells. -/
def elemK (P : Program) (t : TypeId) : Option (Option Nat × TypeId × Bool × Nat) :=
  match P.underlying t with
  | some (.slice e) => (tyK P e).map fun (ag, n) => (none, e, ag, n)
  | some (.array len e) => (tyK P e).map fun (ag, n) => (some len, e, ag, n)
  | _ => none

def zeroK (P : Program) (t : TypeId) : Option Value := (P.info? t).bind (·.zero)

section
variable {P : Program} {w : World}

theorem tyK_info {t : TypeId} {ag : Bool} {n : Nat} (h : tyK P t = some (ag, n)) : ∃ i d, P.info? t = some i ∧ P.underlying t = some d ∧ i.size = n ∧
    (ag = match d with | .struct _ | .array _ _ => true | _ => false) := by
  unfold tyK at h
  split at h <;> simp_all

theorem run_sizeOf' {t : TypeId} {ag : Bool} {n : Nat} (h : tyK P t = some (ag, n)) : (sizeOf t).run P w = .ok n w := by
  obtain ⟨i, d, h1, _, h3, _⟩ := tyK_info h
  simp [sizeOf, run_typeInfo w h1, h3]

theorem run_isAgg {t : TypeId} {ag : Bool} {n : Nat} (h : tyK P t = some (ag, n)) : (isAgg t).run P w = .ok ag w := by
  obtain ⟨i, d, _, h2, _, h4⟩ := tyK_info h
  subst h4
  cases d <;> simp [isAgg, run_underlying h2]

theorem run_loadVar_one {t : TypeId} {n : Nat} {a : Addr} {v : Value} (ht : tyK P t = some (false, n)) (h : w.cell? a = some v) : (loadVar t a).run P w = .ok v w := by
  simp [loadVar, run_isAgg ht, h]

theorem run_loadVar_agg {t : TypeId} {n : Nat} {a : Addr} {l : List Value} (ht : tyK P t = some (true, n)) (hl : l.length = n) (h : ∀ j v, l[j]? = some v → w.cell? (a.add j) = some v) :
    (loadVar t a).run P w = .ok (.agg ⟨l⟩) w := by
  subst hl
  simp [loadVar, run_isAgg ht, run_sizeOf' ht, run_loadCells_list w a l h]

end


section
variable {P : Program}
theorem run_part {t : TypeId} {ag : Bool} {n : Nat} {cs : List Value} {off : Nat} {w : World} (ht : tyK P t = some (ag, n)) :
    ag = true → (part t ⟨cs⟩ off).run P w = .ok (.agg ⟨(cs.drop off).take n⟩) w := by
  rintro rfl
  simp [part, run_isAgg ht, run_sizeOf' ht]

theorem run_part_one {t : TypeId} {n : Nat} {cs : List Value} {off : Nat} {v : Value} {w : World} (ht : tyK P t = some (false, n)) (hv : cs[off]? = some v) :
    (part t ⟨cs⟩ off).run P w = .ok v w := by
  simp [part, run_isAgg ht, hv]

theorem noFroz00 (n : Nat) : NoFroz (0, 0) 0 n := fun i _ _ => by simp

theorem run_zero {t : TypeId} {z : Value} {w : World} (h : zeroK P t = some z) : (zeroValue t).run P w = .ok z w := by
  unfold zeroK at h
  cases hi : P.info? t with
  | none => simp [hi] at h
  | some i => simp [hi] at h; simp [zeroValue, run_typeInfo w hi, h]

theorem eqGuard_of {op : BinOp} {t : TypeId} {x y : Operand} {a b : Value} {w : World} (h : ∀ u, a ≠ .agg u) (h' : a ≠ .nilIface) : (eqGuard op t x y a b).run P w = .ok () w := by
  cases op <;> first | rfl | (cases a <;> first | rfl | exact absurd rfl (h _) | exact absurd rfl h')

theorem elemK_slice {t e : TypeId} {ag : Bool} {n : Nat} (h : elemK P t = some (none, e, ag, n)) : P.underlying t = some (.slice e) ∧ tyK P e = some (ag, n) := by
  unfold elemK at h
  split at h
  · rename_i e' hu
    cases hk : tyK P e' with
    | none => simp [hk] at h
    | some x => obtain ⟨ag', n'⟩ := x; simp [hk] at h; obtain ⟨rfl, rfl, rfl⟩ := h; exact ⟨hu, hk⟩
  · rename_i len e' hu
    cases hk : tyK P e' with
    | none => simp [hk] at h
    | some x => obtain ⟨ag', n'⟩ := x; simp [hk] at h
  · cases h

theorem elemK_array {t e : TypeId} {ag : Bool} {len n : Nat} (h : elemK P t = some (some len, e, ag, n)) : P.underlying t = some (.array len e) ∧ tyK P e = some (ag, n) := by
  unfold elemK at h
  split at h
  · rename_i e' hu
    cases hk : tyK P e' with
    | none => simp [hk] at h
    | some x => obtain ⟨ag', n'⟩ := x; simp [hk] at h
  · rename_i len' e' hu
    cases hk : tyK P e' with
    | none => simp [hk] at h
    | some x => obtain ⟨ag', n'⟩ := x; simp [hk] at h; obtain ⟨rfl, rfl, rfl, rfl⟩ := h; exact ⟨hu, hk⟩
  · cases h


end

/-! ### Writing cells -/

def wr : List Value → Nat → List Value → List Value
  | cs, _, [] => cs
  | cs, o, v :: vs => wr (cs.set o v) (o + 1) vs

theorem wr_length : ∀ (vs cs : List Value) (o : Nat), (wr cs o vs).length = cs.length
  | [], _, _ => rfl
  | v :: vs, cs, o => by simp [wr, wr_length vs]

theorem wr_get : ∀ (vs cs : List Value) (o i : Nat), o + vs.length ≤ cs.length → (wr cs o vs)[i]? = if o ≤ i ∧ i < o + vs.length then vs[i - o]? else cs[i]?
  | [], cs, o, i, _ => by simp [wr]; omega
  | v :: vs, cs, o, i, h => by
    simp only [List.length_cons] at h
    simp only [wr, List.length_cons]
    rw [wr_get vs _ _ _ (by simp; omega)]
    by_cases h1 : o + 1 ≤ i ∧ i < o + 1 + vs.length
    · rw [if_pos h1, if_pos (by omega)]
      have : i - o = (i - (o + 1)) + 1 := by omega
      rw [this, List.getElem?_cons_succ]
    · rw [if_neg h1]
      by_cases h2 : i = o
      · subst h2
        rw [if_pos (by omega), List.getElem?_set_self (by omega)]
        simp
      · rw [if_neg (by omega), List.getElem?_set_ne (by omega)]

def View.write : View → Nat → List Value → Option View
  | .cells cs e, o, vs => if o + vs.length ≤ cs.length then some (.cells (wr cs o vs) e) else none
  | .row off cs e N, o, vs => if off ≤ o ∧ o - off + vs.length ≤ cs.length then some (.row off (wr cs (o - off) vs) e N) else none
  | _, _, _ => none

def putRow (w : World) (b : Nat) (c : Array Value) (e : TypeId) (fr : Nat × Nat) : World := { w with heap := w.heap.setIfInBounds b (.cells c e fr) }

theorem putRow_other (w : World) (b : Nat) (c : Array Value) (e : TypeId) (fr : Nat × Nat) {k : Nat} (h : k ≠ b) : (putRow w b c e fr).heap[k]? = w.heap[k]? := by
  simp only [putRow]
  rw [Array.getElem?_setIfInBounds, if_neg (Ne.symm h)]

theorem putRow_same (w : World) (b : Nat) (c : Array Value) (e : TypeId) (fr : Nat × Nat) (h : b < w.heap.size) : (putRow w b c e fr).heap[b]? = some (.cells c e fr) := by
  simp only [putRow]
  rw [Array.getElem?_setIfInBounds, if_pos rfl, if_pos h]

theorem putRow_putRow (w : World) (b : Nat) (c c' : Array Value) (e : TypeId) (fr : Nat × Nat) : putRow (putRow w b c e fr) b c' e fr = putRow w b c' e fr := by
  simp only [putRow, Array.setIfInBounds_setIfInBounds]

theorem putRow_self {w : World} {b : Nat} {c : Array Value} {e : TypeId} {fr : Nat × Nat} (h : w.heap[b]? = some (.cells c e fr)) : putRow w b c e fr = w := by
  simp only [putRow]
  congr
  obtain ⟨h1, h2⟩ := Array.getElem?_eq_some_iff.1 h
  apply Array.ext
  · simp
  · intro j k1 k2
    rw [Array.getElem_setIfInBounds]
    split
    · rename_i e'; subst e'; exact h2.symm
    · rfl

section
variable {P : Program}

theorem run_store_row {w : World} {b i : Nat} {c : Array Value} {e : TypeId} {fr : Nat × Nat} {v : Value} (hb : w.heap[b]? = some (.cells c e fr)) (hi : i < c.size)
    (hf : ¬ (fr.1 ≤ i ∧ i < fr.2)) (ho : v.oneCell' = true) : (store ⟨b, i, none⟩ v).run P w = .ok () (putRow w b (c.setIfInBounds i v) e fr) := by
  have hc : w.cell? ⟨b, i, none⟩ = some c[i] := by simp [World.cell?, hb, hi]
  have hfz : w.frozen? ⟨b, i, none⟩ = false := by
    simp only [World.frozen?, hb]
    obtain ⟨lo, hi'⟩ := fr
    simp only [Bool.and_eq_false_iff, decide_eq_false_iff_not]
    simp only at hf
    omega
  rw [run_store P w ⟨b, i, none⟩ v .plain ho, hc]
  simp only [hfz, Bool.false_eq_true, if_false]
  congr 1
  simp only [World.setCell, putRow]
  congr 1
  have hlt := (Array.getElem?_eq_some_iff.1 hb).1
  have hge := (Array.getElem?_eq_some_iff.1 hb).2
  apply Array.ext
  · simp
  · intro j h1 h2
    rw [Array.getElem_modify, Array.getElem_setIfInBounds]
    split
    · rename_i e'
      subst e'
      rw [hge]
      simp
    · rfl

theorem run_storeCells_row {b : Nat} {e : TypeId} {fr : Nat × Nat} : ∀ (vs : List Value) (o i : Nat) (c : Array Value) (w : World), w.heap[b]? = some (.cells c e fr) → o + i + vs.length ≤ c.size →
    (∀ j, o + i ≤ j → j < o + i + vs.length → ¬ (fr.1 ≤ j ∧ j < fr.2)) → (∀ v ∈ vs, v.oneCell' = true) →
    (storeCells ⟨b, o, none⟩ vs i).run P w = .ok () (putRow w b ⟨wr c.toList (o + i) vs⟩ e fr)
  | [], o, i, c, w, hb, _, _, _ => by simp [storeCells, wr, putRow_self hb]
  | v :: vs, o, i, c, w, hb, hl, hf, ho => by
    simp only [List.length_cons] at hl hf
    have h1 := run_store_row (P := P) (i := o + i) (v := v) hb (by omega) (hf _ (by omega) (by omega)) (ho v (by simp))
    have hb' := putRow_same w b (c.setIfInBounds (o + i) v) e fr (Array.getElem?_eq_some_iff.1 hb).1
    have h2 := run_storeCells_row vs o (i + 1) (c.setIfInBounds (o + i) v) _ hb' (by simp; omega) (fun j h1 h2 => hf j (by omega) (by omega)) (fun v hv => ho v (by simp [hv]))
    rw [putRow_putRow] at h2
    simp only [storeCells, add_none, Sem.run_bind, h1, Result.andThen_ok, h2, wr]
    simp [Nat.add_assoc]

theorem run_storeVar_view {t : TypeId} {ag : Bool} {n : Nat} {H : Heap} {w : World} {b off : Nat} {V V' : View} {v : Value} (ht : tyK P t = some (ag, n)) (hh : Holds H w) (hb : H b = some V)
    (hn : v.cells.size = n) (ho : ∀ u ∈ v.cells.toList, u.oneCell' = true) (hw : V.write off v.cells.toList = some V') :
    ∃ w', (storeVar t ⟨b, off, none⟩ v).run P w = .ok () w' ∧ Holds (H.set b V') w' ∧ Frame H w (H.set b V') w' := by
  obtain ⟨o, hob, hok⟩ := hh b V hb
  have hlt := (Array.getElem?_eq_some_iff.1 hob).1
  have main : ∀ (c : Array Value) (e : TypeId) (fr : Nat × Nat), o = .cells c e fr → off + v.cells.toList.length ≤ c.size →
      (∀ j, off ≤ j → j < off + v.cells.toList.length → ¬ (fr.1 ≤ j ∧ j < fr.2)) → V'.ok (.cells ⟨wr c.toList off v.cells.toList⟩ e fr) →
      ∃ w', (storeVar t ⟨b, off, none⟩ v).run P w = .ok () w' ∧ Holds (H.set b V') w' ∧ Frame H w (H.set b V') w' := by
    rintro c e fr rfl hl hf hv
    refine ⟨putRow w b ⟨wr c.toList off v.cells.toList⟩ e fr, ?_, holds_put hh (fun k hk => putRow_other _ _ _ _ _ hk) ⟨_, putRow_same _ _ _ _ _ hlt, hv⟩,
      frame_put hb (by simp [putRow]) ⟨rfl, Nat.le_refl _⟩ rfl rfl (fun k hk => putRow_other _ _ _ _ _ hk)⟩
    have := run_storeCells_row (P := P) v.cells.toList off 0 c w hob (by omega) (fun j h1 h2 => hf j (by omega) (by omega)) ho
    simp only [Nat.add_zero] at this
    simp only [storeVar, Sem.run_bind, run_sizeOf' ht, Result.andThen_ok, hn, ne_eq, not_true_eq_false, if_false]
    exact this
  cases V with
  | obj o' => simp [View.write] at hw
  | map es => simp [View.write] at hw
  | cells cs e =>
    obtain ⟨fr, rfl, hfr⟩ := hok
    simp only [View.write] at hw
    split at hw
    · rename_i hl
      cases hw
      exact main _ _ _ rfl (by simpa using hl) (fun j h1 h2 => hfr j (by omega) (by omega)) ⟨fr, rfl, by rw [wr_length]; exact hfr⟩
    · cases hw
  | row ro cs e N =>
    obtain ⟨c, fr, rfl, h1, h2, h3, h4⟩ := hok
    simp only [View.write] at hw
    split at hw
    · rename_i hl
      cases hw
      refine main _ _ _ rfl (by omega) (fun j k1 k2 => h3 j (by omega) (by omega)) ⟨_, fr, rfl, by simp [wr_length, h1], by rw [wr_length]; exact h2, h3, fun i u hu => ?_⟩
      have hwl : off + v.cells.toList.length ≤ c.toList.length := by simp; simp at hl; omega
      have e1 := wr_get v.cells.toList c.toList off (ro + i) hwl
      have e2 := wr_get v.cells.toList cs (off - ro) i hl.2
      rw [e2] at hu
      rw [← Array.getElem?_toList]
      show (wr c.toList off v.cells.toList)[ro + i]? = some u
      rw [e1]
      split at hu
      · rename_i hc
        rw [if_pos (by omega)]
        rw [← hu]
        congr 1
        omega
      · rename_i hc
        rw [if_neg (by omega)]
        have := h4 i u hu
        simpa using this
    · cases hw

end

/-! ### Operations that only compute -/

def intBin (op : BinOp) (k : IntKind) (a b : Int) : Option Value :=
  match op with
  | .add => some (.int k (k.wrap (a + b)))
  | .sub => some (.int k (k.wrap (a - b)))
  | .mul => some (.int k (k.wrap (a * b)))
  | .and => some (.int k (k.wrap (BitVec.ofInt k.bits a &&& BitVec.ofInt k.bits b).toNat))
  | .or => some (.int k (k.wrap (BitVec.ofInt k.bits a ||| BitVec.ofInt k.bits b).toNat))
  | .xor => some (.int k (k.wrap (BitVec.ofInt k.bits a ^^^ BitVec.ofInt k.bits b).toNat))
  | .andNot => some (.int k (k.wrap (BitVec.ofInt k.bits a &&& ~~~ BitVec.ofInt k.bits b).toNat))
  | .eql => some (.bool (a == b))
  | .neq => some (.bool (a != b))
  | .lss => some (.bool (decide (a < b)))
  | .leq => some (.bool (decide (a ≤ b)))
  | .gtr => some (.bool (decide (a > b)))
  | .geq => some (.bool (decide (a ≥ b)))
  | _ => none

def strBin (op : BinOp) (a b : ByteArray) : Option Value :=
  match op with
  | .eql => some (.bool (a.toList == b.toList))
  | .neq => some (.bool (!(a.toList == b.toList)))
  | .lss => some (.bool (Op.bytesLess a.toList b.toList))
  | .leq => some (.bool (Op.bytesLess a.toList b.toList || a.toList == b.toList))
  | .gtr => some (.bool (!(Op.bytesLess a.toList b.toList || a.toList == b.toList)))
  | .geq => some (.bool (!(Op.bytesLess a.toList b.toList)))
  | _ => none


/-! ### What a program's types are, for the rules to find -/
class TyK (P : Program) (t : TypeId) (ag : outParam Bool) (n : outParam Nat) : Prop where
  h : tyK P t = some (ag, n)
class FieldK (P : Program) (s : TypeId) (f : Nat) (ag : outParam Bool) (fo n : outParam Nat) : Prop where
  h : fieldK P s f = some (ag, fo, n)
class ElemK (P : Program) (t : TypeId) (len : outParam (Option Nat)) (e : outParam TypeId) (ag : outParam Bool) (n : outParam Nat) : Prop where
  h : elemK P t = some (len, e, ag, n)
class ZeroK (P : Program) (t : TypeId) (z : outParam Value) : Prop where
  h : zeroK P t = some z
class Und (P : Program) (t : TypeId) (d : outParam TypeDesc) : Prop where
  h : P.underlying t = some d
class Conc (P : Program) (t : TypeId) : Prop where
  h : P.concrete t = true

end Go.Proofs.YtfoakjdnopljmaaGreatDoor

set_option linter.unusedVariables false
set_option linter.unusedSimpArgs false
namespace Go.Proofs.YtfoakjdnopljmaaGreatDoor
open Go

section
variable {P : Program} {r : Option Nat} {l : Slots} {G : Heap} {L : Locs} {d : Option Tmp} {ty : TypeId} {pos : String} {af : Array Edge} {g : Option (Nat × Bool)}

theorem PS.of {o : Op} {v : Value} (h : ∀ a w, SlotsOk l a → (execOp a.eval ⟨d, o, ty, pos, af, g⟩).run P w = .ok (.value v) w) : PS P ⟨d, o, ty, pos, af, g⟩ l G L v := fun _ a w hs _ => h a w hs

theorem PS.move {x : Operand} {v : Value} (hx : evL l x = some v) : PS P ⟨d, .move x, ty, pos, af, g⟩ l G L v := .of fun a w he => by simp [execOp, he.eval hx]
theorem PS.assign {x : Operand} {v : Value} (hx : evL l x = some v) : PS P ⟨d, .assign x, ty, pos, af, g⟩ l G L v := .of fun a w he => by simp [execOp, he.eval hx]
theorem PS.pick {c x y : Operand} {b : Bool} {v : Value} (hc : evL l c = some (.bool b)) (hv : (bif b then evL l x else evL l y) = some v) : PS P ⟨d, .pick c x y, ty, pos, af, g⟩ l G L v :=
  .of fun a w he => by
    cases b
    · simp [execOp, he.eval hc, he.eval (x := y) hv, asBool]
    · simp [execOp, he.eval hc, he.eval (x := x) hv, asBool]

theorem PS.load {t : TypeId} {x : Operand} {b off n : Nat} {V : View} {v : Value} [ht : TyK P t false n] (hx : evL l x = some (.pointer (some ⟨b, off, none⟩))) (hb : InR G L b V) (hv : V.cell off = some v) :
    PS P ⟨d, .load t x, ty, pos, af, g⟩ l G L v := fun wf a w he hh => by simp [execOp, he.eval hx, Instr.loadAt, Instr.sureAddr, run_loadVar_one ht.h (hh.cell? (hb wf) hv)]

theorem PS.loadAgg {t : TypeId} {x : Operand} {b off n : Nat} {V : View} {cs : List Value} [ht : TyK P t true n] (hx : evL l x = some (.pointer (some ⟨b, off, none⟩))) (hb : InR G L b V) (hv : V.take off n = some cs) :
    PS P ⟨d, .load t x, ty, pos, af, g⟩ l G L (.agg ⟨cs⟩) := fun wf a w he hh => by
  obtain ⟨h1, h2⟩ := View.take_spec hv
  have := run_loadVar_agg (P := P) (w := w) (a := ⟨b, off, none⟩) ht.h h1 (fun j v hj => by rw [add_none]; exact hh.cell? (hb wf) (h2 j v hj))
  simp [execOp, he.eval hx, Instr.loadAt, Instr.sureAddr, this]

theorem PS.fieldAddr {s : TypeId} {x : Operand} {f b off fo n : Nat} {ag : Bool} [hf : FieldK P s f ag fo (n + 1)] (hx : evL l x = some (.pointer (some ⟨b, off, none⟩))) :
    PS P ⟨d, .fieldAddr s x f, ty, pos, af, g⟩ l G L (.pointer (some ⟨b, off + fo, none⟩)) := .of fun a w he => by
  have hf := hf.h
  unfold fieldK at hf
  split at hf
  · rename_i fs hu
    split at hf
    · rename_i fd hfd
      split at hf
      · rename_i ag' n' hk
        cases hf
        simp [execOp, he.eval hx, Instr.fieldAt, run_underlying hu, hfd, Instr.sureAddr, fieldPlace, run_sizeOf' hk, add_none]
      · cases hf
    · cases hf
  · cases hf

theorem PS.indexAddr {t e : TypeId} {x y : Operand} {b off len cap n : Nat} {ag : Bool} {k : IntKind} {i : Int} [ht : ElemK P t none e ag n] (hx : evL l x = some (.slice (some ⟨b, off, none⟩) len cap)) (hy : evL l y = some (.int k i))
    (h0 : 0 ≤ i) (hi : i < len) : PS P ⟨d, .indexAddr t x y, ty, pos, af, g⟩ l G L (.pointer (some ⟨b, off + i.toNat * n, none⟩)) := .of fun a w he => by
  obtain ⟨h1, h2⟩ := elemK_slice ht.h
  simp [execOp, he.eval hx, he.eval hy, Instr.indexAt, asIntOf, run_underlying h1, h0, hi, run_sizeOf' h2, add_none]

theorem PS.indexAddrArr {t e : TypeId} {x y : Operand} {b off len n : Nat} {ag : Bool} {k : IntKind} {i : Int} [ht : ElemK P t (some len) e ag n] (hx : evL l x = some (.pointer (some ⟨b, off, none⟩))) (hy : evL l y = some (.int k i))
    (h0 : 0 ≤ i) (hi : i < len) : PS P ⟨d, .indexAddr t x y, ty, pos, af, g⟩ l G L (.pointer (some ⟨b, off + i.toNat * n, none⟩)) := .of fun a w he => by
  obtain ⟨h1, h2⟩ := elemK_array ht.h
  simp [execOp, he.eval hx, he.eval hy, Instr.indexAt, asIntOf, run_underlying h1, h0, hi, run_sizeOf' h2, add_none, Instr.sureAddr]

theorem PS.indexStr {t : TypeId} {x y : Operand} {s : ByteArray} {k : IntKind} {i : Int} {c : UInt8} [ht : Und P t .string] (hx : evL l x = some (.string s)) (hy : evL l y = some (.int k i))
    (h0 : 0 ≤ i) (hc : s.data.toList[i.toNat]? = some c) : PS P ⟨d, .index t x y, ty, pos, af, g⟩ l G L (.int .u8 c.toNat) := .of fun a w he => by
  have hi : i.toNat < s.size := by have := (List.getElem?_eq_some_iff.1 hc).1; simpa using this
  have hs : s[i.toNat]? = some c := by
    rw [getElem?_pos s i.toNat hi]
    have h2 := (List.getElem?_eq_some_iff.1 hc).2
    rw [← h2]
    rfl
  simp [execOp, he.eval hx, he.eval hy, Instr.index, asIntOf, run_underlying ht.h, h0, hs]

theorem PS.indexArr {t e : TypeId} {x y : Operand} {cs : List Value} {len n : Nat} {k : IntKind} {i : Int} {v : Value} [ht : ElemK P t (some len) e false n] (hx : evL l x = some (.agg ⟨cs⟩)) (hy : evL l y = some (.int k i))
    (h0 : 0 ≤ i) (hi : i < len) (hv : cs[i.toNat * n]? = some v) : PS P ⟨d, .index t x y, ty, pos, af, g⟩ l G L v := .of fun a w he => by
  obtain ⟨h1, h2⟩ := elemK_array ht.h
  simp [execOp, he.eval hx, he.eval hy, Instr.index, asIntOf, run_underlying h1, h0, hi, run_sizeOf' h2, run_part_one h2 hv]

theorem PS.indexArrAgg {t e : TypeId} {x y : Operand} {cs : List Value} {len n : Nat} {k : IntKind} {i : Int} [ht : ElemK P t (some len) e true n] (hx : evL l x = some (.agg ⟨cs⟩)) (hy : evL l y = some (.int k i))
    (h0 : 0 ≤ i) (hi : i < len) : PS P ⟨d, .index t x y, ty, pos, af, g⟩ l G L (.agg ⟨(cs.drop (i.toNat * n)).take n⟩) := .of fun a w he => by
  obtain ⟨h1, h2⟩ := elemK_array ht.h
  simp [execOp, he.eval hx, he.eval hy, Instr.index, asIntOf, run_underlying h1, h0, hi, run_sizeOf' h2, run_part h2 rfl]

theorem PS.field {s : TypeId} {x : Operand} {f fo n : Nat} {cs : List Value} {v : Value} [hf : FieldK P s f false fo n] (hx : evL l x = some (.agg ⟨cs⟩)) (hv : cs[fo]? = some v) :
    PS P ⟨d, .field s x f, ty, pos, af, g⟩ l G L v := .of fun a w he => by
  have hf := hf.h
  unfold fieldK at hf
  split at hf
  · rename_i fs hu
    split at hf
    · rename_i fd hfd
      split at hf
      · rename_i ag' n' hk
        cases hf
        simp [execOp, he.eval hx, Instr.field, run_underlying hu, hfd, asAgg, run_part_one hk hv]
      · cases hf
    · cases hf
  · cases hf

theorem PS.fieldAgg {s : TypeId} {x : Operand} {f fo n : Nat} {cs : List Value} [hf : FieldK P s f true fo n] (hx : evL l x = some (.agg ⟨cs⟩)) :
    PS P ⟨d, .field s x f, ty, pos, af, g⟩ l G L (.agg ⟨(cs.drop fo).take n⟩) := .of fun a w he => by
  have hf := hf.h
  unfold fieldK at hf
  split at hf
  · rename_i fs hu
    split at hf
    · rename_i fd hfd
      split at hf
      · rename_i ag' n' hk
        cases hf
        simp [execOp, he.eval hx, Instr.field, run_underlying hu, hfd, asAgg, run_part hk rfl]
      · cases hf
    · cases hf
  · cases hf

theorem PS.binInt {op : BinOp} {t u : TypeId} {x y : Operand} {k : IntKind} {a b : Int} {v : Value} (hx : evL l x = some (.int k a)) (hy : evL l y = some (.int k b)) (hv : intBin op k a b = some v) :
    PS P ⟨d, .binOp op t x y u, ty, pos, af, g⟩ l G L v := .of fun act w he => by
  simp only [execOp, he.eval hx, he.eval hy, Sem.run_bind, eqGuard_of (P := P) (op := op) (t := t) (x := x) (y := y) (b := .int _ b) (w := w) (a := .int _ a) (by simp) (by simp), Result.andThen_ok]
  cases op <;> simp [intBin] at hv <;> subst hv <;> simp [binOp, Op.intArith, Op.intBits, Op.intCmp, Sem.run_pure]

/-- Sums and the like that stay within their kind. -/
theorem PS.arith {op : BinOp} {t u : TypeId} {x y : Operand} {k : IntKind} {a b c : Int} (hx : evL l x = some (.int k a)) (hy : evL l y = some (.int k b))
    (hop : (op = .add ∧ c = a + b) ∨ (op = .sub ∧ c = a - b) ∨ (op = .mul ∧ c = a * b)) (hc : k.wrap c = c) : PS P ⟨d, .binOp op t x y u, ty, pos, af, g⟩ l G L (.int k c) := by
  rcases hop with ⟨rfl, rfl⟩ | ⟨rfl, rfl⟩ | ⟨rfl, rfl⟩ <;> exact PS.binInt hx hy (by simp [intBin, hc])

theorem PS.quo {t u : TypeId} {x y : Operand} {k : IntKind} {a b : Int} (hx : evL l x = some (.int k a)) (hy : evL l y = some (.int k b)) (hb : b ≠ 0) :
    PS P ⟨d, .binOp .quo t x y u, ty, pos, af, g⟩ l G L (.int k (k.wrap (a.tdiv b))) := .of fun act w he => by
  simp only [execOp, he.eval hx, he.eval hy, Sem.run_bind, eqGuard_of (P := P) (op := .quo) (t := t) (x := x) (y := y) (b := .int _ b) (w := w) (a := .int _ a) (by simp) (by simp), Result.andThen_ok]
  simp [binOp, Op.intDiv, hb]

theorem PS.rem {t u : TypeId} {x y : Operand} {k : IntKind} {a b : Int} (hx : evL l x = some (.int k a)) (hy : evL l y = some (.int k b)) (hb : b ≠ 0) :
    PS P ⟨d, .binOp .rem t x y u, ty, pos, af, g⟩ l G L (.int k (a.tmod b)) := .of fun act w he => by
  simp only [execOp, he.eval hx, he.eval hy, Sem.run_bind, eqGuard_of (P := P) (op := .rem) (t := t) (x := x) (y := y) (b := .int _ b) (w := w) (a := .int _ a) (by simp) (by simp), Result.andThen_ok]
  simp [binOp, Op.intDiv, hb]

theorem PS.shl {t u : TypeId} {x y : Operand} {k k' : IntKind} {a b : Int} (hx : evL l x = some (.int k a)) (hy : evL l y = some (.int k' b)) (hb : 0 ≤ b) :
    PS P ⟨d, .binOp .shl t x y u, ty, pos, af, g⟩ l G L (.int k (k.wrap (a * 2 ^ (min b.toNat k.bits)))) := .of fun act w he => by
  simp only [execOp, he.eval hx, he.eval hy, Sem.run_bind, eqGuard_of (P := P) (op := .shl) (t := t) (x := x) (y := y) (b := .int _ b) (w := w) (a := .int _ a) (by simp) (by simp), Result.andThen_ok]
  simp [binOp, Op.shift, show ¬ b < 0 by omega]

theorem PS.shr {t u : TypeId} {x y : Operand} {k k' : IntKind} {a b : Int} (hx : evL l x = some (.int k a)) (hy : evL l y = some (.int k' b)) (hb : 0 ≤ b) :
    PS P ⟨d, .binOp .shr t x y u, ty, pos, af, g⟩ l G L (.int k (a.fdiv (2 ^ (min b.toNat k.bits)))) := .of fun act w he => by
  simp only [execOp, he.eval hx, he.eval hy, Sem.run_bind, eqGuard_of (P := P) (op := .shr) (t := t) (x := x) (y := y) (b := .int _ b) (w := w) (a := .int _ a) (by simp) (by simp), Result.andThen_ok]
  simp [binOp, Op.shift, show ¬ b < 0 by omega]

theorem PS.binStr {op : BinOp} {t u : TypeId} {x y : Operand} {a b : ByteArray} {v : Value} (hx : evL l x = some (.string a)) (hy : evL l y = some (.string b)) (hv : strBin op a b = some v) :
    PS P ⟨d, .binOp op t x y u, ty, pos, af, g⟩ l G L v := .of fun act w he => by
  simp only [execOp, he.eval hx, he.eval hy, Sem.run_bind, eqGuard_of (P := P) (op := op) (t := t) (x := x) (y := y) (b := .string b) (w := w) (a := .string a) (by simp) (by simp), Result.andThen_ok]
  cases op <;> simp [strBin] at hv <;> subst hv <;> simp [binOp, Op.stringOp, Sem.run_pure]

theorem PS.cat {t u : TypeId} {x y : Operand} {a b : ByteArray} (hx : evL l x = some (.string a)) (hy : evL l y = some (.string b)) (hl : a.size + b.size ≤ 9223372036854775807) :
    PS P ⟨d, .binOp .add t x y u, ty, pos, af, g⟩ l G L (.string (a ++ b)) := .of fun act w he => by
  simp only [execOp, he.eval hx, he.eval hy, Sem.run_bind, eqGuard_of (P := P) (op := .add) (t := t) (x := x) (y := y) (b := .string b) (w := w) (a := .string a) (by simp) (by simp), Result.andThen_ok]
  simp [binOp, run_string_add_sum w a b hl]

/-- '==' and '!=' by what 'Op.equal' tells. -/
theorem PS.eqOf {op : BinOp} {t u : TypeId} {x y : Operand} {a b : Value} {e : Bool} (hx : evL l x = some a) (hy : evL l y = some b) (hg : ∀ w, (eqGuard op t x y a b).run P w = .ok () w)
    (hbin : ∀ w, (binOp op t a b).run P w = .ok (.bool e) w) : PS P ⟨d, .binOp op t x y u, ty, pos, af, g⟩ l G L (.bool e) := .of fun act w he => by
  simp only [execOp, he.eval hx, he.eval hy, Sem.run_bind, hg, Result.andThen_ok, hbin]
  rfl

/-- What '==' and '!=' make of 'the same'. -/
def eqRes (op : BinOp) (e : Bool) : Option Bool := match op with | .eql => some e | .neq => some !e | _ => none

theorem eqRes_run {op : BinOp} {t : TypeId} {a b : Value} {e x : Bool} (h : eqRes op e = some x) (hne : ∀ k n k' m, ¬ (a = .int k n ∧ b = .int k' m)) (hs : ∀ s u, ¬ (a = .string s ∧ b = .string u)) (hf : ∀ k n k' m, ¬ (a = .float k n ∧ b = .float k' m))
    (hc : ∀ k n p k' m q, ¬ (a = .complex k n p ∧ b = .complex k' m q)) (he : ∀ w, (Op.equal t a b).run P w = .ok e w) (w : World) : (binOp op t a b).run P w = .ok (.bool x) w := by
  cases op <;> simp only [eqRes, Option.some.injEq, reduceCtorEq] at h
  · subst h
    unfold binOp
    split <;> first
      | exact absurd ⟨rfl, rfl⟩ (hne _ _ _ _)
      | exact absurd ⟨rfl, rfl⟩ (hs _ _)
      | exact absurd ⟨rfl, rfl⟩ (hf _ _ _ _)
      | exact absurd ⟨rfl, rfl⟩ (hc _ _ _ _ _ _)
      | (simp [he]; done)
      | simp_all
  · subst h
    unfold binOp
    split <;> first
      | exact absurd ⟨rfl, rfl⟩ (hne _ _ _ _)
      | exact absurd ⟨rfl, rfl⟩ (hs _ _)
      | exact absurd ⟨rfl, rfl⟩ (hf _ _ _ _)
      | exact absurd ⟨rfl, rfl⟩ (hc _ _ _ _ _ _)
      | (simp [he]; done)
      | simp_all

theorem PS.eqBool {op : BinOp} {t u : TypeId} {x y : Operand} {a b e : Bool} [ht : Und P t .bool] (hx : evL l x = some (.bool a)) (hy : evL l y = some (.bool b)) (hop : eqRes op (a == b) = some e) :
    PS P ⟨d, .binOp op t x y u, ty, pos, af, g⟩ l G L (.bool e) := by
  refine PS.eqOf (a := .bool a) (b := .bool b) hx hy (fun w => eqGuard_of (by simp) (by simp)) (fun w => eqRes_run hop (by simp) (by simp) (by simp) (by simp) (fun w => ?_) w)
  have key : ∀ n, (Op.equalIn (n + 1) t (.bool a) (.bool b)).run P w = .ok (a == b) w := fun n => by simp [Op.equalIn, run_underlying ht.h]
  exact key 9999

theorem PS.eqNil {op : BinOp} {t u te : TypeId} {x y : Operand} {a b : Option Addr} {e : Bool} [ht : Und P t (.pointer te)] (hx : evL l x = some (.pointer a)) (hy : evL l y = some (.pointer b)) (hn : (a.isNone || b.isNone) = true)
    (hop : eqRes op (a.isNone && b.isNone) = some e) : PS P ⟨d, .binOp op t x y u, ty, pos, af, g⟩ l G L (.bool e) := by
  refine PS.eqOf (a := .pointer a) (b := .pointer b) hx hy (fun w => eqGuard_of (by simp) (by simp)) (fun w => eqRes_run hop (by simp) (by simp) (by simp) (by simp) (fun w => ?_) w)
  have key : ∀ n, (Op.equalIn (n + 1) t (.pointer a) (.pointer b)).run P w = .ok (a.isNone && b.isNone) w := fun n => by
    cases a with
    | none => cases b <;> simp [Op.equalIn, run_underlying ht.h]
    | some a =>
      cases b with
      | none => simp [Op.equalIn, run_underlying ht.h]
      | some b => simp at hn
  exact key 9999

/-- A slice, a map or a function against nil. -/
theorem PS.eqNilSlice {op : BinOp} {t u te : TypeId} {x y : Operand} {a b : Option Addr} {n c n' c' : Nat} {e : Bool} [ht : Und P t (.slice te)] (hx : evL l x = some (.slice a n c)) (hy : evL l y = some (.slice b n' c'))
    (hn : (a.isNone || b.isNone) = true) (hop : eqRes op (a.isNone && b.isNone) = some e) : PS P ⟨d, .binOp op t x y u, ty, pos, af, g⟩ l G L (.bool e) := by
  refine PS.eqOf (a := .slice a n c) (b := .slice b n' c') hx hy (fun w => eqGuard_of (by simp) (by simp)) (fun w => eqRes_run hop (by simp) (by simp) (by simp) (by simp) (fun w => ?_) w)
  have key : ∀ m, (Op.equalIn (m + 1) t (.slice a n c) (.slice b n' c')).run P w = .ok (a.isNone && b.isNone) w := fun m => by
    cases a with
    | none => cases b <;> simp [Op.equalIn, run_underlying ht.h]
    | some a =>
      cases b with
      | none => simp [Op.equalIn, run_underlying ht.h]
      | some b => simp at hn
  exact key 9999

theorem PS.eqNilMap {op : BinOp} {t u tk te : TypeId} {x y : Operand} {a b : Option Nat} {e : Bool} [ht : Und P t (.map tk te)] (hx : evL l x = some (.map a)) (hy : evL l y = some (.map b))
    (hn : (a.isNone || b.isNone) = true) (hop : eqRes op (a.isNone && b.isNone) = some e) : PS P ⟨d, .binOp op t x y u, ty, pos, af, g⟩ l G L (.bool e) := by
  refine PS.eqOf (a := .map a) (b := .map b) hx hy (fun w => eqGuard_of (by simp) (by simp)) (fun w => eqRes_run hop (by simp) (by simp) (by simp) (by simp) (fun w => ?_) w)
  have key : ∀ m, (Op.equalIn (m + 1) t (.map a) (.map b)).run P w = .ok (a.isNone && b.isNone) w := fun m => by
    cases a with
    | none => cases b <;> simp [Op.equalIn, run_underlying ht.h]
    | some a =>
      cases b with
      | none => simp [Op.equalIn, run_underlying ht.h]
      | some b => simp at hn
  exact key 9999

theorem PS.eqFuncNil {op : BinOp} {t u : TypeId} {x y : Operand} {fn : Fn} {f c : Array Value} {e : Bool} {ps rs : Array TypeId} {vd : Bool} [ht : Und P t (.func ps rs vd)] (hx : evL l x = some (.func fn f c)) (hy : evL l y = some .nilFunc)
    (hop : eqRes op false = some e) : PS P ⟨d, .binOp op t x y u, ty, pos, af, g⟩ l G L (.bool e) := by
  refine PS.eqOf (a := .func fn f c) (b := .nilFunc) hx hy (fun w => eqGuard_of (by simp) (by simp)) (fun w => eqRes_run hop (by simp) (by simp) (by simp) (by simp) (fun w => ?_) w)
  have key : ∀ m, (Op.equalIn (m + 1) t (.func fn f c) .nilFunc).run P w = .ok false w := fun m => by simp [Op.equalIn, run_underlying ht.h]
  exact key 9999

theorem PS.eqNilFunc {op : BinOp} {t u : TypeId} {x y : Operand} {e : Bool} {ps rs : Array TypeId} {vd : Bool} [ht : Und P t (.func ps rs vd)] (hx : evL l x = some .nilFunc) (hy : evL l y = some .nilFunc)
    (hop : eqRes op true = some e) : PS P ⟨d, .binOp op t x y u, ty, pos, af, g⟩ l G L (.bool e) := by
  refine PS.eqOf (a := .nilFunc) (b := .nilFunc) hx hy (fun w => eqGuard_of (by simp) (by simp)) (fun w => eqRes_run hop (by simp) (by simp) (by simp) (by simp) (fun w => ?_) w)
  have key : ∀ m, (Op.equalIn (m + 1) t .nilFunc .nilFunc).run P w = .ok true w := fun m => by simp [Op.equalIn, run_underlying ht.h]
  exact key 9999

theorem PS.eqIfaceNil {op : BinOp} {t u ti : TypeId} {x y : Operand} {v : Value} {e : Bool} {ms : Array (String × TypeId)} [ht : Und P t (.interface ms)] (hx : evL l x = some (.iface ti v)) (hy : evL l y = some .nilIface)
    (hop : eqRes op false = some e) : PS P ⟨d, .binOp op t x y u, ty, pos, af, g⟩ l G L (.bool e) := by
  refine PS.eqOf (a := .iface ti v) (b := .nilIface) hx hy (fun w => eqGuard_of (by simp) (by simp)) (fun w => eqRes_run hop (by simp) (by simp) (by simp) (by simp) (fun w => ?_) w)
  have key : ∀ m, (Op.equalIn (m + 1) t (.iface ti v) .nilIface).run P w = .ok false w := fun m => by simp [Op.equalIn, run_underlying ht.h]
  exact key 9999

theorem PS.not {t : TypeId} {x : Operand} {a : Bool} (hx : evL l x = some (.bool a)) : PS P ⟨d, .unOp .not t x, ty, pos, af, g⟩ l G L (.bool !a) := .of fun act w he => by simp [execOp, he.eval hx, Op.unary]

theorem PS.neg {t : TypeId} {x : Operand} {k : IntKind} {a : Int} (hx : evL l x = some (.int k a)) : PS P ⟨d, .unOp .neg t x, ty, pos, af, g⟩ l G L (.int k (k.wrap (0 - a))) :=
  .of fun act w he => by simp [execOp, he.eval hx, Op.unary, Op.intArith]

theorem PS.compl {t : TypeId} {x : Operand} {k : IntKind} {a : Int} (hx : evL l x = some (.int k a)) :
    PS P ⟨d, .unOp .xor t x, ty, pos, af, g⟩ l G L (.int k (k.wrap (BitVec.ofInt k.bits (if k.signed then -1 else k.max) ^^^ BitVec.ofInt k.bits a).toNat)) :=
  .of fun act w he => by simp [execOp, he.eval hx, Op.unary, Op.intBits]

theorem PS.convInt {src dst : TypeId} {x : Operand} {k k' : IntKind} {a : Int} {sd : TypeDesc} [hs : Und P src sd] [hd : Und P dst (.int k')] (hx : evL l x = some (.int k a)) :
    PS P ⟨d, .convert src dst x, ty, pos, af, g⟩ l G L (.int k' (k'.wrap a)) := .of fun act w he => by simp [execOp, he.eval hx, convert, run_underlying hs.h, run_underlying hd.h, Conv.intToInt]

theorem PS.convStr {src dst : TypeId} {x : Operand} {a : ByteArray} {sd : TypeDesc} [hs : Und P src sd] [hd : Und P dst .string] (hx : evL l x = some (.string a)) :
    PS P ⟨d, .convert src dst x, ty, pos, af, g⟩ l G L (.string a) := .of fun act w he => by simp [execOp, he.eval hx, convert, run_underlying hs.h, run_underlying hd.h]

theorem PS.extract {x : Operand} {i : Nat} {vs : List Value} {v : Value} (hx : evL l x = some (.tuple ⟨vs⟩)) (hv : vs[i]? = some v) : PS P ⟨d, .extract x i, ty, pos, af, g⟩ l G L v :=
  .of fun act w he => by simp [execOp, he.eval hx, Instr.extract, hv]

theorem evals {l : Slots} {act : Act} (he : SlotsOk l act) : ∀ (xs : List Operand) (vs : List Value), xs.map (evL l) = vs.map some → xs.map act.eval = vs
  | [], [], _ => rfl
  | [], _ :: _, h => by simp at h
  | _ :: _, [], h => by simp at h
  | x :: xs, v :: vs, h => by
    simp only [List.map_cons, List.cons.injEq] at h
    simp [he.eval h.1, evals he xs vs h.2]

/-- Operands' values, one behind the other. -/
def evs (l : Slots) : List Operand → Option (List Value)
  | [] => some []
  | x :: xs => match evL l x, evs l xs with
    | some v, some vs => some (v :: vs)
    | _, _ => none

theorem evs_spec {l : Slots} {act : Act} (he : SlotsOk l act) : ∀ {xs : List Operand} {vs : List Value}, evs l xs = some vs → xs.map act.eval = vs
  | [], vs, h => by simp only [evs, Option.some.injEq] at h; subst h; rfl
  | x :: xs, vs, h => by
    simp only [evs] at h
    split at h
    · rename_i v us h1 h2
      cases h
      simp [he.eval h1, evs_spec he h2]
    · cases h

theorem evs_arr {l : Slots} {act : Act} (he : SlotsOk l act) {xs : Array Operand} {vs : List Value} (h : evs l xs.toList = some vs) : xs.map act.eval = ⟨vs⟩ := by
  rw [← evs_spec he h]; simp [← Array.toList_map]

theorem PS.makeFunc {fn : Fn} {first captured : Array Operand} {l1 l2 : List Value} (h1 : evs l first.toList = some l1) (h2 : evs l captured.toList = some l2) :
    PS P ⟨d, .makeFunc fn first captured, ty, pos, af, g⟩ l G L (.func fn ⟨l1⟩ ⟨l2⟩) := .of fun act w he => by simp [execOp, Instr.makeFunc, evs_arr he h1, evs_arr he h2]

/-- A value that no nil check stops at. -/
def nonNil : Value → Bool
  | .pointer (some _) => true
  | .func (.func _) _ _ => true
  | .iface _ _ => true
  | _ => false

theorem PS.nilCheck {x : Operand} {v : Value} (hx : evL l x = some v) (hv : nonNil v = true) : PS P ⟨d, .nilCheck x, ty, pos, af, g⟩ l G L v := .of fun act w he => by
  simp only [execOp, he.eval hx]
  cases v with
  | pointer a => cases a <;> first | rfl | cases hv
  | func fn f c => cases fn <;> first | rfl | cases hv
  | iface t v => rfl
  | _ => cases hv

theorem PS.makeInterface {t : TypeId} {x : Operand} {v : Value} [ht : Conc P t] (hx : evL l x = some v) : PS P ⟨d, .makeInterface t x, ty, pos, af, g⟩ l G L (.iface t v) :=
  .of fun act w he => by simp [execOp, he.eval hx, run_makeInterface (P := P) (w := w) t v ht.h]

end
end Go.Proofs.YtfoakjdnopljmaaGreatDoor

set_option linter.unusedVariables false
set_option linter.unusedSimpArgs false
namespace Go.Proofs.YtfoakjdnopljmaaGreatDoor
open Go

/-! ### Calls -/

def Enters (P : Program) (f : FuncId) : Prop := ∀ args w, (callFunc f args).run P w = .ok (.enter f args) w

/-- A call: it has a body; the result, and the views behind it. -/
def Ev (P : Program) (f : FuncId) (args : List Value) (H : Heap) (Q : Value → Heap → Prop) : Prop :=
  Enters P f ∧ ∀ w, Holds H w → CallsIn Fence.wide 0 P f ⟨args⟩ w fun e w' => ∃ v H', e = .returned v ∧ Holds H' w' ∧ Frame H w H' w' ∧ Q v H'

theorem Ev.mono {P : Program} {f : FuncId} {args : List Value} {H : Heap} {Q Q' : Value → Heap → Prop} (h : Ev P f args H Q) (hq : ∀ v H', Q v H' → Q' v H') :
    Ev P f args H Q' :=
  ⟨h.1, fun w hw => (h.2 w hw).mono fun _ _ ⟨v, H', h1, h2, h3, h4⟩ => ⟨v, H', h1, h2, h3, hq _ _ h4⟩⟩

/-- A call that leaves all as it was. -/
abbrev EvP (P : Program) (f : FuncId) (args : List Value) (H : Heap) (v : Value) : Prop := Ev P f args H fun u H' => u = v ∧ H' = H

def argsEnv : Nat → List Value → List (Nat × Value)
  | _, [] => []
  | i, v :: vs => (i, v) :: argsEnv (i + 1) vs

/-- What a result variable holds. -/
def ResOk (P : Program) (E : Env) (G : Heap) (L : Locs) (rv : ResultVar) (v : Value) : Prop :=
  match rv with
  | .tmp t => look t E.l = some v
  | .cell a t => ∃ b off V ag n, look a E.l = some (.pointer (some ⟨b, off, none⟩)) ∧ InR G L b V ∧ tyK P t = some (ag, n) ∧
      (bif ag then ∃ l, V.take off n = some l ∧ v = .agg ⟨l⟩ else V.cell off = some v)

theorem ResOk.cellAt {P : Program} {E : Env} {G : Heap} {L : Locs} {a : Tmp} {t : TypeId} {b off n : Nat} {V : View} {v : Value} (ha : look a E.l = some (.pointer (some ⟨b, off, none⟩))) (hb : InR G L b V)
    (ht : tyK P t = some (false, n)) (hv : V.cell off = some v) : ResOk P E G L (.cell a t) v := ⟨b, off, V, false, n, ha, hb, ht, hv⟩

theorem ResOk.aggAt {P : Program} {E : Env} {G : Heap} {L : Locs} {a : Tmp} {t : TypeId} {b off n : Nat} {V : View} {l : List Value} (ha : look a E.l = some (.pointer (some ⟨b, off, none⟩))) (hb : InR G L b V)
    (ht : tyK P t = some (true, n)) (hv : V.take off n = some l) : ResOk P E G L (.cell a t) (.agg ⟨l⟩) := ⟨b, off, V, true, n, ha, hb, ht, l, hv, rfl⟩

def tupled : List Value → Value
  | [v] => v
  | vs => .tuple ⟨vs⟩

def AllRes (P : Program) (E : Env) (G : Heap) (L : Locs) : List ResultVar → List Value → Prop
  | [], [] => True
  | rv :: rvs, v :: vs => ResOk P E G L rv v ∧ AllRes P E G L rvs vs
  | _, _ => False

/-- What a function's body owes: the results, and the views that it leaves. -/
def RetQ (P : Program) (fn : Func) (Q : Value → Heap → Prop) : Post := fun x E G L =>
  (x = .normal ∨ x = .ret) ∧ ∃ vs H', AllRes P E G L fn.results.toList vs ∧ (Wf G L → Sub H' (ov G L)) ∧ (∀ D ∈ E.ds, InR G L D (.obj (.deferred (some []))) ∧ H' D = none) ∧ E.ds.Nodup ∧ Q (tupled vs) H'

def CellsOk (H : Heap) (w : World) : Prop := ∀ b V i v, H b = some V → V.cell i = some v → w.cell? ⟨b, i, none⟩ = some v

def resSem (tmps : Array Value) (rv : ResultVar) : Sem Value :=
  match rv with
  | .tmp t => pure (tmps.getD t undef)
  | .cell x t => do loadVar t (← asAddr (tmps.getD x undef))

theorem results_eq (fn : Func) (tmps : Array Value) :
    results fn tmps = (do let vs ← fn.results.mapM (resSem tmps); pure (if h : vs.size = 1 then vs[0] else .tuple vs)) := rfl

theorem run_res {P : Program} {E : Env} {G : Heap} {L : Locs} {rv : ResultVar} {v : Value} {a : Act} {w : World} (wf : Wf G L) (he : EnvOk E a) (hh : CellsOk (ov G L) w) (h : ResOk P E G L rv v) :
    (resSem a.tmps rv).run P w = .ok v w := by
  cases rv with
  | tmp t =>
    have := he.2.1 t v h
    simp [resSem, Array.getD_eq_getD_getElem?, this]
  | cell x t =>
    obtain ⟨b, off, V, ag, n, h1, h2, h3, h4⟩ := h
    have e := he.2.1 x _ h1
    cases ag with
    | false => simp [resSem, Array.getD_eq_getD_getElem?, e, asAddr, run_loadVar_one h3 (hh _ _ _ _ (h2 wf) h4)]
    | true =>
      obtain ⟨l, h5, rfl⟩ := h4
      obtain ⟨k1, k2⟩ := View.take_spec h5
      have := run_loadVar_agg (P := P) (w := w) (a := ⟨b, off, none⟩) h3 k1 (fun j v hj => by rw [add_none]; exact hh _ _ _ _ (h2 wf) (k2 j v hj))
      simp [resSem, Array.getD_eq_getD_getElem?, e, asAddr, this]

theorem run_mapM_res {P : Program} {E : Env} {G : Heap} {L : Locs} {a : Act} {w : World} (wf : Wf G L) (he : EnvOk E a) (hh : CellsOk (ov G L) w) : ∀ (rvs : List ResultVar) (vs : List Value), AllRes P E G L rvs vs →
    (rvs.mapM (resSem a.tmps)).run P w = .ok vs w
  | [], [], _ => by simp
  | [], _ :: _, h => h.elim
  | _ :: _, [], h => h.elim
  | rv :: rvs, v :: vs, h => by
    rw [List.mapM_cons]
    simp only [Sem.run_bind, run_res wf he hh h.1, Result.andThen_ok, run_mapM_res wf he hh rvs vs h.2, Sem.run_pure]

theorem run_results {P : Program} {fn : Func} {E : Env} {G : Heap} {L : Locs} {vs : List Value} {a : Act} {w : World} (wf : Wf G L) (he : EnvOk E a) (hh : CellsOk (ov G L) w)
    (h : AllRes P E G L fn.results.toList vs) : (results fn a.tmps).run P w = .ok (tupled vs) w := by
  rw [results_eq, ← Array.toArray_toList (xs := fn.results), List.mapM_toArray]
  simp only [Sem.run_bind, Sem.run_map, run_mapM_res wf he hh _ _ h, Result.andThen_ok, Sem.run_pure]
  match vs with
  | [] => rfl
  | [v] => rfl
  | _ :: _ :: _ => simp [tupled]

theorem leavesM {P : Program} {fn : Func} {tmps : Array Value} {v : Value} {R : Ending → World → Prop} : ∀ (ds : List Nat) (w : World), ds.Nodup → (∀ D ∈ ds, w.heap[D]? = some (.deferred (some []))) →
    (∀ w', (w'.os = w.os ∧ w.drawn ≤ w'.drawn) → w'.tape = w.tape → w'.output = w.output → w'.heap.size = w.heap.size → (∀ b, b ∉ ds → w'.heap[b]? = w.heap[b]?) → (results fn tmps).run P w' = .ok v w' ∧ R (.returned v) w') →
    LeavesInM Fence.wide 0 P fn tmps R (ds.map markOf) .returning w
  | [], w, _, _, h => by
    obtain ⟨h1, h2⟩ := h w ⟨rfl, Nat.le_refl _⟩ rfl rfl rfl (fun _ _ => rfl)
    exact ⟨v, h1, h2⟩
  | D :: ds, w, hn, hd, h => by
    have hD := hd D (List.mem_cons_self ..)
    have hlt := (Array.getElem?_eq_some_iff.1 hD).1
    refine ⟨by simp, .inl ⟨D, _, rfl, run_takeDeferred hD, ?_⟩⟩
    have hoth : ∀ b, b ≠ D → (w.putObj D (.deferred none)).heap[b]? = w.heap[b]? := fun b hb => by
      simp only [World.putObj]; rw [Array.getElem?_setIfInBounds, if_neg (Ne.symm hb)]
    obtain ⟨n1, n2⟩ := List.nodup_cons.1 hn
    refine leavesM (v := v) ds _ n2 (fun D' hD' => ?_) (fun w' k1 k2 k3 k4 k5 => ?_)
    · rw [hoth D' (fun e => by subst e; exact n1 hD')]
      exact hd D' (List.mem_cons_of_mem _ hD')
    · refine h w' k1 k2 k3 (by rw [k4]; simp [World.putObj]) (fun b hb => ?_)
      simp only [List.mem_cons, not_or] at hb
      rw [k5 b hb.2, hoth b hb.1]

theorem look_args : ∀ {args : List Value} {i t : Nat} {v : Value}, look t (argsEnv i args) = some v → i ≤ t ∧ args[t - i]? = some v
  | [], _, _, _, h => by simp [argsEnv, look] at h
  | u :: us, i, t, v, h => by
    simp only [argsEnv, look] at h
    cases hb : Nat.beq t i with
    | true =>
      have : t = i := Nat.eq_of_beq_eq_true hb
      subst this
      rw [hb] at h
      simp only [cond_true, Option.some.injEq] at h
      subst h
      exact ⟨Nat.le_refl _, by simp⟩
    | false =>
      rw [hb] at h
      simp only [cond_false] at h
      obtain ⟨h1, h2⟩ := look_args h
      refine ⟨by omega, ?_⟩
      have : t - i = (t - (i + 1)) + 1 := by omega
      rw [this, List.getElem?_cons_succ]
      exact h2

/-- A function's contract out of its body's walk. -/
theorem Ev.enter {P : Program} {f : FuncId} {fn : Func} {c : Code} {args : List Value} {H : Heap} {Q : Value → Heap → Prop} (hf : P.funcs[f]? = some fn) (hb : fn.body = some c)
    (hE : Enters P f) (h : WP P none c (RetQ P fn Q) ⟨args.length + (fn.ntmps - args.length), argsEnv 0 args, []⟩ H []) : Ev P f args H Q := by
  refine ⟨hE, fun w hw => callsIn_of_wp_marks hf hb trivial ?_⟩
  have he : EnvOk ⟨args.length + (fn.ntmps - args.length), argsEnv 0 args, []⟩ { tmps := (⟨args⟩ : Array Value) ++ Array.replicate (fn.ntmps - (⟨args⟩ : Array Value).size) undef, defers := [] } := by
    refine ⟨by simp, fun t v hv => ?_, rfl⟩
    obtain ⟨_, h2⟩ := look_args hv
    simp only [Nat.sub_zero] at h2
    have hlt := (List.getElem?_eq_some_iff.1 h2).1
    rw [Array.getElem?_append_left (by simpa using hlt)]
    simpa using h2
  refine wpIn_mono (h ⟨by simp, by simp⟩ _ w he hw) ?_
  rintro x a w' ⟨E', G', L', h1, h2, h3, h4, hx, vs, H', k1, k2, k3, k4, k5⟩
  have hds : ∀ D ∈ E'.ds, ov G' L' D = some (.obj (.deferred (some []))) ∧ w'.heap[D]? = some (.deferred (some [])) := fun D hD => by
    have hv := (k3 D hD).1 h2
    obtain ⟨o, ho, hok⟩ := h3 _ _ hv
    cases hok
    exact ⟨hv, ho⟩
  have main : LeavesInM Fence.wide 0 P fn a.tmps (fun e w' => ∃ v H', e = .returned v ∧ Holds H' w' ∧ Frame H w H' w' ∧ Q v H') a.defers .returning w' := by
    rw [h1.2.2]
    refine leavesM (v := tupled vs) E'.ds w' k4 (fun D hD => (hds D hD).2) (fun w2 m1 m2 m3 m4 m5 => ⟨?_, tupled vs, H', rfl, ?_, ?_, k5⟩)
    · refine run_results h2 h1 (fun b V i v hb hv => ?_) k1
      by_cases hm : b ∈ E'.ds
      · rw [(hds b hm).1] at hb
        cases hb
        simp [View.cell] at hv
      · have := h3.cell? hb hv
        simp only [World.cell?, m5 b hm] at this ⊢
        exact this
    · intro b V hb
      have hm : b ∉ E'.ds := fun hm => by rw [(k3 b hm).2] at hb; cases hb
      obtain ⟨o, ho, hok⟩ := (h3.sub (k2 h2)) b V hb
      exact ⟨o, by rw [m5 b hm]; exact ho, hok⟩
    · obtain ⟨a1, a2, a3, a4, a5⟩ := h4.sub (k2 h2)
      refine ⟨⟨m1.1.trans a1.1, Nat.le_trans a1.2 m1.2⟩, m2.trans a2, m3.trans a3, by omega, fun b hb hn => ?_⟩
      have hm : b ∉ E'.ds := fun hm => by
        have := (h4.2.2.2.2 b hb hn).1
        rw [(hds b hm).1] at this
        cases this
      obtain ⟨c1, c2⟩ := a5 b hb hn
      exact ⟨c1, by rw [m5 b hm]; exact c2⟩
  rcases hx with rfl | rfl
  · exact main
  · exact main


theorem enters_of {P : Program} {f : FuncId} {fn : Func} (hf : P.funcs[f]? = some fn) (hn : (fn.name == "runtime.NumGoroutine") = false) (hb : fn.body.isNone = false) : Enters P f := fun args w => by
  have hn' : ¬ fn.name = "runtime.NumGoroutine" := by simpa using hn
  have hb' : ¬ fn.body = none := fun e => by simp [e] at hb
  simp [callFunc, hf, hn', hb']

section
variable {P : Program} {r : Option Nat} {l : Slots} {G : Heap} {L : Locs} {d : Option Tmp} {ty : TypeId} {pos : String} {af : Array Edge} {g : Option (Nat × Bool)}

theorem GS.enter {o : Oper} {f : FuncId} {vs : List Value} {Q0 : Value → Heap → Prop} {R : Value → Heap → Locs → Prop}
    (h : Wf G L → ∀ a w, SlotsOk l a → Holds (ov G L) w → (execOp a.eval o).run P w = .ok (.enter f ⟨vs⟩) w)
    (hc : Wf G L → Ev P f vs (ov G L) Q0) (k : ∀ v H', Q0 v H' → ∃ G' L', (Wf G L → Wf G' L' ∧ Sub (ov G' L') H') ∧ R v G' L') : GS P r o l G L R := fun wf a w hs hh => by
  rw [h wf a w hs hh]
  refine ⟨fun h => by simp [Fw] at h, ?_⟩
  have hcall := ((hc wf).2 w hh)
  have hcall' : CallsIn (Fw r) (0 - 1) P f ⟨vs⟩ w fun e w' => ∃ v H', e = .returned v ∧ Holds H' w' ∧ Frame (ov G L) w H' w' ∧ Q0 v H' := by
    cases r with
    | none => exact hcall
    | some l => exact CallsIn.inRound l hcall
  refine hcall'.mono ?_
  rintro e w' ⟨v, H', rfl, k1, k2, k3⟩
  obtain ⟨G', L', m1, m2⟩ := k v H' k3
  obtain ⟨n1, n2⟩ := m1 wf
  exact ⟨v, G', L', rfl, n1, k1.sub n2, k2.sub n2, m2⟩

/-- A call of a function's value. -/
theorem GS.call {c : Operand} {args : Array Operand} {ats : Array TypeId} {f : FuncId} {first caps vs : List Value} {Q0 : Value → Heap → Prop} {R : Value → Heap → Locs → Prop}
    (hc : evL l c = some (.func (.func f) ⟨first⟩ ⟨caps⟩)) (ha : evs l args.toList = some vs) (h : Wf G L → Ev P f (first ++ vs ++ caps) (ov G L) Q0)
    (k : ∀ v H', Q0 v H' → ∃ G' L', (Wf G L → Wf G' L' ∧ Sub (ov G' L') H') ∧ R v G' L') : GS P r ⟨d, .call ⟨.value c, args, ats⟩, ty, pos, af, g⟩ l G L R :=
  GS.enter (fun wf a w hs hh => by
    have e2 := evs_arr hs ha
    have e3 := (h wf).1 ⟨first ++ vs ++ caps⟩ w
    simp only [execOp, resolve, hs.eval hc, Deferred.ofValue, Sem.run_bind, Sem.run_pure, Result.andThen_ok, invoke, e2]
    simpa using e3) h k

/-- A call that leaves all as it was. -/
theorem GS.callP {c : Operand} {args : Array Operand} {ats : Array TypeId} {f : FuncId} {first caps vs : List Value} {v : Value}
    (hc : evL l c = some (.func (.func f) ⟨first⟩ ⟨caps⟩)) (ha : evs l args.toList = some vs) (h : Wf G L → EvP P f (first ++ vs ++ caps) (ov G L) v) :
    GS P r ⟨d, .call ⟨.value c, args, ats⟩, ty, pos, af, g⟩ l G L (fun u G' L' => u = v ∧ G' = G ∧ L' = L) :=
  GS.call hc ha h fun u H' ⟨h1, h2⟩ => ⟨G, L, fun wf => ⟨wf, by rw [h2]; exact Sub.refl _⟩, h1, rfl, rfl⟩

/-- A call of a method by an interface value. -/
theorem GS.invoke {c : Operand} {name : String} {args : Array Operand} {ats : Array TypeId} {f : FuncId} {t : TypeId} {x recv : Value} {vs : List Value} {Q0 : Value → Heap → Prop} {R : Value → Heap → Locs → Prop}
    (hc : evL l c = some (.iface t x)) (hm : ∀ w, Holds (ov G L) w → (method (P.types.size + Made.depth) t x name).run P w = .ok (f, recv) w) (ha : evs l args.toList = some vs) (h : Wf G L → Ev P f (recv :: vs) (ov G L) Q0)
    (k : ∀ v H', Q0 v H' → ∃ G' L', (Wf G L → Wf G' L' ∧ Sub (ov G' L') H') ∧ R v G' L') : GS P r ⟨d, .call ⟨.invoke c name, args, ats⟩, ty, pos, af, g⟩ l G L R :=
  GS.enter (fun wf a w hs hh => by
    have e2 := evs_arr hs ha
    have e3 := (h wf).1 ⟨recv :: vs⟩ w
    simp only [execOp, resolve, hs.eval hc, Sem.run_bind, Sem.run_pure, Result.andThen_ok, Go.invoke, e2]
    have e4 : ((#[Value.iface t x] ++ (⟨vs⟩ : Array Value))[0]? : Option Value) = some (.iface t x) := by simp
    have e5 : (#[Value.iface t x] ++ (⟨vs⟩ : Array Value)).extract 1 (#[Value.iface t x] ++ (⟨vs⟩ : Array Value)).size = ⟨vs⟩ := by simp
    simp only [e4, e5, callMethod, Sem.run_bind]
    simp [hm w hh, program, Sem.run]
    simpa using e3) h k

theorem GS.store {t : TypeId} {x y : Operand} {b off n : Nat} {ag : Bool} {V V' : View} {v : Value} {G' : Heap} {L' : Locs} [ht : TyK P t ag n] (hx : evL l x = some (.pointer (some ⟨b, off, none⟩))) (hy : evL l y = some v)
    (hb : UpdR G L b V V' G' L') (hn : v.cells.size = n) (ho : v.cells.toList.all (·.oneCell') = true) (hw : V.write off v.cells.toList = some V') :
    GS P r ⟨d, .store t x y, ty, pos, af, g⟩ l G L (fun u G1 L1 => u = undef ∧ G1 = G' ∧ L1 = L') := fun wf a w hs hh => by
  obtain ⟨h1, h2, h3⟩ := hb wf
  obtain ⟨w', e1, e2, e3⟩ := run_storeVar_view (P := P) ht.h hh h1 hn (fun u hu => List.all_eq_true.1 ho u hu) hw
  have : (execOp a.eval ⟨d, .store t x y, ty, pos, af, g⟩).run P w = .ok .skip w' := by simp [execOp, hs.eval hx, hs.eval hy, Instr.storeAt, Instr.sureAddr, e1]
  rw [this]
  exact ⟨undef, G', L', rfl, h2, by rw [h3]; exact e2, by rw [h3]; exact e3, rfl, rfl, rfl⟩

theorem NS.alloc {t : TypeId} {z : Value} [hz : ZeroK P t z] : NS P ⟨d, .alloc t, ty, pos, af, g⟩ l (fun b => .pointer (some ⟨b, 0, none⟩)) (.cells z.cells.toList t) := fun a w hs =>
  ⟨.cells z.cells t, by simp [execOp, Instr.alloc, run_zero hz.h, newVar, newRow], (0, 0), rfl, noFroz00 _⟩

theorem NS.box {t : TypeId} {x : Operand} {v : Value} (hx : evL l x = some v) : NS P ⟨d, .box t x, ty, pos, af, g⟩ l (fun b => .pointer (some ⟨b, 0, none⟩)) (.cells v.cells.toList t) := fun a w hs =>
  ⟨.cells v.cells t, by simp [execOp, Instr.box, hs.eval hx, newVar, newRow], (0, 0), rfl, noFroz00 _⟩

theorem NS.makeMap {t : TypeId} : NS P ⟨d, .makeMap t none, ty, pos, af, g⟩ l (fun b => .map (some b)) (.map []) := fun a w hs => by
  have h : (Instr.makeMap t none).run P w = .ok (.map (some w.heap.size)) (w.alloc (.map #[] 0)) := rfl
  exact ⟨.map #[] 0, by simp [execOp, h], #[], 0, rfl, rfl, by simp, by simp⟩

theorem PS.lenStr {x : Operand} {t : TypeId} {s : ByteArray} [ht : Und P t .string] (hx : evL l x = some (.string s)) : PS P ⟨d, .call ⟨.builtin .len, #[x], #[t]⟩, ty, pos, af, g⟩ l G L (.int .i64 s.size) :=
  .of fun a w he => by simp [execOp, resolve, Go.invoke, builtin, Builtin.len_, he.eval hx, run_underlying ht.h, goInt]

theorem PS.lenSlice {x : Operand} {t e : TypeId} {b : Option Addr} {n c : Nat} [ht : Und P t (.slice e)] (hx : evL l x = some (.slice b n c)) : PS P ⟨d, .call ⟨.builtin .len, #[x], #[t]⟩, ty, pos, af, g⟩ l G L (.int .i64 n) :=
  .of fun a w he => by simp [execOp, resolve, Go.invoke, builtin, Builtin.len_, he.eval hx, run_underlying ht.h, goInt]

end
end Go.Proofs.YtfoakjdnopljmaaGreatDoor

set_option linter.unusedVariables false
set_option linter.unusedSimpArgs false
namespace Go.Proofs.YtfoakjdnopljmaaGreatDoor
open Go

/-! ### Values put together -/

def fillL (places : List (Nat × Nat)) : List Value → List (Nat × Value) → Option (List Value)
  | cs, [] => some cs
  | cs, (i, v) :: rest =>
    match places[i]? with
    | none => none
    | some (off, size) => if v.cells.size = size ∧ off + size ≤ cs.length then fillL places (wr cs off v.cells.toList) rest else none

theorem fold_wr : ∀ (vs : List Value) (j : Nat) (cs : Array Value) (off : Nat), ((vs.zipIdx j).foldl (fun (cs : Array Value) (x : Value × Nat) => cs.setIfInBounds (off + x.2) x.1) cs) = (⟨wr cs.toList (off + j) vs⟩ : Array Value)
  | [], j, cs, off => by simp [wr]
  | v :: vs, j, cs, off => by
    simp only [List.zipIdx_cons, List.foldl_cons]
    rw [fold_wr vs (j + 1) _ off]
    simp only [wr, Array.toList_setIfInBounds]
    rfl

theorem fill_of {place : Nat → Option (Nat × Nat)} {places : List (Nat × Nat)} (hp : ∀ (i : Nat) x, places[i]? = some x → place i = some x) : ∀ (parts : List (Nat × Value)) (cs r : List Value), fillL places cs parts = some r → Instr.fill place ⟨cs⟩ parts = some ⟨r⟩
  | [], cs, r, h => by simp only [fillL, Option.some.injEq] at h; subst h; rfl
  | (i, v) :: rest, cs, r, h => by
    simp only [fillL] at h
    split at h
    · cases h
    · rename_i off size hx
      split at h
      · rename_i hc
        simp only [Instr.fill, hp i _ hx]
        rw [if_neg (by simp; omega)]
        have := fold_wr v.cells.toList 0 ⟨cs⟩ off
        simp only [Nat.add_zero] at this
        have e : v.cells.zipIdx.foldl (fun (cs : Array Value) (x : Value × Nat) => cs.setIfInBounds (off + x.2) x.1) ⟨cs⟩ = (⟨wr cs off v.cells.toList⟩ : Array Value) := by
          rw [← this, ← Array.foldl_toList, Array.toList_zipIdx]
        have e2 := fill_of hp rest _ r h
        rw [← e] at e2
        exact e2
      · cases h

/-- A struct's, or an array's, zero value and the places of its parts. -/
def buildK (P : Program) (t : TypeId) : Option (List Value × List (Nat × Nat)) :=
  match P.underlying t, zeroK P t with
  | some (.struct fs), some z => (fs.toList.mapM fun f => (tyK P f.type).map fun (_, n) => (f.offset, n)).map fun pl => (z.cells.toList, pl)
  | some (.array len e), some z => (tyK P e).map fun (_, n) => (z.cells.toList, (List.range len).map fun i => (i * n, n))
  | _, _ => none

class BuildK (P : Program) (t : TypeId) (z : outParam (List Value)) (places : outParam (List (Nat × Nat))) : Prop where
  h : buildK P t = some (z, places)

/-- The parts' values. -/
def evp (l : Slots) : List (Nat × Operand) → Option (List (Nat × Value))
  | [] => some []
  | (i, x) :: xs => match evL l x, evp l xs with
    | some v, some vs => some ((i, v) :: vs)
    | _, _ => none

theorem evp_spec {l : Slots} {act : Act} (he : SlotsOk l act) : ∀ {xs : List (Nat × Operand)} {vs : List (Nat × Value)}, evp l xs = some vs → xs.map (fun (i, x) => (i, act.eval x)) = vs
  | [], vs, h => by simp only [evp, Option.some.injEq] at h; subst h; rfl
  | (i, x) :: xs, vs, h => by
    simp only [evp] at h
    split at h
    · rename_i v us h1 h2
      cases h
      simp only [List.map_cons, he.eval h1]
      rw [evp_spec he h2]
    · cases h

theorem evp_arr {l : Slots} {act : Act} (he : SlotsOk l act) {xs : Array (Nat × Operand)} {vs : List (Nat × Value)} (h : evp l xs.toList = some vs) : (xs.map fun (i, x) => (i, act.eval x)).toList = vs := by
  rw [← evp_spec he h]; simp

section
variable {P : Program} {r : Option Nat} {l : Slots} {G : Heap} {L : Locs} {d : Option Tmp} {ty : TypeId} {pos : String} {af : Array Edge} {g : Option (Nat × Bool)}

theorem mapM_places {w : World} : ∀ (fs : List Field) (pl : List (Nat × Nat)), (fs.mapM fun f => (tyK P f.type).map fun (_, n) => (f.offset, n)) = some pl →
    (fs.mapM fun (f : Field) => (do pure (f.offset, ← sizeOf f.type) : Sem (Nat × Nat))).run P w = .ok pl w
  | [], pl, h => by simp at h; subst h; simp
  | f :: fs, pl, h => by
    rw [List.mapM_cons] at h
    cases ht : tyK P f.type with
    | none => simp [ht] at h
    | some x =>
      obtain ⟨ag, n⟩ := x
      cases hm : (fs.mapM fun f => (tyK P f.type).map fun (_, n) => (f.offset, n)) with
      | none => simp [ht, hm] at h
      | some pl' =>
        simp [ht, hm] at h
        subst h
        rw [List.mapM_cons]
        simp only [Sem.run_bind, run_sizeOf' ht, Result.andThen_ok, Sem.run_pure, mapM_places fs pl' hm]

theorem PS.build {t : TypeId} {parts : Array (Nat × Operand)} {z : List Value} {places : List (Nat × Nat)} {vs : List (Nat × Value)} {cs : List Value} [hb : BuildK P t z places] (hp : evp l parts.toList = some vs)
    (hf : fillL places z vs = some cs) : PS P ⟨d, .build t parts, ty, pos, af, g⟩ l G L (.agg ⟨cs⟩) := .of fun a w he => by
  have hb := hb.h
  have hv := evp_arr he hp
  unfold buildK at hb
  split at hb
  · rename_i fs z' hu hz
    cases hm : (fs.toList.mapM fun f => (tyK P f.type).map fun (_, n) => (f.offset, n)) with
    | none => rw [hm] at hb; simp at hb
    | some pl =>
      rw [hm] at hb
      simp only [Option.map_some, Option.some.injEq, Prod.mk.injEq] at hb
      obtain ⟨rfl, rfl⟩ := hb
      have h1 := mapM_places (P := P) (w := w) fs.toList pl hm
      have h2 : (fs.mapM fun (f : Field) => (do pure (f.offset, ← sizeOf f.type) : Sem (Nat × Nat))).run P w = .ok ⟨pl⟩ w := by
        rw [← Array.toArray_toList (xs := fs), List.mapM_toArray]
        simp only [Sem.run_map, h1, Result.andThen_ok]
      have h3 := fill_of (place := fun i => (⟨pl⟩ : Array (Nat × Nat))[i]?) (places := pl) (fun i x hx => by simpa using hx) vs _ cs hf
      simp only [execOp, Instr.build, Sem.run_bind, run_zero hz, Result.andThen_ok, run_underlying hu, h2, hv]
      have h4 : Instr.fill (fun x => (⟨pl⟩ : Array (Nat × Nat))[x]?) z'.cells vs = some ⟨cs⟩ := by simpa using h3
      simp only [h4, Sem.run_pure, Result.andThen_ok]
  · rename_i len e z' hu hz
    cases ht : tyK P e with
    | none => rw [ht] at hb; simp at hb
    | some x =>
      obtain ⟨ag, n⟩ := x
      rw [ht] at hb
      simp only [Option.map_some, Option.some.injEq, Prod.mk.injEq] at hb
      obtain ⟨rfl, rfl⟩ := hb
      have h3 := fill_of (place := fun i => some (i * n, n)) (fun i x hx => by
        rw [List.getElem?_map] at hx
        by_cases hi : i < len
        · simp [hi] at hx; rw [hx]
        · simp [hi] at hx) vs _ cs hf
      have h4 : Instr.fill (fun i => some (i * n, n)) z'.cells vs = some ⟨cs⟩ := by simpa using h3
      simp only [execOp, Instr.build, Sem.run_bind, run_zero hz, Result.andThen_ok, run_underlying hu, run_sizeOf' ht, hv, h4, Sem.run_pure]
  · cases hb

/-- A literal of a slice. -/
theorem NS.buildSlice {t e : TypeId} {len n : Nat} {ag : Bool} {parts : Array (Nat × Operand)} {z : Value} {vs : List (Nat × Value)} {cs : List Value} [ht : ElemK P t none e ag n] [hz : ZeroK P e z] (hp : evp l parts.toList = some vs)
    (hlen : len * n ≤ 16777216) (hzs : z.cells.size = n) (hf : fillL ((List.range len).map fun i => (i * n, n)) ((List.range (len * n)).map fun i => z.cells.toList.getD (i % n) undef) vs = some cs) :
    NS P ⟨d, .buildSlice t len parts, ty, pos, af, g⟩ l (fun b => .slice (some ⟨b, 0, none⟩) len len) (.row 0 cs e (len * n)) := fun a w hs => by
  obtain ⟨h1, h2⟩ := elemK_slice ht.h
  have hv := evp_arr hs hp
  have h3 := fill_of (place := fun i => some (i * n, n)) (fun i x hx => by
    rw [List.getElem?_map] at hx
    by_cases hi : i < len
    · simp [hi] at hx; rw [hx]
    · simp [hi] at hx) vs _ cs hf
  have hcl : cs.length = len * n := by
    have : ∀ (vs : List (Nat × Value)) (c r : List Value) (pl : List (Nat × Nat)), fillL pl c vs = some r → r.length = c.length := by
      intro vs
      induction vs with
      | nil => intro c r pl h; simp only [fillL, Option.some.injEq] at h; rw [h]
      | cons x vs ih =>
        intro c r pl h
        obtain ⟨i, v⟩ := x
        simp only [fillL] at h
        split at h
        · cases h
        · split at h
          · rw [ih _ _ _ h, wr_length]
          · cases h
    rw [this _ _ _ _ hf]; simp
  refine ⟨.cells ⟨cs⟩ e, ?_, ⟨cs⟩, (0, 0), rfl, by simpa using hcl, by simp [hcl], fun i _ _ => by simp, fun i v hi => by simpa using hi⟩
  have hinit : ∀ (z' : Array Value), (z' = if len * n = 0 then #[] else z.cells) → (Array.range (len * n)).map (fun i => z'[i % z'.size]!) = (⟨(List.range (len * n)).map fun i => z.cells.toList.getD (i % n) undef⟩ : Array Value) := by
    rintro z' rfl
    by_cases h0 : len * n = 0
    · simp [h0]
    · have hn : 0 < n := Nat.pos_of_ne_zero fun e => h0 (by simp [e])
      apply Array.ext'
      simp only [h0, if_false, Array.toList_map, Array.toList_range]
      apply List.map_congr_left
      intro i hi
      have : i % n < z.cells.size := by rw [hzs]; exact Nat.mod_lt _ hn
      rw [hzs, getElem!_pos z.cells (i % n) this]
      simp [List.getD_eq_getElem?_getD, this]
  by_cases h0 : len * n = 0
  · have e0 := hinit #[] (by simp [h0])
    have e1 : (Instr.buildSlice t len (parts.map fun (i, x) => (i, a.eval x))).run P w = .ok (.slice (some ⟨w.heap.size, 0, none⟩) len len) (w.alloc (.cells ⟨cs⟩ e)) := by
      unfold Instr.buildSlice
      simp only [Sem.run_bind, run_underlying h1, Result.andThen_ok, run_sizeOf' h2]
      rw [if_neg (by omega), if_pos h0]
      simp only [Sem.run_bind, Sem.run_pure, Result.andThen_ok]
      rw [e0, hv, h3]
      simp [newRow]
    simp only [execOp, Sem.run_bind, e1, Result.andThen_ok, Sem.run_pure]
  · have e0 := hinit z.cells (by simp [h0])
    have e1 : (Instr.buildSlice t len (parts.map fun (i, x) => (i, a.eval x))).run P w = .ok (.slice (some ⟨w.heap.size, 0, none⟩) len len) (w.alloc (.cells ⟨cs⟩ e)) := by
      unfold Instr.buildSlice
      simp only [Sem.run_bind, run_underlying h1, Result.andThen_ok, run_sizeOf' h2]
      rw [if_neg (by omega), if_neg h0]
      simp only [Sem.run_bind, run_zero hz.h, Sem.run_pure, Result.andThen_ok]
      rw [e0, hv, h3]
      simp [newRow]
    simp only [execOp, Sem.run_bind, e1, Result.andThen_ok, Sem.run_pure]

end
end Go.Proofs.YtfoakjdnopljmaaGreatDoor

set_option linter.unusedVariables false
set_option linter.unusedSimpArgs false
namespace Go.Proofs.YtfoakjdnopljmaaGreatDoor
open Go

section
variable {P : Program} {r : Option Nat} {Q : Post} {n : Nat} {l : Slots} {ds : List Nat} {G : Heap} {L : Locs} {ops : Array Oper} {o : Oper} {rest : List Oper} {k : Nat} {rem : List Nat} {X : List LateI}

/-! ### Less is known -/

def SlotsLe (l' l : Slots) : Prop := ∀ t v, look t l' = some v → look t l = some v

theorem SlotsLe.refl (l : Slots) : SlotsLe l l := fun _ _ h => h

theorem SlotsOk.le {l l' : Slots} {a : Act} (h : SlotsOk l a) (hl : SlotsLe l' l) : SlotsOk l' a := fun t v hv => h t v (hl t v hv)

/-- A list of slots, each looked up. -/
def leB : Slots → Slots → Prop
  | [], _ => True
  | (t, v) :: r, l => look t l = some v ∧ leB r l

theorem leB_ok : ∀ {l' l : Slots}, leB l' l → SlotsLe l' l
  | [], _, _ => fun t v h => by simp [look] at h
  | (t, v) :: r, l, h => fun u w hu => by
    simp only [look] at hu
    cases hb : Nat.beq u t with
    | true =>
      have : u = t := Nat.eq_of_beq_eq_true hb
      subst this
      rw [hb] at hu
      simp only [cond_true, Option.some.injEq] at hu
      subst hu
      exact h.1
    | false =>
      rw [hb] at hu
      exact leB_ok h.2 u w hu

theorem WP.weaken {c : Code} {l' : Slots} {L' : Locs} (hl : SlotsLe l' l) (hL : Wf G L → Wf G L' ∧ Sub (ov G L') (ov G L)) (h : WP P r c Q ⟨n, l', ds⟩ G L') : WP P r c Q ⟨n, l, ds⟩ G L := fun wf a w he hh => by
  obtain ⟨h1, h2⟩ := hL wf
  exact wpIn_mono (h h1 a w ⟨he.1, he.2.1.le hl, he.2.2⟩ (hh.sub h2)) fun _ _ _ hx => hx.from ((Frame.refl _ _).sub h2)

theorem WP.slots {c : Code} {l' : Slots} (hl : leB l' l) (h : WP P r c Q ⟨n, l', ds⟩ G L) : WP P r c Q ⟨n, l, ds⟩ G L :=
  WP.weaken (leB_ok hl) (fun wf => ⟨wf, Sub.refl _⟩) h

/-- The same views, in another order or fewer. -/
theorem WP.views {c : Code} {L' : Locs} (hL : Wf G L → Wf G L' ∧ Sub (ov G L') (ov G L)) (h : WP P r c Q ⟨n, l, ds⟩ G L') : WP P r c Q ⟨n, l, ds⟩ G L :=
  WP.weaken (SlotsLe.refl _) hL h

theorem wf_sublist {L' : Locs} (h : L'.Sublist L) (wf : Wf G L) : Wf G L' ∧ Sub (ov G L') (ov G L) := by
  induction h with
  | slnil => exact ⟨wf, Sub.refl _⟩
  | cons x h ih => exact ⟨(ih wf.tail).1, (ih wf.tail).2.drop wf⟩
  | @cons_cons l1 l2 x h ih =>
    obtain ⟨h1, h2⟩ := ih wf.tail
    obtain ⟨b, V⟩ := x
    have hb := wf.head_none
    have hb' : ov G l1 b = none := by
      cases e : ov G l1 b with
      | none => rfl
      | some U => have := h2 b U e; rw [hb] at this; cases this
    refine ⟨h1.cons hb', fun c U hc => ?_⟩
    rw [ov_cons] at hc ⊢
    simp only [Heap.set] at hc ⊢
    split
    · rename_i e; rw [if_pos e] at hc; exact hc
    · rename_i e; rw [if_neg e] at hc; exact h2 c U hc

/-- What stands between two pieces of code. -/
theorem WP.cut {x y : Code} (l' : Slots) (G' : Heap) (L' : Locs) (h : WP P r x (thenQ (fun E1 G1 L1 => E1.n = n ∧ E1.ds = ds ∧ leB l' E1.l ∧ G1 = G' ∧ L1 = L') Q) ⟨n, l, ds⟩ G L)
    (k : WP P r y Q ⟨n, l', ds⟩ G' L') : WP P r (.seq x y) Q ⟨n, l, ds⟩ G L := by
  refine WP.seq (WP.mono h fun e E1 G1 L1 hq => ?_)
  cases e with
  | normal =>
    obtain ⟨h1, h2, h3, rfl, rfl⟩ := hq
    obtain ⟨n1, l1, ds1⟩ := E1
    simp only at h1 h2 h3
    subst h1 h2
    exact WP.slots h3 k
  | exit id => exact hq
  | goto l => exact hq
  | ret => exact hq
  | panic c => exact hq
  | outgrown => exact hq

/-- The same with whatever is known, by a parameter. -/
theorem WP.cutP {x y : Code} (I : Slots → Heap → Locs → Prop) (h : WP P r x (thenQ (fun E1 G1 L1 => E1.n = n ∧ E1.ds = ds ∧ ∃ l', leB l' E1.l ∧ I l' G1 L1) Q) ⟨n, l, ds⟩ G L)
    (k : ∀ l' G' L', I l' G' L' → WP P r y Q ⟨n, l', ds⟩ G' L') : WP P r (.seq x y) Q ⟨n, l, ds⟩ G L := by
  refine WP.seq (WP.mono h fun e E1 G1 L1 hq => ?_)
  cases e with
  | normal =>
    obtain ⟨h1, h2, l', h3, h4⟩ := hq
    obtain ⟨n1, l1, ds1⟩ := E1
    simp only at h1 h2 h3
    subst h1 h2
    exact WP.slots h3 (k l' G1 L1 h4)
  | exit id => exact hq
  | goto l => exact hq
  | ret => exact hq
  | panic c => exact hq
  | outgrown => exact hq

theorem slots_known {t : Nat} {v : Value} (h : look t l = some v) : SlotsLe ((t, v) :: l) l := fun u w hu => by
  simp only [look] at hu
  cases hb : Nat.beq u t with
  | true =>
    have : u = t := Nat.eq_of_beq_eq_true hb
    subst this
    rw [hb] at hu
    simp only [cond_true, Option.some.injEq] at hu
    subst hu
    exact h
  | false => rw [hb] at hu; exact hu

/-- A truth value is looked at. -/
theorem WPL.split {t : Nat} {b : Bool} (h : look t l = some (.bool b)) (kt : b = true → WPL P r ops (o :: rest) Q ⟨n, (t, .bool true) :: l, ds⟩ G L) (kf : b = false → WPL P r ops (o :: rest) Q ⟨n, (t, .bool false) :: l, ds⟩ G L) :
    WPL P r ops (o :: rest) Q ⟨n, l, ds⟩ G L := fun hd wf a w he hh => by
  cases b with
  | true => exact kt rfl hd wf a w ⟨he.1, he.2.1.le (slots_known h), he.2.2⟩ hh
  | false => exact kf rfl hd wf a w ⟨he.1, he.2.1.le (slots_known h), he.2.2⟩ hh

theorem Scr.split {t : Nat} {b : Bool} (h : look t l = some (.bool b)) (hX : ∀ x ∈ X, dstAt ops x.i ≠ some t) (kt : b = true → Scr P r ops k Q n ds rem X ((t, .bool true) :: l) G L) (kf : b = false → Scr P r ops k Q n ds rem X ((t, .bool false) :: l) G L) :
    Scr P r ops k Q n ds rem X l G L := fun D hd st wf H0 w0 a w S he hh hf hL hn m hm => by
  cases b with
  | true => exact kt rfl D hd st wf H0 w0 a w S ⟨he.1, he.2.1.le (slots_known h), he.2.2⟩ hh hf hL hn m hm
  | false => exact kf rfl D hd st wf H0 w0 a w S ⟨he.1, he.2.1.le (slots_known h), he.2.2⟩ hh hf hL hn m hm

theorem WP.ifs {c : Operand} {x y : Code} {t : Bool} (hc : evL l c = some (.bool t)) (ht : t = true → WP P r x Q ⟨n, l, ds⟩ G L) (hf : t = false → WP P r y Q ⟨n, l, ds⟩ G L) :
    WP P r (.cond c x y) Q ⟨n, l, ds⟩ G L := WP.cond hc ht hf

theorem WP.yes {c : Operand} {x y : Code} (hc : evL l c = some (.bool true)) (ht : WP P r x Q ⟨n, l, ds⟩ G L) : WP P r (.cond c x y) Q ⟨n, l, ds⟩ G L := WP.cond hc (fun _ => ht) (fun h => by cases h)
theorem WP.nope {c : Operand} {x y : Code} (hc : evL l c = some (.bool false)) (hf : WP P r y Q ⟨n, l, ds⟩ G L) : WP P r (.cond c x y) Q ⟨n, l, ds⟩ G L := WP.cond hc (fun h => by cases h) (fun _ => hf)

/-! ### Calls and stores in a row -/

theorem WPL.callP {d : Option Tmp} {c : Operand} {args : Array Operand} {ats : Array TypeId} {ty : TypeId} {pos : String} {af : Array Edge} {g : Option (Nat × Bool)} {f : FuncId} {first caps vs : List Value} {v : Value} (hw : wantedL ops l g = some true)
    (hc : evL l c = some (.func (.func f) ⟨first⟩ ⟨caps⟩)) (ha : evs l args.toList = some vs) (h : EvP P f (first ++ vs ++ caps) (ov G L) v) (K : WPL P r ops rest Q ⟨n, putL d v l, ds⟩ G L) :
    WPL P r ops (⟨d, .call ⟨.value c, args, ats⟩, ty, pos, af, g⟩ :: rest) Q ⟨n, l, ds⟩ G L :=
  WPL.gs hw (GS.callP hc ha fun _ => h) fun u G' L' ⟨h1, h2, h3⟩ => by rw [h1, h2, h3]; exact K

theorem WPL.store {d : Option Tmp} {t : TypeId} {x y : Operand} {ty : TypeId} {pos : String} {af : Array Edge} {g : Option (Nat × Bool)} {b off m : Nat} {ag : Bool} {V V' : View} {v : Value} {G' : Heap} {L' : Locs} [ht : TyK P t ag m] (hw : wantedL ops l g = some true)
    (hx : evL l x = some (.pointer (some ⟨b, off, none⟩))) (hy : evL l y = some v) (hb : UpdR G L b V V' G' L') (hn : v.cells.size = m) (ho : v.cells.toList.all (·.oneCell') = true) (hv : V.write off v.cells.toList = some V')
    (K : WPL P r ops rest Q ⟨n, putL d undef l, ds⟩ G' L') : WPL P r ops (⟨d, .store t x y, ty, pos, af, g⟩ :: rest) Q ⟨n, l, ds⟩ G L :=
  WPL.gs hw (GS.store hx hy hb hn ho hv) fun u G1 L1 ⟨h1, h2, h3⟩ => by rw [h1, h2, h3]; exact K

/-! ### The end of a function -/

theorem RetQ.mk {fn : Func} {Q0 : Value → Heap → Prop} {x : Exit} {vs : List Value} {H' : Heap} (hx : x = .normal ∨ x = .ret) (hr : AllRes P ⟨n, l, []⟩ G L fn.results.toList vs) (hs : Wf G L → Sub H' (ov G L)) (hq : Q0 (tupled vs) H') :
    RetQ P fn Q0 x ⟨n, l, []⟩ G L := ⟨hx, vs, H', hr, hs, by simp, by simp, hq⟩

theorem res1 {E : Env} {rv : ResultVar} {v : Value} {rvs : List ResultVar} {vs : List Value} (h : ResOk P E G L rv v) (k : AllRes P E G L rvs vs) : AllRes P E G L (rv :: rvs) (v :: vs) := ⟨h, k⟩

theorem sub_of {L' : Locs} (h : L'.Sublist L) : Wf G L → Sub (ov G L') (ov G L) := fun wf => (wf_sublist h wf).2

/-- All blocks of the call's own are dropped. -/
theorem sub_all : Wf G L → Sub G (ov G L) := sub_of (List.nil_sublist L)

end

/-! ### Numbers that stay within their kind -/
theorem wrap_i64 {c : Int} (h1 : -9223372036854775808 ≤ c) (h2 : c ≤ 9223372036854775807) : IntKind.i64.wrap c = c := by
  rw [IntKind.wrap_i64]
  omega
theorem wrap_u8 {c : Int} (h1 : 0 ≤ c) (h2 : c ≤ 255) : IntKind.u8.wrap c = c := by
  simp only [IntKind.wrap, IntKind.bits, IntKind.signed, Bool.false_and, Bool.false_eq_true, if_false]
  omega
theorem wrap_u32 {c : Int} (h1 : 0 ≤ c) (h2 : c ≤ 4294967295) : IntKind.u32.wrap c = c := by
  simp only [IntKind.wrap, IntKind.bits, IntKind.signed, Bool.false_and, Bool.false_eq_true, if_false]
  omega
theorem wrap_u64 {c : Int} (h1 : 0 ≤ c) (h2 : c ≤ 18446744073709551615) : IntKind.u64.wrap c = c := by
  simp only [IntKind.wrap, IntKind.bits, IntKind.signed, Bool.false_and, Bool.false_eq_true, if_false]
  omega

end Go.Proofs.YtfoakjdnopljmaaGreatDoor
