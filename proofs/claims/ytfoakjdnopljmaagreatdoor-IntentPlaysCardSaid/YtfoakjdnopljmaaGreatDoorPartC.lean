/-
  Lemmas for this claim: CoreWh, CoreSl, CoreTb, Facts, Shelf, SName, STag, SKey, SRef5, SRef6, PKey.
-/
import Derived.Test.YtfoakjdnopljmaaGreatDoorPartB
import Derived.Test.YtfoakjdnopljmaaGreatDoorProg
import Derived.Shelf.SlSortCmp.WholeK
import Derived.Shelf.SortM.Plain
import Derived.Shelf.SlicesG.CompactI
import Derived.Shelf.SlGeneric
import Derived.Ground.SlsfProg
import Derived.Ground.SlgmProg
import Derived.Ground.SlgnProg

set_option linter.unusedVariables false
set_option linter.unusedSimpArgs false
namespace Go.Proofs.YtfoakjdnopljmaaGreatDoor
open Go
section
variable {P : Program} {r : Option Nat} {Q : Post} {n : Nat} {l : Slots} {ds : List Nat} {G : Heap} {L : Locs} {ops : Array Oper} {rest : List Oper} {ty : TypeId} {pos : String} {af : Array Edge}

/-- Less is known, of slots and of blocks. -/
theorem WP.weaken2 {c : Code} {l' : Slots} {G' : Heap} {L' : Locs} (hl : SlotsLe l' l) (hL : Wf G L → Wf G' L' ∧ Sub (ov G' L') (ov G L)) (h : WP P r c Q ⟨n, l', ds⟩ G' L') : WP P r c Q ⟨n, l, ds⟩ G L := fun wf a w he hh => by
  obtain ⟨h1, h2⟩ := hL wf
  exact wpIn_mono (h h1 a w ⟨he.1, he.2.1.le hl, he.2.2⟩ (hh.sub h2)) fun _ _ _ hx => hx.from ((Frame.refl _ _).sub h2)

/-- A loop; at the end of a round some own blocks may be left over. -/
theorem WP.whileV {ι : Type} {c : Code} (l' : ι → Slots) (G' : ι → Heap) (L' : ι → Locs) (inv : ι → Prop) (m : ι → Nat) (i0 : ι) (h0 : leB (l' i0) l) (hi : inv i0) (hL : Wf G L → Wf (G' i0) (L' i0) ∧ Sub (ov (G' i0) (L' i0)) (ov G L))
    (h : ∀ i, inv i → WP P r c (thenQ (fun E1 G1 L1 => ∃ j, m j < m i ∧ inv j ∧ E1.n = n ∧ E1.ds = ds ∧ leB (l' j) E1.l ∧ (Wf G1 L1 → Wf (G' j) (L' j) ∧ Sub (ov (G' j) (L' j)) (ov G1 L1))) Q) ⟨n, l' i, ds⟩ (G' i) (L' i)) :
    WP P r (.loop c) Q ⟨n, l, ds⟩ G L := by
  refine WP.loop (fun i E1 G1 L1 => inv i ∧ (Wf G1 L1 → Wf (G' i) (L' i) ∧ Sub (ov (G' i) (L' i)) (ov G1 L1)) ∧ E1.n = n ∧ E1.ds = ds ∧ SlotsLe (l' i) E1.l) m i0 ⟨hi, hL, rfl, rfl, leB_ok h0⟩ ?_
  rintro i ⟨n1, l1, ds1⟩ G1 L1 ⟨h1, h2, h4, h5, h6⟩
  simp only at h4 h5 h6
  subst h4 h5
  refine WP.weaken2 h6 h2 (WP.mono (h i h1) ?_)
  intro x E2 G2 L2 hq
  cases x with
  | normal =>
    obtain ⟨j, k1, k2, k3, k4, k5, k6⟩ := hq
    exact ⟨j, k1, k2, k6, k3, k4, leB_ok k5⟩
  | exit id => exact hq
  | goto l => exact hq
  | ret => exact hq
  | panic c => exact hq
  | outgrown => exact hq

theorem wf_same : Wf G L → Wf G L ∧ Sub (ov G L) (ov G L) := fun wf => ⟨wf, Sub.refl _⟩
theorem wf_sub {L' : Locs} (h : L'.Sublist L) : Wf G L → Wf G L' ∧ Sub (ov G L') (ov G L) := fun wf => wf_sublist h wf

/-! ### A map that is nil -/
theorem WPL.rangeNil {t kt et : TypeId} {d : Option Tmp} {x : Operand} [hu : Und P t (.map kt et)] (hx : evL l x = some (.map none))
    (K : ∀ bi, WPL P r ops rest Q ⟨n, putL d (.pointer (some ⟨bi, 0, none⟩)) l, ds⟩ G ((bi, .obj (.mapIter none 0 #[] 0)) :: L)) : WPL P r ops (⟨d, .range t x, ty, pos, af, none⟩ :: rest) Q ⟨n, l, ds⟩ G L :=
  WPL.gs rfl (R := fun v G' L' => ∃ bi, v = .pointer (some ⟨bi, 0, none⟩) ∧ G' = G ∧ L' = (bi, .obj (.mapIter none 0 #[] 0)) :: L) (fun wf a w hs hh => by
    have hr : (execOp a.eval ⟨d, .range t x, ty, pos, af, none⟩).run P w = .ok (.value (.pointer (some ⟨w.heap.size, 0, none⟩))) (w.alloc (.mapIter none 0 #[] 0)) := by
      simp [execOp, hs.eval hx, run_range_nilMap w t kt et hu.h]
    rw [hr]
    refine ⟨_, G, (w.heap.size, .obj (.mapIter none 0 #[] 0)) :: L, rfl, wf.cons (hh.fresh (Nat.le_refl _)), ?_, ?_, _, rfl, rfl, rfl⟩
    · rw [ov_cons]; exact holds_alloc hh _ rfl
    · rw [ov_cons]; exact frame_alloc _ _ _ _) fun v G' L' ⟨bi, h1, h2, h3⟩ => by rw [h1, h2, h3]; exact K bi
theorem PS.nextNil {d : Option Tmp} {g : Option (Nat × Bool)} {x : Operand} {bi : Nat} (hx : evL l x = some (.pointer (some ⟨bi, 0, none⟩))) (hi : InR G L bi (.obj (.mapIter none 0 #[] 0))) :
    PS P ⟨d, .next x false, ty, pos, af, g⟩ l G L (.tuple #[.bool false]) := fun wf a w hs hh => by
  obtain ⟨o, h1, hok⟩ := hh bi _ (hi wf)
  have hok : o = .mapIter none 0 #[] 0 := hok
  subst hok
  have hr : (Instr.next (.pointer (some ⟨bi, 0, none⟩)) false ty).run P w = .ok (.tuple #[.bool false]) w := by
    simp only [Instr.next, getObj, Sem.run_bind, Sem.run, h1, Result.andThen]; rfl
  simp [execOp, hs.eval hx, hr]

/-! ### Slices that a call makes -/
abbrev EvS (P : Program) (f : FuncId) (args : List Value) (H : Heap) (e : TypeId) (k : Nat) (R : Value → List Value → Nat → Prop) : Prop :=
  Ev P f args H fun v H' => ∃ cs m, Own v cs k m ∧ R v cs m ∧ Wf H (slL v cs e k) ∧ H' = ov H (slL v cs e k)

theorem slL_len (v : Value) (cs : List Value) (e : TypeId) (k : Nat) : slL v cs e k = [] ∨ ∃ x, slL v cs e k = [x] := by
  unfold slL; split
  · exact .inr ⟨_, rfl⟩
  · exact .inl rfl
theorem ov_slL {H : Heap} {v : Value} {cs : List Value} {e : TypeId} {k : Nat} {G : Heap} {L : Locs} (wf : Wf G L) (h : Wf (ov G L) (slL v cs e k)) : Wf G (slL v cs e k ++ L) ∧ ov G (slL v cs e k ++ L) = ov (ov G L) (slL v cs e k) := by
  rcases slL_len v cs e k with h0 | ⟨x, h0⟩
  · rw [h0]; exact ⟨wf, by simp [ov_nil]⟩
  · rw [h0] at h ⊢
    obtain ⟨b, V⟩ := x
    have hb := h.2 (b, V) (List.mem_cons_self ..)
    exact ⟨wf.cons hb, by rw [List.singleton_append, ov_cons, ov_cons, ov_nil]⟩

/-- A call that makes a slice. -/
theorem WPL.sl {d : Option Tmp} {c : Operand} {args : Array Operand} {ats : Array TypeId} {f : FuncId} {first caps vs : List Value} {e : TypeId} {k : Nat} {R : Value → List Value → Nat → Prop}
    (hc : evL l c = some (.func (.func f) ⟨first⟩ ⟨caps⟩)) (ha : evs l args.toList = some vs) (h : Wf G L → EvS P f (first ++ vs ++ caps) (ov G L) e k R)
    (K : ∀ v cs m, Own v cs k m → R v cs m → WPL P r ops rest Q ⟨n, putL d v l, ds⟩ G (slL v cs e k ++ L)) :
    WPL P r ops (⟨d, .call ⟨.value c, args, ats⟩, ty, pos, af, none⟩ :: rest) Q ⟨n, l, ds⟩ G L :=
  WPL.fresh hc ha h fun v H' ⟨cs, m, h1, h2, h3, h4⟩ => ⟨G, slL v cs e k ++ L, fun wf => ⟨(ov_slL (H := G) wf h3).1, by rw [h4, (ov_slL (H := G) wf h3).2]; exact Sub.refl _⟩, K v cs m h1 h2⟩

theorem RetQ.endS {fn : Func} {x : Exit} {e : TypeId} {k : Nat} {R : Value → List Value → Nat → Prop} {v : Value} {cs : List Value} {m : Nat} (hx : x = .normal ∨ x = .ret) (wf : Wf G L) (hs : (slL v cs e k).Sublist L) (ho : Own v cs k m)
    (h : ∃ vs, AllRes P ⟨n, l, []⟩ G L fn.results.toList vs ∧ tupled vs = v ∧ R v cs m) : RetQ P fn (fun v H' => ∃ cs m, Own v cs k m ∧ R v cs m ∧ Wf G (slL v cs e k) ∧ H' = ov G (slL v cs e k)) x ⟨n, l, []⟩ G L := by
  obtain ⟨vs, h1, h2, h3⟩ := h
  refine ⟨hx, vs, ov G (slL v cs e k), h1, fun wf => (wf_sublist hs wf).2, by simp, by simp, ?_⟩
  rw [h2]
  exact ⟨cs, m, ho, h3, (wf_sublist hs wf).1, rfl⟩


open Go.Sort in
/-- slices.SortFunc on a slice of the call's own. -/
theorem WPL.sortSl {ρ : Go.Shelf.Ren} {α : Type} [Inhabited α] (Ly : SlLaysF0.n6 P ρ) {k : Nat} (aE : ∀ w, (isAgg (ρ.t 24)).run P w = .ok true w) (zE : ∀ w, (Go.sizeOf (ρ.t 24)).run P w = .ok k w) (enc : α → List Value)
    (hk : ∀ x, (enc x).length = k) (h1 : ∀ x, ∀ v ∈ enc x, v.oneCell' = true) (cf : α → α → Int) (hO : SWO (ltOf cf)) (g : Nat) (cb : List Value) (hg : ∀ x y, Ev P g ([.agg ⟨enc x⟩, .agg ⟨enc y⟩] ++ cb) (fun _ => none) (fun u _ => u = .int .i64 (cf x y))) (x0 : α)
    (hE : Enters P (ρ.f 6)) {d : Option Tmp} {c x y : Operand} {ats : Array TypeId} {v : Value} {e : TypeId} {lst : List α} {cs : List Value} {A B : Locs}
    (hc : evL l c = some (.func (.func (ρ.f 6)) #[] #[])) (hx : evL l x = some v) (hy : evL l y = some (.func (.func g) #[] ⟨cb⟩)) (hcs : cs = lst.flatMap enc) (ho : Own v cs k lst.length) (hL : L = A ++ (slL v cs e k ++ B)) (hsz : lst.length < 4611686018427387904)
    (K : ∀ lst' : List α, lst'.Perm lst → lst'.Pairwise (fun x y => ltOf cf y x = false) → Own v (lst'.flatMap enc) k lst.length → WPL P r ops rest Q ⟨n, putL d (.tuple #[]) l, ds⟩ G (A ++ (slL v (lst'.flatMap enc) e k ++ B))) :
    WPL P r ops (⟨d, .call ⟨.value c, #[x, y], ats⟩, ty, pos, af, none⟩ :: rest) Q ⟨n, l, ds⟩ G L := by
  subst hL hcs
  have ha : evs l (#[x, y] : Array Operand).toList = some [v, .func (.func g) #[] ⟨cb⟩] := evsC hx (evsC hy rfl)
  rcases ho.2 with ⟨rfl, h0⟩ | ⟨b, cap, rfl, hcap⟩
  · have hl0 : lst = [] := List.length_eq_zero_iff.1 h0
    subst hl0
    refine WPL.fresh hc ha (Q0 := fun v H' => v = .tuple #[] ∧ H' = ov G (A ++ (slL (.slice none 0 0) ([].flatMap enc) e k ++ B))) (fun wf => Ev.sortFuncNone Ly hE) fun v H' ⟨h2, h3⟩ => ⟨G, _, fun wf => ⟨wf, by rw [h3]; exact Sub.refl _⟩, ?_⟩
    subst h2
    exact K [] (List.Perm.refl _) List.Pairwise.nil ho
  · have hi : ∀ V, UpdR G (A ++ (slL (.slice (some ⟨b, 0, none⟩) lst.length cap) (lst.flatMap enc) e k ++ B)) b (.row 0 (lst.flatMap enc) e (cap * k)) V G (A ++ ((b, V) :: B)) := fun V => UpdR.skip UpdR.here A
    refine WPL.fresh hc ha (fun wf => Ev.sortFunc Ly k aE zE enc hk h1 cf hO g cb hg x0 hE ((hi (.obj default)) wf).1 hsz) fun v H' ⟨h2, l', h3, h4, h5⟩ => ⟨G, A ++ (slL (.slice (some ⟨b, 0, none⟩) lst.length cap) (l'.flatMap enc) e k ++ B), fun wf => ?_, ?_⟩
    · obtain ⟨-, q2, q3⟩ := hi (.row 0 (l'.flatMap enc) e (cap * k)) wf
      exact ⟨q2, by rw [h5]; exact fun b V hb => by rw [← q3]; exact hb⟩
    · subst h2
      refine K l' h3 h4 ⟨?_, .inr ⟨b, cap, rfl, hcap⟩⟩
      rw [← ho.1]
      exact (h3.flatMap_right enc).length_eq

theorem WPL.sortISl {ρ : Go.Shelf.Ren} (Ly : SlLaysM.n5 P ρ) (hE : Enters P (ρ.f 5)) {d : Option Tmp} {c x : Operand} {ats : Array TypeId} {v : Value} {e : TypeId} {lst : List Int} {cs : List Value} {A B : Locs}
    (hc : evL l c = some (.func (.func (ρ.f 5)) #[] #[])) (hx : evL l x = some v) (hcs : cs = lst.map (Value.int .i64)) (ho : Own v cs 1 lst.length) (hL : L = A ++ (slL v cs e 1 ++ B)) (hsz : lst.length < 4611686018427387904)
    (K : Own v ((lst.mergeSort fun x y => decide (x ≤ y)).map (Value.int .i64)) 1 lst.length → WPL P r ops rest Q ⟨n, putL d (.tuple #[]) l, ds⟩ G (A ++ (slL v ((lst.mergeSort fun x y => decide (x ≤ y)).map (Value.int .i64)) e 1 ++ B))) :
    WPL P r ops (⟨d, .call ⟨.value c, #[x], ats⟩, ty, pos, af, none⟩ :: rest) Q ⟨n, l, ds⟩ G L := by
  subst hL hcs
  have ha : evs l (#[x] : Array Operand).toList = some [v] := evsC hx rfl
  rcases ho.2 with ⟨rfl, h0⟩ | ⟨b, cap, rfl, hcap⟩
  · have hl0 : lst = [] := List.length_eq_zero_iff.1 h0
    subst hl0
    refine WPL.fresh hc ha (Q0 := fun v H' => v = .tuple #[] ∧ H' = ov G (A ++ (slL (.slice none 0 0) (([] : List Int).map (Value.int .i64)) e 1 ++ B))) (fun wf => Ev.sortIntNone Ly hE) fun v H' ⟨h2, h3⟩ => ⟨G, _, fun wf => ⟨wf, by rw [h3]; exact Sub.refl _⟩, ?_⟩
    subst h2
    have e0 : (([] : List Int).mergeSort fun x y => decide (x ≤ y)) = [] := by simp
    rw [e0] at K
    exact K ho
  · have hi : ∀ V, UpdR G (A ++ (slL (.slice (some ⟨b, 0, none⟩) lst.length cap) (lst.map (Value.int .i64)) e 1 ++ B)) b (.row 0 (lst.map (Value.int .i64)) e (cap * 1)) V G (A ++ ((b, V) :: B)) := fun V => UpdR.skip UpdR.here A
    refine WPL.fresh hc ha (fun wf => Ev.sortInt Ly hE ((hi (.obj default)) wf).1 hsz) fun v H' ⟨h2, h5⟩ => ⟨G, A ++ (slL (.slice (some ⟨b, 0, none⟩) lst.length cap) ((lst.mergeSort fun x y => decide (x ≤ y)).map (Value.int .i64)) e 1 ++ B), fun wf => ?_, ?_⟩
    · obtain ⟨-, q2, q3⟩ := hi (.row 0 ((lst.mergeSort fun x y => decide (x ≤ y)).map (Value.int .i64)) e (cap * 1)) wf
      exact ⟨q2, by rw [h5]; exact fun b V hb => by rw [← q3]; exact hb⟩
    · subst h2
      exact K ⟨by simp, .inr ⟨b, cap, rfl, hcap⟩⟩
theorem WPL.compactSl {ρ : Go.Shelf.Ren} (Ly : SlLaysN.n43 P ρ) (hE : Enters P (ρ.f 43)) {d : Option Tmp} {c x : Operand} {ats : Array TypeId} {v : Value} {e : TypeId} {lst : List Int} {cs : List Value} {A B : Locs}
    (hc : evL l c = some (.func (.func (ρ.f 43)) #[] #[])) (hx : evL l x = some v) (hcs : cs = lst.map (Value.int .i64)) (ho : Own v cs 1 lst.length) (hL : L = A ++ (slL v cs e 1 ++ B)) (hsz : lst.length < 4611686018427387904)
    (K : ∀ v', Own v' ((Lib.compact lst).map (Value.int .i64)) 1 (Lib.compact lst).length → WPL P r ops rest Q ⟨n, putL d v' l, ds⟩ G (A ++ (slL v' ((Lib.compact lst).map (Value.int .i64)) e 1 ++ B))) :
    WPL P r ops (⟨d, .call ⟨.value c, #[x], ats⟩, ty, pos, af, none⟩ :: rest) Q ⟨n, l, ds⟩ G L := by
  subst hL hcs
  have ha : evs l (#[x] : Array Operand).toList = some [v] := evsC hx rfl
  rcases ho.2 with ⟨rfl, h0⟩ | ⟨b, cap, rfl, hcap⟩
  · have hl0 : lst = [] := List.length_eq_zero_iff.1 h0
    subst hl0
    refine WPL.fresh hc ha (Q0 := fun v H' => v = .slice none 0 0 ∧ H' = ov G (A ++ (slL (.slice none 0 0) (([] : List Int).map (Value.int .i64)) e 1 ++ B))) (fun wf => Ev.compactIntNone Ly hE) fun v H' ⟨h2, h3⟩ => ⟨G, _, fun wf => ⟨wf, by rw [h3]; exact Sub.refl _⟩, ?_⟩
    subst h2
    have e0 : Lib.compact ([] : List Int) = [] := by have := Lib.compact_length_le ([] : List Int); exact List.length_eq_zero_iff.1 (by simpa using this)
    rw [e0] at K
    exact K _ ho
  · have hi : ∀ V, UpdR G (A ++ (slL (.slice (some ⟨b, 0, none⟩) lst.length cap) (lst.map (Value.int .i64)) e 1 ++ B)) b (.row 0 (lst.map (Value.int .i64)) e (cap * 1)) V G (A ++ ((b, V) :: B)) := fun V => UpdR.skip UpdR.here A
    have hle := Lib.compact_length_le lst
    refine WPL.fresh hc ha (fun wf => Ev.compactInt Ly hE ((hi (.obj default)) wf).1 hcap (by omega)) fun v H' ⟨h2, h5⟩ => ⟨G, A ++ (slL (.slice (some ⟨b, 0, none⟩) (Lib.compact lst).length cap) ((Lib.compact lst).map (Value.int .i64)) e 1 ++ B), fun wf => ?_, ?_⟩
    · obtain ⟨-, q2, q3⟩ := hi (.row 0 ((Lib.compact lst).map (Value.int .i64)) e (cap * 1)) wf
      exact ⟨q2, by rw [h5]; exact fun b V hb => by rw [← q3]; exact hb⟩
    · subst h2
      exact K _ ⟨by simp, .inr ⟨b, cap, rfl, by omega⟩⟩
end
end Go.Proofs.YtfoakjdnopljmaaGreatDoor

set_option linter.unusedVariables false
set_option linter.unusedSimpArgs false
namespace Go.Proofs.YtfoakjdnopljmaaGreatDoor
open Go

/-! ### Slices that came in -/
structure SlIn (H : Heap) (a : Option Addr) (b c : Nat) (cs : List Value) (e : TypeId) (n m : Nat) : Prop where
  len : cs.length = m * n
  or : (a = none ∧ m = 0 ∧ c = 0) ∨ (a = some ⟨b, 0, none⟩ ∧ m ≤ c ∧ H b = some (.row 0 cs e (c * n)))
section
variable {H : Heap} {a : Option Addr} {b c : Nat} {cs : List Value} {e : TypeId} {n m : Nat}
theorem SlIn.at (h : SlIn H a b c cs e n m) (hm : 0 < m) : a = some ⟨b, 0, none⟩ ∧ m ≤ c ∧ H b = some (.row 0 cs e (c * n)) := by
  rcases h.or with ⟨_, h0, _⟩ | h
  · omega
  · exact h
theorem SlIn.le (h : SlIn H a b c cs e n m) : m ≤ c := by rcases h.or with ⟨_, h0, _⟩ | ⟨_, h, _⟩ <;> omega
theorem SlIn.up {L : Locs} (h : SlIn H a b c cs e n m) (wf : Wf H L) : SlIn (ov H L) a b c cs e n m :=
  ⟨h.len, h.or.imp id fun ⟨h1, h2, h3⟩ => ⟨h1, h2, InR.base h3 wf⟩⟩
theorem SlIn.mono {H' : Heap} (h : SlIn H a b c cs e n m) (hs : ∀ V, H b = some V → H' b = some V) : SlIn H' a b c cs e n m :=
  ⟨h.len, h.or.imp id fun ⟨h1, h2, h3⟩ => ⟨h1, h2, hs _ h3⟩⟩
theorem SlIn.take (h : SlIn H a b c cs e n m) {o k : Nat} (hk : o + k ≤ m * n) : (View.row 0 cs e (c * n)).take o k = some ((cs.drop o).take k) := by
  have := h.len
  rw [View.take_row (Nat.zero_le _) (by omega)]; rfl
theorem slIn_own {v : Value} (ho : Own v cs n m) : ∃ a b c, v = .slice a m c ∧ ∀ (G : Heap) (A B : Locs), Wf G (A ++ (slL v cs e n ++ B)) → SlIn (ov G (A ++ (slL v cs e n ++ B))) a b c cs e n m := by
  rcases ho.2 with ⟨rfl, rfl⟩ | ⟨b, cap, rfl, hc⟩
  · exact ⟨none, 0, 0, rfl, fun G A B wf => ⟨ho.1, .inl ⟨rfl, rfl, rfl⟩⟩⟩
  · exact ⟨some ⟨b, 0, none⟩, b, cap, rfl, fun G A B wf => ⟨ho.1, .inr ⟨rfl, hc, InR.skip (InR.here (L := B)) A wf⟩⟩⟩

theorem slIn_own2 {v : Value} (ho : Own v cs n m) : ∃ a b c, v = .slice a m c ∧ (0 < m → a = some ⟨b, 0, none⟩) ∧ m ≤ c ∧ ∀ (G : Heap) (A B : Locs), Wf G (A ++ (slL v cs e n ++ B)) → SlIn (ov G (A ++ (slL v cs e n ++ B))) a b c cs e n m := by
  rcases ho.2 with ⟨rfl, rfl⟩ | ⟨b, cap, rfl, hc⟩
  · exact ⟨none, 0, 0, rfl, (fun h => by omega), Nat.le_refl _, fun G A B wf => ⟨ho.1, .inl ⟨rfl, rfl, rfl⟩⟩⟩
  · exact ⟨some ⟨b, 0, none⟩, b, cap, rfl, (fun _ => rfl), hc, fun G A B wf => ⟨ho.1, .inr ⟨rfl, hc, InR.skip (InR.here (L := B)) A wf⟩⟩⟩
theorem slIn_inr {a : Option Addr} {b c : Nat} {G : Heap} {A B : Locs} (h : ∀ (G : Heap) (A B : Locs), Wf G (A ++ (slL (.slice a m c) cs e n ++ B)) → SlIn (ov G (A ++ (slL (.slice a m c) cs e n ++ B))) a b c cs e n m) (hm : 0 < m) :
    InR G (A ++ (slL (.slice a m c) cs e n ++ B)) b (.row 0 cs e (c * n)) := fun wf => ((h G A B wf).at hm).2.2
def sliceV (a : Option Addr) (b i j c n : Nat) : Value := match a with
  | none => .slice none 0 0
  | some _ => .slice (sub b 0 i c n) (j - i) (c - i)
end
section
variable {P : Program} {l : Slots} {G : Heap} {L : Locs} {d : Option Tmp} {ty : TypeId} {pos : String} {af : Array Edge} {g : Option (Nat × Bool)} {a : Option Addr} {b c : Nat} {cs : List Value} {e : TypeId} {n m : Nat}
theorem PS.slAny {H : Heap} {t e' : TypeId} {x : Operand} {lo hi : Option Operand} {i j : Nat} {ag : Bool} [ht : ElemK P t none e' ag n] (hs : SlIn H a b c cs e n m) (hx : evL l x = some (.slice a m c)) (hl : Bnd l lo 0 i) (hh : Bnd l hi m j) (h1 : i ≤ j) (h2 : j ≤ m) :
    PS P ⟨d, .slice t x lo hi none, ty, pos, af, g⟩ l G L (sliceV a b i j c n) := by
  rcases hs.or with ⟨rfl, rfl, rfl⟩ | ⟨rfl, h3, _⟩
  · have hi0 : i = 0 := by omega
    have hj0 : j = 0 := by omega
    subst hi0 hj0
    exact PS.slNil hx hl hh rfl (by simp)
  · exact PS.slSlice (m := c) hx hl hh rfl h1 (by omega) (Nat.le_refl _) (by simp)
theorem srcAny {i j : Nat} (hs : SlIn G a b c cs e n m) (h1 : i ≤ j) (h2 : j ≤ m) : SrcIs G L (sliceV a b i j c n) (j - i) n ((cs.drop (i * n)).take ((j - i) * n)) := by
  rcases hs.or with ⟨rfl, rfl, rfl⟩ | ⟨rfl, h3, h4⟩
  · have hj : j - i = 0 := by omega
    exact .inr ⟨rfl, hj, by rw [hj]; simp⟩
  · refine .inl ?_
    have hk : i * n + (j - i) * n ≤ m * n := by rw [← Nat.add_mul]; exact Nat.mul_le_mul_right n (by omega)
    by_cases hc : c = i
    · have hj : j - i = 0 := by omega
      exact ⟨b, 0, c - i, _, by simp [sliceV, sub, hc], InR.base h4, by rw [hj]; simp [View.take]⟩
    · exact ⟨b, i * n, c - i, _, by simp [sliceV, sub, hc], InR.base h4, hs.take hk⟩
end
section
variable {P : Program} {r : Option Nat} {Q : Post} {n : Nat} {l : Slots} {ds : List Nat} {G : Heap} {L L0 : Locs} {ops : Array Oper} {k : Nat} {rem : List Nat} {X : List LateI} {rest : List Oper}
/-- A new block where nothing else is ready. -/
theorem ScrK.nw {i : Nat} {o : Oper} {v : Nat → Value} {V : View} (hs : L0.Sublist L) (ho : ops[i]? = some o) (hi : rem.contains i = true) (hone : onlyB ops rem i = true) (hw : wantedL ops l o.guard = some true) (h : NS P o l v V)
    (hl : ∀ x ∈ X, ∀ d, dstAt ops x.i = some d → look d l = none) (K : ∀ b, ScrK P r ops k Q n ds (ov G L0) (rem.erase i) X (putL o.dst (v b) l) G ((b, V) :: L)) : ScrK P r ops k Q n ds (ov G L0) rem X l G L :=
  ScrK.gs ho hi hone hw h.gs hl fun u G' L' ⟨b, h1, h2, h3⟩ => by
    subst h1 h2 h3
    exact ⟨fun _ wf => sub_of (List.Sublist.cons _ hs) wf, K b⟩
theorem ScrK.app {i : Nat} {t t' e : TypeId} {x y : Operand} {v u : Value} {cs news z : List Value} {kk m m2 bytes : Nat} {ag : Bool} {e2 : TypeId} {d : Option Tmp} {ty : TypeId} {pos : String} {af : Array Edge} (A B : Locs) [ht : ElemK P t none e ag kk] [ht' : Und P t' (.slice e2)] [hin : InfoK P e kk bytes z]
    (ho : ops[i]? = some ⟨d, .call ⟨.builtin .append, #[x, y], #[t, t']⟩, ty, pos, af, none⟩) (hi : rem.contains i = true) (hone : onlyB ops rem i = true)
    (hx : evL l x = some v) (hy : evL l y = some u) (hO : Own v cs kk m) (hL : L = A ++ (slL v cs e kk ++ B)) (hs : ∀ S : Locs, L0.Sublist (A ++ (S ++ B))) (hsrc : SrcIs G L u m2 kk news) (h1 : news.all (·.oneCell') = true) (hn : 0 < bytes) (hb : (m + m2) * bytes ≤ 140737488355328)
    (hl : ∀ x ∈ X, ∀ d, dstAt ops x.i = some d → look d l = none)
    (K : ∀ v', Own v' (cs ++ news) kk (m + m2) → ScrK P r ops k Q n ds (ov G L0) (rem.erase i) X (putL d v' l) G (A ++ (slL v' (cs ++ news) e kk ++ B))) : ScrK P r ops k Q n ds (ov G L0) rem X l G L := by
  subst hL
  exact ScrK.gs ho hi hone rfl (GS.append hx hy hO hsrc h1 hn hb) hl fun v' G1 L1 ⟨h1, h2, h3⟩ => by
    subst h2 h3
    exact ⟨fun _ wf => sub_of (hs _) wf, K v' h1⟩
/-- Behind one block that may have come late. -/
theorem ScrK.appX {i : Nat} {t t' e : TypeId} {x y : Operand} {v : Value} {u : Nat → Value} {cs news z : List Value} {kk m m2 bytes : Nat} {ag : Bool} {e2 : TypeId} {d : Option Tmp} {ty : TypeId} {pos : String} {af : Array Edge} {q : LateI} (A B : Locs) [ht : ElemK P t none e ag kk] [ht' : Und P t' (.slice e2)] [hin : InfoK P e kk bytes z]
    (ho : ops[i]? = some ⟨d, .call ⟨.builtin .append, #[x, y], #[t, t']⟩, ty, pos, af, none⟩) (hi : rem.contains i = true) (hone : onlyB ops rem i = true) (hX : [q].all (fun z => edgeB ⟨d, .call ⟨.builtin .append, #[x, y], #[t, t']⟩, ty, pos, af, none⟩ z.i) = true)
    (hx : ∀ b, evL (putL (dstAt ops q.i) (q.v b) l) x = some v) (hy : ∀ b, evL (putL (dstAt ops q.i) (q.v b) l) y = some (u b)) (hO : Own v cs kk m) (hL : L = A ++ (slL v cs e kk ++ B)) (hs : ∀ S : Locs, L0.Sublist (A ++ (S ++ B)))
    (hsrc : ∀ b, SrcIs G ((b, q.V) :: L) (u b) m2 kk news) (h1 : news.all (·.oneCell') = true) (hn : 0 < bytes) (hb : (m + m2) * bytes ≤ 140737488355328)
    (hl : ∀ x ∈ [q], ∀ d, dstAt ops x.i = some d → look d l = none)
    (K : ∀ b v', Own v' (cs ++ news) kk (m + m2) → ScrK P r ops k Q n ds (ov G L0) (rem.erase i) [] (putL d v' (putL (dstAt ops q.i) (q.v b) l)) G ((b, q.V) :: (A ++ (slL v' (cs ++ news) e kk ++ B)))) : ScrK P r ops k Q n ds (ov G L0) rem [q] l G L := by
  subst hL
  refine ScrK.gsX ho hi hone rfl hX hl (fun b => ⟨_, GS.append (A := (b, q.V) :: A) (hx b) (hy b) hO (hsrc b) h1 hn hb, fun v' G1 L1 h => ?_⟩)
  obtain ⟨h1, h2, h3⟩ := h
  subst h2 h3
  exact ⟨fun _ wf => sub_of (List.Sublist.cons _ (hs _)) wf, K b v' h1⟩
end
end Go.Proofs.YtfoakjdnopljmaaGreatDoor

set_option linter.unusedVariables false
set_option linter.unusedSimpArgs false
namespace Go.Proofs.YtfoakjdnopljmaaGreatDoor
open Go
theorem ov_set_base {G : Heap} {L : Locs} {b : Nat} {V : View} (wf : Wf G L) (h : b ∉ L.map (·.1)) : Wf (G.set b V) L ∧ ov (G.set b V) L = (ov G L).set b V := by
  refine ⟨⟨wf.1, fun x hx => ?_⟩, ?_⟩
  · have hne : x.1 ≠ b := fun e => h (by rw [← e]; exact List.mem_map_of_mem hx)
    simp only [Heap.set, if_neg hne]; exact wf.2 x hx
  · funext c
    simp only [ov, Heap.set]
    by_cases hc : c = b
    · subst hc
      have : lookL c L = none := by
        cases hl : lookL c L with
        | none => rfl
        | some V' => exact absurd (List.mem_map_of_mem (f := (·.1)) ((lookL_mem wf.1).1 hl)) h
      simp [this]
    · cases lookL c L <;> simp [hc]
theorem base_out {G : Heap} {L : Locs} {b : Nat} {V : View} (wf : Wf G L) (h : G b = some V) : b ∉ L.map (·.1) := fun hm => by
  obtain ⟨x, hx, rfl⟩ := List.mem_map.1 hm
  rw [wf.2 x hx] at h; cases h
theorem none_out {G : Heap} {L : Locs} {b : Nat} (h : ov G L b = none) : b ∉ L.map (·.1) := (ov_none h).1
theorem wf_perm2 {G : Heap} {L L' : Locs} (h : L.Perm L') : Wf G L → Wf G L' ∧ Sub (ov G L') (ov G L) := fun wf => by
  obtain ⟨h1, h2⟩ := wf_perm h wf
  exact ⟨h1, by rw [h2]; exact Sub.refl _⟩
theorem wf_then {G : Heap} {L L1 L2 : Locs} (h : Wf G L → Wf G L1 ∧ Sub (ov G L1) (ov G L)) (h' : Wf G L1 → Wf G L2 ∧ Sub (ov G L2) (ov G L1)) : Wf G L → Wf G L2 ∧ Sub (ov G L2) (ov G L) := fun wf =>
  ⟨(h' (h wf).1).1, (h' (h wf).1).2.trans (h wf).2⟩

section
variable {P : Program} {r : Option Nat} {Q : Post} {n : Nat} {l : Slots} {ds : List Nat} {G : Heap} {L : Locs} {ops : Array Oper} {k : Nat} {rem : List Nat} {X : List LateI} {rest : List Oper} {ty : TypeId} {pos : String} {af : Array Edge} {g : Option (Nat × Bool)}
/-- A call in a region that draws its order, where nothing else is ready; what lay before still lies there. -/
theorem Scr.ev {i : Nat} {d : Option Tmp} {c : Operand} {args : Array Operand} {ats : Array TypeId} {f : FuncId} {first caps vs : List Value} {Q0 : Value → Heap → Prop} (ho : ops[i]? = some ⟨d, .call ⟨.value c, args, ats⟩, ty, pos, af, g⟩) (hi : rem.contains i = true) (hone : onlyB ops rem i = true)
    (hw : wantedL ops l g = some true) (hc : evL l c = some (.func (.func f) ⟨first⟩ ⟨caps⟩)) (ha : evs l args.toList = some vs) (h : Wf G L → Ev P f (first ++ vs ++ caps) (ov G L) Q0) (hl : ∀ x ∈ X, ∀ d, dstAt ops x.i = some d → look d l = none)
    (K : ∀ v H', Q0 v H' → ∃ L', (Wf G L → Wf G L' ∧ Sub (ov G L') H' ∧ Sub (ov G L) (ov G L')) ∧ Scr P r ops k Q n ds (rem.erase i) X (putL d v l) G L') : Scr P r ops k Q n ds rem X l G L :=
  Scr.gs ho hi hone hw (GS.call hc ha h (R := fun v G' L' => G' = G ∧ (Wf G L → Sub (ov G L) (ov G L')) ∧ Scr P r ops k Q n ds (rem.erase i) X (putL d v l) G L') fun v H' hq => by
    obtain ⟨L', h1, h2⟩ := K v H' hq
    exact ⟨G, L', fun wf => ⟨(h1 wf).1, (h1 wf).2.1⟩, rfl, fun wf => (h1 wf).2.2, h2⟩) hl fun v G' L' ⟨h1, h2, h3⟩ => by
      subst h1; exact ⟨fun wf _ => h2 wf, h3⟩
/-- One that makes a slice. -/
theorem Scr.sl {i : Nat} {d : Option Tmp} {c : Operand} {args : Array Operand} {ats : Array TypeId} {f : FuncId} {first caps vs : List Value} {e : TypeId} {kk : Nat} {R : Value → List Value → Nat → Prop} (ho : ops[i]? = some ⟨d, .call ⟨.value c, args, ats⟩, ty, pos, af, g⟩) (hi : rem.contains i = true) (hone : onlyB ops rem i = true)
    (hw : wantedL ops l g = some true) (hc : evL l c = some (.func (.func f) ⟨first⟩ ⟨caps⟩)) (ha : evs l args.toList = some vs) (h : Wf G L → EvS P f (first ++ vs ++ caps) (ov G L) e kk R) (hl : ∀ x ∈ X, ∀ d, dstAt ops x.i = some d → look d l = none)
    (K : ∀ v cs m, Own v cs kk m → R v cs m → Scr P r ops k Q n ds (rem.erase i) X (putL d v l) G (slL v cs e kk ++ L)) : Scr P r ops k Q n ds rem X l G L :=
  Scr.ev ho hi hone hw hc ha h hl fun v H' ⟨cs, m, h1, h2, h3, h4⟩ => ⟨slL v cs e kk ++ L, fun wf => ⟨(ov_slL (H := G) wf h3).1, by rw [h4, (ov_slL (H := G) wf h3).2]; exact Sub.refl _, (wf_sublist (List.sublist_append_right _ _) (ov_slL (H := G) wf h3).1).2⟩, K v cs m h1 h2⟩
/-- One that leaves all as it was. -/
theorem Scr.clg {i : Nat} {d : Option Tmp} {c : Operand} {args : Array Operand} {ats : Array TypeId} {f : FuncId} {first caps vs : List Value} {v : Value} (ho : ops[i]? = some ⟨d, .call ⟨.value c, args, ats⟩, ty, pos, af, g⟩) (hi : rem.contains i = true) (hone : onlyB ops rem i = true)
    (hw : wantedL ops l g = some true) (hc : evL l c = some (.func (.func f) ⟨first⟩ ⟨caps⟩)) (ha : evs l args.toList = some vs) (h : Wf G L → EvP P f (first ++ vs ++ caps) (ov G L) v) (hl : ∀ x ∈ X, ∀ d, dstAt ops x.i = some d → look d l = none)
    (K : Scr P r ops k Q n ds (rem.erase i) X (putL d v l) G L) : Scr P r ops k Q n ds rem X l G L :=
  Scr.ev ho hi hone hw hc ha h hl fun u H' ⟨h1, h2⟩ => ⟨L, fun wf => ⟨wf, by rw [h2]; exact Sub.refl _, Sub.refl _⟩, by rw [h1]; exact K⟩
end
theorem fill_two {n : Nat} {cs ds z : List Value} (h : cs.length = n) (h' : ds.length = n) (hz : z.length = 2 * n) : fillL ((List.range 2).map fun i => (i * n, n)) z [(0, .agg ⟨cs⟩), (1, .agg ⟨ds⟩)] = some (cs ++ ds) := by
  show (if (Value.agg ⟨cs⟩).cells.size = n ∧ 0 * n + n ≤ z.length then fillL ((List.range 2).map fun i => (i * n, n)) (wr z (0 * n) (Value.agg ⟨cs⟩).cells.toList) [(1, .agg ⟨ds⟩)] else none) = _
  rw [if_pos ⟨h, by omega⟩, Nat.zero_mul]
  have e1 : wr z 0 cs = cs ++ z.drop n := by rw [wr_split cs z 0 (by omega)]; simp [h]
  show fillL ((List.range 2).map fun i => (i * n, n)) (wr z 0 cs) [(1, .agg ⟨ds⟩)] = _
  rw [e1]
  show (if (Value.agg ⟨ds⟩).cells.size = n ∧ 1 * n + n ≤ (cs ++ z.drop n).length then fillL _ (wr (cs ++ z.drop n) (1 * n) (Value.agg ⟨ds⟩).cells.toList) [] else none) = _
  rw [if_pos ⟨h', by simp; omega⟩, Nat.one_mul]
  show some (wr (cs ++ z.drop n) n ds) = _
  rw [wr_split ds _ n (by simp; omega), List.take_left' h]
  congr 1
  rw [List.drop_append, List.drop_of_length_le (show cs.length ≤ n + ds.length by omega)]
  simp; omega
end Go.Proofs.YtfoakjdnopljmaaGreatDoor

/- The facts on the program's types and functions that the walks want. -/
namespace Go.Proofs.YtfoakjdnopljmaaGreatDoor
open Go Go.Proofs
set_option maxRecDepth 100000
instance : TyK Tryz.prog 3 false 1 := ⟨by kernel_rfl⟩
instance : TyK Tryz.prog 4 false 1 := ⟨by kernel_rfl⟩
instance : TyK Tryz.prog 5 false 1 := ⟨by kernel_rfl⟩
instance : TyK Tryz.prog 9 false 1 := ⟨by kernel_rfl⟩
instance : TyK Tryz.prog 23 true 12 := ⟨by kernel_rfl⟩
instance : TyK Tryz.prog 24 true 12 := ⟨by kernel_rfl⟩
instance : TyK Tryz.prog 28 true 10 := ⟨by kernel_rfl⟩
instance : TyK Tryz.prog 30 true 25 := ⟨by kernel_rfl⟩
instance : TyK Tryz.prog 31 false 1 := ⟨by kernel_rfl⟩
instance : TyK Tryz.prog 32 false 1 := ⟨by kernel_rfl⟩
instance : TyK Tryz.prog 33 false 1 := ⟨by kernel_rfl⟩
instance : TyK Tryz.prog 35 true 3 := ⟨by kernel_rfl⟩
instance : TyK Tryz.prog 36 false 1 := ⟨by kernel_rfl⟩
instance : TyK Tryz.prog 37 false 1 := ⟨by kernel_rfl⟩
instance : TyK Tryz.prog 38 false 1 := ⟨by kernel_rfl⟩
instance : TyK Tryz.prog 40 true 3 := ⟨by kernel_rfl⟩
instance : TyK Tryz.prog 41 false 1 := ⟨by kernel_rfl⟩
instance : TyK Tryz.prog 43 true 26 := ⟨by kernel_rfl⟩
instance : TyK Tryz.prog 45 true 53 := ⟨by kernel_rfl⟩
instance : TyK Tryz.prog 49 true 10 := ⟨by kernel_rfl⟩
instance : TyK Tryz.prog 51 true 25 := ⟨by kernel_rfl⟩
instance : TyK Tryz.prog 52 false 1 := ⟨by kernel_rfl⟩
instance : TyK Tryz.prog 54 true 9 := ⟨by kernel_rfl⟩
instance : TyK Tryz.prog 56 true 35 := ⟨by kernel_rfl⟩
instance : TyK Tryz.prog 58 false 1 := ⟨by kernel_rfl⟩
instance : TyK Tryz.prog 60 true 9 := ⟨by kernel_rfl⟩
instance : TyK Tryz.prog 62 true 35 := ⟨by kernel_rfl⟩
instance : TyK Tryz.prog 72 true 26 := ⟨by kernel_rfl⟩
instance : TyK Tryz.prog 84 false 1 := ⟨by kernel_rfl⟩
instance : TyK Tryz.prog 86 true 1 := ⟨by kernel_rfl⟩
instance : TyK Tryz.prog 89 true 52 := ⟨by kernel_rfl⟩
instance : TyK Tryz.prog 90 true 50 := ⟨by kernel_rfl⟩
instance : TyK Tryz.prog 124 true 34 := ⟨by kernel_rfl⟩
instance : TyK Tryz.prog 126 true 26 := ⟨by kernel_rfl⟩
instance : TyK Tryz.prog 134 true 25 := ⟨by kernel_rfl⟩
instance : TyK Tryz.prog 143 false 1 := ⟨by kernel_rfl⟩
instance : TyK Tryz.prog 145 false 1 := ⟨by kernel_rfl⟩
instance : TyK Tryz.prog 148 false 1 := ⟨by kernel_rfl⟩
instance : TyK Tryz.prog 163 true 3 := ⟨by kernel_rfl⟩
instance : TyK Tryz.prog 167 true 3 := ⟨by kernel_rfl⟩
instance : TyK Tryz.prog 207 false 1 := ⟨by kernel_rfl⟩
instance : TyK Tryz.prog 219 false 1 := ⟨by kernel_rfl⟩
instance : TyK Tryz.prog 221 false 1 := ⟨by kernel_rfl⟩
instance : TyK Tryz.prog 223 false 1 := ⟨by kernel_rfl⟩
instance : TyK Tryz.prog 225 false 1 := ⟨by kernel_rfl⟩
instance : TyK Tryz.prog 227 false 1 := ⟨by kernel_rfl⟩
instance : TyK Tryz.prog 229 true 5 := ⟨by kernel_rfl⟩
instance : TyK Tryz.prog 263 true 256 := ⟨by kernel_rfl⟩
instance : TyK Tryz.prog 278 true 2 := ⟨by kernel_rfl⟩
instance : TyK Tryz.prog 279 true 32 := ⟨by kernel_rfl⟩
instance : FieldK Tryz.prog 28 0 true 0 3 := ⟨by kernel_rfl⟩
instance : FieldK Tryz.prog 28 1 true 3 4 := ⟨by kernel_rfl⟩
instance : FieldK Tryz.prog 28 2 true 7 3 := ⟨by kernel_rfl⟩
instance : FieldK Tryz.prog 30 0 false 0 1 := ⟨by kernel_rfl⟩
instance : FieldK Tryz.prog 30 1 false 1 1 := ⟨by kernel_rfl⟩
instance : FieldK Tryz.prog 30 2 false 2 1 := ⟨by kernel_rfl⟩
instance : FieldK Tryz.prog 30 3 true 3 12 := ⟨by kernel_rfl⟩
instance : FieldK Tryz.prog 30 4 true 15 10 := ⟨by kernel_rfl⟩
instance : FieldK Tryz.prog 35 0 false 0 1 := ⟨by kernel_rfl⟩
instance : FieldK Tryz.prog 35 1 false 1 1 := ⟨by kernel_rfl⟩
instance : FieldK Tryz.prog 35 2 false 2 1 := ⟨by kernel_rfl⟩
instance : FieldK Tryz.prog 40 0 false 0 1 := ⟨by kernel_rfl⟩
instance : FieldK Tryz.prog 40 1 false 1 1 := ⟨by kernel_rfl⟩
instance : FieldK Tryz.prog 40 2 false 2 1 := ⟨by kernel_rfl⟩
instance : FieldK Tryz.prog 43 0 true 0 25 := ⟨by kernel_rfl⟩
instance : FieldK Tryz.prog 43 1 false 25 1 := ⟨by kernel_rfl⟩
instance : FieldK Tryz.prog 45 0 false 0 1 := ⟨by kernel_rfl⟩
instance : FieldK Tryz.prog 45 1 false 1 1 := ⟨by kernel_rfl⟩
instance : FieldK Tryz.prog 45 2 true 2 25 := ⟨by kernel_rfl⟩
instance : FieldK Tryz.prog 45 3 true 27 26 := ⟨by kernel_rfl⟩
instance : FieldK Tryz.prog 51 0 false 0 1 := ⟨by kernel_rfl⟩
instance : FieldK Tryz.prog 51 1 false 1 1 := ⟨by kernel_rfl⟩
instance : FieldK Tryz.prog 51 2 false 2 1 := ⟨by kernel_rfl⟩
instance : FieldK Tryz.prog 51 3 true 3 12 := ⟨by kernel_rfl⟩
instance : FieldK Tryz.prog 51 4 true 15 10 := ⟨by kernel_rfl⟩
instance : FieldK Tryz.prog 54 0 false 0 1 := ⟨by kernel_rfl⟩
instance : FieldK Tryz.prog 54 1 false 1 1 := ⟨by kernel_rfl⟩
instance : FieldK Tryz.prog 54 2 false 2 1 := ⟨by kernel_rfl⟩
instance : FieldK Tryz.prog 54 3 false 3 1 := ⟨by kernel_rfl⟩
instance : FieldK Tryz.prog 54 4 false 4 1 := ⟨by kernel_rfl⟩
instance : FieldK Tryz.prog 54 5 false 5 1 := ⟨by kernel_rfl⟩
instance : FieldK Tryz.prog 54 6 false 6 1 := ⟨by kernel_rfl⟩
instance : FieldK Tryz.prog 54 7 false 7 1 := ⟨by kernel_rfl⟩
instance : FieldK Tryz.prog 54 8 false 8 1 := ⟨by kernel_rfl⟩
instance : FieldK Tryz.prog 56 0 true 0 25 := ⟨by kernel_rfl⟩
instance : FieldK Tryz.prog 56 1 false 25 1 := ⟨by kernel_rfl⟩
instance : FieldK Tryz.prog 56 2 true 26 9 := ⟨by kernel_rfl⟩
instance : FieldK Tryz.prog 60 0 false 0 1 := ⟨by kernel_rfl⟩
instance : FieldK Tryz.prog 60 1 false 1 1 := ⟨by kernel_rfl⟩
instance : FieldK Tryz.prog 60 2 false 2 1 := ⟨by kernel_rfl⟩
instance : FieldK Tryz.prog 60 3 false 3 1 := ⟨by kernel_rfl⟩
instance : FieldK Tryz.prog 60 4 false 4 1 := ⟨by kernel_rfl⟩
instance : FieldK Tryz.prog 60 5 false 5 1 := ⟨by kernel_rfl⟩
instance : FieldK Tryz.prog 60 6 false 6 1 := ⟨by kernel_rfl⟩
instance : FieldK Tryz.prog 60 7 false 7 1 := ⟨by kernel_rfl⟩
instance : FieldK Tryz.prog 60 8 false 8 1 := ⟨by kernel_rfl⟩
instance : FieldK Tryz.prog 62 0 true 0 25 := ⟨by kernel_rfl⟩
instance : FieldK Tryz.prog 62 1 false 25 1 := ⟨by kernel_rfl⟩
instance : FieldK Tryz.prog 62 2 true 26 9 := ⟨by kernel_rfl⟩
instance : FieldK Tryz.prog 72 1 false 25 1 := ⟨by kernel_rfl⟩
instance : FieldK Tryz.prog 86 0 false 0 1 := ⟨by kernel_rfl⟩
instance : FieldK Tryz.prog 89 0 false 0 1 := ⟨by kernel_rfl⟩
instance : FieldK Tryz.prog 89 1 false 1 1 := ⟨by kernel_rfl⟩
instance : FieldK Tryz.prog 89 2 true 2 25 := ⟨by kernel_rfl⟩
instance : FieldK Tryz.prog 89 3 true 27 25 := ⟨by kernel_rfl⟩
instance : FieldK Tryz.prog 124 0 true 0 25 := ⟨by kernel_rfl⟩
instance : FieldK Tryz.prog 126 0 true 0 25 := ⟨by kernel_rfl⟩
instance : FieldK Tryz.prog 126 1 false 25 1 := ⟨by kernel_rfl⟩
instance : FieldK Tryz.prog 163 0 false 0 1 := ⟨by kernel_rfl⟩
instance : FieldK Tryz.prog 163 1 false 1 1 := ⟨by kernel_rfl⟩
instance : FieldK Tryz.prog 163 2 false 2 1 := ⟨by kernel_rfl⟩
instance : FieldK Tryz.prog 167 0 false 0 1 := ⟨by kernel_rfl⟩
instance : FieldK Tryz.prog 167 1 false 1 1 := ⟨by kernel_rfl⟩
instance : FieldK Tryz.prog 167 2 false 2 1 := ⟨by kernel_rfl⟩
instance : FieldK Tryz.prog 229 0 false 0 1 := ⟨by kernel_rfl⟩
instance : FieldK Tryz.prog 229 1 false 1 1 := ⟨by kernel_rfl⟩
instance : FieldK Tryz.prog 229 2 false 2 1 := ⟨by kernel_rfl⟩
instance : FieldK Tryz.prog 229 3 false 3 1 := ⟨by kernel_rfl⟩
instance : FieldK Tryz.prog 229 4 false 4 1 := ⟨by kernel_rfl⟩
instance : FieldK Tryz.prog 278 0 false 0 1 := ⟨by kernel_rfl⟩
instance : FieldK Tryz.prog 278 1 false 1 1 := ⟨by kernel_rfl⟩
instance : ElemK Tryz.prog 22 none 45 true 53 := ⟨by kernel_rfl⟩
instance : ElemK Tryz.prog 23 (some 12) 5 false 1 := ⟨by kernel_rfl⟩
instance : ElemK Tryz.prog 24 (some 12) 5 false 1 := ⟨by kernel_rfl⟩
instance : ElemK Tryz.prog 25 (some 3) 5 false 1 := ⟨by kernel_rfl⟩
instance : ElemK Tryz.prog 26 (some 4) 5 false 1 := ⟨by kernel_rfl⟩
instance : ElemK Tryz.prog 33 none 43 true 26 := ⟨by kernel_rfl⟩
instance : ElemK Tryz.prog 36 none 56 true 35 := ⟨by kernel_rfl⟩
instance : ElemK Tryz.prog 37 none 51 true 25 := ⟨by kernel_rfl⟩
instance : ElemK Tryz.prog 38 none 72 true 26 := ⟨by kernel_rfl⟩
instance : ElemK Tryz.prog 41 none 62 true 35 := ⟨by kernel_rfl⟩
instance : ElemK Tryz.prog 49 (some 10) 5 false 1 := ⟨by kernel_rfl⟩
instance : ElemK Tryz.prog 83 none 89 true 52 := ⟨by kernel_rfl⟩
instance : ElemK Tryz.prog 87 none 126 true 26 := ⟨by kernel_rfl⟩
instance : ElemK Tryz.prog 90 (some 2) 30 true 25 := ⟨by kernel_rfl⟩
instance : ElemK Tryz.prog 104 none 30 true 25 := ⟨by kernel_rfl⟩
instance : ElemK Tryz.prog 107 none 3 false 1 := ⟨by kernel_rfl⟩
instance : ElemK Tryz.prog 121 none 124 true 34 := ⟨by kernel_rfl⟩
instance : ElemK Tryz.prog 134 (some 25) 5 false 1 := ⟨by kernel_rfl⟩
instance : ElemK Tryz.prog 154 none 5 false 1 := ⟨by kernel_rfl⟩
instance : ElemK Tryz.prog 192 none 9 false 1 := ⟨by kernel_rfl⟩
instance : ElemK Tryz.prog 263 (some 256) 4 false 1 := ⟨by kernel_rfl⟩
instance : ElemK Tryz.prog 276 (some 256) 5 false 1 := ⟨by kernel_rfl⟩
instance : ElemK Tryz.prog 279 (some 16) 278 true 2 := ⟨by kernel_rfl⟩
instance : ZeroK Tryz.prog 3 (.int .i64 0) := ⟨by kernel_rfl⟩
instance : ZeroK Tryz.prog 4 (.bool false) := ⟨by kernel_rfl⟩
instance : ZeroK Tryz.prog 5 (.int .u8 0) := ⟨by kernel_rfl⟩
instance : ZeroK Tryz.prog 9 (.string ⟨#[]⟩) := ⟨by kernel_rfl⟩
instance : ZeroK Tryz.prog 23 (.agg #[(.int .u8 0), (.int .u8 0), (.int .u8 0), (.int .u8 0), (.int .u8 0), (.int .u8 0), (.int .u8 0), (.int .u8 0), (.int .u8 0), (.int .u8 0), (.int .u8 0), (.int .u8 0)]) := ⟨by kernel_rfl⟩
instance : ZeroK Tryz.prog 24 (.agg #[(.int .u8 0), (.int .u8 0), (.int .u8 0), (.int .u8 0), (.int .u8 0), (.int .u8 0), (.int .u8 0), (.int .u8 0), (.int .u8 0), (.int .u8 0), (.int .u8 0), (.int .u8 0)]) := ⟨by kernel_rfl⟩
instance : ZeroK Tryz.prog 28 (.agg #[(.int .u8 0), (.int .u8 0), (.int .u8 0), (.int .u8 0), (.int .u8 0), (.int .u8 0), (.int .u8 0), (.int .u8 0), (.int .u8 0), (.int .u8 0)]) := ⟨by kernel_rfl⟩
instance : ZeroK Tryz.prog 30 (.agg #[(.int .u8 0), (.int .u8 0), (.int .u8 0), (.int .u8 0), (.int .u8 0), (.int .u8 0), (.int .u8 0), (.int .u8 0), (.int .u8 0), (.int .u8 0), (.int .u8 0), (.int .u8 0), (.int .u8 0), (.int .u8 0), (.int .u8 0), (.int .u8 0), (.int .u8 0), (.int .u8 0), (.int .u8 0), (.int .u8 0), (.int .u8 0), (.int .u8 0), (.int .u8 0), (.int .u8 0), (.int .u8 0)]) := ⟨by kernel_rfl⟩
instance : ZeroK Tryz.prog 35 (.agg #[(.map none), (.map none), (.slice none 0 0)]) := ⟨by kernel_rfl⟩
instance : ZeroK Tryz.prog 40 (.agg #[(.slice none 0 0), (.slice none 0 0), (.slice none 0 0)]) := ⟨by kernel_rfl⟩
instance : ZeroK Tryz.prog 43 (.agg #[(.int .u8 0), (.int .u8 0), (.int .u8 0), (.int .u8 0), (.int .u8 0), (.int .u8 0), (.int .u8 0), (.int .u8 0), (.int .u8 0), (.int .u8 0), (.int .u8 0), (.int .u8 0), (.int .u8 0), (.int .u8 0), (.int .u8 0), (.int .u8 0), (.int .u8 0), (.int .u8 0), (.int .u8 0), (.int .u8 0), (.int .u8 0), (.int .u8 0), (.int .u8 0), (.int .u8 0), (.int .u8 0), (.int .i64 0)]) := ⟨by kernel_rfl⟩
instance : ZeroK Tryz.prog 45 (.agg #[(.int .i64 0), (.slice none 0 0), (.int .u8 0), (.int .u8 0), (.int .u8 0), (.int .u8 0), (.int .u8 0), (.int .u8 0), (.int .u8 0), (.int .u8 0), (.int .u8 0), (.int .u8 0), (.int .u8 0), (.int .u8 0), (.int .u8 0), (.int .u8 0), (.int .u8 0), (.int .u8 0), (.int .u8 0), (.int .u8 0), (.int .u8 0), (.int .u8 0), (.int .u8 0), (.int .u8 0), (.int .u8 0), (.int .u8 0), (.int .u8 0), (.int .u8 0), (.int .u8 0), (.int .u8 0), (.int .u8 0), (.int .u8 0), (.int .u8 0), (.int .u8 0), (.int .u8 0), (.int .u8 0), (.int .u8 0), (.int .u8 0), (.int .u8 0), (.int .u8 0), (.int .u8 0), (.int .u8 0), (.int .u8 0), (.int .u8 0), (.int .u8 0), (.int .u8 0), (.int .u8 0), (.int .u8 0), (.int .u8 0), (.int .u8 0), (.int .u8 0), (.int .u8 0), (.int .i64 0)]) := ⟨by kernel_rfl⟩
instance : ZeroK Tryz.prog 49 (.agg #[(.int .u8 0), (.int .u8 0), (.int .u8 0), (.int .u8 0), (.int .u8 0), (.int .u8 0), (.int .u8 0), (.int .u8 0), (.int .u8 0), (.int .u8 0)]) := ⟨by kernel_rfl⟩
instance : ZeroK Tryz.prog 51 (.agg #[(.int .i64 0), (.int .i64 0), (.int .i64 0), (.int .u8 0), (.int .u8 0), (.int .u8 0), (.int .u8 0), (.int .u8 0), (.int .u8 0), (.int .u8 0), (.int .u8 0), (.int .u8 0), (.int .u8 0), (.int .u8 0), (.int .u8 0), (.int .u8 0), (.int .u8 0), (.int .u8 0), (.int .u8 0), (.int .u8 0), (.int .u8 0), (.int .u8 0), (.int .u8 0), (.int .u8 0), (.int .u8 0)]) := ⟨by kernel_rfl⟩
instance : ZeroK Tryz.prog 54 (.agg #[(.int .i64 0), (.int .i64 0), (.int .i64 0), (.int .i64 0), (.int .i64 0), (.bool false), (.int .u64 0), (.int .u64 0), (.string ⟨#[]⟩)]) := ⟨by kernel_rfl⟩
instance : ZeroK Tryz.prog 56 (.agg #[(.int .i64 0), (.int .i64 0), (.int .i64 0), (.int .u8 0), (.int .u8 0), (.int .u8 0), (.int .u8 0), (.int .u8 0), (.int .u8 0), (.int .u8 0), (.int .u8 0), (.int .u8 0), (.int .u8 0), (.int .u8 0), (.int .u8 0), (.int .u8 0), (.int .u8 0), (.int .u8 0), (.int .u8 0), (.int .u8 0), (.int .u8 0), (.int .u8 0), (.int .u8 0), (.int .u8 0), (.int .u8 0), (.bool false), (.int .i64 0), (.int .i64 0), (.int .i64 0), (.int .i64 0), (.int .i64 0), (.bool false), (.int .u64 0), (.int .u64 0), (.string ⟨#[]⟩)]) := ⟨by kernel_rfl⟩
instance : ZeroK Tryz.prog 60 (.agg #[(.int .u8 0), (.int .u8 0), (.int .u8 0), (.int .u8 0), (.int .u8 0), (.bool false), (.int .u32 0), (.int .u64 0), (.string ⟨#[]⟩)]) := ⟨by kernel_rfl⟩
instance : ZeroK Tryz.prog 62 (.agg #[(.int .u8 0), (.int .u8 0), (.int .u8 0), (.int .u8 0), (.int .u8 0), (.int .u8 0), (.int .u8 0), (.int .u8 0), (.int .u8 0), (.int .u8 0), (.int .u8 0), (.int .u8 0), (.int .u8 0), (.int .u8 0), (.int .u8 0), (.int .u8 0), (.int .u8 0), (.int .u8 0), (.int .u8 0), (.int .u8 0), (.int .u8 0), (.int .u8 0), (.int .u8 0), (.int .u8 0), (.int .u8 0), (.bool false), (.int .u8 0), (.int .u8 0), (.int .u8 0), (.int .u8 0), (.int .u8 0), (.bool false), (.int .u32 0), (.int .u64 0), (.string ⟨#[]⟩)]) := ⟨by kernel_rfl⟩
instance : ZeroK Tryz.prog 72 (.agg #[(.int .i64 0), (.int .i64 0), (.int .i64 0), (.int .u8 0), (.int .u8 0), (.int .u8 0), (.int .u8 0), (.int .u8 0), (.int .u8 0), (.int .u8 0), (.int .u8 0), (.int .u8 0), (.int .u8 0), (.int .u8 0), (.int .u8 0), (.int .u8 0), (.int .u8 0), (.int .u8 0), (.int .u8 0), (.int .u8 0), (.int .u8 0), (.int .u8 0), (.int .u8 0), (.int .u8 0), (.int .u8 0), (.int .i64 0)]) := ⟨by kernel_rfl⟩
instance : ZeroK Tryz.prog 86 (.agg #[(.map none)]) := ⟨by kernel_rfl⟩
instance : ZeroK Tryz.prog 89 (.agg #[(.bool false), (.int .i64 0), (.int .u8 0), (.int .u8 0), (.int .u8 0), (.int .u8 0), (.int .u8 0), (.int .u8 0), (.int .u8 0), (.int .u8 0), (.int .u8 0), (.int .u8 0), (.int .u8 0), (.int .u8 0), (.int .u8 0), (.int .u8 0), (.int .u8 0), (.int .u8 0), (.int .u8 0), (.int .u8 0), (.int .u8 0), (.int .u8 0), (.int .u8 0), (.int .u8 0), (.int .u8 0), (.int .u8 0), (.int .u8 0), (.int .u8 0), (.int .u8 0), (.int .u8 0), (.int .u8 0), (.int .u8 0), (.int .u8 0), (.int .u8 0), (.int .u8 0), (.int .u8 0), (.int .u8 0), (.int .u8 0), (.int .u8 0), (.int .u8 0), (.int .u8 0), (.int .u8 0), (.int .u8 0), (.int .u8 0), (.int .u8 0), (.int .u8 0), (.int .u8 0), (.int .u8 0), (.int .u8 0), (.int .u8 0), (.int .u8 0), (.int .u8 0)]) := ⟨by kernel_rfl⟩
instance : ZeroK Tryz.prog 90 (.agg #[(.int .u8 0), (.int .u8 0), (.int .u8 0), (.int .u8 0), (.int .u8 0), (.int .u8 0), (.int .u8 0), (.int .u8 0), (.int .u8 0), (.int .u8 0), (.int .u8 0), (.int .u8 0), (.int .u8 0), (.int .u8 0), (.int .u8 0), (.int .u8 0), (.int .u8 0), (.int .u8 0), (.int .u8 0), (.int .u8 0), (.int .u8 0), (.int .u8 0), (.int .u8 0), (.int .u8 0), (.int .u8 0), (.int .u8 0), (.int .u8 0), (.int .u8 0), (.int .u8 0), (.int .u8 0), (.int .u8 0), (.int .u8 0), (.int .u8 0), (.int .u8 0), (.int .u8 0), (.int .u8 0), (.int .u8 0), (.int .u8 0), (.int .u8 0), (.int .u8 0), (.int .u8 0), (.int .u8 0), (.int .u8 0), (.int .u8 0), (.int .u8 0), (.int .u8 0), (.int .u8 0), (.int .u8 0), (.int .u8 0), (.int .u8 0)]) := ⟨by kernel_rfl⟩
instance : ZeroK Tryz.prog 124 (.agg #[(.int .u8 0), (.int .u8 0), (.int .u8 0), (.int .u8 0), (.int .u8 0), (.int .u8 0), (.int .u8 0), (.int .u8 0), (.int .u8 0), (.int .u8 0), (.int .u8 0), (.int .u8 0), (.int .u8 0), (.int .u8 0), (.int .u8 0), (.int .u8 0), (.int .u8 0), (.int .u8 0), (.int .u8 0), (.int .u8 0), (.int .u8 0), (.int .u8 0), (.int .u8 0), (.int .u8 0), (.int .u8 0), (.int .u8 0), (.int .u8 0), (.int .u8 0), (.int .u8 0), (.int .u8 0), (.bool false), (.int .u32 0), (.int .u64 0), (.string ⟨#[]⟩)]) := ⟨by kernel_rfl⟩
instance : ZeroK Tryz.prog 126 (.agg #[(.int .i64 0), (.int .i64 0), (.int .i64 0), (.int .u8 0), (.int .u8 0), (.int .u8 0), (.int .u8 0), (.int .u8 0), (.int .u8 0), (.int .u8 0), (.int .u8 0), (.int .u8 0), (.int .u8 0), (.int .u8 0), (.int .u8 0), (.int .u8 0), (.int .u8 0), (.int .u8 0), (.int .u8 0), (.int .u8 0), (.int .u8 0), (.int .u8 0), (.int .u8 0), (.int .u8 0), (.int .u8 0), (.int .i64 0)]) := ⟨by kernel_rfl⟩
instance : ZeroK Tryz.prog 134 (.agg #[(.int .u8 0), (.int .u8 0), (.int .u8 0), (.int .u8 0), (.int .u8 0), (.int .u8 0), (.int .u8 0), (.int .u8 0), (.int .u8 0), (.int .u8 0), (.int .u8 0), (.int .u8 0), (.int .u8 0), (.int .u8 0), (.int .u8 0), (.int .u8 0), (.int .u8 0), (.int .u8 0), (.int .u8 0), (.int .u8 0), (.int .u8 0), (.int .u8 0), (.int .u8 0), (.int .u8 0), (.int .u8 0)]) := ⟨by kernel_rfl⟩
instance : ZeroK Tryz.prog 163 (.agg #[(.string ⟨#[]⟩), (.string ⟨#[]⟩), (.string ⟨#[]⟩)]) := ⟨by kernel_rfl⟩
instance : ZeroK Tryz.prog 167 (.agg #[(.int .i64 0), (.bool false), (.bool false)]) := ⟨by kernel_rfl⟩
instance : ZeroK Tryz.prog 207 (.int .u64 0) := ⟨by kernel_rfl⟩
instance : ZeroK Tryz.prog 263 (.agg #[(.bool false), (.bool false), (.bool false), (.bool false), (.bool false), (.bool false), (.bool false), (.bool false), (.bool false), (.bool false), (.bool false), (.bool false), (.bool false), (.bool false), (.bool false), (.bool false), (.bool false), (.bool false), (.bool false), (.bool false), (.bool false), (.bool false), (.bool false), (.bool false), (.bool false), (.bool false), (.bool false), (.bool false), (.bool false), (.bool false), (.bool false), (.bool false), (.bool false), (.bool false), (.bool false), (.bool false), (.bool false), (.bool false), (.bool false), (.bool false), (.bool false), (.bool false), (.bool false), (.bool false), (.bool false), (.bool false), (.bool false), (.bool false), (.bool false), (.bool false), (.bool false), (.bool false), (.bool false), (.bool false), (.bool false), (.bool false), (.bool false), (.bool false), (.bool false), (.bool false), (.bool false), (.bool false), (.bool false), (.bool false), (.bool false), (.bool false), (.bool false), (.bool false), (.bool false), (.bool false), (.bool false), (.bool false), (.bool false), (.bool false), (.bool false), (.bool false), (.bool false), (.bool false), (.bool false), (.bool false), (.bool false), (.bool false), (.bool false), (.bool false), (.bool false), (.bool false), (.bool false), (.bool false), (.bool false), (.bool false), (.bool false), (.bool false), (.bool false), (.bool false), (.bool false), (.bool false), (.bool false), (.bool false), (.bool false), (.bool false), (.bool false), (.bool false), (.bool false), (.bool false), (.bool false), (.bool false), (.bool false), (.bool false), (.bool false), (.bool false), (.bool false), (.bool false), (.bool false), (.bool false), (.bool false), (.bool false), (.bool false), (.bool false), (.bool false), (.bool false), (.bool false), (.bool false), (.bool false), (.bool false), (.bool false), (.bool false), (.bool false), (.bool false), (.bool false), (.bool false), (.bool false), (.bool false), (.bool false), (.bool false), (.bool false), (.bool false), (.bool false), (.bool false), (.bool false), (.bool false), (.bool false), (.bool false), (.bool false), (.bool false), (.bool false), (.bool false), (.bool false), (.bool false), (.bool false), (.bool false), (.bool false), (.bool false), (.bool false), (.bool false), (.bool false), (.bool false), (.bool false), (.bool false), (.bool false), (.bool false), (.bool false), (.bool false), (.bool false), (.bool false), (.bool false), (.bool false), (.bool false), (.bool false), (.bool false), (.bool false), (.bool false), (.bool false), (.bool false), (.bool false), (.bool false), (.bool false), (.bool false), (.bool false), (.bool false), (.bool false), (.bool false), (.bool false), (.bool false), (.bool false), (.bool false), (.bool false), (.bool false), (.bool false), (.bool false), (.bool false), (.bool false), (.bool false), (.bool false), (.bool false), (.bool false), (.bool false), (.bool false), (.bool false), (.bool false), (.bool false), (.bool false), (.bool false), (.bool false), (.bool false), (.bool false), (.bool false), (.bool false), (.bool false), (.bool false), (.bool false), (.bool false), (.bool false), (.bool false), (.bool false), (.bool false), (.bool false), (.bool false), (.bool false), (.bool false), (.bool false), (.bool false), (.bool false), (.bool false), (.bool false), (.bool false), (.bool false), (.bool false), (.bool false), (.bool false), (.bool false), (.bool false), (.bool false), (.bool false), (.bool false), (.bool false), (.bool false), (.bool false), (.bool false), (.bool false), (.bool false), (.bool false), (.bool false), (.bool false), (.bool false), (.bool false), (.bool false), (.bool false), (.bool false), (.bool false), (.bool false), (.bool false), (.bool false), (.bool false), (.bool false), (.bool false), (.bool false)]) := ⟨by kernel_rfl⟩
instance : ZeroK Tryz.prog 278 (.agg #[(.int .u8 0), (.int .u8 0)]) := ⟨by kernel_rfl⟩
instance : Und Tryz.prog 3 (.int .i64) := ⟨by kernel_rfl⟩
instance : Und Tryz.prog 4 .bool := ⟨by kernel_rfl⟩
instance : Und Tryz.prog 5 (.int .u8) := ⟨by kernel_rfl⟩
instance : Und Tryz.prog 9 .string := ⟨by kernel_rfl⟩
instance : Und Tryz.prog 21 (.int .i32) := ⟨by kernel_rfl⟩
instance : Und Tryz.prog 22 (.slice 45) := ⟨by kernel_rfl⟩
instance : Und Tryz.prog 23 (.array 12 5) := ⟨by kernel_rfl⟩
instance : Und Tryz.prog 24 (.array 12 5) := ⟨by kernel_rfl⟩
instance : Und Tryz.prog 31 (.map 30 62) := ⟨by kernel_rfl⟩
instance : Und Tryz.prog 32 (.map 30 4) := ⟨by kernel_rfl⟩
instance : Und Tryz.prog 33 (.slice 43) := ⟨by kernel_rfl⟩
instance : Und Tryz.prog 36 (.slice 56) := ⟨by kernel_rfl⟩
instance : Und Tryz.prog 37 (.slice 51) := ⟨by kernel_rfl⟩
instance : Und Tryz.prog 38 (.slice 72) := ⟨by kernel_rfl⟩
instance : Und Tryz.prog 41 (.slice 62) := ⟨by kernel_rfl⟩
instance : Und Tryz.prog 52 (.int .u64) := ⟨by kernel_rfl⟩
instance : Und Tryz.prog 58 (.int .u32) := ⟨by kernel_rfl⟩
instance : Und Tryz.prog 63 (.int .i64) := ⟨by kernel_rfl⟩
instance : Und Tryz.prog 80 (.pointer 35) := ⟨by kernel_rfl⟩
instance : Und Tryz.prog 83 (.slice 89) := ⟨by kernel_rfl⟩
instance : Und Tryz.prog 84 (.map 30 3) := ⟨by kernel_rfl⟩
instance : Und Tryz.prog 87 (.slice 126) := ⟨by kernel_rfl⟩
instance : Und Tryz.prog 104 (.slice 30) := ⟨by kernel_rfl⟩
instance : Und Tryz.prog 107 (.slice 3) := ⟨by kernel_rfl⟩
instance : Und Tryz.prog 121 (.slice 124) := ⟨by kernel_rfl⟩
instance : Und Tryz.prog 127 (.pointer 86) := ⟨by kernel_rfl⟩
instance : Und Tryz.prog 151 (.int .u64) := ⟨by kernel_rfl⟩
instance : Und Tryz.prog 154 (.slice 5) := ⟨by kernel_rfl⟩
instance : Und Tryz.prog 177 (.int .i64) := ⟨by kernel_rfl⟩
instance : Und Tryz.prog 192 (.slice 9) := ⟨by kernel_rfl⟩
instance : Und Tryz.prog 207 (.int .u64) := ⟨by kernel_rfl⟩
instance : BuildK Tryz.prog 23 [(.int .u8 0), (.int .u8 0), (.int .u8 0), (.int .u8 0), (.int .u8 0), (.int .u8 0), (.int .u8 0), (.int .u8 0), (.int .u8 0), (.int .u8 0), (.int .u8 0), (.int .u8 0)] [(0, 1), (1, 1), (2, 1), (3, 1), (4, 1), (5, 1), (6, 1), (7, 1), (8, 1), (9, 1), (10, 1), (11, 1)] := ⟨by kernel_rfl⟩
instance : BuildK Tryz.prog 24 [(.int .u8 0), (.int .u8 0), (.int .u8 0), (.int .u8 0), (.int .u8 0), (.int .u8 0), (.int .u8 0), (.int .u8 0), (.int .u8 0), (.int .u8 0), (.int .u8 0), (.int .u8 0)] [(0, 1), (1, 1), (2, 1), (3, 1), (4, 1), (5, 1), (6, 1), (7, 1), (8, 1), (9, 1), (10, 1), (11, 1)] := ⟨by kernel_rfl⟩
instance : BuildK Tryz.prog 28 [(.int .u8 0), (.int .u8 0), (.int .u8 0), (.int .u8 0), (.int .u8 0), (.int .u8 0), (.int .u8 0), (.int .u8 0), (.int .u8 0), (.int .u8 0)] [(0, 3), (3, 4), (7, 3)] := ⟨by kernel_rfl⟩
instance : BuildK Tryz.prog 30 [(.int .u8 0), (.int .u8 0), (.int .u8 0), (.int .u8 0), (.int .u8 0), (.int .u8 0), (.int .u8 0), (.int .u8 0), (.int .u8 0), (.int .u8 0), (.int .u8 0), (.int .u8 0), (.int .u8 0), (.int .u8 0), (.int .u8 0), (.int .u8 0), (.int .u8 0), (.int .u8 0), (.int .u8 0), (.int .u8 0), (.int .u8 0), (.int .u8 0), (.int .u8 0), (.int .u8 0), (.int .u8 0)] [(0, 1), (1, 1), (2, 1), (3, 12), (15, 10)] := ⟨by kernel_rfl⟩
instance : BuildK Tryz.prog 43 [(.int .u8 0), (.int .u8 0), (.int .u8 0), (.int .u8 0), (.int .u8 0), (.int .u8 0), (.int .u8 0), (.int .u8 0), (.int .u8 0), (.int .u8 0), (.int .u8 0), (.int .u8 0), (.int .u8 0), (.int .u8 0), (.int .u8 0), (.int .u8 0), (.int .u8 0), (.int .u8 0), (.int .u8 0), (.int .u8 0), (.int .u8 0), (.int .u8 0), (.int .u8 0), (.int .u8 0), (.int .u8 0), (.int .i64 0)] [(0, 25), (25, 1)] := ⟨by kernel_rfl⟩
instance : BuildK Tryz.prog 49 [(.int .u8 0), (.int .u8 0), (.int .u8 0), (.int .u8 0), (.int .u8 0), (.int .u8 0), (.int .u8 0), (.int .u8 0), (.int .u8 0), (.int .u8 0)] [(0, 1), (1, 1), (2, 1), (3, 1), (4, 1), (5, 1), (6, 1), (7, 1), (8, 1), (9, 1)] := ⟨by kernel_rfl⟩
instance : BuildK Tryz.prog 51 [(.int .i64 0), (.int .i64 0), (.int .i64 0), (.int .u8 0), (.int .u8 0), (.int .u8 0), (.int .u8 0), (.int .u8 0), (.int .u8 0), (.int .u8 0), (.int .u8 0), (.int .u8 0), (.int .u8 0), (.int .u8 0), (.int .u8 0), (.int .u8 0), (.int .u8 0), (.int .u8 0), (.int .u8 0), (.int .u8 0), (.int .u8 0), (.int .u8 0), (.int .u8 0), (.int .u8 0), (.int .u8 0)] [(0, 1), (1, 1), (2, 1), (3, 12), (15, 10)] := ⟨by kernel_rfl⟩
instance : BuildK Tryz.prog 54 [(.int .i64 0), (.int .i64 0), (.int .i64 0), (.int .i64 0), (.int .i64 0), (.bool false), (.int .u64 0), (.int .u64 0), (.string ⟨#[]⟩)] [(0, 1), (1, 1), (2, 1), (3, 1), (4, 1), (5, 1), (6, 1), (7, 1), (8, 1)] := ⟨by kernel_rfl⟩
instance : BuildK Tryz.prog 56 [(.int .i64 0), (.int .i64 0), (.int .i64 0), (.int .u8 0), (.int .u8 0), (.int .u8 0), (.int .u8 0), (.int .u8 0), (.int .u8 0), (.int .u8 0), (.int .u8 0), (.int .u8 0), (.int .u8 0), (.int .u8 0), (.int .u8 0), (.int .u8 0), (.int .u8 0), (.int .u8 0), (.int .u8 0), (.int .u8 0), (.int .u8 0), (.int .u8 0), (.int .u8 0), (.int .u8 0), (.int .u8 0), (.bool false), (.int .i64 0), (.int .i64 0), (.int .i64 0), (.int .i64 0), (.int .i64 0), (.bool false), (.int .u64 0), (.int .u64 0), (.string ⟨#[]⟩)] [(0, 25), (25, 1), (26, 9)] := ⟨by kernel_rfl⟩
instance : BuildK Tryz.prog 60 [(.int .u8 0), (.int .u8 0), (.int .u8 0), (.int .u8 0), (.int .u8 0), (.bool false), (.int .u32 0), (.int .u64 0), (.string ⟨#[]⟩)] [(0, 1), (1, 1), (2, 1), (3, 1), (4, 1), (5, 1), (6, 1), (7, 1), (8, 1)] := ⟨by kernel_rfl⟩
instance : BuildK Tryz.prog 62 [(.int .u8 0), (.int .u8 0), (.int .u8 0), (.int .u8 0), (.int .u8 0), (.int .u8 0), (.int .u8 0), (.int .u8 0), (.int .u8 0), (.int .u8 0), (.int .u8 0), (.int .u8 0), (.int .u8 0), (.int .u8 0), (.int .u8 0), (.int .u8 0), (.int .u8 0), (.int .u8 0), (.int .u8 0), (.int .u8 0), (.int .u8 0), (.int .u8 0), (.int .u8 0), (.int .u8 0), (.int .u8 0), (.bool false), (.int .u8 0), (.int .u8 0), (.int .u8 0), (.int .u8 0), (.int .u8 0), (.bool false), (.int .u32 0), (.int .u64 0), (.string ⟨#[]⟩)] [(0, 25), (25, 1), (26, 9)] := ⟨by kernel_rfl⟩
instance : BuildK Tryz.prog 72 [(.int .i64 0), (.int .i64 0), (.int .i64 0), (.int .u8 0), (.int .u8 0), (.int .u8 0), (.int .u8 0), (.int .u8 0), (.int .u8 0), (.int .u8 0), (.int .u8 0), (.int .u8 0), (.int .u8 0), (.int .u8 0), (.int .u8 0), (.int .u8 0), (.int .u8 0), (.int .u8 0), (.int .u8 0), (.int .u8 0), (.int .u8 0), (.int .u8 0), (.int .u8 0), (.int .u8 0), (.int .u8 0), (.int .i64 0)] [(0, 25), (25, 1)] := ⟨by kernel_rfl⟩
instance : BuildK Tryz.prog 90 [(.int .u8 0), (.int .u8 0), (.int .u8 0), (.int .u8 0), (.int .u8 0), (.int .u8 0), (.int .u8 0), (.int .u8 0), (.int .u8 0), (.int .u8 0), (.int .u8 0), (.int .u8 0), (.int .u8 0), (.int .u8 0), (.int .u8 0), (.int .u8 0), (.int .u8 0), (.int .u8 0), (.int .u8 0), (.int .u8 0), (.int .u8 0), (.int .u8 0), (.int .u8 0), (.int .u8 0), (.int .u8 0), (.int .u8 0), (.int .u8 0), (.int .u8 0), (.int .u8 0), (.int .u8 0), (.int .u8 0), (.int .u8 0), (.int .u8 0), (.int .u8 0), (.int .u8 0), (.int .u8 0), (.int .u8 0), (.int .u8 0), (.int .u8 0), (.int .u8 0), (.int .u8 0), (.int .u8 0), (.int .u8 0), (.int .u8 0), (.int .u8 0), (.int .u8 0), (.int .u8 0), (.int .u8 0), (.int .u8 0), (.int .u8 0)] [(0, 25), (25, 25)] := ⟨by kernel_rfl⟩
instance : BuildK Tryz.prog 124 [(.int .u8 0), (.int .u8 0), (.int .u8 0), (.int .u8 0), (.int .u8 0), (.int .u8 0), (.int .u8 0), (.int .u8 0), (.int .u8 0), (.int .u8 0), (.int .u8 0), (.int .u8 0), (.int .u8 0), (.int .u8 0), (.int .u8 0), (.int .u8 0), (.int .u8 0), (.int .u8 0), (.int .u8 0), (.int .u8 0), (.int .u8 0), (.int .u8 0), (.int .u8 0), (.int .u8 0), (.int .u8 0), (.int .u8 0), (.int .u8 0), (.int .u8 0), (.int .u8 0), (.int .u8 0), (.bool false), (.int .u32 0), (.int .u64 0), (.string ⟨#[]⟩)] [(0, 25), (25, 9)] := ⟨by kernel_rfl⟩
instance : BuildK Tryz.prog 126 [(.int .i64 0), (.int .i64 0), (.int .i64 0), (.int .u8 0), (.int .u8 0), (.int .u8 0), (.int .u8 0), (.int .u8 0), (.int .u8 0), (.int .u8 0), (.int .u8 0), (.int .u8 0), (.int .u8 0), (.int .u8 0), (.int .u8 0), (.int .u8 0), (.int .u8 0), (.int .u8 0), (.int .u8 0), (.int .u8 0), (.int .u8 0), (.int .u8 0), (.int .u8 0), (.int .u8 0), (.int .u8 0), (.int .i64 0)] [(0, 25), (25, 1)] := ⟨by kernel_rfl⟩
instance : BuildK Tryz.prog 134 [(.int .u8 0), (.int .u8 0), (.int .u8 0), (.int .u8 0), (.int .u8 0), (.int .u8 0), (.int .u8 0), (.int .u8 0), (.int .u8 0), (.int .u8 0), (.int .u8 0), (.int .u8 0), (.int .u8 0), (.int .u8 0), (.int .u8 0), (.int .u8 0), (.int .u8 0), (.int .u8 0), (.int .u8 0), (.int .u8 0), (.int .u8 0), (.int .u8 0), (.int .u8 0), (.int .u8 0), (.int .u8 0)] [(0, 1), (1, 1), (2, 1), (3, 1), (4, 1), (5, 1), (6, 1), (7, 1), (8, 1), (9, 1), (10, 1), (11, 1), (12, 1), (13, 1), (14, 1), (15, 1), (16, 1), (17, 1), (18, 1), (19, 1), (20, 1), (21, 1), (22, 1), (23, 1), (24, 1)] := ⟨by kernel_rfl⟩
instance : BuildK Tryz.prog 163 [(.string ⟨#[]⟩), (.string ⟨#[]⟩), (.string ⟨#[]⟩)] [(0, 1), (1, 1), (2, 1)] := ⟨by kernel_rfl⟩
instance : BuildK Tryz.prog 167 [(.int .i64 0), (.bool false), (.bool false)] [(0, 1), (1, 1), (2, 1)] := ⟨by kernel_rfl⟩
instance : BuildK Tryz.prog 229 [.nilFunc, .nilFunc, .nilFunc, .nilFunc, .nilFunc] [(0, 1), (1, 1), (2, 1), (3, 1), (4, 1)] := ⟨by kernel_rfl⟩
instance : BuildK Tryz.prog 278 [(.int .u8 0), (.int .u8 0)] [(0, 1), (1, 1)] := ⟨by kernel_rfl⟩
instance : BuildK Tryz.prog 279 [(.int .u8 0), (.int .u8 0), (.int .u8 0), (.int .u8 0), (.int .u8 0), (.int .u8 0), (.int .u8 0), (.int .u8 0), (.int .u8 0), (.int .u8 0), (.int .u8 0), (.int .u8 0), (.int .u8 0), (.int .u8 0), (.int .u8 0), (.int .u8 0), (.int .u8 0), (.int .u8 0), (.int .u8 0), (.int .u8 0), (.int .u8 0), (.int .u8 0), (.int .u8 0), (.int .u8 0), (.int .u8 0), (.int .u8 0), (.int .u8 0), (.int .u8 0), (.int .u8 0), (.int .u8 0), (.int .u8 0), (.int .u8 0)] [(0, 2), (2, 2), (4, 2), (6, 2), (8, 2), (10, 2), (12, 2), (14, 2), (16, 2), (18, 2), (20, 2), (22, 2), (24, 2), (26, 2), (28, 2), (30, 2)] := ⟨by kernel_rfl⟩
instance : InfoK Tryz.prog 3 1 8 [(.int .i64 0)] := ⟨by kernel_rfl, by rfl⟩
instance : InfoK Tryz.prog 5 1 1 [(.int .u8 0)] := ⟨by kernel_rfl, by rfl⟩
instance : InfoK Tryz.prog 9 1 16 [(.string ⟨#[]⟩)] := ⟨by kernel_rfl, by rfl⟩
instance : InfoK Tryz.prog 30 25 25 [(.int .u8 0), (.int .u8 0), (.int .u8 0), (.int .u8 0), (.int .u8 0), (.int .u8 0), (.int .u8 0), (.int .u8 0), (.int .u8 0), (.int .u8 0), (.int .u8 0), (.int .u8 0), (.int .u8 0), (.int .u8 0), (.int .u8 0), (.int .u8 0), (.int .u8 0), (.int .u8 0), (.int .u8 0), (.int .u8 0), (.int .u8 0), (.int .u8 0), (.int .u8 0), (.int .u8 0), (.int .u8 0)] := ⟨by kernel_rfl, by rfl⟩
instance : InfoK Tryz.prog 43 26 40 [(.int .u8 0), (.int .u8 0), (.int .u8 0), (.int .u8 0), (.int .u8 0), (.int .u8 0), (.int .u8 0), (.int .u8 0), (.int .u8 0), (.int .u8 0), (.int .u8 0), (.int .u8 0), (.int .u8 0), (.int .u8 0), (.int .u8 0), (.int .u8 0), (.int .u8 0), (.int .u8 0), (.int .u8 0), (.int .u8 0), (.int .u8 0), (.int .u8 0), (.int .u8 0), (.int .u8 0), (.int .u8 0), (.int .i64 0)] := ⟨by kernel_rfl, by rfl⟩
instance : InfoK Tryz.prog 45 53 104 [(.int .i64 0), (.slice none 0 0), (.int .u8 0), (.int .u8 0), (.int .u8 0), (.int .u8 0), (.int .u8 0), (.int .u8 0), (.int .u8 0), (.int .u8 0), (.int .u8 0), (.int .u8 0), (.int .u8 0), (.int .u8 0), (.int .u8 0), (.int .u8 0), (.int .u8 0), (.int .u8 0), (.int .u8 0), (.int .u8 0), (.int .u8 0), (.int .u8 0), (.int .u8 0), (.int .u8 0), (.int .u8 0), (.int .u8 0), (.int .u8 0), (.int .u8 0), (.int .u8 0), (.int .u8 0), (.int .u8 0), (.int .u8 0), (.int .u8 0), (.int .u8 0), (.int .u8 0), (.int .u8 0), (.int .u8 0), (.int .u8 0), (.int .u8 0), (.int .u8 0), (.int .u8 0), (.int .u8 0), (.int .u8 0), (.int .u8 0), (.int .u8 0), (.int .u8 0), (.int .u8 0), (.int .u8 0), (.int .u8 0), (.int .u8 0), (.int .u8 0), (.int .u8 0), (.int .i64 0)] := ⟨by kernel_rfl, by rfl⟩
instance : InfoK Tryz.prog 51 25 48 [(.int .i64 0), (.int .i64 0), (.int .i64 0), (.int .u8 0), (.int .u8 0), (.int .u8 0), (.int .u8 0), (.int .u8 0), (.int .u8 0), (.int .u8 0), (.int .u8 0), (.int .u8 0), (.int .u8 0), (.int .u8 0), (.int .u8 0), (.int .u8 0), (.int .u8 0), (.int .u8 0), (.int .u8 0), (.int .u8 0), (.int .u8 0), (.int .u8 0), (.int .u8 0), (.int .u8 0), (.int .u8 0)] := ⟨by kernel_rfl, by rfl⟩
instance : InfoK Tryz.prog 56 35 136 [(.int .i64 0), (.int .i64 0), (.int .i64 0), (.int .u8 0), (.int .u8 0), (.int .u8 0), (.int .u8 0), (.int .u8 0), (.int .u8 0), (.int .u8 0), (.int .u8 0), (.int .u8 0), (.int .u8 0), (.int .u8 0), (.int .u8 0), (.int .u8 0), (.int .u8 0), (.int .u8 0), (.int .u8 0), (.int .u8 0), (.int .u8 0), (.int .u8 0), (.int .u8 0), (.int .u8 0), (.int .u8 0), (.bool false), (.int .i64 0), (.int .i64 0), (.int .i64 0), (.int .i64 0), (.int .i64 0), (.bool false), (.int .u64 0), (.int .u64 0), (.string ⟨#[]⟩)] := ⟨by kernel_rfl, by rfl⟩
instance : InfoK Tryz.prog 62 35 72 [(.int .u8 0), (.int .u8 0), (.int .u8 0), (.int .u8 0), (.int .u8 0), (.int .u8 0), (.int .u8 0), (.int .u8 0), (.int .u8 0), (.int .u8 0), (.int .u8 0), (.int .u8 0), (.int .u8 0), (.int .u8 0), (.int .u8 0), (.int .u8 0), (.int .u8 0), (.int .u8 0), (.int .u8 0), (.int .u8 0), (.int .u8 0), (.int .u8 0), (.int .u8 0), (.int .u8 0), (.int .u8 0), (.bool false), (.int .u8 0), (.int .u8 0), (.int .u8 0), (.int .u8 0), (.int .u8 0), (.bool false), (.int .u32 0), (.int .u64 0), (.string ⟨#[]⟩)] := ⟨by kernel_rfl, by rfl⟩
instance : InfoK Tryz.prog 72 26 56 [(.int .i64 0), (.int .i64 0), (.int .i64 0), (.int .u8 0), (.int .u8 0), (.int .u8 0), (.int .u8 0), (.int .u8 0), (.int .u8 0), (.int .u8 0), (.int .u8 0), (.int .u8 0), (.int .u8 0), (.int .u8 0), (.int .u8 0), (.int .u8 0), (.int .u8 0), (.int .u8 0), (.int .u8 0), (.int .u8 0), (.int .u8 0), (.int .u8 0), (.int .u8 0), (.int .u8 0), (.int .u8 0), (.int .i64 0)] := ⟨by kernel_rfl, by rfl⟩
instance : InfoK Tryz.prog 89 52 72 [(.bool false), (.int .i64 0), (.int .u8 0), (.int .u8 0), (.int .u8 0), (.int .u8 0), (.int .u8 0), (.int .u8 0), (.int .u8 0), (.int .u8 0), (.int .u8 0), (.int .u8 0), (.int .u8 0), (.int .u8 0), (.int .u8 0), (.int .u8 0), (.int .u8 0), (.int .u8 0), (.int .u8 0), (.int .u8 0), (.int .u8 0), (.int .u8 0), (.int .u8 0), (.int .u8 0), (.int .u8 0), (.int .u8 0), (.int .u8 0), (.int .u8 0), (.int .u8 0), (.int .u8 0), (.int .u8 0), (.int .u8 0), (.int .u8 0), (.int .u8 0), (.int .u8 0), (.int .u8 0), (.int .u8 0), (.int .u8 0), (.int .u8 0), (.int .u8 0), (.int .u8 0), (.int .u8 0), (.int .u8 0), (.int .u8 0), (.int .u8 0), (.int .u8 0), (.int .u8 0), (.int .u8 0), (.int .u8 0), (.int .u8 0), (.int .u8 0), (.int .u8 0)] := ⟨by kernel_rfl, by rfl⟩
instance : InfoK Tryz.prog 124 34 72 [(.int .u8 0), (.int .u8 0), (.int .u8 0), (.int .u8 0), (.int .u8 0), (.int .u8 0), (.int .u8 0), (.int .u8 0), (.int .u8 0), (.int .u8 0), (.int .u8 0), (.int .u8 0), (.int .u8 0), (.int .u8 0), (.int .u8 0), (.int .u8 0), (.int .u8 0), (.int .u8 0), (.int .u8 0), (.int .u8 0), (.int .u8 0), (.int .u8 0), (.int .u8 0), (.int .u8 0), (.int .u8 0), (.int .u8 0), (.int .u8 0), (.int .u8 0), (.int .u8 0), (.int .u8 0), (.bool false), (.int .u32 0), (.int .u64 0), (.string ⟨#[]⟩)] := ⟨by kernel_rfl, by rfl⟩
instance : InfoK Tryz.prog 126 26 56 [(.int .i64 0), (.int .i64 0), (.int .i64 0), (.int .u8 0), (.int .u8 0), (.int .u8 0), (.int .u8 0), (.int .u8 0), (.int .u8 0), (.int .u8 0), (.int .u8 0), (.int .u8 0), (.int .u8 0), (.int .u8 0), (.int .u8 0), (.int .u8 0), (.int .u8 0), (.int .u8 0), (.int .u8 0), (.int .u8 0), (.int .u8 0), (.int .u8 0), (.int .u8 0), (.int .u8 0), (.int .u8 0), (.int .i64 0)] := ⟨by kernel_rfl, by rfl⟩
instance : FlatK Tryz.prog 23 [.i .u8, .i .u8, .i .u8, .i .u8, .i .u8, .i .u8, .i .u8, .i .u8, .i .u8, .i .u8, .i .u8, .i .u8] := ⟨by kernel_rfl, by kernel_rfl⟩
instance : FlatK Tryz.prog 24 [.i .u8, .i .u8, .i .u8, .i .u8, .i .u8, .i .u8, .i .u8, .i .u8, .i .u8, .i .u8, .i .u8, .i .u8] := ⟨by kernel_rfl, by kernel_rfl⟩
instance : FlatK Tryz.prog 28 [.i .u8, .i .u8, .i .u8, .i .u8, .i .u8, .i .u8, .i .u8, .i .u8, .i .u8, .i .u8] := ⟨by kernel_rfl, by kernel_rfl⟩
instance : FlatK Tryz.prog 30 [.i .u8, .i .u8, .i .u8, .i .u8, .i .u8, .i .u8, .i .u8, .i .u8, .i .u8, .i .u8, .i .u8, .i .u8, .i .u8, .i .u8, .i .u8, .i .u8, .i .u8, .i .u8, .i .u8, .i .u8, .i .u8, .i .u8, .i .u8, .i .u8, .i .u8] := ⟨by kernel_rfl, by kernel_rfl⟩
instance : FlatK Tryz.prog 43 [.i .u8, .i .u8, .i .u8, .i .u8, .i .u8, .i .u8, .i .u8, .i .u8, .i .u8, .i .u8, .i .u8, .i .u8, .i .u8, .i .u8, .i .u8, .i .u8, .i .u8, .i .u8, .i .u8, .i .u8, .i .u8, .i .u8, .i .u8, .i .u8, .i .u8, .i .i64] := ⟨by kernel_rfl, by kernel_rfl⟩
instance : FlatK Tryz.prog 51 [.i .i64, .i .i64, .i .i64, .i .u8, .i .u8, .i .u8, .i .u8, .i .u8, .i .u8, .i .u8, .i .u8, .i .u8, .i .u8, .i .u8, .i .u8, .i .u8, .i .u8, .i .u8, .i .u8, .i .u8, .i .u8, .i .u8, .i .u8, .i .u8, .i .u8] := ⟨by kernel_rfl, by kernel_rfl⟩
instance : FlatK Tryz.prog 54 [.i .i64, .i .i64, .i .i64, .i .i64, .i .i64, .b, .i .u64, .i .u64, .s] := ⟨by kernel_rfl, by kernel_rfl⟩
instance : FlatK Tryz.prog 56 [.i .i64, .i .i64, .i .i64, .i .u8, .i .u8, .i .u8, .i .u8, .i .u8, .i .u8, .i .u8, .i .u8, .i .u8, .i .u8, .i .u8, .i .u8, .i .u8, .i .u8, .i .u8, .i .u8, .i .u8, .i .u8, .i .u8, .i .u8, .i .u8, .i .u8, .b, .i .i64, .i .i64, .i .i64, .i .i64, .i .i64, .b, .i .u64, .i .u64, .s] := ⟨by kernel_rfl, by kernel_rfl⟩
instance : FlatK Tryz.prog 60 [.i .u8, .i .u8, .i .u8, .i .u8, .i .u8, .b, .i .u32, .i .u64, .s] := ⟨by kernel_rfl, by kernel_rfl⟩
instance : FlatK Tryz.prog 72 [.i .i64, .i .i64, .i .i64, .i .u8, .i .u8, .i .u8, .i .u8, .i .u8, .i .u8, .i .u8, .i .u8, .i .u8, .i .u8, .i .u8, .i .u8, .i .u8, .i .u8, .i .u8, .i .u8, .i .u8, .i .u8, .i .u8, .i .u8, .i .u8, .i .u8, .i .i64] := ⟨by kernel_rfl, by kernel_rfl⟩
instance : FlatK Tryz.prog 163 [.s, .s, .s] := ⟨by kernel_rfl, by kernel_rfl⟩
theorem ent3 : Enters Tryz.prog 3 := enters_of Tryz.func3 (by kernel_rfl) (by kernel_rfl)
theorem ent4 : Enters Tryz.prog 4 := enters_of Tryz.func4 (by kernel_rfl) (by kernel_rfl)
theorem ent5 : Enters Tryz.prog 5 := enters_of Tryz.func5 (by kernel_rfl) (by kernel_rfl)
theorem ent6 : Enters Tryz.prog 6 := enters_of Tryz.func6 (by kernel_rfl) (by kernel_rfl)
theorem ent7 : Enters Tryz.prog 7 := enters_of Tryz.func7 (by kernel_rfl) (by kernel_rfl)
theorem ent8 : Enters Tryz.prog 8 := enters_of Tryz.func8 (by kernel_rfl) (by kernel_rfl)
theorem ent9 : Enters Tryz.prog 9 := enters_of Tryz.func9 (by kernel_rfl) (by kernel_rfl)
theorem ent10 : Enters Tryz.prog 10 := enters_of Tryz.func10 (by kernel_rfl) (by kernel_rfl)
theorem ent11 : Enters Tryz.prog 11 := enters_of Tryz.func11 (by kernel_rfl) (by kernel_rfl)
theorem ent12 : Enters Tryz.prog 12 := enters_of Tryz.func12 (by kernel_rfl) (by kernel_rfl)
theorem ent13 : Enters Tryz.prog 13 := enters_of Tryz.func13 (by kernel_rfl) (by kernel_rfl)
theorem ent14 : Enters Tryz.prog 14 := enters_of Tryz.func14 (by kernel_rfl) (by kernel_rfl)
theorem ent15 : Enters Tryz.prog 15 := enters_of Tryz.func15 (by kernel_rfl) (by kernel_rfl)
theorem ent16 : Enters Tryz.prog 16 := enters_of Tryz.func16 (by kernel_rfl) (by kernel_rfl)
theorem ent17 : Enters Tryz.prog 17 := enters_of Tryz.func17 (by kernel_rfl) (by kernel_rfl)
theorem ent18 : Enters Tryz.prog 18 := enters_of Tryz.func18 (by kernel_rfl) (by kernel_rfl)
theorem ent19 : Enters Tryz.prog 19 := enters_of Tryz.func19 (by kernel_rfl) (by kernel_rfl)
theorem ent20 : Enters Tryz.prog 20 := enters_of Tryz.func20 (by kernel_rfl) (by kernel_rfl)
theorem ent21 : Enters Tryz.prog 21 := enters_of Tryz.func21 (by kernel_rfl) (by kernel_rfl)
theorem ent22 : Enters Tryz.prog 22 := enters_of Tryz.func22 (by kernel_rfl) (by kernel_rfl)
theorem ent23 : Enters Tryz.prog 23 := enters_of Tryz.func23 (by kernel_rfl) (by kernel_rfl)
theorem ent24 : Enters Tryz.prog 24 := enters_of Tryz.func24 (by kernel_rfl) (by kernel_rfl)
theorem ent25 : Enters Tryz.prog 25 := enters_of Tryz.func25 (by kernel_rfl) (by kernel_rfl)
theorem ent26 : Enters Tryz.prog 26 := enters_of Tryz.func26 (by kernel_rfl) (by kernel_rfl)
theorem ent27 : Enters Tryz.prog 27 := enters_of Tryz.func27 (by kernel_rfl) (by kernel_rfl)
theorem ent28 : Enters Tryz.prog 28 := enters_of Tryz.func28 (by kernel_rfl) (by kernel_rfl)
theorem ent29 : Enters Tryz.prog 29 := enters_of Tryz.func29 (by kernel_rfl) (by kernel_rfl)
theorem ent30 : Enters Tryz.prog 30 := enters_of Tryz.func30 (by kernel_rfl) (by kernel_rfl)
theorem ent31 : Enters Tryz.prog 31 := enters_of Tryz.func31 (by kernel_rfl) (by kernel_rfl)
theorem ent32 : Enters Tryz.prog 32 := enters_of Tryz.func32 (by kernel_rfl) (by kernel_rfl)
theorem ent33 : Enters Tryz.prog 33 := enters_of Tryz.func33 (by kernel_rfl) (by kernel_rfl)
theorem ent34 : Enters Tryz.prog 34 := enters_of Tryz.func34 (by kernel_rfl) (by kernel_rfl)
theorem ent35 : Enters Tryz.prog 35 := enters_of Tryz.func35 (by kernel_rfl) (by kernel_rfl)
theorem ent36 : Enters Tryz.prog 36 := enters_of Tryz.func36 (by kernel_rfl) (by kernel_rfl)
theorem ent37 : Enters Tryz.prog 37 := enters_of Tryz.func37 (by kernel_rfl) (by kernel_rfl)
theorem ent38 : Enters Tryz.prog 38 := enters_of Tryz.func38 (by kernel_rfl) (by kernel_rfl)
theorem ent39 : Enters Tryz.prog 39 := enters_of Tryz.func39 (by kernel_rfl) (by kernel_rfl)
theorem ent40 : Enters Tryz.prog 40 := enters_of Tryz.func40 (by kernel_rfl) (by kernel_rfl)
theorem ent41 : Enters Tryz.prog 41 := enters_of Tryz.func41 (by kernel_rfl) (by kernel_rfl)
theorem ent42 : Enters Tryz.prog 42 := enters_of Tryz.func42 (by kernel_rfl) (by kernel_rfl)
theorem ent43 : Enters Tryz.prog 43 := enters_of Tryz.func43 (by kernel_rfl) (by kernel_rfl)
theorem ent44 : Enters Tryz.prog 44 := enters_of Tryz.func44 (by kernel_rfl) (by kernel_rfl)
theorem ent45 : Enters Tryz.prog 45 := enters_of Tryz.func45 (by kernel_rfl) (by kernel_rfl)
theorem ent46 : Enters Tryz.prog 46 := enters_of Tryz.func46 (by kernel_rfl) (by kernel_rfl)
theorem ent47 : Enters Tryz.prog 47 := enters_of Tryz.func47 (by kernel_rfl) (by kernel_rfl)
theorem ent48 : Enters Tryz.prog 48 := enters_of Tryz.func48 (by kernel_rfl) (by kernel_rfl)
theorem ent49 : Enters Tryz.prog 49 := enters_of Tryz.func49 (by kernel_rfl) (by kernel_rfl)
theorem ent50 : Enters Tryz.prog 50 := enters_of Tryz.func50 (by kernel_rfl) (by kernel_rfl)
theorem ent51 : Enters Tryz.prog 51 := enters_of Tryz.func51 (by kernel_rfl) (by kernel_rfl)
theorem ent52 : Enters Tryz.prog 52 := enters_of Tryz.func52 (by kernel_rfl) (by kernel_rfl)
theorem ent53 : Enters Tryz.prog 53 := enters_of Tryz.func53 (by kernel_rfl) (by kernel_rfl)
theorem ent54 : Enters Tryz.prog 54 := enters_of Tryz.func54 (by kernel_rfl) (by kernel_rfl)
theorem ent55 : Enters Tryz.prog 55 := enters_of Tryz.func55 (by kernel_rfl) (by kernel_rfl)
theorem ent56 : Enters Tryz.prog 56 := enters_of Tryz.func56 (by kernel_rfl) (by kernel_rfl)
theorem ent57 : Enters Tryz.prog 57 := enters_of Tryz.func57 (by kernel_rfl) (by kernel_rfl)
theorem ent58 : Enters Tryz.prog 58 := enters_of Tryz.func58 (by kernel_rfl) (by kernel_rfl)
theorem ent59 : Enters Tryz.prog 59 := enters_of Tryz.func59 (by kernel_rfl) (by kernel_rfl)
theorem ent60 : Enters Tryz.prog 60 := enters_of Tryz.func60 (by kernel_rfl) (by kernel_rfl)
theorem ent61 : Enters Tryz.prog 61 := enters_of Tryz.func61 (by kernel_rfl) (by kernel_rfl)
theorem ent62 : Enters Tryz.prog 62 := enters_of Tryz.func62 (by kernel_rfl) (by kernel_rfl)
theorem ent63 : Enters Tryz.prog 63 := enters_of Tryz.func63 (by kernel_rfl) (by kernel_rfl)
theorem ent64 : Enters Tryz.prog 64 := enters_of Tryz.func64 (by kernel_rfl) (by kernel_rfl)
theorem ent65 : Enters Tryz.prog 65 := enters_of Tryz.func65 (by kernel_rfl) (by kernel_rfl)
theorem ent66 : Enters Tryz.prog 66 := enters_of Tryz.func66 (by kernel_rfl) (by kernel_rfl)
theorem ent67 : Enters Tryz.prog 67 := enters_of Tryz.func67 (by kernel_rfl) (by kernel_rfl)
theorem ent68 : Enters Tryz.prog 68 := enters_of Tryz.func68 (by kernel_rfl) (by kernel_rfl)
theorem ent69 : Enters Tryz.prog 69 := enters_of Tryz.func69 (by kernel_rfl) (by kernel_rfl)
theorem ent70 : Enters Tryz.prog 70 := enters_of Tryz.func70 (by kernel_rfl) (by kernel_rfl)
theorem ent71 : Enters Tryz.prog 71 := enters_of Tryz.func71 (by kernel_rfl) (by kernel_rfl)
theorem ent72 : Enters Tryz.prog 72 := enters_of Tryz.func72 (by kernel_rfl) (by kernel_rfl)
theorem ent73 : Enters Tryz.prog 73 := enters_of Tryz.func73 (by kernel_rfl) (by kernel_rfl)
theorem ent74 : Enters Tryz.prog 74 := enters_of Tryz.func74 (by kernel_rfl) (by kernel_rfl)
theorem ent75 : Enters Tryz.prog 75 := enters_of Tryz.func75 (by kernel_rfl) (by kernel_rfl)
theorem ent76 : Enters Tryz.prog 76 := enters_of Tryz.func76 (by kernel_rfl) (by kernel_rfl)
theorem ent77 : Enters Tryz.prog 77 := enters_of Tryz.func77 (by kernel_rfl) (by kernel_rfl)
theorem ent78 : Enters Tryz.prog 78 := enters_of Tryz.func78 (by kernel_rfl) (by kernel_rfl)
theorem ent79 : Enters Tryz.prog 79 := enters_of Tryz.func79 (by kernel_rfl) (by kernel_rfl)
theorem ent80 : Enters Tryz.prog 80 := enters_of Tryz.func80 (by kernel_rfl) (by kernel_rfl)
theorem ent81 : Enters Tryz.prog 81 := enters_of Tryz.func81 (by kernel_rfl) (by kernel_rfl)
theorem ent82 : Enters Tryz.prog 82 := enters_of Tryz.func82 (by kernel_rfl) (by kernel_rfl)
theorem ent83 : Enters Tryz.prog 83 := enters_of Tryz.func83 (by kernel_rfl) (by kernel_rfl)
theorem ent84 : Enters Tryz.prog 84 := enters_of Tryz.func84 (by kernel_rfl) (by kernel_rfl)
theorem ent85 : Enters Tryz.prog 85 := enters_of Tryz.func85 (by kernel_rfl) (by kernel_rfl)
theorem ent86 : Enters Tryz.prog 86 := enters_of Tryz.func86 (by kernel_rfl) (by kernel_rfl)
theorem ent87 : Enters Tryz.prog 87 := enters_of Tryz.func87 (by kernel_rfl) (by kernel_rfl)
theorem ent88 : Enters Tryz.prog 88 := enters_of Tryz.func88 (by kernel_rfl) (by kernel_rfl)
theorem ent89 : Enters Tryz.prog 89 := enters_of Tryz.func89 (by kernel_rfl) (by kernel_rfl)
theorem ent90 : Enters Tryz.prog 90 := enters_of Tryz.func90 (by kernel_rfl) (by kernel_rfl)
theorem ent91 : Enters Tryz.prog 91 := enters_of Tryz.func91 (by kernel_rfl) (by kernel_rfl)
theorem ent92 : Enters Tryz.prog 92 := enters_of Tryz.func92 (by kernel_rfl) (by kernel_rfl)
theorem ent93 : Enters Tryz.prog 93 := enters_of Tryz.func93 (by kernel_rfl) (by kernel_rfl)
theorem ent94 : Enters Tryz.prog 94 := enters_of Tryz.func94 (by kernel_rfl) (by kernel_rfl)
theorem ent95 : Enters Tryz.prog 95 := enters_of Tryz.func95 (by kernel_rfl) (by kernel_rfl)
theorem ent97 : Enters Tryz.prog 97 := enters_of Tryz.func97 (by kernel_rfl) (by kernel_rfl)
theorem ent98 : Enters Tryz.prog 98 := enters_of Tryz.func98 (by kernel_rfl) (by kernel_rfl)
theorem ent99 : Enters Tryz.prog 99 := enters_of Tryz.func99 (by kernel_rfl) (by kernel_rfl)
theorem ent100 : Enters Tryz.prog 100 := enters_of Tryz.func100 (by kernel_rfl) (by kernel_rfl)
theorem ent101 : Enters Tryz.prog 101 := enters_of Tryz.func101 (by kernel_rfl) (by kernel_rfl)
theorem ent102 : Enters Tryz.prog 102 := enters_of Tryz.func102 (by kernel_rfl) (by kernel_rfl)
theorem ent103 : Enters Tryz.prog 103 := enters_of Tryz.func103 (by kernel_rfl) (by kernel_rfl)
theorem ent104 : Enters Tryz.prog 104 := enters_of Tryz.func104 (by kernel_rfl) (by kernel_rfl)
theorem ent105 : Enters Tryz.prog 105 := enters_of Tryz.func105 (by kernel_rfl) (by kernel_rfl)
theorem ent106 : Enters Tryz.prog 106 := enters_of Tryz.func106 (by kernel_rfl) (by kernel_rfl)
theorem ent107 : Enters Tryz.prog 107 := enters_of Tryz.func107 (by kernel_rfl) (by kernel_rfl)
theorem ent108 : Enters Tryz.prog 108 := enters_of Tryz.func108 (by kernel_rfl) (by kernel_rfl)
theorem ent109 : Enters Tryz.prog 109 := enters_of Tryz.func109 (by kernel_rfl) (by kernel_rfl)
theorem ent110 : Enters Tryz.prog 110 := enters_of Tryz.func110 (by kernel_rfl) (by kernel_rfl)
theorem ent111 : Enters Tryz.prog 111 := enters_of Tryz.func111 (by kernel_rfl) (by kernel_rfl)
theorem ent112 : Enters Tryz.prog 112 := enters_of Tryz.func112 (by kernel_rfl) (by kernel_rfl)
theorem ent113 : Enters Tryz.prog 113 := enters_of Tryz.func113 (by kernel_rfl) (by kernel_rfl)
theorem ent114 : Enters Tryz.prog 114 := enters_of Tryz.func114 (by kernel_rfl) (by kernel_rfl)
theorem ent115 : Enters Tryz.prog 115 := enters_of Tryz.func115 (by kernel_rfl) (by kernel_rfl)
theorem ent116 : Enters Tryz.prog 116 := enters_of Tryz.func116 (by kernel_rfl) (by kernel_rfl)
theorem ent117 : Enters Tryz.prog 117 := enters_of Tryz.func117 (by kernel_rfl) (by kernel_rfl)
theorem ent118 : Enters Tryz.prog 118 := enters_of Tryz.func118 (by kernel_rfl) (by kernel_rfl)
theorem ent119 : Enters Tryz.prog 119 := enters_of Tryz.func119 (by kernel_rfl) (by kernel_rfl)
theorem ent120 : Enters Tryz.prog 120 := enters_of Tryz.func120 (by kernel_rfl) (by kernel_rfl)
theorem ent121 : Enters Tryz.prog 121 := enters_of Tryz.func121 (by kernel_rfl) (by kernel_rfl)
theorem ent122 : Enters Tryz.prog 122 := enters_of Tryz.func122 (by kernel_rfl) (by kernel_rfl)
theorem ent123 : Enters Tryz.prog 123 := enters_of Tryz.func123 (by kernel_rfl) (by kernel_rfl)
theorem ent124 : Enters Tryz.prog 124 := enters_of Tryz.func124 (by kernel_rfl) (by kernel_rfl)
theorem ent125 : Enters Tryz.prog 125 := enters_of Tryz.func125 (by kernel_rfl) (by kernel_rfl)
theorem ent126 : Enters Tryz.prog 126 := enters_of Tryz.func126 (by kernel_rfl) (by kernel_rfl)
theorem ent127 : Enters Tryz.prog 127 := enters_of Tryz.func127 (by kernel_rfl) (by kernel_rfl)
theorem ent128 : Enters Tryz.prog 128 := enters_of Tryz.func128 (by kernel_rfl) (by kernel_rfl)
theorem ent129 : Enters Tryz.prog 129 := enters_of Tryz.func129 (by kernel_rfl) (by kernel_rfl)
theorem ent130 : Enters Tryz.prog 130 := enters_of Tryz.func130 (by kernel_rfl) (by kernel_rfl)
theorem ent131 : Enters Tryz.prog 131 := enters_of Tryz.func131 (by kernel_rfl) (by kernel_rfl)
theorem ent132 : Enters Tryz.prog 132 := enters_of Tryz.func132 (by kernel_rfl) (by kernel_rfl)
theorem ent133 : Enters Tryz.prog 133 := enters_of Tryz.func133 (by kernel_rfl) (by kernel_rfl)
theorem ent134 : Enters Tryz.prog 134 := enters_of Tryz.func134 (by kernel_rfl) (by kernel_rfl)
theorem ent135 : Enters Tryz.prog 135 := enters_of Tryz.func135 (by kernel_rfl) (by kernel_rfl)
theorem ent136 : Enters Tryz.prog 136 := enters_of Tryz.func136 (by kernel_rfl) (by kernel_rfl)
theorem ent137 : Enters Tryz.prog 137 := enters_of Tryz.func137 (by kernel_rfl) (by kernel_rfl)
theorem ent138 : Enters Tryz.prog 138 := enters_of Tryz.func138 (by kernel_rfl) (by kernel_rfl)
theorem ent139 : Enters Tryz.prog 139 := enters_of Tryz.func139 (by kernel_rfl) (by kernel_rfl)
theorem ent140 : Enters Tryz.prog 140 := enters_of Tryz.func140 (by kernel_rfl) (by kernel_rfl)
theorem ent141 : Enters Tryz.prog 141 := enters_of Tryz.func141 (by kernel_rfl) (by kernel_rfl)
theorem ent142 : Enters Tryz.prog 142 := enters_of Tryz.func142 (by kernel_rfl) (by kernel_rfl)
theorem ent143 : Enters Tryz.prog 143 := enters_of Tryz.func143 (by kernel_rfl) (by kernel_rfl)
theorem ent144 : Enters Tryz.prog 144 := enters_of Tryz.func144 (by kernel_rfl) (by kernel_rfl)
theorem ent145 : Enters Tryz.prog 145 := enters_of Tryz.func145 (by kernel_rfl) (by kernel_rfl)
theorem ent146 : Enters Tryz.prog 146 := enters_of Tryz.func146 (by kernel_rfl) (by kernel_rfl)
theorem ent147 : Enters Tryz.prog 147 := enters_of Tryz.func147 (by kernel_rfl) (by kernel_rfl)
theorem ent148 : Enters Tryz.prog 148 := enters_of Tryz.func148 (by kernel_rfl) (by kernel_rfl)
theorem ent149 : Enters Tryz.prog 149 := enters_of Tryz.func149 (by kernel_rfl) (by kernel_rfl)
theorem ent150 : Enters Tryz.prog 150 := enters_of Tryz.func150 (by kernel_rfl) (by kernel_rfl)
theorem ent151 : Enters Tryz.prog 151 := enters_of Tryz.func151 (by kernel_rfl) (by kernel_rfl)
theorem ent152 : Enters Tryz.prog 152 := enters_of Tryz.func152 (by kernel_rfl) (by kernel_rfl)
theorem ent153 : Enters Tryz.prog 153 := enters_of Tryz.func153 (by kernel_rfl) (by kernel_rfl)
theorem ent154 : Enters Tryz.prog 154 := enters_of Tryz.func154 (by kernel_rfl) (by kernel_rfl)
theorem ent155 : Enters Tryz.prog 155 := enters_of Tryz.func155 (by kernel_rfl) (by kernel_rfl)
theorem ent156 : Enters Tryz.prog 156 := enters_of Tryz.func156 (by kernel_rfl) (by kernel_rfl)
theorem ent157 : Enters Tryz.prog 157 := enters_of Tryz.func157 (by kernel_rfl) (by kernel_rfl)
theorem ent158 : Enters Tryz.prog 158 := enters_of Tryz.func158 (by kernel_rfl) (by kernel_rfl)
theorem ent159 : Enters Tryz.prog 159 := enters_of Tryz.func159 (by kernel_rfl) (by kernel_rfl)
theorem ent160 : Enters Tryz.prog 160 := enters_of Tryz.func160 (by kernel_rfl) (by kernel_rfl)
theorem ent161 : Enters Tryz.prog 161 := enters_of Tryz.func161 (by kernel_rfl) (by kernel_rfl)
theorem ent162 : Enters Tryz.prog 162 := enters_of Tryz.func162 (by kernel_rfl) (by kernel_rfl)
theorem ent163 : Enters Tryz.prog 163 := enters_of Tryz.func163 (by kernel_rfl) (by kernel_rfl)
theorem ent164 : Enters Tryz.prog 164 := enters_of Tryz.func164 (by kernel_rfl) (by kernel_rfl)
theorem ent166 : Enters Tryz.prog 166 := enters_of Tryz.func166 (by kernel_rfl) (by kernel_rfl)
theorem ent167 : Enters Tryz.prog 167 := enters_of Tryz.func167 (by kernel_rfl) (by kernel_rfl)
theorem ent168 : Enters Tryz.prog 168 := enters_of Tryz.func168 (by kernel_rfl) (by kernel_rfl)
theorem ent169 : Enters Tryz.prog 169 := enters_of Tryz.func169 (by kernel_rfl) (by kernel_rfl)
theorem ent170 : Enters Tryz.prog 170 := enters_of Tryz.func170 (by kernel_rfl) (by kernel_rfl)
theorem ent171 : Enters Tryz.prog 171 := enters_of Tryz.func171 (by kernel_rfl) (by kernel_rfl)
theorem ent172 : Enters Tryz.prog 172 := enters_of Tryz.func172 (by kernel_rfl) (by kernel_rfl)
theorem ent173 : Enters Tryz.prog 173 := enters_of Tryz.func173 (by kernel_rfl) (by kernel_rfl)
theorem ent174 : Enters Tryz.prog 174 := enters_of Tryz.func174 (by kernel_rfl) (by kernel_rfl)
theorem ent175 : Enters Tryz.prog 175 := enters_of Tryz.func175 (by kernel_rfl) (by kernel_rfl)
theorem ent176 : Enters Tryz.prog 176 := enters_of Tryz.func176 (by kernel_rfl) (by kernel_rfl)
theorem ent177 : Enters Tryz.prog 177 := enters_of Tryz.func177 (by kernel_rfl) (by kernel_rfl)
theorem ent178 : Enters Tryz.prog 178 := enters_of Tryz.func178 (by kernel_rfl) (by kernel_rfl)
theorem ent179 : Enters Tryz.prog 179 := enters_of Tryz.func179 (by kernel_rfl) (by kernel_rfl)
theorem ent180 : Enters Tryz.prog 180 := enters_of Tryz.func180 (by kernel_rfl) (by kernel_rfl)
theorem ent181 : Enters Tryz.prog 181 := enters_of Tryz.func181 (by kernel_rfl) (by kernel_rfl)
theorem ent182 : Enters Tryz.prog 182 := enters_of Tryz.func182 (by kernel_rfl) (by kernel_rfl)
theorem ent183 : Enters Tryz.prog 183 := enters_of Tryz.func183 (by kernel_rfl) (by kernel_rfl)
theorem ent184 : Enters Tryz.prog 184 := enters_of Tryz.func184 (by kernel_rfl) (by kernel_rfl)
theorem ent186 : Enters Tryz.prog 186 := enters_of Tryz.func186 (by kernel_rfl) (by kernel_rfl)
theorem ent187 : Enters Tryz.prog 187 := enters_of Tryz.func187 (by kernel_rfl) (by kernel_rfl)
theorem ent188 : Enters Tryz.prog 188 := enters_of Tryz.func188 (by kernel_rfl) (by kernel_rfl)
theorem ent189 : Enters Tryz.prog 189 := enters_of Tryz.func189 (by kernel_rfl) (by kernel_rfl)
theorem ent190 : Enters Tryz.prog 190 := enters_of Tryz.func190 (by kernel_rfl) (by kernel_rfl)
theorem ent191 : Enters Tryz.prog 191 := enters_of Tryz.func191 (by kernel_rfl) (by kernel_rfl)
theorem ent193 : Enters Tryz.prog 193 := enters_of Tryz.func193 (by kernel_rfl) (by kernel_rfl)
theorem ent194 : Enters Tryz.prog 194 := enters_of Tryz.func194 (by kernel_rfl) (by kernel_rfl)
theorem ent195 : Enters Tryz.prog 195 := enters_of Tryz.func195 (by kernel_rfl) (by kernel_rfl)
theorem ent196 : Enters Tryz.prog 196 := enters_of Tryz.func196 (by kernel_rfl) (by kernel_rfl)
theorem ent198 : Enters Tryz.prog 198 := enters_of Tryz.func198 (by kernel_rfl) (by kernel_rfl)
theorem ent199 : Enters Tryz.prog 199 := enters_of Tryz.func199 (by kernel_rfl) (by kernel_rfl)
theorem ent200 : Enters Tryz.prog 200 := enters_of Tryz.func200 (by kernel_rfl) (by kernel_rfl)
theorem ent224 : Enters Tryz.prog 224 := enters_of Tryz.func224 (by kernel_rfl) (by kernel_rfl)
theorem mixed : Tryz.prog.follows .mixedOrders = true := by kernel_rfl
end Go.Proofs.YtfoakjdnopljmaaGreatDoor

/-
  DERIVED: THE SHELF's CONTRACTS AT THIS DUMP, IN PLAIN WORDS (tools/lay-plain.mjs out of 'TryzShelf.lean', which tools/lay-shelf.mjs wrote): THE SAME DECLARATIONS UNDER THE SAME NAMES: 'import', 'namespace', 'open', 'def', 'theorem' AND NOTHING ELSE: no command of the shelf's: FOR A HAND-IN. Each laying: the table of numbers ('.._ren') and one theorem, a field a fact of the dump's own or the kernel's comparison; each contract: ONE APPLICATION.
-/
namespace Go.Proofs
open Go.Shelf
def Tryz.sortK_ren : Go.Shelf.Ren := ⟨fun | 6 => 45 | 15 => 65 | 14 => 64 | 28 => 93 | 29 => 94 | 20 => 85 | 21 => 86 | 22 => 87 | 23 => 88 | 24 => 89 | 25 => 90 | 26 => 91 | 27 => 92 | 46 => 119 | 47 => 120 | 48 => 121 | 49 => 122 | 50 => 123 | 57 => 163 | n => n, fun | 22 => 104 | 24 => 30 | 25 => 130 | 3 => 3 | 39 => 151 | 0 => 0 | 53 => 58 | 55 => 52 | 4 => 4 | 46 => 178 | 45 => 177 | 50 => 97 | 5 => 5 | 9 => 9 | 66 => 207 | 70 => 211 | 76 => 249 | 77 => 250 | n => n, fun | n => n⟩
theorem Tryz.sortK : Go.Proofs.SlLaysF0.n6 Tryz.prog Tryz.sortK_ren := {
  mixed := by kernel_rfl
  f6 := ⟨Tryz.f45.name, by decide, Tryz.func45.trans (congrArg some (by kernel_rfl))⟩
  f14 := ⟨Tryz.f64.name, by decide, Tryz.func64.trans (congrArg some (by kernel_rfl))⟩
  f15 := Tryz.func65.trans (congrArg some (by kernel_rfl))
  f20 := ⟨Tryz.f85.name, by decide, Tryz.func85.trans (congrArg some (by kernel_rfl))⟩
  f21 := ⟨Tryz.f86.name, by decide, Tryz.func86.trans (congrArg some (by kernel_rfl))⟩
  f22 := ⟨Tryz.f87.name, by decide, Tryz.func87.trans (congrArg some (by kernel_rfl))⟩
  f23 := ⟨Tryz.f88.name, by decide, Tryz.func88.trans (congrArg some (by kernel_rfl))⟩
  f24 := ⟨Tryz.f89.name, by decide, Tryz.func89.trans (congrArg some (by kernel_rfl))⟩
  f25 := ⟨Tryz.f90.name, by decide, Tryz.func90.trans (congrArg some (by kernel_rfl))⟩
  f26 := ⟨Tryz.f91.name, by decide, Tryz.func91.trans (congrArg some (by kernel_rfl))⟩
  f27 := ⟨Tryz.f92.name, by decide, Tryz.func92.trans (congrArg some (by kernel_rfl))⟩
  f28 := Tryz.func93.trans (congrArg some (by kernel_rfl))
  f29 := Tryz.func94.trans (congrArg some (by kernel_rfl))
  f46 := ⟨Tryz.f119.name, by decide, Tryz.func119.trans (congrArg some (by kernel_rfl))⟩
  f47 := Tryz.func120.trans (congrArg some (by kernel_rfl))
  f48 := Tryz.func121.trans (congrArg some (by kernel_rfl))
  f49 := ⟨Tryz.f122.name, by decide, Tryz.func122.trans (congrArg some (by kernel_rfl))⟩
  f50 := ⟨Tryz.f123.name, by decide, Tryz.func123.trans (congrArg some (by kernel_rfl))⟩
  f57 := ⟨Tryz.f163.name, by decide, Tryz.func163.trans (congrArg some (by kernel_rfl))⟩
  t0 := Tryz.underlying0
  a0 := Tryz.isAgg0
  z0 := Tryz.sizeOf0
  v0 := Tryz.zeroValue0
  t3 := Tryz.underlying3
  a3 := Tryz.isAgg3
  z3 := Tryz.sizeOf3
  v3 := Tryz.zeroValue3
  t4 := Tryz.underlying4
  a4 := Tryz.isAgg4
  z4 := Tryz.sizeOf4
  v4 := Tryz.zeroValue4
  t5 := Tryz.underlying5
  a5 := Tryz.isAgg5
  z5 := Tryz.sizeOf5
  v5 := Tryz.zeroValue5
  t9 := Tryz.underlying9
  a9 := Tryz.isAgg9
  z9 := Tryz.sizeOf9
  v9 := Tryz.zeroValue9
  t22 := Tryz.underlying104
  a22 := Tryz.isAgg104
  z22 := Tryz.sizeOf104
  v22 := Tryz.zeroValue104
  t25 := Tryz.underlying130
  a25 := Tryz.isAgg130
  z25 := Tryz.sizeOf130
  v25 := Tryz.zeroValue130
  t39 := Tryz.underlying151
  a39 := Tryz.isAgg151
  z39 := Tryz.sizeOf151
  v39 := Tryz.zeroValue151
  t45 := Tryz.underlying177
  a45 := Tryz.isAgg177
  z45 := Tryz.sizeOf177
  v45 := Tryz.zeroValue177
  t46 := Tryz.underlying178
  a46 := Tryz.isAgg178
  z46 := Tryz.sizeOf178
  v46 := Tryz.zeroValue178
  t50 := Tryz.underlying97
  a50 := Tryz.isAgg97
  z50 := Tryz.sizeOf97
  v50 := Tryz.zeroValue97
  t53 := Tryz.underlying58
  a53 := Tryz.isAgg58
  z53 := Tryz.sizeOf58
  v53 := Tryz.zeroValue58
  t55 := Tryz.underlying52
  a55 := Tryz.isAgg52
  z55 := Tryz.sizeOf52
  v55 := Tryz.zeroValue52
  t66 := Tryz.underlying207
  a66 := Tryz.isAgg207
  z66 := Tryz.sizeOf207
  v66 := Tryz.zeroValue207
  t70 := Tryz.underlying211
  a70 := Tryz.isAgg211
  z70 := Tryz.sizeOf211
  v70 := Tryz.zeroValue211
  t76 := Tryz.underlying249
  a76 := Tryz.isAgg249
  z76 := Tryz.sizeOf249
  v76 := Tryz.zeroValue249
  t77 := Tryz.underlying250
  a77 := Tryz.isAgg250
  z77 := Tryz.sizeOf250
  v77 := Tryz.zeroValue250 }
def Tryz.sortW_ren : Go.Shelf.Ren := ⟨fun | 6 => 78 | 15 => 65 | 14 => 117 | 28 => 93 | 29 => 94 | 20 => 147 | 21 => 148 | 22 => 149 | 23 => 150 | 24 => 151 | 25 => 152 | 26 => 153 | 27 => 154 | 46 => 168 | 47 => 120 | 48 => 121 | 49 => 169 | 50 => 170 | 57 => 181 | n => n, fun | 22 => 41 | 24 => 62 | 25 => 172 | 3 => 3 | 39 => 151 | 0 => 0 | 53 => 58 | 55 => 52 | 4 => 4 | 46 => 178 | 45 => 177 | 50 => 97 | 5 => 5 | 9 => 9 | 66 => 207 | 70 => 211 | 76 => 249 | 77 => 250 | n => n, fun | n => n⟩
theorem Tryz.sortW : Go.Proofs.SlLaysF0.n6 Tryz.prog Tryz.sortW_ren := {
  mixed := by kernel_rfl
  f6 := ⟨Tryz.f78.name, by decide, Tryz.func78.trans (congrArg some (by kernel_rfl))⟩
  f14 := ⟨Tryz.f117.name, by decide, Tryz.func117.trans (congrArg some (by kernel_rfl))⟩
  f15 := Tryz.func65.trans (congrArg some (by kernel_rfl))
  f20 := ⟨Tryz.f147.name, by decide, Tryz.func147.trans (congrArg some (by kernel_rfl))⟩
  f21 := ⟨Tryz.f148.name, by decide, Tryz.func148.trans (congrArg some (by kernel_rfl))⟩
  f22 := ⟨Tryz.f149.name, by decide, Tryz.func149.trans (congrArg some (by kernel_rfl))⟩
  f23 := ⟨Tryz.f150.name, by decide, Tryz.func150.trans (congrArg some (by kernel_rfl))⟩
  f24 := ⟨Tryz.f151.name, by decide, Tryz.func151.trans (congrArg some (by kernel_rfl))⟩
  f25 := ⟨Tryz.f152.name, by decide, Tryz.func152.trans (congrArg some (by kernel_rfl))⟩
  f26 := ⟨Tryz.f153.name, by decide, Tryz.func153.trans (congrArg some (by kernel_rfl))⟩
  f27 := ⟨Tryz.f154.name, by decide, Tryz.func154.trans (congrArg some (by kernel_rfl))⟩
  f28 := Tryz.func93.trans (congrArg some (by kernel_rfl))
  f29 := Tryz.func94.trans (congrArg some (by kernel_rfl))
  f46 := ⟨Tryz.f168.name, by decide, Tryz.func168.trans (congrArg some (by kernel_rfl))⟩
  f47 := Tryz.func120.trans (congrArg some (by kernel_rfl))
  f48 := Tryz.func121.trans (congrArg some (by kernel_rfl))
  f49 := ⟨Tryz.f169.name, by decide, Tryz.func169.trans (congrArg some (by kernel_rfl))⟩
  f50 := ⟨Tryz.f170.name, by decide, Tryz.func170.trans (congrArg some (by kernel_rfl))⟩
  f57 := ⟨Tryz.f181.name, by decide, Tryz.func181.trans (congrArg some (by kernel_rfl))⟩
  t0 := Tryz.underlying0
  a0 := Tryz.isAgg0
  z0 := Tryz.sizeOf0
  v0 := Tryz.zeroValue0
  t3 := Tryz.underlying3
  a3 := Tryz.isAgg3
  z3 := Tryz.sizeOf3
  v3 := Tryz.zeroValue3
  t4 := Tryz.underlying4
  a4 := Tryz.isAgg4
  z4 := Tryz.sizeOf4
  v4 := Tryz.zeroValue4
  t5 := Tryz.underlying5
  a5 := Tryz.isAgg5
  z5 := Tryz.sizeOf5
  v5 := Tryz.zeroValue5
  t9 := Tryz.underlying9
  a9 := Tryz.isAgg9
  z9 := Tryz.sizeOf9
  v9 := Tryz.zeroValue9
  t22 := Tryz.underlying41
  a22 := Tryz.isAgg41
  z22 := Tryz.sizeOf41
  v22 := Tryz.zeroValue41
  t25 := Tryz.underlying172
  a25 := Tryz.isAgg172
  z25 := Tryz.sizeOf172
  v25 := Tryz.zeroValue172
  t39 := Tryz.underlying151
  a39 := Tryz.isAgg151
  z39 := Tryz.sizeOf151
  v39 := Tryz.zeroValue151
  t45 := Tryz.underlying177
  a45 := Tryz.isAgg177
  z45 := Tryz.sizeOf177
  v45 := Tryz.zeroValue177
  t46 := Tryz.underlying178
  a46 := Tryz.isAgg178
  z46 := Tryz.sizeOf178
  v46 := Tryz.zeroValue178
  t50 := Tryz.underlying97
  a50 := Tryz.isAgg97
  z50 := Tryz.sizeOf97
  v50 := Tryz.zeroValue97
  t53 := Tryz.underlying58
  a53 := Tryz.isAgg58
  z53 := Tryz.sizeOf58
  v53 := Tryz.zeroValue58
  t55 := Tryz.underlying52
  a55 := Tryz.isAgg52
  z55 := Tryz.sizeOf52
  v55 := Tryz.zeroValue52
  t66 := Tryz.underlying207
  a66 := Tryz.isAgg207
  z66 := Tryz.sizeOf207
  v66 := Tryz.zeroValue207
  t70 := Tryz.underlying211
  a70 := Tryz.isAgg211
  z70 := Tryz.sizeOf211
  v70 := Tryz.zeroValue211
  t76 := Tryz.underlying249
  a76 := Tryz.isAgg249
  z76 := Tryz.sizeOf249
  v76 := Tryz.zeroValue249
  t77 := Tryz.underlying250
  a77 := Tryz.isAgg250
  z77 := Tryz.sizeOf250
  v77 := Tryz.zeroValue250 }
def Tryz.sortE_ren : Go.Shelf.Ren := ⟨fun | 6 => 83 | 15 => 65 | 14 => 118 | 28 => 93 | 29 => 94 | 20 => 155 | 21 => 156 | 22 => 157 | 23 => 158 | 24 => 159 | 25 => 160 | 26 => 161 | 27 => 162 | 46 => 171 | 47 => 120 | 48 => 121 | 49 => 172 | 50 => 173 | 57 => 182 | n => n, fun | 22 => 121 | 24 => 124 | 25 => 175 | 3 => 3 | 39 => 151 | 0 => 0 | 53 => 58 | 55 => 52 | 4 => 4 | 46 => 178 | 45 => 177 | 50 => 97 | 5 => 5 | 9 => 9 | 66 => 207 | 70 => 211 | 76 => 249 | 77 => 250 | n => n, fun | n => n⟩
theorem Tryz.sortE : Go.Proofs.SlLaysF0.n6 Tryz.prog Tryz.sortE_ren := {
  mixed := by kernel_rfl
  f6 := ⟨Tryz.f83.name, by decide, Tryz.func83.trans (congrArg some (by kernel_rfl))⟩
  f14 := ⟨Tryz.f118.name, by decide, Tryz.func118.trans (congrArg some (by kernel_rfl))⟩
  f15 := Tryz.func65.trans (congrArg some (by kernel_rfl))
  f20 := ⟨Tryz.f155.name, by decide, Tryz.func155.trans (congrArg some (by kernel_rfl))⟩
  f21 := ⟨Tryz.f156.name, by decide, Tryz.func156.trans (congrArg some (by kernel_rfl))⟩
  f22 := ⟨Tryz.f157.name, by decide, Tryz.func157.trans (congrArg some (by kernel_rfl))⟩
  f23 := ⟨Tryz.f158.name, by decide, Tryz.func158.trans (congrArg some (by kernel_rfl))⟩
  f24 := ⟨Tryz.f159.name, by decide, Tryz.func159.trans (congrArg some (by kernel_rfl))⟩
  f25 := ⟨Tryz.f160.name, by decide, Tryz.func160.trans (congrArg some (by kernel_rfl))⟩
  f26 := ⟨Tryz.f161.name, by decide, Tryz.func161.trans (congrArg some (by kernel_rfl))⟩
  f27 := ⟨Tryz.f162.name, by decide, Tryz.func162.trans (congrArg some (by kernel_rfl))⟩
  f28 := Tryz.func93.trans (congrArg some (by kernel_rfl))
  f29 := Tryz.func94.trans (congrArg some (by kernel_rfl))
  f46 := ⟨Tryz.f171.name, by decide, Tryz.func171.trans (congrArg some (by kernel_rfl))⟩
  f47 := Tryz.func120.trans (congrArg some (by kernel_rfl))
  f48 := Tryz.func121.trans (congrArg some (by kernel_rfl))
  f49 := ⟨Tryz.f172.name, by decide, Tryz.func172.trans (congrArg some (by kernel_rfl))⟩
  f50 := ⟨Tryz.f173.name, by decide, Tryz.func173.trans (congrArg some (by kernel_rfl))⟩
  f57 := ⟨Tryz.f182.name, by decide, Tryz.func182.trans (congrArg some (by kernel_rfl))⟩
  t0 := Tryz.underlying0
  a0 := Tryz.isAgg0
  z0 := Tryz.sizeOf0
  v0 := Tryz.zeroValue0
  t3 := Tryz.underlying3
  a3 := Tryz.isAgg3
  z3 := Tryz.sizeOf3
  v3 := Tryz.zeroValue3
  t4 := Tryz.underlying4
  a4 := Tryz.isAgg4
  z4 := Tryz.sizeOf4
  v4 := Tryz.zeroValue4
  t5 := Tryz.underlying5
  a5 := Tryz.isAgg5
  z5 := Tryz.sizeOf5
  v5 := Tryz.zeroValue5
  t9 := Tryz.underlying9
  a9 := Tryz.isAgg9
  z9 := Tryz.sizeOf9
  v9 := Tryz.zeroValue9
  t22 := Tryz.underlying121
  a22 := Tryz.isAgg121
  z22 := Tryz.sizeOf121
  v22 := Tryz.zeroValue121
  t25 := Tryz.underlying175
  a25 := Tryz.isAgg175
  z25 := Tryz.sizeOf175
  v25 := Tryz.zeroValue175
  t39 := Tryz.underlying151
  a39 := Tryz.isAgg151
  z39 := Tryz.sizeOf151
  v39 := Tryz.zeroValue151
  t45 := Tryz.underlying177
  a45 := Tryz.isAgg177
  z45 := Tryz.sizeOf177
  v45 := Tryz.zeroValue177
  t46 := Tryz.underlying178
  a46 := Tryz.isAgg178
  z46 := Tryz.sizeOf178
  v46 := Tryz.zeroValue178
  t50 := Tryz.underlying97
  a50 := Tryz.isAgg97
  z50 := Tryz.sizeOf97
  v50 := Tryz.zeroValue97
  t53 := Tryz.underlying58
  a53 := Tryz.isAgg58
  z53 := Tryz.sizeOf58
  v53 := Tryz.zeroValue58
  t55 := Tryz.underlying52
  a55 := Tryz.isAgg52
  z55 := Tryz.sizeOf52
  v55 := Tryz.zeroValue52
  t66 := Tryz.underlying207
  a66 := Tryz.isAgg207
  z66 := Tryz.sizeOf207
  v66 := Tryz.zeroValue207
  t70 := Tryz.underlying211
  a70 := Tryz.isAgg211
  z70 := Tryz.sizeOf211
  v70 := Tryz.zeroValue211
  t76 := Tryz.underlying249
  a76 := Tryz.isAgg249
  z76 := Tryz.sizeOf249
  v76 := Tryz.zeroValue249
  t77 := Tryz.underlying250
  a77 := Tryz.isAgg250
  z77 := Tryz.sizeOf250
  v77 := Tryz.zeroValue250 }
def Tryz.sortI_ren : Go.Shelf.Ren := ⟨fun | 5 => 48 | 8 => 65 | 7 => 68 | 19 => 93 | 20 => 94 | 10 => 97 | 11 => 98 | 12 => 99 | 13 => 100 | 14 => 101 | 15 => 102 | 16 => 103 | 17 => 104 | 18 => 105 | 30 => 124 | 31 => 120 | 32 => 121 | 33 => 125 | 34 => 126 | 35 => 127 | 40 => 164 | n => n, fun | 23 => 107 | 25 => 3 | 3 => 3 | 32 => 151 | 22 => 107 | 0 => 0 | 44 => 58 | 46 => 52 | 4 => 4 | 36 => 178 | 35 => 177 | 41 => 97 | 5 => 5 | 9 => 9 | 53 => 207 | 57 => 211 | 63 => 249 | 64 => 250 | n => n, fun | n => n⟩
theorem Tryz.sortI : Go.Proofs.SlLaysM.n5 Tryz.prog Tryz.sortI_ren := {
  mixed := by kernel_rfl
  f5 := ⟨Tryz.f48.name, by decide, Tryz.func48.trans (congrArg some (by kernel_rfl))⟩
  f7 := ⟨Tryz.f68.name, by decide, Tryz.func68.trans (congrArg some (by kernel_rfl))⟩
  f8 := Tryz.func65.trans (congrArg some (by kernel_rfl))
  f10 := ⟨Tryz.f97.name, by decide, Tryz.func97.trans (congrArg some (by kernel_rfl))⟩
  f11 := ⟨Tryz.f98.name, by decide, Tryz.func98.trans (congrArg some (by kernel_rfl))⟩
  f12 := ⟨Tryz.f99.name, by decide, Tryz.func99.trans (congrArg some (by kernel_rfl))⟩
  f13 := ⟨Tryz.f100.name, by decide, Tryz.func100.trans (congrArg some (by kernel_rfl))⟩
  f14 := ⟨Tryz.f101.name, by decide, Tryz.func101.trans (congrArg some (by kernel_rfl))⟩
  f15 := ⟨Tryz.f102.name, by decide, Tryz.func102.trans (congrArg some (by kernel_rfl))⟩
  f16 := ⟨Tryz.f103.name, by decide, Tryz.func103.trans (congrArg some (by kernel_rfl))⟩
  f17 := ⟨Tryz.f104.name, by decide, Tryz.func104.trans (congrArg some (by kernel_rfl))⟩
  f18 := ⟨Tryz.f105.name, by decide, Tryz.func105.trans (congrArg some (by kernel_rfl))⟩
  f19 := Tryz.func93.trans (congrArg some (by kernel_rfl))
  f20 := Tryz.func94.trans (congrArg some (by kernel_rfl))
  f30 := ⟨Tryz.f124.name, by decide, Tryz.func124.trans (congrArg some (by kernel_rfl))⟩
  f31 := Tryz.func120.trans (congrArg some (by kernel_rfl))
  f32 := Tryz.func121.trans (congrArg some (by kernel_rfl))
  f33 := ⟨Tryz.f125.name, by decide, Tryz.func125.trans (congrArg some (by kernel_rfl))⟩
  f34 := ⟨Tryz.f126.name, by decide, Tryz.func126.trans (congrArg some (by kernel_rfl))⟩
  f35 := ⟨Tryz.f127.name, by decide, Tryz.func127.trans (congrArg some (by kernel_rfl))⟩
  f40 := ⟨Tryz.f164.name, by decide, Tryz.func164.trans (congrArg some (by kernel_rfl))⟩
  t0 := Tryz.underlying0
  a0 := Tryz.isAgg0
  z0 := Tryz.sizeOf0
  v0 := Tryz.zeroValue0
  t3 := Tryz.underlying3
  a3 := Tryz.isAgg3
  z3 := Tryz.sizeOf3
  v3 := Tryz.zeroValue3
  t4 := Tryz.underlying4
  a4 := Tryz.isAgg4
  z4 := Tryz.sizeOf4
  v4 := Tryz.zeroValue4
  t5 := Tryz.underlying5
  a5 := Tryz.isAgg5
  z5 := Tryz.sizeOf5
  v5 := Tryz.zeroValue5
  t9 := Tryz.underlying9
  a9 := Tryz.isAgg9
  z9 := Tryz.sizeOf9
  v9 := Tryz.zeroValue9
  t22 := Tryz.underlying107
  a22 := Tryz.isAgg107
  z22 := Tryz.sizeOf107
  v22 := Tryz.zeroValue107
  t23 := Tryz.underlying107
  a23 := Tryz.isAgg107
  z23 := Tryz.sizeOf107
  v23 := Tryz.zeroValue107
  t25 := Tryz.underlying3
  a25 := Tryz.isAgg3
  z25 := Tryz.sizeOf3
  v25 := Tryz.zeroValue3
  t32 := Tryz.underlying151
  a32 := Tryz.isAgg151
  z32 := Tryz.sizeOf151
  v32 := Tryz.zeroValue151
  t35 := Tryz.underlying177
  a35 := Tryz.isAgg177
  z35 := Tryz.sizeOf177
  v35 := Tryz.zeroValue177
  t36 := Tryz.underlying178
  a36 := Tryz.isAgg178
  z36 := Tryz.sizeOf178
  v36 := Tryz.zeroValue178
  t41 := Tryz.underlying97
  a41 := Tryz.isAgg97
  z41 := Tryz.sizeOf97
  v41 := Tryz.zeroValue97
  t44 := Tryz.underlying58
  a44 := Tryz.isAgg58
  z44 := Tryz.sizeOf58
  v44 := Tryz.zeroValue58
  t46 := Tryz.underlying52
  a46 := Tryz.isAgg52
  z46 := Tryz.sizeOf52
  v46 := Tryz.zeroValue52
  t53 := Tryz.underlying207
  a53 := Tryz.isAgg207
  z53 := Tryz.sizeOf207
  v53 := Tryz.zeroValue207
  t57 := Tryz.underlying211
  a57 := Tryz.isAgg211
  z57 := Tryz.sizeOf211
  v57 := Tryz.zeroValue211
  t63 := Tryz.underlying249
  a63 := Tryz.isAgg249
  z63 := Tryz.sizeOf249
  v63 := Tryz.zeroValue249
  t64 := Tryz.underlying250
  a64 := Tryz.isAgg250
  z64 := Tryz.sizeOf250
  v64 := Tryz.zeroValue250 }
def Tryz.compactI_ren : Go.Shelf.Ren := ⟨fun | 43 => 49 | n => n, fun | 22 => 107 | 23 => 3 | 3 => 3 | 4 => 4 | 0 => 0 | n => n, fun | n => n⟩
theorem Tryz.compactI : Go.Proofs.SlLaysN.n43 Tryz.prog Tryz.compactI_ren := {
  mixed := by kernel_rfl
  f43 := ⟨Tryz.f49.name, by decide, Tryz.func49.trans (congrArg some (by kernel_rfl))⟩
  t0 := Tryz.underlying0
  a0 := Tryz.isAgg0
  z0 := Tryz.sizeOf0
  v0 := Tryz.zeroValue0
  t3 := Tryz.underlying3
  a3 := Tryz.isAgg3
  z3 := Tryz.sizeOf3
  v3 := Tryz.zeroValue3
  t4 := Tryz.underlying4
  a4 := Tryz.isAgg4
  z4 := Tryz.sizeOf4
  v4 := Tryz.zeroValue4
  t22 := Tryz.underlying107
  a22 := Tryz.isAgg107
  z22 := Tryz.sizeOf107
  v22 := Tryz.zeroValue107
  t23 := Tryz.underlying3
  a23 := Tryz.isAgg3
  z23 := Tryz.sizeOf3
  v23 := Tryz.zeroValue3
  i23 := by kernel_rfl }
end Go.Proofs

set_option linter.unusedVariables false
set_option linter.unusedSimpArgs false
namespace Go.Proofs.YtfoakjdnopljmaaGreatDoor
open Go Go.Proofs

/-! ### What names are -/
def isLetter (c : UInt8) : Bool := decide ((c.toNat : Int) ≥ 97) && decide ((c.toNat : Int) ≤ 122)
def isSign (c : UInt8) : Bool := (((isLetter c || (decide ((c.toNat : Int) ≥ 48) && decide ((c.toNat : Int) ≤ 57))) || ((c.toNat : Int) == 45)) || ((c.toNat : Int) == 95)) || ((c.toNat : Int) == 46)
def validName (s : List UInt8) : Bool := decide (1 ≤ s.length) && decide (s.length ≤ 12) && isLetter (s.getD 0 0) && s.all isSign
def pad (n : Nat) (s : List UInt8) : List UInt8 := s ++ List.replicate (n - s.length) 0
@[reducible] def nm (l : List UInt8) : Value := .agg ⟨l.map u8⟩
@[reducible] def ptr (b off : Nat) : Value := .pointer (some ⟨b, off, none⟩)

theorem pad_length {n : Nat} {s : List UInt8} (h : s.length ≤ n) : (pad n s).length = n := by simp [pad]; omega

theorem pad_set {n i : Nat} {s : List UInt8} (h : s.length ≤ n) (hi : i < s.length) : (pad n (s.take i)).set i (s.getD i 0) = pad n (s.take (i + 1)) := by
  have hl : (s.take i).length = i := by simp; omega
  have hl' : (s.take (i + 1)).length = i + 1 := by simp; omega
  simp only [pad, hl, hl']
  rw [List.set_append_right _ _ (by omega), hl, Nat.sub_self, show n - i = (n - (i + 1)) + 1 by omega, List.replicate_succ, List.set_cons_zero, ← List.take_append_getElem hi, show s.getD i 0 = s[i] by simp [List.getD_eq_getElem?_getD, hi], List.append_assoc, List.singleton_append]

theorem all_take_succ {p : UInt8 → Bool} {l : List UInt8} {i : Nat} (h : i < l.length) : (l.take (i + 1)).all p = ((l.take i).all p && p (l.getD i 0)) := by
  rw [← List.take_append_getElem h, List.all_append]
  simp [List.getD_eq_getElem?_getD, h]
theorem notF {b : Bool} (h : (!b) = false) : b = true := by cases b <;> simp_all

theorem map_set (l : List UInt8) (i : Nat) (c : UInt8) : (l.map u8).set i (u8 c) = (l.set i c).map u8 := by simp [List.map_set]

def parsedName (s : List UInt8) : List UInt8 := bif validName s then pad 12 s else List.replicate 12 0
def okErr (b : Bool) (e : Nat) : Value := num (bif b then 0 else e)
/-! ### A name's front -/
def front (n : List UInt8) : List UInt8 := n.takeWhile (· != 0)

theorem front_le (n : List UInt8) : (front n).length ≤ n.length := (List.takeWhile_prefix _).length_le
theorem front_take (n : List UInt8) : n.take (front n).length = front n := by
  have := List.prefix_iff_eq_take.1 (List.takeWhile_prefix (· != 0) (l := n))
  exact this.symm

theorem index_zero : ∀ n : List UInt8, Lib.indexByte n 0 = if (front n).length < n.length then ((front n).length : Int) else -1
  | [] => rfl
  | b :: n => by
    have ih := index_zero n
    have hle := front_le n
    simp only [Lib.indexByte, front]
    by_cases hb : b = 0
    · subst hb; simp
    · have h1 : (b == 0) = false := by simpa using hb
      have h2 : (b != 0) = true := by simpa using hb
      simp only [h1, Bool.false_eq_true, if_false, List.takeWhile_cons, h2, if_true, List.length_cons]
      rw [show List.takeWhile (fun x => x != 0) n = front n from rfl, ih]
      by_cases hl : (front n).length < n.length
      · have h3 : (((front n).length : Int) == -1) = false := by rw [beq_eq_false_iff_ne]; omega
        simp only [hl, if_true, Nat.add_lt_add_iff_right, h3, Bool.false_eq_true, if_false]
        rfl
      · simp only [hl, if_false, Nat.add_lt_add_iff_right]
        rfl

theorem index_ge {n : List UInt8} (h : Lib.indexByte n 0 ≥ 0) : Lib.indexByte n 0 = ((front n).length : Int) := by
  rw [index_zero] at h ⊢
  by_cases hl : (front n).length < n.length
  · rw [if_pos hl]
  · rw [if_neg hl] at h; omega

theorem index_lt {n : List UInt8} (h : ¬ Lib.indexByte n 0 ≥ 0) : front n = n := by
  rw [index_zero] at h
  by_cases hl : (front n).length < n.length
  · rw [if_pos hl] at h; omega
  · rw [← front_take n]; exact List.take_of_length_le (by omega)

theorem cellsEq_u8 : ∀ a b : List UInt8, cellsEq (a.map u8) (b.map u8) = (a == b)
  | [], [] => rfl
  | [], _ :: _ => rfl
  | _ :: _, [] => rfl
  | x :: xs, y :: ys => by
    have h : ((x.toNat : Int) == (y.toNat : Int)) = (x == y) := by
      by_cases h : x = y
      · subst h; simp
      · have h1 : (x == y) = false := by simpa using h
        rw [h1, beq_eq_false_iff_ne]
        intro e
        exact h (UInt8.toNat_inj.1 (by omega))
    simp only [List.map_cons, cellsEq, cellEq, cellsEq_u8 xs ys, h]
    rfl

theorem fits_u8 : ∀ l : List UInt8, fitsL (List.replicate l.length (.i .u8)) (l.map u8) = true
  | [] => rfl
  | x :: xs => by simp [List.replicate_succ, fitsL, CK.fits, fits_u8 xs]

theorem fits_u8' {n : Nat} {l : List UInt8} (h : l.length = n) : fitsL (List.replicate n (.i .u8)) (l.map u8) = true := by subst h; exact fits_u8 l

theorem parsedName_length (s : List UInt8) : (parsedName s).length = 12 := by
  unfold parsedName
  cases h : validName s with
  | true => simp only [validName, Bool.and_eq_true, decide_eq_true_eq] at h; exact pad_length h.1.1.2
  | false => rfl

theorem letter_eq (c : UInt8) : (decide ((c.toNat : Int) > 96) && decide ((c.toNat : Int) < 123)) = isLetter c := by
  unfold isLetter
  generalize (c.toNat : Int) = x
  congr 1 <;> exact decide_eq_decide.2 (by omega)

theorem other_eq (c : UInt8) : (isLetter c || ((((decide ((c.toNat : Int) > 47) && decide ((c.toNat : Int) < 58)) || ((c.toNat : Int) == 45)) || ((c.toNat : Int) == 95)) || ((c.toNat : Int) == 46))) = isSign c := by
  unfold isSign
  have h : ∀ x : Int, (decide (x > 47) && decide (x < 58)) = (decide (x ≥ 48) && decide (x ≤ 57)) := fun x => by congr 1 <;> exact decide_eq_decide.2 (by omega)
  rw [h]
  simp only [Bool.or_assoc]

theorem is_step {c : UInt8} {i : Nat} (h : (!(decide ((c.toNat : Int) > 96) && decide ((c.toNat : Int) < 123)) && (!((((decide ((c.toNat : Int) > 47) && decide ((c.toNat : Int) < 58)) || ((c.toNat : Int) == 45)) || ((c.toNat : Int) == 95)) || ((c.toNat : Int) == 46)) || ((i : Int) == 0))) = false) :
    isSign c = true ∧ (i = 0 → isLetter c = true) := by
  rw [letter_eq] at h
  rw [← other_eq]
  revert h
  generalize ((((decide ((c.toNat : Int) > 47) && decide ((c.toNat : Int) < 58)) || ((c.toNat : Int) == 45)) || ((c.toNat : Int) == 95)) || ((c.toNat : Int) == 46)) = o
  intro h
  cases hl : isLetter c with
  | true => exact ⟨rfl, fun _ => rfl⟩
  | false =>
    rw [hl] at h
    cases o with
    | false => simp at h
    | true =>
      refine ⟨rfl, fun e => ?_⟩
      subst e
      simp at h

theorem is_step_bad {s : List UInt8} {i : Nat} (q : i < s.length) (h : (!(decide (((s.getD i 0).toNat : Int) > 96) && decide (((s.getD i 0).toNat : Int) < 123)) && (!((((decide (((s.getD i 0).toNat : Int) > 47) && decide (((s.getD i 0).toNat : Int) < 58)) || (((s.getD i 0).toNat : Int) == 45)) || (((s.getD i 0).toNat : Int) == 95)) || (((s.getD i 0).toNat : Int) == 46)) || ((i : Int) == 0))) = true) :
    validName s = false := by
  have hm : s.getD i 0 ∈ s := by simp [List.getD_eq_getElem?_getD, q]
  rw [letter_eq] at h
  have h2 := other_eq (s.getD i 0)
  revert h h2
  generalize ((((decide (((s.getD i 0).toNat : Int) > 47) && decide (((s.getD i 0).toNat : Int) < 58)) || (((s.getD i 0).toNat : Int) == 45)) || (((s.getD i 0).toNat : Int) == 95)) || (((s.getD i 0).toNat : Int) == 46)) = o
  intro h h2
  cases hv : validName s with
  | false => rfl
  | true =>
    simp only [validName, Bool.and_eq_true, decide_eq_true_eq, List.all_eq_true] at hv
    have h3 := hv.2 _ hm
    rw [← h2] at h3
    cases hl : isLetter (s.getD i 0) with
    | true => rw [hl] at h; simp at h
    | false =>
      rw [hl] at h h3
      simp only [Bool.false_or] at h3
      rw [h3] at h
      have : i = 0 := by simp at h; omega
      subst this
      have h4 := hv.1.2
      rw [hl] at h4
      cases h4

theorem pad_set12 {i : Nat} {s : List UInt8} (hi : i < s.length) (h2 : i < 12) : (pad 12 (s.take i)).set i (s.getD i 0) = pad 12 (s.take (i + 1)) := by
  have h := pad_set (n := 12) (i := i) (s := s.take 12) (by simp; omega) (by simp; omega)
  rw [List.take_take, List.take_take, Nat.min_eq_left (by omega), Nat.min_eq_left (by omega)] at h
  rw [← h]
  congr 1
  simp [List.getD_eq_getElem?_getD, List.getElem?_take, h2]

theorem cell_u8 {n : List UInt8} {i : Nat} {e : TypeId} (h : i < n.length) : (View.cells (n.map u8) e).cell (0 + (i : Int).toNat * 1) = some (u8 (n.getD i 0)) := by
  simp [View.cell, List.getD_eq_getElem?_getD, h]

theorem front_get {n : List UInt8} {i : Nat} (h : i < (front n).length) : n.getD i 0 ≠ 0 := by
  have h1 : (front n)[i] ∈ front n := List.getElem_mem h
  have h2 := List.all_takeWhile (l := n) (p := (· != 0))
  have h3 := List.all_eq_true.1 h2 _ h1
  have h4 : n.getD i 0 = (front n)[i] := by
    have := front_take n
    have h5 : (n.take (front n).length)[i]? = (front n)[i]? := by rw [this]
    rw [List.getElem?_take, if_pos h, List.getElem?_eq_getElem h] at h5
    simp [List.getD_eq_getElem?_getD, h5]
  rw [h4]
  simpa using h3

theorem front_end : ∀ {n : List UInt8}, (front n).length < n.length → n.getD (front n).length 0 = 0
  | [], h => by simp at h
  | b :: n, h => by
    by_cases hb : b = 0
    · subst hb; simp [front]
    · have h2 : (b != 0) = true := by simpa using hb
      simp only [front, List.takeWhile_cons, h2, if_true, List.length_cons] at h ⊢
      have := front_end (n := n) (by simpa [front] using h)
      simpa [front] using this

theorem u8_ne {c : UInt8} : (((c.toNat : Int) != 0) = true) ↔ c ≠ 0 := by
  rw [bne_iff_ne]
  constructor
  · rintro h rfl; exact h rfl
  · intro h e
    exact h (UInt8.toNat_inj.1 (by have : (0 : UInt8).toNat = 0 := rfl; omega))

theorem front_step {n : List UInt8} {i : Nat} (hi : i ≤ (front n).length) (h : i < n.length) (hc : ((((n.getD i 0).toNat : Int) != 0) = true)) : i + 1 ≤ (front n).length := by
  rcases Nat.lt_or_ge i (front n).length with h1 | h1
  · omega
  · have : i = (front n).length := by omega
    subst this
    exact absurd (front_end h) (u8_ne.1 hc)

theorem front_stop {n : List UInt8} {i : Nat} (hi : i ≤ (front n).length) (hn : n.length = 12) (h : 12 ≤ i ∨ (((n.getD i 0).toNat : Int) != 0) = false) : i = (front n).length := by
  have hf := front_le n
  rcases Nat.lt_or_ge i (front n).length with h1 | h1
  · rcases h with h | h
    · omega
    · exact absurd (u8_ne.2 (front_get h1)) (by simp only [h]; simp)
  · omega

def rightName (n : List UInt8) : Bool := validName (front n) && (pad 12 (front n) == n)
def nameText (n : List UInt8) : List UInt8 := bif rightName n then front n else []

end Go.Proofs.YtfoakjdnopljmaaGreatDoor

set_option linter.unusedVariables false
set_option linter.unusedSimpArgs false
namespace Go.Proofs.YtfoakjdnopljmaaGreatDoor
open Go

/-! ### What tags are -/
def tLetter (c : UInt8) : Bool := (decide ((c.toNat : Int) ≥ 97) && decide ((c.toNat : Int) ≤ 122)) || (decide ((c.toNat : Int) ≥ 65) && decide ((c.toNat : Int) ≤ 90))
def tDigit (c : UInt8) : Bool := decide ((c.toNat : Int) ≥ 48) && decide ((c.toNat : Int) ≤ 57)
def tLower (c : UInt8) : UInt8 := bif decide ((c.toNat : Int) ≥ 65) && decide ((c.toNat : Int) ≤ 90) then c + 32 else c
def tUpper (c : UInt8) : UInt8 := bif decide ((c.toNat : Int) ≥ 97) && decide ((c.toNat : Int) ≤ 122) then c - 32 else c

theorem u8_add {c : UInt8} (h : (decide ((c.toNat : Int) ≥ 65) && decide ((c.toNat : Int) ≤ 90)) = true) : Value.int .u8 (IntKind.u8.wrap ((c.toNat : Int) + 32)) = u8 (tLower c) := by
  simp only [tLower, h, cond_true]
  simp only [Bool.and_eq_true, decide_eq_true_eq] at h
  rw [wrap_u8 (by omega) (by omega)]
  have : (c + 32).toNat = c.toNat + 32 := by
    rw [UInt8.toNat_add]
    have : (32 : UInt8).toNat = 32 := rfl
    omega
  simp only [u8, this]
  rfl

theorem u8_sub {c : UInt8} (h : (decide ((c.toNat : Int) ≥ 97) && decide ((c.toNat : Int) ≤ 122)) = true) : Value.int .u8 (IntKind.u8.wrap ((c.toNat : Int) - 32)) = u8 (tUpper c) := by
  simp only [tUpper, h, cond_true]
  simp only [Bool.and_eq_true, decide_eq_true_eq] at h
  rw [wrap_u8 (by omega) (by omega)]
  have : (c - 32).toNat = c.toNat - 32 := by
    rw [UInt8.toNat_sub_of_le _ _ (by rw [UInt8.le_iff_toNat_le]; have : (32 : UInt8).toNat = 32 := rfl; omega)]
    rfl
  simp only [u8, this]
  congr 1
  omega

/-- A string's end cut off. -/
def trimR (c : UInt8) (s : List UInt8) : List UInt8 := (s.reverse.dropWhile (· == c)).reverse

theorem trimR_step {c : UInt8} {s : List UInt8} (h : 0 < s.length) (hc : ((s.getD (s.length - 1) 0).toNat : Int) == (c.toNat : Int)) : trimR c (s.take (s.length - 1)) = trimR c s := by
  have h1 : s = s.take (s.length - 1) ++ [s.getD (s.length - 1) 0] := by
    have := List.take_append_getElem (l := s) (i := s.length - 1) (by omega)
    rw [show s.length - 1 + 1 = s.length by omega, List.take_length] at this
    rw [show s.getD (s.length - 1) 0 = s[s.length - 1] by simp [List.getD_eq_getElem?_getD, show s.length - 1 < s.length by omega]]
    exact this.symm
  have h2 : (s.getD (s.length - 1) 0) = c := UInt8.toNat_inj.1 (by have := eq_of_beq hc; omega)
  conv => rhs; rw [h1]
  simp only [trimR, List.reverse_append, List.reverse_singleton, List.singleton_append, h2]
  rw [List.dropWhile_cons_of_pos (by simp)]

theorem trimR_stop {c : UInt8} {s : List UInt8} (h : s.length = 0 ∨ (((s.getD (s.length - 1) 0).toNat : Int) == (c.toNat : Int)) = false) : trimR c s = s := by
  rcases Nat.eq_zero_or_pos s.length with h0 | h0
  · rw [List.length_eq_zero_iff.1 h0]; rfl
  · rcases h with h | h
    · omega
    · have h1 : s = s.take (s.length - 1) ++ [s.getD (s.length - 1) 0] := by
        have := List.take_append_getElem (l := s) (i := s.length - 1) (by omega)
        rw [show s.length - 1 + 1 = s.length by omega, List.take_length] at this
        rw [show s.getD (s.length - 1) 0 = s[s.length - 1] by simp [List.getD_eq_getElem?_getD, show s.length - 1 < s.length by omega]]
        exact this.symm
      have h2 : ¬ ((s.getD (s.length - 1) 0) == c) = true := by
        intro e
        rw [eq_of_beq e] at h
        simp at h
      generalize s.getD (s.length - 1) 0 = x at h1 h2
      generalize s.take (s.length - 1) = y at h1
      subst h1
      simp only [trimR, List.reverse_append, List.reverse_singleton, List.singleton_append]
      rw [List.dropWhile_cons, if_neg h2]
      simp

theorem trimR_nil (c : UInt8) : trimR c [] = [] := rfl
theorem trimR_le (c : UInt8) (s : List UInt8) : (trimR c s).length ≤ s.length := by
  simp only [trimR, List.length_reverse]
  exact Nat.le_trans (List.dropWhile_suffix _).length_le (by simp)

/-! ### A string in parts -/
def splitC (c : UInt8) : List UInt8 → List (List UInt8)
  | [] => [[]]
  | b :: s => bif b == c then [] :: splitC c s else match splitC c s with
    | p :: r => (b :: p) :: r
    | [] => [[b]]

theorem splitC_ne (c : UInt8) (s : List UInt8) : splitC c s ≠ [] := by
  cases s with
  | nil => simp [splitC]
  | cons b s =>
    simp only [splitC]
    cases b == c with
    | true => simp
    | false => simp only [cond_false]; split <;> simp

theorem splitC_count (c : UInt8) : ∀ s : List UInt8, (splitC c s).length = Lib.countByte s c + 1
  | [] => rfl
  | b :: s => by
    have ih := splitC_count c s
    have hne := splitC_ne c s
    simp only [splitC, Lib.countByte, List.count_cons] at ih ⊢
    cases b == c with
    | true => simp [ih]
    | false =>
      simp only [cond_false]
      split
      · rename_i p r e; rw [e] at ih; simpa using ih
      · rename_i e; exact absurd e hne

theorem count_le (c : UInt8) (s : List UInt8) : Lib.countByte s c ≤ s.length := List.count_le_length

theorem splitC_index (c : UInt8) : ∀ s : List UInt8, (Lib.indexByte s c < 0 → splitC c s = [s] ∧ Lib.countByte s c = 0) ∧
    (∀ m : Nat, Lib.indexByte s c = m → m < s.length ∧ splitC c s = s.take m :: splitC c (s.drop (m + 1)) ∧ Lib.countByte s c = Lib.countByte (s.drop (m + 1)) c + 1)
  | [] => ⟨fun _ => ⟨rfl, rfl⟩, fun m h => by have : (-1 : Int) = m := h; omega⟩
  | b :: s => by
    obtain ⟨i1, i2⟩ := splitC_index c s
    have hge := Lib.indexByte_ge s c
    simp only [Lib.indexByte, splitC, Lib.countByte, List.count_cons] at i1 i2 ⊢
    cases hb : b == c with
    | true =>
      simp only [if_true, cond_true]
      refine ⟨fun h => by omega, fun m h => ?_⟩
      have : m = 0 := by omega
      subst this
      exact ⟨by simp, by simp, by simp⟩
    | false =>
      simp only [Bool.false_eq_true, if_false, cond_false]
      by_cases hi : Lib.indexByte s c = -1
      · simp only [hi, beq_self_eq_true, if_true]
        refine ⟨fun _ => ?_, fun m h => by omega⟩
        obtain ⟨e1, e2⟩ := i1 (by omega)
        rw [e1, e2]
        exact ⟨rfl, rfl⟩
      · have h1 : (Lib.indexByte s c == -1) = false := by rw [beq_eq_false_iff_ne]; exact hi
        simp only [h1, Bool.false_eq_true, if_false]
        refine ⟨fun h => by omega, fun m h => ?_⟩
        obtain ⟨e1, e2, e3⟩ := i2 (m - 1) (by omega)
        have hm : m = (m - 1) + 1 := by omega
        rw [e2, e3, hm]
        simp only [List.length_cons, List.take_succ_cons, List.drop_succ_cons, Nat.add_zero]
        refine ⟨by omega, ?_, ?_⟩
        · rw [show m - 1 + 1 - 1 = m - 1 by omega]
        · rw [show m - 1 + 1 - 1 = m - 1 by omega]

theorem count_run {P : Program} {w : World} {s : List UInt8} {c : UInt8} : (Extern.BytealgCount.count ⟨[str s, u8 c]⟩).run P w = .ok (num (Lib.countByte s c)) w := by
  have := Lib.run_countString (P := P) ⟨⟨s⟩⟩ (c.toNat : Int) w
  simpa using this

theorem strIndex_run {P : Program} {w : World} {s : List UInt8} {c : UInt8} : (Extern.BytealgIndexByte.indexByte ⟨[str s, u8 c]⟩).run P w = .ok (.int .i64 (Lib.indexByte s c)) w :=
  indexByte_run (v := str s) rfl
/-! ### A tag's plain text -/
def ext (p : List UInt8) : List UInt8 := bif p != [] then 45 :: p else []
theorem ext_le (p : List UInt8) : (ext p).length ≤ p.length + 1 := by
  simp only [ext]
  cases p != [] <;> simp

def rootS : List UInt8 := [114, 111, 111, 116]
def tagPlain (a b c : List UInt8) : List UInt8 :=
  bif a ++ b ++ c == List.replicate 10 0 then rootS else trimR 0 a ++ ext (trimR 0 b) ++ ext (trimR 0 c)

theorem tag_take {a b c : List UInt8} {e : TypeId} (ha : a.length = 3) (hb : b.length = 4) (hc : c.length = 3) :
    (View.cells ((a ++ b ++ c).map u8) e).take 0 3 = some (a.map u8) ∧ (View.cells ((a ++ b ++ c).map u8) e).take 3 4 = some (b.map u8) ∧ (View.cells ((a ++ b ++ c).map u8) e).take 7 3 = some (c.map u8) := by
  refine ⟨?_, ?_, ?_⟩
  · rw [View.take_cells (by simp; omega), List.drop_zero, ← List.map_take]
    congr 2
    rw [List.append_assoc, List.take_left' ha]
  · rw [View.take_cells (by simp; omega), ← List.map_drop, ← List.map_take]
    congr 2
    rw [List.append_assoc, List.drop_left' ha, List.take_left' hb]
  · rw [View.take_cells (by simp; omega), ← List.map_drop, ← List.map_take]
    congr 2
    rw [List.drop_left' (by simp; omega), List.take_of_length_le (by omega)]


/-! ### A tag read -/
def capS : List UInt8 → List UInt8
  | [] => []
  | x :: q => tUpper (tLower x) :: q.map tLower
def takeScript : List (List UInt8) → List UInt8 × List (List UInt8)
  | [] => ([], [])
  | q :: r => bif (q.length == 4) && q.all tLetter then (capS q, r) else ([], q :: r)
def takeRegion : List (List UInt8) → List UInt8 × List (List UInt8)
  | [] => ([], [])
  | q :: r => bif ((q.length == 2) && q.all tLetter) || ((q.length == 3) && q.all tDigit) then (q.map tUpper, r) else ([], q :: r)
def parseParts (p : List UInt8) (r : List (List UInt8)) : Option (List UInt8 × List UInt8 × List UInt8) :=
  bif (decide (2 ≤ p.length) && decide (p.length ≤ 3)) && p.all tLetter then
    (bif (takeRegion (takeScript r).2).2.isEmpty then some (p.map tLower, (takeScript r).1, (takeRegion (takeScript r).2).1) else none)
  else none
def parseTag (s : List UInt8) : Option (List UInt8 × List UInt8 × List UInt8) :=
  bif s == rootS then some ([], [], []) else match splitC 45 s with
    | p :: r => parseParts p r
    | [] => none
def tagBytes : Option (List UInt8 × List UInt8 × List UInt8) → List UInt8
  | some (a, b, c) => pad 3 a ++ pad 4 b ++ pad 3 c
  | none => List.replicate 10 0

theorem splitC_le (c : UInt8) : ∀ (s : List UInt8), ∀ q ∈ splitC c s, q.length ≤ s.length
  | [], q, h => by simp [splitC] at h; simp [h]
  | b :: s, q, h => by
    have ih := splitC_le c s
    simp only [splitC] at h
    cases hb : b == c with
    | true =>
      simp only [hb, cond_true, List.mem_cons] at h
      rcases h with rfl | h
      · simp
      · have := ih q h; simp; omega
    | false =>
      simp only [hb, cond_false] at h
      split at h
      · rename_i p r e
        rcases List.mem_cons.1 h with rfl | h
        · have := ih p (by rw [e]; simp); simp; omega
        · have := ih q (by rw [e]; simp [h]); simp; omega
      · simp at h; subst h; simp

theorem seg_set {A Z f : List UInt8} {n i k : Nat} {x : UInt8} (hk : k = A.length + i) (hf : f.length ≤ n) (hi : i < f.length) (hx : x = f.getD i 0) :
    (A ++ pad n (f.take i) ++ Z).set k x = A ++ pad n (f.take (i + 1)) ++ Z := by
  subst hk hx
  rw [List.append_assoc, List.set_append_right _ _ (by omega), show A.length + i - A.length = i by omega, List.set_append_left _ _ (by simp [pad]; omega), pad_set hf hi, List.append_assoc]

theorem getD_map {f : UInt8 → UInt8} {q : List UInt8} {i : Nat} (h : i < q.length) : f (q.getD i 0) = (q.map f).getD i 0 := by
  simp [List.getD_eq_getElem?_getD, h]

theorem pad_full {n : Nat} {l : List UInt8} (h : l.length = n) : pad n l = l := by subst h; simp [pad]

theorem capS_length (q : List UInt8) : (capS q).length = q.length := by cases q <;> simp [capS]

theorem getD_le {p : List UInt8} {r : List (List UInt8)} (h : ∀ q ∈ p :: r, q.length ≤ 1000000) : (r.getD 0 []).length ≤ 1000000 := by
  cases r with
  | nil => simp
  | cons q r => exact h q (by simp)
theorem getD_le' {r : List (List UInt8)} (h : ∀ q ∈ r, q.length ≤ 1000000) : (r.getD 0 []).length ≤ 1000000 := by
  cases r with
  | nil => simp
  | cons q r => exact h q (by simp)
theorem tail_cell {p q : List UInt8} {r : List (List UInt8)} {o : Nat} {N : Nat} (h : 0 < r.length) (ho : o = 2 := by first | rfl | (cases r <;> simp_all)) :
    (View.row 0 ((p :: q :: r).map str) 9 N).cell (o + Int.toNat 0 * 1) = some (str (r.getD 0 [])) := by
  subst ho
  cases r with
  | nil => simp at h
  | cons x r => rfl
theorem seg_cell {a q : List UInt8} {x : UInt8} {Z : List UInt8} {e : TypeId} (ha : a.length = 3) : (View.cells ((a ++ pad 4 ((x :: q).map tLower) ++ Z).map u8) e).cell (0 + 3 + Int.toNat 0 * 1) = some (u8 (tLower x)) := by
  match a, ha with
  | [_, _, _], _ => rfl
theorem seg_first {a q : List UInt8} {x : UInt8} {Z : List UInt8} (ha : a.length = 3) : (a ++ pad 4 ((x :: q).map tLower) ++ Z).set (0 + 3 + Int.toNat 0 * 1) (tUpper (tLower x)) = a ++ pad 4 (capS (x :: q)) ++ Z := by
  match a, ha with
  | [_, _, _], _ => simp [capS, pad]
def rightTag (a b c : List UInt8) : Bool := (parseTag (tagPlain a b c)).isSome && (tagBytes (parseTag (tagPlain a b c)) == a ++ b ++ c)

theorem pad_len {n : Nat} {l : List UInt8} (h : l.length ≤ n) : (pad n l).length = n := pad_length h

theorem takeScript_le (r : List (List UInt8)) : (takeScript r).1.length ≤ 4 := by
  cases r with
  | nil => simp [takeScript]
  | cons q r =>
    simp only [takeScript]
    cases h : (q.length == 4) && q.all tLetter with
    | true => simp only [cond_true, capS_length]; simp at h; omega
    | false => simp

theorem takeRegion_le (r : List (List UInt8)) : (takeRegion r).1.length ≤ 3 := by
  cases r with
  | nil => simp [takeRegion]
  | cons q r =>
    simp only [takeRegion]
    cases h : ((q.length == 2) && q.all tLetter) || ((q.length == 3) && q.all tDigit) with
    | true => simp only [cond_true, List.length_map]; simp at h; omega
    | false => simp

theorem parseParts_le {p : List UInt8} {r : List (List UInt8)} {a b c : List UInt8} (h : parseParts p r = some (a, b, c)) : a.length ≤ 3 ∧ b.length ≤ 4 ∧ c.length ≤ 3 := by
  simp only [parseParts] at h
  cases h1 : (decide (2 ≤ p.length) && decide (p.length ≤ 3)) && p.all tLetter with
  | false => rw [h1] at h; simp at h
  | true =>
    rw [h1] at h
    simp only [cond_true] at h
    cases h2 : (takeRegion (takeScript r).2).2.isEmpty with
    | false => rw [h2] at h; simp at h
    | true =>
      rw [h2] at h
      simp only [cond_true, Option.some.injEq, Prod.mk.injEq] at h
      obtain ⟨rfl, rfl, rfl⟩ := h
      simp only [Bool.and_eq_true, decide_eq_true_eq] at h1
      exact ⟨by simp; omega, takeScript_le _, takeRegion_le _⟩

theorem parseTag_le {s : List UInt8} {a b c : List UInt8} (h : parseTag s = some (a, b, c)) : a.length ≤ 3 ∧ b.length ≤ 4 ∧ c.length ≤ 3 := by
  simp only [parseTag] at h
  cases h1 : s == rootS with
  | true => rw [h1] at h; simp at h; obtain ⟨rfl, rfl, rfl⟩ := h; simp
  | false =>
    rw [h1] at h
    simp only [cond_false] at h
    split at h
    · exact parseParts_le h
    · cases h

theorem tagBytes_length (s : List UInt8) : (tagBytes (parseTag s)).length = 10 := by
  cases h : parseTag s with
  | none => rfl
  | some x =>
    obtain ⟨a, b, c⟩ := x
    obtain ⟨h1, h2, h3⟩ := parseTag_le h
    simp only [tagBytes, List.length_append, pad_length h1, pad_length h2, pad_length h3]

theorem tagPlain_le {a b c : List UInt8} (ha : a.length = 3) (hb : b.length = 4) (hc : c.length = 3) : (tagPlain a b c).length ≤ 1000000 := by
  simp only [tagPlain]
  have h1 := trimR_le 0 a
  have h2 := trimR_le 0 b
  have h3 := trimR_le 0 c
  have h4 := ext_le (trimR 0 b)
  have h5 := ext_le (trimR 0 c)
  cases a ++ b ++ c == List.replicate 10 0 with
  | true => simp [rootS]
  | false => simp; omega
end Go.Proofs.YtfoakjdnopljmaaGreatDoor

set_option linter.unusedVariables false
set_option linter.unusedSimpArgs false
namespace Go.Proofs.YtfoakjdnopljmaaGreatDoor
open Go

/-! ### What keys are: 25 bytes -/
def uAt (k : Int) : Nat := if k = 2 then 16 else if k = 4 ∨ k = 5 ∨ k = 6 then 4 else 0
def uName (k : Int) : Bool := decide (k = 5 ∨ k = 6)
def uTag (k : Int) : Bool := decide (k = 3 ∨ k = 6)
def byteOf (x : Int) : UInt8 := UInt8.ofNat x.toNat

theorem byteOf_val {x : Int} (h0 : 0 ≤ x) (h1 : x ≤ 255) : Value.int .u8 (IntKind.u8.wrap x) = u8 (byteOf x) := by
  rw [wrap_u8 h0 h1]
  simp only [u8, byteOf]
  congr 1
  rw [UInt8.toNat_ofNat']
  have : x.toNat % 2 ^ 8 = x.toNat := Nat.mod_eq_of_lt (by omega)
  omega

def ofErr (k p a : Int) (n x y z : List UInt8) : Nat :=
  bif decide (k < 1) || decide (k > 6) then 16
  else bif (decide (p < 0) || decide (p ≥ 4)) || (decide ((uAt k : Int) > 0) && (decide (a < 0) || decide (a ≥ (uAt k : Int)))) then 5
  else bif uName k && !rightName n then 15
  else bif uTag k && (!rightTag x y z || (x ++ y ++ z == List.replicate 10 0)) then 14
  else 0
def ofKey (k p a : Int) (n t : List UInt8) : List UInt8 :=
  [byteOf k, byteOf p, bif decide ((uAt k : Int) > 0) then byteOf a else 0] ++ (bif uName k then n else List.replicate 12 0) ++ (bif uTag k then t else List.replicate 10 0)
def ofBytes (k p a : Int) (n x y z : List UInt8) : List UInt8 := bif ofErr k p a n x y z == 0 then ofKey k p a n (x ++ y ++ z) else List.replicate 25 0

theorem ofKey_length {k p a : Int} {n t : List UInt8} (hn : n.length = 12) (ht : t.length = 10) : (ofKey k p a n t).length = 25 := by
  simp only [ofKey, List.length_append, List.length_cons, List.length_nil]
  cases uName k <;> cases uTag k <;> simp [hn, ht]
theorem ofBytes_length {k p a : Int} {n x y z : List UInt8} (hn : n.length = 12) (ht : (x ++ y ++ z).length = 10) : (ofBytes k p a n x y z).length = 25 := by
  simp only [ofBytes]
  cases ofErr k p a n x y z == 0 with
  | true => exact ofKey_length hn ht
  | false => rfl

theorem write_name {a n m t : List UInt8} {e : TypeId} (ha : a.length = 3) (hn : n.length = 12) (hm : m.length = 12 := by rfl) :
    (View.cells ((a ++ m ++ t).map u8) e).write 3 (n.map u8) = some (.cells ((a ++ n ++ t).map u8) e) := by
  rw [View.write_cells (by simp; omega)]
  congr 2
  simp only [List.length_map, hn, ← List.map_take, ← List.map_drop, ← List.map_append]
  congr 1
  rw [List.append_assoc a m t, List.take_left' ha, show 3 + 12 = a.length + 12 by omega, List.drop_append, List.drop_of_length_le (show a.length ≤ a.length + 12 by omega)]
  simp [hm]

theorem write_tag {a m t : List UInt8} {e : TypeId} (ha : a.length = 15) (ht : t.length = 10) (hm : m.length = 10 := by rfl) :
    (View.cells ((a ++ m).map u8) e).write 15 (t.map u8) = some (.cells ((a ++ t).map u8) e) := by
  rw [View.write_cells (by simp; omega)]
  congr 2
  simp only [List.length_map, ht, ← List.map_take, ← List.map_drop, ← List.map_append]
  congr 1
  rw [List.take_left' ha, List.drop_of_length_le (by simp; omega)]
  simp

theorem write_to {S R A M N Z : List UInt8} {o : Nat} {e : TypeId} (hS : S = A ++ M ++ Z) (hR : R = A ++ N ++ Z) (ho : o = A.length) (hl : N.length = M.length) :
    (View.cells (S.map u8) e).write o (N.map u8) = some (.cells (R.map u8) e) := by
  subst hS hR ho
  rw [View.write_cells (by simp; omega)]
  congr 2
  simp only [List.length_map, hl, ← List.map_take, ← List.map_drop, ← List.map_append]
  congr 1
  rw [List.append_assoc A M Z, List.take_left' rfl, List.drop_append, List.drop_of_length_le (show A.length ≤ A.length + M.length by omega)]
  simp

theorem conv_u8 (c : UInt8) : IntKind.i64.wrap (c.toNat : Int) = (c.toNat : Int) := by
  have := c.toNat_lt
  exact wrap_i64 (by omega) (by omega)

def keyOfL (k p a : UInt8) (n x y z : List UInt8) : List UInt8 := [k, p, a] ++ n ++ (x ++ y ++ z)
def rightKey (k p a : UInt8) (n x y z : List UInt8) : Bool := (ofErr k.toNat p.toNat a.toNat n x y z == 0) && (ofKey k.toNat p.toNat a.toNat n (x ++ y ++ z) == keyOfL k p a n x y z)

theorem key_take {k p a : UInt8} {n x y z : List UInt8} {e : TypeId} (ln : n.length = 12) (lx : x.length = 3) (ly : y.length = 4) (lz : z.length = 3) :
    (View.cells ((keyOfL k p a n x y z).map u8) e).take 3 12 = some (n.map u8) ∧ (View.cells ((keyOfL k p a n x y z).map u8) e).take 15 10 = some ((x ++ y ++ z).map u8) := by
  constructor
  · rw [View.take_cells (by simp [keyOfL]; omega), ← List.map_drop, ← List.map_take]
    congr 2
    simp only [keyOfL]
    rw [List.append_assoc, List.drop_left' (by rfl), List.take_left' ln]
  · rw [View.take_cells (by simp [keyOfL]; omega), ← List.map_drop, ← List.map_take]
    congr 2
    simp only [keyOfL]
    rw [List.drop_left' (by simp; omega), List.take_of_length_le (by simp; omega)]

theorem keyOfL_length {k p a : UInt8} {n x y z : List UInt8} (ln : n.length = 12) (lx : x.length = 3) (ly : y.length = 4) (lz : z.length = 3) : (keyOfL k p a n x y z).length = 25 := by
  simp [keyOfL]; omega

end Go.Proofs.YtfoakjdnopljmaaGreatDoor

set_option linter.unusedVariables false
set_option linter.unusedSimpArgs false
namespace Go.Proofs.YtfoakjdnopljmaaGreatDoor
open Go

/-! ### The document's tags -/
def rLetter (c : UInt8) : Bool := (decide ((c.toNat : Int) > 64) && decide ((c.toNat : Int) < 91)) || (decide ((c.toNat : Int) > 96) && decide ((c.toNat : Int) < 123))
def rDigit (c : UInt8) : Bool := decide ((c.toNat : Int) > 47) && decide ((c.toNat : Int) < 58)

theorem rLetter_eq (c : UInt8) : rLetter c = tLetter c := by
  unfold rLetter tLetter
  generalize (c.toNat : Int) = x
  rw [Bool.or_comm, Bool.eq_iff_iff]
  simp only [Bool.or_eq_true, Bool.and_eq_true, decide_eq_true_eq]
  omega
theorem rDigit_eq (c : UInt8) : rDigit c = tDigit c := by
  unfold rDigit tDigit
  generalize (c.toNat : Int) = x
  rw [Bool.eq_iff_iff]
  simp only [Bool.and_eq_true, decide_eq_true_eq]
  omega

def kindOf (s : List UInt8) : Nat := bif s.all tLetter then 1 else bif s.all tDigit then 2 else 0

theorem count_all (p : UInt8 → Bool) (s : List UInt8) : (((s.countP p : Nat) : Int) == (s.length : Int)) = s.all p := by
  rw [Bool.eq_iff_iff, beq_iff_eq]
  have := List.countP_eq_length (p := p) (l := s)
  constructor
  · intro h
    exact List.all_eq_true.2 (this.1 (by omega))
  · intro h
    have := this.2 (List.all_eq_true.1 h)
    omega

theorem countP_take {p : UInt8 → Bool} {s : List UInt8} {i : Nat} (h : i < s.length) : (s.take (i + 1)).countP p = (s.take i).countP p + (if p (s.getD i 0) then 1 else 0) := by
  rw [← List.take_append_getElem h, List.countP_append, show s.getD i 0 = s[i] by simp [List.getD_eq_getElem?_getD, h]]
  simp [List.countP_cons]

theorem countP_le (p : UInt8 → Bool) (s : List UInt8) (i : Nat) : (s.take i).countP p ≤ s.length := Nat.le_trans List.countP_le_length (by simp; omega)

def turnTo (g : Bool) (c : UInt8) : UInt8 := bif g then tUpper c else tLower c

theorem turn_step (g : Bool) (c : UInt8) :
    (bif (decide (((bif (decide ((c.toNat : Int) > 64) && decide ((c.toNat : Int) < 91)) && !g then c + 32 else c).toNat : Int) > 96) && decide (((bif (decide ((c.toNat : Int) > 64) && decide ((c.toNat : Int) < 91)) && !g then c + 32 else c).toNat : Int) < 123)) && g
      then (bif (decide ((c.toNat : Int) > 64) && decide ((c.toNat : Int) < 91)) && !g then c + 32 else c) - 32 else (bif (decide ((c.toNat : Int) > 64) && decide ((c.toNat : Int) < 91)) && !g then c + 32 else c)) = turnTo g c := by
  have e1 : (decide ((c.toNat : Int) > 64) && decide ((c.toNat : Int) < 91)) = (decide ((c.toNat : Int) ≥ 65) && decide ((c.toNat : Int) ≤ 90)) := by
    generalize (c.toNat : Int) = x
    rw [Bool.eq_iff_iff]; simp only [Bool.and_eq_true, decide_eq_true_eq]; omega
  have e2 : (decide ((c.toNat : Int) > 96) && decide ((c.toNat : Int) < 123)) = (decide ((c.toNat : Int) ≥ 97) && decide ((c.toNat : Int) ≤ 122)) := by
    generalize (c.toNat : Int) = x
    rw [Bool.eq_iff_iff]; simp only [Bool.and_eq_true, decide_eq_true_eq]; omega
  cases g with
  | true =>
    simp only [Bool.not_true, Bool.and_false, cond_false, Bool.and_true, turnTo, cond_true, tUpper, e2]
  | false =>
    simp only [Bool.not_false, Bool.and_true, Bool.and_false, cond_false, turnTo, tLower, e1]


theorem up_range {c : UInt8} (h : (decide ((c.toNat : Int) > 64) = true ∧ decide ((c.toNat : Int) < 91) = true)) : (decide ((c.toNat : Int) ≥ 65) && decide ((c.toNat : Int) ≤ 90)) = true := by
  simp only [Bool.and_eq_true, decide_eq_true_eq] at h ⊢; omega
theorem low_range {c : UInt8} (h : (decide ((c.toNat : Int) > 96) = true ∧ decide ((c.toNat : Int) < 123) = true)) : (decide ((c.toNat : Int) ≥ 97) && decide ((c.toNat : Int) ≤ 122)) = true := by
  simp only [Bool.and_eq_true, decide_eq_true_eq] at h ⊢; omega
theorem turn_snoc {g : Bool} {s : List UInt8} {i : Nat} (h : i < s.length) : ((s.take i).map (turnTo g)).map u8 ++ [u8 (turnTo g (s.getD i 0))] = ((s.take (i + 1)).map (turnTo g)).map u8 := by
  rw [← List.take_append_getElem h, show s.getD i 0 = s[i] by simp [List.getD_eq_getElem?_getD, h]]
  simp only [List.map_append, List.map_cons, List.map_nil]

def cutP (s : List UInt8) : List UInt8 := bif decide (Lib.indexByte s 45 < 0) then s else s.take (Lib.indexByte s 45).toNat
def cutR (s : List UInt8) : List UInt8 := bif decide (Lib.indexByte s 45 < 0) then [] else s.drop ((Lib.indexByte s 45).toNat + 1)
def cutM (s : List UInt8) : Bool := !decide (Lib.indexByte s 45 < 0)

theorem index_first : ∀ {s : List UInt8} {i : Nat} {c : UInt8}, i < s.length → (∀ j, j < i → s.getD j 0 ≠ c) → s.getD i 0 = c → Lib.indexByte s c = i
  | [], i, c, h, _, _ => by simp at h
  | b :: s, 0, c, _, _, h => by
    simp only [List.getD_cons_zero] at h
    subst h
    simp [Lib.indexByte]
  | b :: s, i + 1, c, hi, hn, h => by
    have hb : (b == c) = false := by
      have := hn 0 (by omega)
      simpa using this
    have ih := index_first (s := s) (i := i) (c := c) (by simpa using hi) (fun j hj => by have := hn (j + 1) (by omega); simpa using this) (by simpa using h)
    simp only [Lib.indexByte, hb, Bool.false_eq_true, if_false, ih]
    rw [if_neg (by simp)]
    rfl
theorem index_none : ∀ {s : List UInt8} {c : UInt8}, (∀ j, j < s.length → s.getD j 0 ≠ c) → Lib.indexByte s c = -1
  | [], c, _ => rfl
  | b :: s, c, hn => by
    have hb : (b == c) = false := by
      have := hn 0 (by simp)
      simpa using this
    have ih := index_none (s := s) (c := c) (fun j hj => by have := hn (j + 1) (by simpa using hj); simpa using this)
    simp [Lib.indexByte, hb, ih]

theorem trimR_take {c : UInt8} {s : List UInt8} {k : Nat} (h0 : 0 < k) (hk : k ≤ s.length) (hc : s.getD (k - 1) 0 = c) : trimR c (s.take (k - 1)) = trimR c (s.take k) := by
  have hl : (s.take k).length = k := by simp; omega
  have h := trimR_step (c := c) (s := s.take k) (by omega) (by rw [hl, beq_iff_eq]; congr 2; rw [← hc]; simp [List.getD_eq_getElem?_getD, List.getElem?_take, show k - 1 < k by omega])
  rw [hl, List.take_take, Nat.min_eq_left (by omega)] at h
  exact h

theorem trimR_at {c : UInt8} {s : List UInt8} {k : Nat} (hk : k ≤ s.length) (h : k = 0 ∨ s.getD (k - 1) 0 ≠ c) : trimR c (s.take k) = s.take k := by
  have hl : (s.take k).length = k := by simp; omega
  refine trimR_stop ?_
  rw [hl]
  rcases h with h | h
  · exact .inl h
  · rcases Nat.eq_zero_or_pos k with h0 | h0
    · exact .inl h0
    · refine .inr ?_
      rw [beq_eq_false_iff_ne]
      intro e
      apply h
      have : (s.take k).getD (k - 1) 0 = c := UInt8.toNat_inj.1 (by omega)
      rw [← this]
      simp [List.getD_eq_getElem?_getD, List.getElem?_take, show k - 1 < k by omega]

theorem take_less {V : View} {off n k : Nat} {s : List UInt8} (h : V.take off n = some (s.map u8)) (hk : k ≤ s.length) : V.take off (k - 0) = some ((s.take k).map u8) := by
  obtain ⟨h1, h2⟩ := View.take_spec h
  have := View.take_list (V := V) (l := (s.take k).map u8) (o := off) (fun j v hj => by
    refine h2 j v ?_
    rw [List.map_take, List.getElem?_take] at hj
    split at hj
    · exact hj
    · cases hj)
  rw [List.length_map, List.length_take, Nat.min_eq_left hk] at this
  simpa using this

@[reducible] def tv (a b c : List UInt8) : Value := .agg ⟨[str a, str b, str c]⟩
def textOf (a b c : List UInt8) : List UInt8 := bif a == [] then rootS else (a ++ ext b) ++ ext c
theorem ext_yes {b : List UInt8} (h : (!(b == [])) = true) : ext b = [45] ++ b := by
  have : (b != []) = true := h
  simp only [ext, this]; rfl
theorem ext_no {b : List UInt8} (h : (!(b == [])) = false) : ext b = [] := by
  have : (b != []) = false := h
  simp only [ext, this]; rfl

/-! ### The document's reading of a tag -/
def scrP (p : List UInt8) : Bool := ((kindOf p : Int) == 1) && ((p.length : Int) == 4)
def regP (p : List UInt8) : Bool := (((kindOf p : Int) == 1) && ((p.length : Int) == 2)) || (((kindOf p : Int) == 2) && ((p.length : Int) == 3))
def scrT (p : List UInt8) : List UInt8 := (p.take 1).map (turnTo true) ++ (p.drop 1).map (turnTo false)
def rloop (sc rg : List UInt8) : List (List UInt8) → Option (List UInt8 × List UInt8)
  | [] => some (sc, rg)
  | q :: r => bif (scrP q && (sc == [])) && (rg == []) then rloop (scrT q) rg r else bif regP q && (rg == []) then rloop sc (q.map (turnTo true)) r else none
def moreParts (m : Bool) (s : List UInt8) : List (List UInt8) := bif m then splitC 45 s else []

theorem split_cut (s : List UInt8) : splitC 45 s = cutP s :: moreParts (cutM s) (cutR s) := by
  obtain ⟨h1, h2⟩ := splitC_index 45 s
  by_cases h : Lib.indexByte s 45 < 0
  · simp only [cutP, cutR, cutM, moreParts, h, decide_true, cond_true, Bool.not_true, cond_false]
    exact (h1 h).1
  · obtain ⟨m, hm⟩ := Int.eq_ofNat_of_zero_le (show 0 ≤ Lib.indexByte s 45 by omega)
    simp only [cutP, cutR, cutM, moreParts, h, decide_false, cond_false, Bool.not_false, cond_true, hm]
    exact (h2 m hm).2.1

theorem cutR_le (s : List UInt8) : (cutR s).length ≤ s.length := by
  simp only [cutR]; cases decide (Lib.indexByte s 45 < 0) <;> simp
theorem cutP_le (s : List UInt8) : (cutP s).length ≤ s.length := by
  simp only [cutP]; cases decide (Lib.indexByte s 45 < 0) <;> simp [Nat.min_le_right]
theorem cutR_lt {s : List UInt8} (h : cutM s = true) : (cutR s).length < s.length := by
  simp only [cutM, Bool.not_eq_true'] at h
  obtain ⟨m, hm⟩ := Int.eq_ofNat_of_zero_le (show 0 ≤ Lib.indexByte s 45 by have := of_decide_eq_false h; omega)
  have := ((splitC_index 45 s).2 m hm).1
  rw [hm] at h
  simp only [cutR, hm, h, cond_false, List.length_drop, Int.toNat_natCast]
  omega

def parseRef (s : List UInt8) : Option (List UInt8 × List UInt8 × List UInt8) :=
  bif s == rootS then some ([], [], []) else
    bif ((((kindOf (cutP s) : Int) != 1) || decide (((cutP s).length : Int) < 2)) || decide (((cutP s).length : Int) > 3)) then none
    else (rloop [] [] (moreParts (cutM s) (cutR s))).map fun x => ((cutP s).map (turnTo false), x.1, x.2)
def optT : Option (List UInt8 × List UInt8 × List UInt8) → Value
  | some (a, b, c) => tv a b c
  | none => tv [] [] []
end Go.Proofs.YtfoakjdnopljmaaGreatDoor

set_option linter.unusedVariables false
set_option linter.unusedSimpArgs false
namespace Go.Proofs.YtfoakjdnopljmaaGreatDoor
open Go

/-! ### The document's keys -/
def okRef (x y z : List UInt8) : Bool :=
  bif trimR 0 x == [] then (trimR 0 y == []) && (trimR 0 z == [])
  else parseRef (textOf (trimR 0 x) (trimR 0 y) (trimR 0 z)) == some (trimR 0 x, trimR 0 y, trimR 0 z)
def refT (x y z : List UInt8) : Value := bif okRef x y z then tv (trimR 0 x) (trimR 0 y) (trimR 0 z) else tv [] [] []

theorem cellsEq_tv (a b c a' b' c' : List UInt8) : cellsEq [str a, str b, str c] [str a', str b', str c'] = ((a, b, c) == (a', b', c')) := by
  simp only [cellsEq, cellEq, str_toList, Bool.and_true]
  rfl

theorem okRef_nil {x y z : List UInt8} (h : (trimR 0 x == []) = true) : okRef x y z = ((trimR 0 x, trimR 0 y, trimR 0 z) == (([], [], []) : List UInt8 × List UInt8 × List UInt8)) := by
  simp only [okRef, h, cond_true]
  show _ = (trimR 0 x == [] && (trimR 0 y == [] && trimR 0 z == []))
  rw [h]; rfl
theorem refT_nil {x y z : List UInt8} (h : (trimR 0 x == []) = true) : refT x y z = tv [] [] [] := by
  simp only [refT]
  cases hk : okRef x y z with
  | false => rfl
  | true =>
    simp only [okRef, h, cond_true, Bool.and_eq_true, beq_iff_eq] at hk
    rw [eq_of_beq h, hk.1, hk.2]; rfl

theorem parse_cases (s : List UInt8) : ∃ a b c, optT (parseRef s) = tv a b c ∧ ∀ t, (parseRef s == some t) = ((parseRef s).isSome && ((a, b, c) == t)) := by
  cases h : parseRef s with
  | none => exact ⟨[], [], [], rfl, fun t => rfl⟩
  | some x => exact ⟨x.1, x.2.1, x.2.2, rfl, fun t => by simp⟩
theorem textOf_le {a b c : List UInt8} : (textOf a b c).length ≤ a.length + b.length + c.length + 6 := by
  have h1 := ext_le b
  have h2 := ext_le c
  simp only [textOf]
  cases a == [] <;> simp [rootS] <;> omega
theorem okRef_cons {x y z a b c : List UInt8} (h : (trimR 0 x == []) = false) (hE : ∀ t, (parseRef (textOf (trimR 0 x) (trimR 0 y) (trimR 0 z)) == some t) = ((parseRef (textOf (trimR 0 x) (trimR 0 y) (trimR 0 z))).isSome && ((a, b, c) == t))) :
    (!(parseRef (textOf (trimR 0 x) (trimR 0 y) (trimR 0 z))).isSome || !cellsEq [str a, str b, str c] [str (trimR 0 x), str (trimR 0 y), str (trimR 0 z)]) = !okRef x y z := by
  simp only [okRef, h, cond_false, hE, cellsEq_tv]
  cases (parseRef (textOf (trimR 0 x) (trimR 0 y) (trimR 0 z))).isSome <;> simp

theorem refT_cases (x y z : List UInt8) : ∃ a b c, refT x y z = tv a b c ∧ (!okRef x y z || (a == [])) = (!okRef x y z || (trimR 0 x == [])) := by
  simp only [refT]
  cases okRef x y z with
  | true => exact ⟨_, _, _, rfl, rfl⟩
  | false => exact ⟨_, _, _, rfl, rfl⟩

/-- A key's 25 cells, as the document has them. -/
def rk (k p a : Int) (n t : List UInt8) : List Value := [.int .i64 k, .int .i64 p, .int .i64 a] ++ (n.map u8 ++ t.map u8)
def refErr (k p a : Int) (n x y z : List UInt8) : Nat :=
  bif decide (k < 1) || decide (k > 6) then 16
  else bif (decide (p < 0) || decide (p > 3)) || (decide ((uAt k : Int) > 0) && (decide (a < 0) || decide (a ≥ (uAt k : Int)))) then 5
  else bif uName k && (nameText n == []) then 15
  else bif uTag k && (!okRef x y z || (trimR 0 x == [])) then 14
  else 0
def refKey (k p a : Int) (n t : List UInt8) : List Value :=
  rk k p (bif decide ((uAt k : Int) > 0) then a else 0) (bif uName k then n else List.replicate 12 0) (bif uTag k then t else List.replicate 10 0)
def refOf (k p a : Int) (n x y z : List UInt8) : List Value := bif refErr k p a n x y z == 0 then refKey k p a n (x ++ y ++ z) else rk 0 0 0 (List.replicate 12 0) (List.replicate 10 0)
theorem rk_length {k p a : Int} {n t : List UInt8} (hn : n.length = 12) (ht : t.length = 10) : (rk k p a n t).length = 25 := by simp [rk, hn, ht]
theorem write_front {S R A M N Z : List Value} {o : Nat} {e : TypeId} (hS : S = A ++ M ++ Z) (hR : R = A ++ N ++ Z) (ho : o = A.length) (hl : N.length = M.length) :
    (View.cells S e).write o N = some (.cells R e) := by
  subst hS hR ho
  rw [View.write_cells (by simp; omega)]
  congr 2
  rw [List.append_assoc A M Z, List.take_left' rfl, List.drop_append, List.drop_of_length_le (show A.length ≤ A.length + N.length by omega)]
  simp [hl]
theorem take_mid {A M Z : List Value} {o n : Nat} {e : TypeId} (ho : A.length = o) (hn : M.length = n) : (View.cells (A ++ M ++ Z) e).take o n = some M := by
  rw [View.take_cells (by simp; omega), List.append_assoc, List.drop_left' ho, List.take_left' hn]
theorem one_rk (k p a : Int) (n t : List UInt8) : (rk k p a n t).all (·.oneCell') = true := by
  have h1 := one_u8 n
  have h2 := one_u8 t
  simp only [rk, List.all_append, h1, h2]; rfl
theorem fits_rk {k p a : Int} {n t : List UInt8} (hn : n.length = 12) (ht : t.length = 10) : fitsL ([.i .i64, .i .i64, .i .i64] ++ (List.replicate 12 (.i .u8) ++ List.replicate 10 (.i .u8))) (rk k p a n t) = true := by
  refine fitsL_append' rfl (fitsL_append' (fits_u8' hn) (fits_u8' ht))
theorem cellsEq_rk {k p a k' p' a' : Int} {n t n' t' : List UInt8} (hn : n.length = n'.length) : cellsEq (rk k p a n t) (rk k' p' a' n' t') = (((k == k') && ((p == p') && (a == a'))) && ((n == n') && (t == t'))) := by
  rw [rk, rk, cellsEq_append (xs := [.int .i64 k, .int .i64 p, .int .i64 a]) (ys := [.int .i64 k', .int .i64 p', .int .i64 a']) (by simp), cellsEq_append (by simp [hn]), cellsEq_u8, cellsEq_u8]
  simp [cellsEq, cellEq]
theorem write_rn {k p a : Int} {n m t : List UInt8} {e : TypeId} (hn : n.length = 12) (hm : m.length = 12) : (View.cells (rk k p a n t) e).write 3 (m.map u8) = some (.cells (rk k p a m t) e) :=
  write_front (A := [.int .i64 k, .int .i64 p, .int .i64 a]) (M := n.map u8) (Z := t.map u8) (by simp [rk]) (by simp [rk]) rfl (by simp [hn, hm])
theorem write_rt {k p a : Int} {n m t : List UInt8} {e : TypeId} (hn : n.length = 12) (hm : m.length = t.length) : (View.cells (rk k p a n t) e).write 15 (m.map u8) = some (.cells (rk k p a n m) e) :=
  write_front (A := [.int .i64 k, .int .i64 p, .int .i64 a] ++ n.map u8) (M := t.map u8) (Z := []) (by simp [rk]) (by simp [rk]) (by simp [hn]) (by simp [hm])
theorem refKey_length {k p a : Int} {n t : List UInt8} (hn : n.length = 12) (ht : t.length = 10) : (refKey k p a n t).length = 25 := by
  simp only [refKey]; exact rk_length (by cases uName k <;> simp [hn]) (by cases uTag k <;> simp [ht])
theorem refOf_length {k p a : Int} {n x y z : List UInt8} (hn : n.length = 12) (ht : (x ++ y ++ z).length = 10) : (refOf k p a n x y z).length = 25 := by
  simp only [refOf]; cases refErr k p a n x y z == 0 with
  | true => exact refKey_length hn ht
  | false => exact rk_length rfl rfl
theorem refOf_one (k p a : Int) (n x y z : List UInt8) : (refOf k p a n x y z).all (·.oneCell') = true := by
  simp only [refOf]; cases refErr k p a n x y z == 0 <;> exact one_rk _ _ _ _ _
def rkKinds : List CK := [.i .i64, .i .i64, .i .i64] ++ (List.replicate 12 (.i .u8) ++ List.replicate 10 (.i .u8))
theorem refOf_fits {k p a : Int} {n x y z : List UInt8} (hn : n.length = 12) (ht : (x ++ y ++ z).length = 10) : fitsL rkKinds (refOf k p a n x y z) = true := by
  simp only [refOf]; cases refErr k p a n x y z == 0 with
  | true => exact fits_rk (by cases uName k <;> simp [hn]) (by cases uTag k; rfl; exact ht)
  | false => exact fits_rk rfl rfl
def refRight (k p a : Int) (n x y z : List UInt8) : Bool := (refErr k p a n x y z == 0) && cellsEq (refKey k p a n (x ++ y ++ z)) (rk k p a n (x ++ y ++ z))

/-! ### Keys as 25 bytes -/
theorem list12 {b : List UInt8} (h : b.length = 12) : ∃ c0 c1 c2 c3 c4 c5 c6 c7 c8 c9 c10 c11, b = [c0, c1, c2, c3, c4, c5, c6, c7, c8, c9, c10, c11] := by
  match b, h with
  | [c0, c1, c2, c3, c4, c5, c6, c7, c8, c9, c10, c11], _ => exact ⟨c0, c1, c2, c3, c4, c5, c6, c7, c8, c9, c10, c11, rfl⟩
theorem key_parts {b : List UInt8} (h : b.length = 25) : ∃ k p a n x y z, n.length = 12 ∧ x.length = 3 ∧ y.length = 4 ∧ z.length = 3 ∧ b = keyOfL k p a n x y z := by
  match b, h with
  | k :: p :: a :: r, h =>
    have h : r.length = 22 := by simpa using h
    refine ⟨k, p, a, r.take 12, (r.drop 12).take 3, (r.drop 15).take 4, r.drop 19, by simp [h], by simp [h], by simp [h], by simp [h], ?_⟩
    simp only [keyOfL, List.cons_append, List.nil_append]
    have e1 : (r.drop 15).take 4 ++ r.drop 19 = r.drop 15 := by
      have := List.take_append_drop 4 (r.drop 15); rwa [List.drop_drop] at this
    have e2 : (r.drop 12).take 3 ++ r.drop 15 = r.drop 12 := by
      have := List.take_append_drop 3 (r.drop 12); rwa [List.drop_drop] at this
    rw [List.append_assoc ((r.drop 12).take 3), e1, e2, List.take_append_drop]
def rkb (b : List UInt8) : List Value := [num (b.getD 0 0).toNat, num (b.getD 1 0).toNat, num (b.getD 2 0).toNat] ++ (b.drop 3).map u8
theorem rkb_keyOfL (k p a : UInt8) (n x y z : List UInt8) : rkb (keyOfL k p a n x y z) = rk k.toNat p.toNat a.toNat n (x ++ y ++ z) := by
  simp [rkb, keyOfL, rk]
theorem rkb_length {b : List UInt8} (h : b.length = 25) : (rkb b).length = 25 := by simp [rkb, h]
theorem rkb_cell {b : List UInt8} {e : TypeId} {j : Nat} (h3 : 3 ≤ j) (h : j < b.length) : (View.cells (rkb b) e).cell j = some (u8 (b.getD j 0)) := by
  show (rkb b)[j]? = _
  rw [rkb, List.getElem?_append_right (by simpa using h3)]
  simp only [List.length_cons, List.length_nil, List.getElem?_map, List.getElem?_drop, List.getD_eq_getElem?_getD]
  rw [show 3 + (j - (0 + 1 + 1 + 1)) = j by omega, List.getElem?_eq_getElem h]; rfl
theorem rk_set {k p a : Int} {n t : List UInt8} {i : Nat} {v : UInt8} (hn : n.length = 12) : (rk k p a n t).set (15 + i) (u8 v) = rk k p a n (t.set i v) := by
  simp only [rk]
  rw [List.set_append_right _ _ (by simp; omega), List.set_append_right _ _ (by simp [hn]; omega)]
  simp only [List.length_cons, List.length_nil, List.length_map, hn]
  rw [show 15 + i - (0 + 1 + 1 + 1) - 12 = i by omega, map_set]
theorem tag_cell {k p a : UInt8} {n t : List UInt8} {i j : Nat} {e : TypeId} (hn : n.length = 12) (hj : j = 15 + i) (hi : i < t.length) : (View.cells (([k, p, a] ++ n ++ t).map u8) e).cell j = some (u8 (t.getD i 0)) := by
  subst hj
  show (List.map u8 _)[15 + i]? = _
  rw [List.getElem?_map, List.getElem?_append_right (by simp [hn] <;> omega)]
  simp only [List.length_append, List.length_cons, List.length_nil, hn]
  rw [show 15 + i - (0 + 1 + 1 + 1 + 12) = i by omega]
  simp [List.getD_eq_getElem?_getD, hi]
def fillB (m : Nat) (b : List UInt8) (i : Nat) : List UInt8 := b.take i ++ List.replicate (m - i) 0
theorem fillB_length {m i : Nat} {b : List UInt8} (h : b.length = m) (hi : i ≤ m) : (fillB m b i).length = m := by simp [fillB]; omega
theorem fill3 {b : List UInt8} (h : b.length = 25) : fillB 25 b 3 = [b.getD 0 0, b.getD 1 0, b.getD 2 0] ++ List.replicate 22 0 := by
  match b, h with
  | k :: p :: a :: r, h => simp [fillB]
theorem fillB_full {m : Nat} {b : List UInt8} (h : b.length = m) : fillB m b m = b := by simp [fillB, ← h]
theorem fillB_set {m i : Nat} {b : List UInt8} (h : b.length = m) (hi : i < m) : (fillB m b i).set i (b.getD i 0) = fillB m b (i + 1) := by
  have hi' : i < b.length := by omega
  have e : m - i = (m - (i + 1)) + 1 := by omega
  have e2 : (b.take i).length = i := by simp; omega
  simp only [fillB]
  rw [e, List.replicate_succ, List.set_append_right _ _ (by omega), e2, Nat.sub_self, List.set_cons_zero, List.take_succ_eq_append_getElem hi', List.append_assoc]
  simp [List.getD_eq_getElem?_getD, hi']
theorem num_wrap (c : UInt8) : Value.int .u8 (IntKind.u8.wrap (c.toNat : Int)) = u8 c := by
  have := c.toNat_lt
  rw [wrap_u8 (by omega) (by omega)]
/-- Which of two keys comes first. -/
def ltB : List UInt8 → List UInt8 → Bool
  | [], _ => false
  | _ :: _, [] => false
  | x :: xs, y :: ys => bif x == y then ltB xs ys else decide (x.toNat < y.toNat)
theorem ltB_step : ∀ {xs ys : List UInt8} {i : Nat}, xs.take i = ys.take i → i < xs.length → xs.length = ys.length → xs.getD i 0 ≠ ys.getD i 0 → ltB xs ys = decide ((xs.getD i 0).toNat < (ys.getD i 0).toNat)
  | [], _, i, _, h, _, _ => by simp at h
  | _ :: _, [], _, _, _, h, _ => by simp at h
  | x :: xs, y :: ys, 0, _, _, _, hn => by
    have : (x == y) = false := by simpa using hn
    simp [ltB, this]
  | x :: xs, y :: ys, i + 1, ht, hi, hl, hn => by
    simp only [List.take_succ_cons, List.cons.injEq] at ht
    have : (x == y) = true := by simp [ht.1]
    simp only [ltB, this, cond_true]
    exact ltB_step ht.2 (by simpa using hi) (by simpa using hl) (by simpa using hn)
theorem eq_getD {b c : List UInt8} {i : Nat} (h : (((b.getD i 0).toNat : Int) != ((c.getD i 0).toNat : Int)) = false) (hb : i < b.length) (hc : i < c.length) : b[i] = c[i] := by
  have h' : ((b.getD i 0).toNat : Int) = ((c.getD i 0).toNat : Int) := by simpa using h
  have h2 : b.getD i 0 = c.getD i 0 := UInt8.toNat_inj.1 (by omega)
  simpa [List.getD_eq_getElem?_getD, hb, hc] using h2
theorem ltB_same : ∀ (xs : List UInt8), ltB xs xs = false
  | [] => rfl
  | x :: xs => by simp [ltB, ltB_same xs]
end Go.Proofs.YtfoakjdnopljmaaGreatDoor

set_option linter.unusedVariables false
set_option linter.unusedSimpArgs false
/- The plain law: a key is right for the program just if it is for the document. -/
namespace Go.Proofs.YtfoakjdnopljmaaGreatDoor
open Go

def kN (b : List UInt8) : List UInt8 := (b.drop 3).take 12
def kX (b : List UInt8) : List UInt8 := (b.drop 15).take 3
def kY (b : List UInt8) : List UInt8 := (b.drop 18).take 4
def kZ (b : List UInt8) : List UInt8 := b.drop 22
theorem parts_of {k p a : UInt8} {n x y z : List UInt8} (ln : n.length = 12) (lx : x.length = 3) (ly : y.length = 4) (lz : z.length = 3) :
    kN (keyOfL k p a n x y z) = n ∧ kX (keyOfL k p a n x y z) = x ∧ kY (keyOfL k p a n x y z) = y ∧ kZ (keyOfL k p a n x y z) = z := by
  have e : keyOfL k p a n x y z = [k, p, a] ++ (n ++ (x ++ (y ++ z))) := by simp [keyOfL]
  rw [e]
  refine ⟨?_, ?_, ?_, ?_⟩
  · simp only [kN]; rw [List.drop_left' (by rfl), List.take_left' ln]
  · simp only [kX]
    rw [show [k, p, a] ++ (n ++ (x ++ (y ++ z))) = ([k, p, a] ++ n) ++ (x ++ (y ++ z)) by simp, List.drop_left' (by simp; omega), List.take_left' lx]
  · simp only [kY]
    rw [show [k, p, a] ++ (n ++ (x ++ (y ++ z))) = ([k, p, a] ++ n ++ x) ++ (y ++ z) by simp, List.drop_left' (by simp; omega), List.take_left' ly]
  · simp only [kZ]
    rw [show [k, p, a] ++ (n ++ (x ++ (y ++ z))) = ([k, p, a] ++ n ++ x ++ y) ++ z by simp, List.drop_left' (by simp; omega)]
def rightB (b : List UInt8) : Bool := rightKey (b.getD 0 0) (b.getD 1 0) (b.getD 2 0) (kN b) (kX b) (kY b) (kZ b)
def refRightB (b : List UInt8) : Bool := refRight (b.getD 0 0).toNat (b.getD 1 0).toNat (b.getD 2 0).toNat (kN b) (kX b) (kY b) (kZ b)
theorem rightB_of {k p a : UInt8} {n x y z : List UInt8} (ln : n.length = 12) (lx : x.length = 3) (ly : y.length = 4) (lz : z.length = 3) : rightB (keyOfL k p a n x y z) = rightKey k p a n x y z := by
  obtain ⟨h1, h2, h3, h4⟩ := parts_of (k := k) (p := p) (a := a) ln lx ly lz
  simp only [rightB, h1, h2, h3, h4]; rfl
theorem refRightB_of {k p a : UInt8} {n x y z : List UInt8} (ln : n.length = 12) (lx : x.length = 3) (ly : y.length = 4) (lz : z.length = 3) : refRightB (keyOfL k p a n x y z) = refRight k.toNat p.toNat a.toNat n x y z := by
  obtain ⟨h1, h2, h3, h4⟩ := parts_of (k := k) (p := p) (a := a) ln lx ly lz
  simp only [refRightB, h1, h2, h3, h4]; rfl

/-! ### Parsing a tag -/
theorem forall_u8 {p : UInt8 → Prop} (h : ∀ n : Fin 256, p (UInt8.ofNat n.val)) (c : UInt8) : p c := by
  have := h ⟨c.toNat, c.toNat_lt⟩
  simpa using this
theorem cap_first (c : UInt8) : tUpper (tLower c) = tUpper c := by
  revert c; exact forall_u8 (by decide +kernel)
theorem letter_not_digit (c : UInt8) : tLetter c = true → tDigit c = false := by
  revert c; exact forall_u8 (by decide +kernel)
theorem lower_nz (c : UInt8) : tLetter c = true → tLower c ≠ 0 := by
  revert c; exact forall_u8 (by decide +kernel)
theorem upper_nz (c : UInt8) : tLetter c = true → tUpper c ≠ 0 := by
  revert c; exact forall_u8 (by decide +kernel)
theorem upper_nzd (c : UInt8) : tDigit c = true → tUpper c ≠ 0 := by
  revert c; exact forall_u8 (by decide +kernel)

theorem capS_eq (q : List UInt8) (h : 1 ≤ q.length) : capS q = scrT q := by
  cases q with
  | nil => simp at h
  | cons x q => simp only [capS, scrT, List.take_succ_cons, List.take_zero, List.map_cons, List.map_nil, List.drop_succ_cons, List.drop_zero, List.cons_append, List.nil_append, turnTo, cond_true, cond_false, cap_first]; rfl

theorem kind1 (q : List UInt8) : ((kindOf q : Int) == 1) = q.all tLetter := by
  simp only [kindOf]; cases q.all tLetter <;> cases q.all tDigit <;> rfl
theorem kind2 (q : List UInt8) (h : 1 ≤ q.length) : ((kindOf q : Int) == 2) = q.all tDigit := by
  simp only [kindOf]
  cases h1 : q.all tLetter with
  | false => cases q.all tDigit <;> rfl
  | true =>
    cases q with
    | nil => simp at h
    | cons x q =>
      simp only [List.all_cons, Bool.and_eq_true] at h1
      simp [letter_not_digit x h1.1]
theorem scrP_eq (q : List UInt8) : scrP q = ((q.length == 4) && q.all tLetter) := by
  simp only [scrP, kind1]
  have : ((q.length : Int) == 4) = (q.length == 4) := by rw [Bool.eq_iff_iff]; simp; omega
  rw [this, Bool.and_comm]
theorem regP_eq (q : List UInt8) : regP q = (((q.length == 2) && q.all tLetter) || ((q.length == 3) && q.all tDigit)) := by
  simp only [regP, kind1]
  have e2 : ((q.length : Int) == 2) = (q.length == 2) := by rw [Bool.eq_iff_iff]; simp; omega
  have e3 : ((q.length : Int) == 3) = (q.length == 3) := by rw [Bool.eq_iff_iff]; simp; omega
  rw [e2, e3, Bool.and_comm]
  cases h : q.length == 3 with
  | false => simp
  | true =>
    have : q.length = 3 := by simpa using h
    rw [kind2 q (by omega)]
    cases q.all tDigit <;> simp [Bool.and_comm]
theorem scr_not_reg {q : List UInt8} (h : scrP q = true) : regP q = false := by
  rw [scrP_eq] at h; rw [regP_eq]
  simp only [Bool.and_eq_true, beq_iff_eq] at h
  simp [h.1]
theorem scrT_ne {q : List UInt8} (h : scrP q = true) : (scrT q == []) = false := by
  rw [scrP_eq] at h
  simp only [Bool.and_eq_true, beq_iff_eq] at h
  cases q with
  | nil => simp at h
  | cons x q => simp [scrT]
theorem up_ne {q : List UInt8} (h : regP q = true) : (q.map (turnTo true) == []) = false := by
  rw [regP_eq] at h
  cases q with
  | nil => simp at h
  | cons x q => simp

theorem takeScript_eq (q : List UInt8) (r : List (List UInt8)) : takeScript (q :: r) = bif scrP q then (scrT q, r) else ([], q :: r) := by
  simp only [takeScript, ← scrP_eq]
  cases h : scrP q with
  | true =>
    rw [scrP_eq] at h; simp only [Bool.and_eq_true, beq_iff_eq] at h
    simp only [cond_true, capS_eq q (by omega)]
  | false => rfl
theorem takeRegion_eq (q : List UInt8) (r : List (List UInt8)) : takeRegion (q :: r) = bif regP q then (q.map (turnTo true), r) else ([], q :: r) := by
  simp only [takeRegion, ← regP_eq]
  have : q.map (turnTo true) = q.map tUpper := by apply List.map_congr_left; intro c _; rfl
  rw [this]

/-- Behind the region nothing may come. -/
theorem rloop_end {sc rg : List UInt8} (h : (rg == []) = false) : ∀ r, rloop sc rg r = bif r.isEmpty then some (sc, rg) else none
  | [] => rfl
  | q :: r => by simp [rloop, h]
theorem rloop_reg {sc : List UInt8} (h : (sc == []) = false) : ∀ r, rloop sc [] r = bif (takeRegion r).2.isEmpty then some (sc, (takeRegion r).1) else none
  | [] => rfl
  | q :: r => by
    rw [takeRegion_eq]
    simp only [rloop, h, Bool.and_false, cond_false, Bool.false_and]
    cases hr : regP q with
    | true => simp only [beq_self_eq_true, Bool.and_self, cond_true]; rw [rloop_end (up_ne hr)]
    | false => simp
theorem rloop_all : ∀ r, rloop [] [] r = bif (takeRegion (takeScript r).2).2.isEmpty then some ((takeScript r).1, (takeRegion (takeScript r).2).1) else none
  | [] => rfl
  | q :: r => by
    rw [takeScript_eq]
    cases hs : scrP q with
    | true =>
      simp only [cond_true, rloop, hs, beq_self_eq_true, Bool.and_self]
      rw [rloop_reg (scrT_ne hs)]
    | false =>
      simp only [cond_false, rloop, hs, Bool.false_and]
      rw [takeRegion_eq]
      cases hr : regP q with
      | true => simp only [beq_self_eq_true, Bool.and_self, cond_true]; rw [rloop_end (up_ne hr)]
      | false => simp

theorem parse_same (s : List UInt8) : parseTag s = parseRef s := by
  simp only [parseTag, parseRef]
  cases s == rootS with
  | true => rfl
  | false =>
    simp only [cond_false]
    rw [split_cut]
    simp only [parseParts]
    have e : ((((kindOf (cutP s) : Int) != 1) || decide (((cutP s).length : Int) < 2)) || decide (((cutP s).length : Int) > 3)) = !((decide (2 ≤ (cutP s).length) && decide ((cutP s).length ≤ 3)) && (cutP s).all tLetter) := by
      rw [← kind1]
      have h2 : decide (((cutP s).length : Int) < 2) = !decide (2 ≤ (cutP s).length) := by rw [Bool.eq_iff_iff]; simp; omega
      have h3 : decide (((cutP s).length : Int) > 3) = !decide ((cutP s).length ≤ 3) := by rw [Bool.eq_iff_iff]; simp; omega
      rw [h2, h3]
      cases hk : ((kindOf (cutP s) : Int) == 1) <;> cases decide (2 ≤ (cutP s).length) <;> cases decide ((cutP s).length ≤ 3) <;> simp [bne, hk]
    rw [e, rloop_all]
    cases ((decide (2 ≤ (cutP s).length) && decide ((cutP s).length ≤ 3)) && (cutP s).all tLetter) with
    | false => rfl
    | true =>
      simp only [cond_true, Bool.not_true, cond_false]
      have : (cutP s).map (turnTo false) = (cutP s).map tLower := by apply List.map_congr_left; intro c _; rfl
      cases (takeRegion (takeScript (moreParts (cutM s) (cutR s))).2).2.isEmpty with
      | true => simp [this]
      | false => rfl

/-! ### The bytes of what was parsed -/
theorem trim_pad_ne {c : List UInt8} (h : ∀ x ∈ c, x ≠ 0) : trimR 0 c = c := by
  simp only [trimR]
  have : c.reverse.dropWhile (· == 0) = c.reverse := by
    cases hr : c.reverse with
    | nil => rfl
    | cons x r =>
      have hx : x ∈ c := by have : x ∈ c.reverse := by rw [hr]; exact List.mem_cons_self ..
                            exact List.mem_reverse.1 this
      have : (x == 0) = false := by simpa using h x hx
      simp [List.dropWhile_cons, this]
  rw [this, List.reverse_reverse]
theorem trim_append_zero (c : List UInt8) : ∀ m, trimR 0 (c ++ List.replicate m 0) = trimR 0 c
  | 0 => by simp
  | m + 1 => by
    rw [List.replicate_succ', ← List.append_assoc]
    simp only [trimR, List.reverse_append, List.reverse_cons, List.reverse_nil, List.nil_append, List.cons_append]
    simp only [List.dropWhile_cons, beq_self_eq_true, ↓reduceIte]
    have := trim_append_zero c m
    simp only [trimR, List.reverse_append] at this
    exact this
theorem trim_pad {n : Nat} {c : List UInt8} (h : ∀ x ∈ c, x ≠ 0) : trimR 0 (pad n c) = c := by
  rw [pad, trim_append_zero, trim_pad_ne h]
theorem dropW_split (l : List UInt8) : ∃ m, l = List.replicate m 0 ++ l.dropWhile (· == 0) := by
  induction l with
  | nil => exact ⟨0, rfl⟩
  | cons x l ih =>
    obtain ⟨m, hm⟩ := ih
    cases hx : x == 0 with
    | false => exact ⟨0, by simp [List.dropWhile_cons, hx]⟩
    | true =>
      refine ⟨m + 1, ?_⟩
      have : x = 0 := eq_of_beq hx
      simp only [List.dropWhile_cons, hx, ↓reduceIte, List.replicate_succ, List.cons_append]
      rw [this]
      exact congrArg (List.cons 0) hm
theorem pad_trim {n : Nat} {x : List UInt8} (h : x.length = n) : pad n (trimR 0 x) = x := by
  obtain ⟨m, hm⟩ := dropW_split x.reverse
  have e : x = trimR 0 x ++ List.replicate m 0 := by
    have := congrArg List.reverse hm
    rw [List.reverse_reverse, List.reverse_append, List.reverse_replicate] at this
    exact this
  have hl : (trimR 0 x).length + m = n := by have := congrArg List.length e; simp at this; omega
  rw [pad, show n - (trimR 0 x).length = m by omega]
  exact e.symm

theorem lower_all {q : List UInt8} (h : q.all tLetter = true) : ∀ c ∈ q.map tLower, c ≠ 0 := by
  intro c hc; obtain ⟨x, hx, rfl⟩ := List.mem_map.1 hc; exact lower_nz x (List.all_eq_true.1 h x hx)
theorem scrT_nz {q : List UInt8} (h : scrP q = true) : ∀ c ∈ scrT q, c ≠ 0 := by
  rw [scrP_eq] at h; simp only [Bool.and_eq_true] at h
  have hq := List.all_eq_true.1 h.2
  intro c hc
  simp only [scrT, List.mem_append, List.mem_map] at hc
  rcases hc with ⟨x, hx, rfl⟩ | ⟨x, hx, rfl⟩
  · exact upper_nz x (hq x (List.mem_of_mem_take hx))
  · exact lower_nz x (hq x (List.mem_of_mem_drop hx))
theorem up_nz {q : List UInt8} (h : regP q = true) : ∀ c ∈ q.map (turnTo true), c ≠ 0 := by
  rw [regP_eq] at h
  intro c hc; obtain ⟨x, hx, rfl⟩ := List.mem_map.1 hc
  simp only [Bool.or_eq_true, Bool.and_eq_true] at h
  rcases h with h | h
  · exact upper_nz x (List.all_eq_true.1 h.2 x hx)
  · exact upper_nzd x (List.all_eq_true.1 h.2 x hx)
theorem takeScript_nz (r : List (List UInt8)) : ∀ c ∈ (takeScript r).1, c ≠ 0 := by
  cases r with
  | nil => intro c hc; simp [takeScript] at hc
  | cons q r =>
    rw [takeScript_eq]
    cases h : scrP q with
    | true => exact scrT_nz h
    | false => intro c hc; simp at hc
theorem takeRegion_nz (r : List (List UInt8)) : ∀ c ∈ (takeRegion r).1, c ≠ 0 := by
  cases r with
  | nil => intro c hc; simp [takeRegion] at hc
  | cons q r =>
    rw [takeRegion_eq]
    cases h : regP q with
    | true => exact up_nz h
    | false => intro c hc; simp at hc
theorem parseTag_nz {s a b c : List UInt8} (h : parseTag s = some (a, b, c)) : (∀ x ∈ a, x ≠ 0) ∧ (∀ x ∈ b, x ≠ 0) ∧ (∀ x ∈ c, x ≠ 0) := by
  simp only [parseTag] at h
  cases hs : s == rootS with
  | true => rw [hs] at h; simp only [cond_true, Option.some.injEq, Prod.mk.injEq] at h; obtain ⟨rfl, rfl, rfl⟩ := h; simp
  | false =>
    rw [hs] at h; simp only [cond_false] at h
    cases hp : splitC 45 s with
    | nil => rw [hp] at h; cases h
    | cons p r =>
      rw [hp] at h
      simp only [parseParts] at h
      cases h1 : ((decide (2 ≤ p.length) && decide (p.length ≤ 3)) && p.all tLetter) with
      | false => rw [h1] at h; cases h
      | true =>
        rw [h1] at h; simp only [cond_true] at h
        cases h2 : (takeRegion (takeScript r).2).2.isEmpty with
        | false => rw [h2] at h; cases h
        | true =>
          rw [h2] at h; simp only [cond_true, Option.some.injEq, Prod.mk.injEq] at h
          obtain ⟨rfl, rfl, rfl⟩ := h
          simp only [Bool.and_eq_true] at h1
          exact ⟨lower_all h1.2, takeScript_nz r, takeRegion_nz _⟩
/-- A text that begins with '-', or is empty, is no tag's. -/
theorem parseTag_none {b c : List UInt8} : parseTag (ext b ++ ext c) = none := by
  have hs : (ext b ++ ext c == rootS) = false := by
    simp only [ext]
    cases b != [] <;> cases c != [] <;> simp [rootS]
  simp only [parseTag, hs, cond_false]
  have : ∀ u : List UInt8, ∃ r, splitC 45 (ext b ++ ext c) = [] :: r := by
    intro _
    simp only [ext]
    cases b != [] <;> cases c != [] <;> simp [splitC]
  obtain ⟨r, hr⟩ := this []
  rw [hr]
  rfl

theorem list3_zero {x : List UInt8} (lx : x.length = 3) (h : trimR 0 x = []) : x = List.replicate 3 0 := by
  have := pad_trim (n := 3) lx
  rw [h] at this; exact this.symm

theorem tag_same {x y z : List UInt8} (lx : x.length = 3) (ly : y.length = 4) (lz : z.length = 3) :
    (!rightTag x y z || (x ++ y ++ z == List.replicate 10 0)) = (!okRef x y z || (trimR 0 x == [])) := by
  cases hx : trimR 0 x == [] with
  | true =>
    have hx' : trimR 0 x = [] := eq_of_beq hx
    simp only [Bool.or_true]
    cases hz : x ++ y ++ z == List.replicate 10 0 with
    | true => simp
    | false =>
      simp only [Bool.or_false]
      have : rightTag x y z = false := by
        simp only [rightTag, tagPlain, hz, cond_false, hx', List.nil_append, parseTag_none]; rfl
      rw [this]; rfl
  | false =>
    have hz : (x ++ y ++ z == List.replicate 10 0) = false := by
      cases hz : x ++ y ++ z == List.replicate 10 0 with
      | false => rfl
      | true =>
        have h : x ++ y ++ z = List.replicate 10 0 := eq_of_beq hz
        have h3 : x = List.replicate 3 0 := by
          have := congrArg (List.take 3) h
          rw [List.append_assoc, List.take_left' lx] at this; exact this
        rw [h3] at hx; exact absurd hx (by decide)
    simp only [hz, Bool.or_false]
    congr 1
    simp only [rightTag, tagPlain, okRef, hz, hx, cond_false, textOf]
    rw [parse_same]
    generalize hp : parseRef (trimR 0 x ++ ext (trimR 0 y) ++ ext (trimR 0 z)) = o
    cases o with
    | none => simp
    | some t =>
      obtain ⟨a, b, c⟩ := t
      have hp' : parseTag (trimR 0 x ++ ext (trimR 0 y) ++ ext (trimR 0 z)) = some (a, b, c) := by rw [parse_same, hp]
      obtain ⟨ha, hb, hc⟩ := parseTag_nz hp'
      rw [Bool.eq_iff_iff]
      simp only [Option.isSome_some, Bool.true_and, tagBytes, beq_iff_eq, Option.some.injEq, Prod.mk.injEq]
      obtain ⟨la, lb, lc⟩ := parseTag_le hp'
      constructor
      · intro h
        have e1 : pad 3 a = x := by
          have := congrArg (List.take 3) h
          rwa [List.append_assoc, List.append_assoc, List.take_left' (pad_len la), List.take_left' lx] at this
        have e23 : pad 4 b ++ pad 3 c = y ++ z := by
          have := congrArg (List.drop 3) h
          rwa [List.append_assoc, List.append_assoc, List.drop_left' (pad_len la), List.drop_left' lx] at this
        have e2 : pad 4 b = y := by
          have := congrArg (List.take 4) e23
          rwa [List.take_left' (pad_len lb), List.take_left' ly] at this
        have e3 : pad 3 c = z := by
          have := congrArg (List.drop 4) e23
          rwa [List.drop_left' (pad_len lb), List.drop_left' ly] at this
        rw [← e1, ← e2, ← e3, trim_pad ha, trim_pad hb, trim_pad hc]
        exact ⟨rfl, rfl, rfl⟩
      · rintro ⟨rfl, rfl, rfl⟩
        rw [pad_trim lx, pad_trim ly, pad_trim lz]
theorem name_same (n : List UInt8) : (nameText n == []) = !rightName n := by
  simp only [nameText]
  cases h : rightName n with
  | false => rfl
  | true =>
    simp only [rightName, Bool.and_eq_true] at h
    simp only [validName, Bool.and_eq_true, decide_eq_true_eq] at h
    cases hf : front n with
    | nil => rw [hf] at h; simp at h
    | cons a b => rfl

theorem err_same {k p a : Int} {n x y z : List UInt8} (lx : x.length = 3) (ly : y.length = 4) (lz : z.length = 3) : refErr k p a n x y z = ofErr k p a n x y z := by
  simp only [refErr, ofErr, tag_same lx ly lz, name_same]
  have : decide (p > 3) = decide (p ≥ 4) := by rw [Bool.eq_iff_iff]; simp; omega
  rw [this]

theorem u8_inj {a b : UInt8} : ((a.toNat : Int) == (b.toNat : Int)) = (a == b) := by
  rw [Bool.eq_iff_iff]; simp only [beq_iff_eq]
  exact ⟨fun h => UInt8.toNat_inj.1 (by omega), fun h => by rw [h]⟩
theorem key_inj {k p a q : UInt8} {A n B t : List UInt8} (hA : A.length = 12) (hn : n.length = 12) (h : [k, p, q] ++ A ++ B = [k, p, a] ++ n ++ t) : q = a ∧ A = n ∧ B = t := by
  simp only [List.cons_append, List.nil_append, List.cons.injEq, true_and] at h
  obtain ⟨h1, h2⟩ := h
  have e3 := congrArg (List.take 12) h2
  rw [List.take_left' hA, List.take_left' hn] at e3
  have e4 := congrArg (List.drop 12) h2
  rw [List.drop_left' hA, List.drop_left' hn] at e4
  exact ⟨h1, e3, e4⟩
theorem right_same {b : List UInt8} (hb : b.length = 25) : refRightB b = rightB b := by
  obtain ⟨k, p, a, n, x, y, z, ln, lx, ly, lz, rfl⟩ := key_parts hb
  rw [refRightB_of ln lx ly lz, rightB_of ln lx ly lz]
  simp only [refRight, rightKey, err_same lx ly lz]
  cases he : ofErr k.toNat p.toNat a.toNat n x y z == 0 with
  | false => rfl
  | true =>
    simp only [Bool.true_and, refKey]
    rw [cellsEq_rk (by cases uName k.toNat <;> simp [ln])]
    have hby : ∀ c : UInt8, byteOf (c.toNat : Int) = c := fun c => by simp [byteOf]
    simp only [ofKey, keyOfL, hby]
    simp only [beq_self_eq_true, Bool.true_and]
    rw [Bool.eq_iff_iff]
    simp only [Bool.and_eq_true, beq_iff_eq]
    constructor
    · rintro ⟨h1, h2, h3⟩
      rw [h2, h3]
      have : (bif decide ((uAt (k.toNat : Int) : Int) > 0) then a else 0) = a := by
        cases hd : decide ((uAt (k.toNat : Int) : Int) > 0) with
        | true => rfl
        | false => rw [hd] at h1; simp only [cond_false] at h1 ⊢; exact UInt8.toNat_inj.1 (by simp; omega)
      rw [this]
    · intro h
      obtain ⟨e1, e3, e4⟩ := key_inj (by cases uName k.toNat <;> simp [ln]) ln h
      refine ⟨?_, e3, e4⟩
      cases hd : decide ((uAt (k.toNat : Int) : Int) > 0) with
      | true => rfl
      | false => rw [hd] at e1; simp only [cond_false] at e1 ⊢; rw [← e1]; rfl
end Go.Proofs.YtfoakjdnopljmaaGreatDoor
