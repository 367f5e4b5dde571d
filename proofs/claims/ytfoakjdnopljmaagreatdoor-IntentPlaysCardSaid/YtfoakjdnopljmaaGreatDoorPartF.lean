/-
  Lemmas for this claim: PInt, WInt10, WInt11, WInt12, WIntRead.
-/
import Derived.Test.YtfoakjdnopljmaaGreatDoorPartE

set_option linter.unusedVariables false
set_option linter.unusedSimpArgs false
/- The plain law of intents: a map of owners, and the document's list in the order of keys. -/
namespace Go.Proofs.YtfoakjdnopljmaaGreatDoor
open Go

abbrev Tab := List (List UInt8 × Int)
structure Rel (T l : Tab) : Prop where
  sorted : l.Pairwise (fun x y => ltB x.1 y.1 = true)
  perm : l.Perm T
  ok : ∀ x ∈ T, okK x.1
  pos : ∀ x ∈ T, 1 ≤ x.2

theorem ltB_irr {x y : List UInt8} (h : ltB x y = true) : x ≠ y := fun e => by subst e; rw [ltB_same] at h; cases h
theorem Rel.lok {T l : Tab} (h : Rel T l) : ∀ x ∈ l, okK x.1 := fun x hx => h.ok x (h.perm.mem_iff.1 hx)
theorem Rel.lpos {T l : Tab} (h : Rel T l) : ∀ x ∈ l, 1 ≤ x.2 := fun x hx => h.pos x (h.perm.mem_iff.1 hx)
theorem Rel.lnd {T l : Tab} (h : Rel T l) : (l.map (·.1)).Nodup := by
  rw [List.Nodup, List.pairwise_map]
  exact h.sorted.imp fun {x y} hxy => ltB_irr hxy
theorem Rel.nd {T l : Tab} (h : Rel T l) : (T.map (·.1)).Nodup := (h.perm.map _).nodup_iff.1 h.lnd
theorem Rel.len {T l : Tab} (h : Rel T l) : T.length = l.length := h.perm.length_eq.symm
theorem Rel.nil : Rel [] [] := ⟨List.Pairwise.nil, List.Perm.refl _, by simp, by simp⟩

theorem aget_mem {k : List UInt8} {o : Int} : ∀ {T : Tab}, aget k T = some o → (k, o) ∈ T
  | [], h => by cases h
  | x :: T, h => by
    simp only [aget] at h
    cases e : k == x.1 with
    | true => rw [e] at h; cases h; rw [eq_of_beq e]; exact List.mem_cons_self ..
    | false => rw [e] at h; exact List.mem_cons_of_mem _ (aget_mem h)
theorem aget_of {k : List UInt8} {o : Int} : ∀ {T : Tab}, (T.map (·.1)).Nodup → (k, o) ∈ T → aget k T = some o
  | [], _, h => by cases h
  | x :: T, hn, h => by
    rw [List.map_cons, List.nodup_cons] at hn
    simp only [aget]
    rcases List.mem_cons.1 h with rfl | h
    · simp
    · have : (k == x.1) = false := by
        rw [Bool.eq_false_iff]; intro e
        have := eq_of_beq e
        exact hn.1 (by rw [← this]; exact List.mem_map_of_mem (f := (·.1)) h)
      rw [this]; exact aget_of hn.2 h
theorem aget_perm {k : List UInt8} {T l : Tab} (h : l.Perm T) (hn : (T.map (·.1)).Nodup) : aget k l = aget k T := by
  cases e : aget k l with
  | some o => exact (aget_of hn (h.mem_iff.1 (aget_mem e))).symm
  | none =>
    cases e' : aget k T with
    | none => rfl
    | some o => rw [aget_of ((h.map _).nodup_iff.2 hn) (h.mem_iff.2 (aget_mem e'))] at e; cases e
theorem Rel.get {T l : Tab} (h : Rel T l) (k : List UInt8) : aget k l = aget k T := aget_perm h.perm h.nd
theorem aget_none {k : List UInt8} : ∀ {T : Tab}, aget k T = none → ∀ x ∈ T, x.1 ≠ k
  | [], _, x, hx => by cases hx
  | y :: T, h, x, hx => by
    simp only [aget] at h
    cases e : k == y.1 with
    | true => rw [e] at h; cases h
    | false =>
      rw [e] at h
      rcases List.mem_cons.1 hx with rfl | hx
      · intro e'; rw [e'] at e; simp at e
      · exact aget_none h x hx
theorem aput_none {k : List UInt8} {o : Int} : ∀ {T : Tab}, aget k T = none → aput k o T = T ++ [(k, o)]
  | [], _ => rfl
  | y :: T, h => by
    simp only [aget] at h
    simp only [aput]
    cases e : k == y.1 with
    | true => rw [e] at h; cases h
    | false => rw [e] at h; simp only [cond_false, List.cons_append, aput_none h]

/-! ### A key is taken -/
theorem ins_sorted {k : List UInt8} {o : Int} (hk : okK k) : ∀ {l : Tab}, l.Pairwise (fun x y => ltB x.1 y.1 = true) → (∀ x ∈ l, okK x.1) → (∀ x ∈ l, x.1 ≠ k) → (insI l o k).Pairwise (fun x y => ltB x.1 y.1 = true)
  | [], _, _, _ => by simp [insI]
  | y :: l, hs, ho, hn => by
    have hs' := List.pairwise_cons.1 hs
    have ih := ins_sorted (o := o) hk hs'.2 (fun x hx => ho x (List.mem_cons_of_mem _ hx)) (fun x hx => hn x (List.mem_cons_of_mem _ hx))
    have hy : okK y.1 := ho y (List.mem_cons_self ..)
    cases e : ltB y.1 k with
    | true =>
      have : insI (y :: l) o k = y :: insI l o k := by simp [insI, List.takeWhile_cons, List.dropWhile_cons, e]
      rw [this, List.pairwise_cons]
      refine ⟨fun x hx => ?_, ih⟩
      simp only [insI, List.mem_append, List.mem_cons] at hx
      rcases hx with hx | rfl | hx
      · exact hs'.1 x ((List.takeWhile_sublist _).subset hx)
      · exact e
      · exact hs'.1 x ((List.dropWhile_sublist _).subset hx)
    | false =>
      have : insI (y :: l) o k = (k, o) :: y :: l := by simp [insI, List.takeWhile_cons, List.dropWhile_cons, e]
      rw [this, List.pairwise_cons]
      have hky : ltB k y.1 = true := by
        cases h : ltB k y.1 with
        | true => rfl
        | false => exact absurd (ltB_total (by rw [hy, hk]) e h) (hn y (List.mem_cons_self ..))
      refine ⟨fun x hx => ?_, hs⟩
      rcases List.mem_cons.1 hx with rfl | hx
      · exact hky
      · exact ltB_trans (by rw [hk, hy]) (by rw [hy, ho x (List.mem_cons_of_mem _ hx)]) hky (hs'.1 x hx)
theorem ins_perm {k : List UInt8} {o : Int} (l : Tab) : (insI l o k).Perm (l ++ [(k, o)]) := by
  have h : l = l.takeWhile (fun x => ltB x.1 k) ++ l.dropWhile (fun x => ltB x.1 k) := List.takeWhile_append_dropWhile.symm
  simp only [insI]
  refine List.perm_middle.trans ?_
  rw [← h]
  exact (List.perm_append_comm (l₁ := [(k, o)]) (l₂ := l))

/-- What a row of calls of the document's Take, or Drop, makes. -/
def foldL (out : Bool) (owner : Int) : List (List UInt8) → Tab × Nat × Nat → Tab × Nat × Nat
  | [], s => s
  | k :: ks, s => bif s.2.2 == 0 then
      (bif out then foldL out owner ks ((rDrop owner k s.1).1, (bif (rDrop owner k s.1).2 then s.2.1 + 1 else s.2.1), 0)
       else foldL out owner ks ((rTake s.1 owner k).1, (bif (rTake s.1 owner k).2.1 then s.2.1 + 1 else s.2.1), (rTake s.1 owner k).2.2)) else s
theorem foldL_stop {out : Bool} {owner : Int} {s : Tab × Nat × Nat} (h : s.2.2 ≠ 0) : ∀ ks, foldL out owner ks s = s
  | [] => rfl
  | k :: ks => by have : (s.2.2 == 0) = false := by simpa using h
                  simp [foldL, this]

theorem take_law {owner : Int} (ho : 1 ≤ owner) : ∀ (ks : List (List UInt8)) (T l : Tab) (n : Nat), (∀ k ∈ ks, okK k) → Rel T l → Rel (takeS owner T ks n).1 (foldL false owner ks (l, n, 0)).1 ∧ (takeS owner T ks n).2 = (foldL false owner ks (l, n, 0)).2
  | [], T, l, n, _, h => ⟨h, rfl⟩
  | k :: ks, T, l, n, hk, h => by
    have hkk := hk k (List.mem_cons_self ..)
    have hks := fun x hx => hk x (List.mem_cons_of_mem _ hx)
    simp only [takeS, foldL, beq_self_eq_true, cond_true, cond_false]
    cases hr : rightB k with
    | false =>
      have e : rTake l owner k = (l, false, 3) := by simp [rTake, hr]
      simp only [e, cond_false]
      rw [foldL_stop (by simp)]
      exact ⟨h, rfl⟩
    | true =>
      simp only [cond_true]
      have hg := h.get k
      cases hget : aget k T with
      | none =>
        rw [hget] at hg
        have e0 : ((0 : Int) == owner) = false := by simp; omega
        have e : rTake l owner k = (insI l owner k, true, 0) := by simp [rTake, hr, hg, e0]
        simp only [e, cond_true]
        refine take_law ho ks _ _ _ hks ⟨ins_sorted hkk h.sorted h.lok (aget_none hg), ?_, ?_, ?_⟩
        · rw [aput_none hget]; exact (ins_perm l).trans (h.perm.append_right _)
        · rw [aput_none hget]; intro x hx
          rcases List.mem_append.1 hx with hx | hx
          · exact h.ok x hx
          · rw [List.mem_singleton.1 hx]; exact hkk
        · rw [aput_none hget]; intro x hx
          rcases List.mem_append.1 hx with hx | hx
          · exact h.pos x hx
          · rw [List.mem_singleton.1 hx]; exact ho
      | some o =>
        rw [hget] at hg
        have hpos : 1 ≤ o := h.pos _ (aget_mem hget)
        simp only
        cases heq : o == owner with
        | true =>
          have e : rTake l owner k = (l, false, 0) := by simp [rTake, hr, hg, heq]
          have e' : (o != owner) = false := by simp [bne, heq]
          simp only [e, e', cond_false]
          exact take_law ho ks _ _ _ hks h
        | false =>
          have e : rTake l owner k = (l, false, 11) := by
            have : decide (o > 0) = true := by simp; omega
            simp only [rTake, hr, hg, Option.getD_some, heq, this]; rfl
          have e' : (o != owner) = true := by simp [bne, heq]
          simp only [e, e', cond_true, cond_false]
          rw [foldL_stop (by simp)]
          exact ⟨h, rfl⟩

/-! ### A key is dropped -/
theorem rDrop_perm {owner : Int} {k : List UInt8} : ∀ {l : Tab}, ((rDrop owner k l).2 = true → l.Perm ((k, owner) :: (rDrop owner k l).1)) ∧ ((rDrop owner k l).2 = false → (rDrop owner k l).1 = l ∧ (k, owner) ∉ l) ∧ ((rDrop owner k l).1).Sublist l
  | [] => by simp [rDrop]
  | x :: l => by
    obtain ⟨h1, h2, h3⟩ := rDrop_perm (owner := owner) (k := k) (l := l)
    simp only [rDrop]
    cases e : (x.1 == k) && (x.2 == owner) with
    | true =>
      simp only [cond_true]
      simp only [Bool.and_eq_true, beq_iff_eq] at e
      have hx : x = (k, owner) := Prod.ext e.1 e.2
      exact ⟨(fun _ => by rw [hx]), (fun h => by cases h), List.sublist_cons_self ..⟩
    | false =>
      simp only [cond_false]
      refine ⟨fun h => ?_, fun h => ?_, h3.cons_cons x⟩
      · exact ((h1 h).cons x).trans (List.Perm.swap ..)
      · obtain ⟨e1, e2⟩ := h2 h
        refine ⟨by rw [e1], fun hm => ?_⟩
        rcases List.mem_cons.1 hm with rfl | hm
        · simp at e
        · exact e2 hm
theorem adel_perm {k : List UInt8} {o : Int} : ∀ {T : Tab}, aget k T = some o → T.Perm ((k, o) :: adel k T)
  | [], h => by cases h
  | x :: T, h => by
    simp only [aget] at h
    simp only [adel]
    cases e : k == x.1 with
    | true =>
      rw [e] at h; cases h
      have : x = (k, x.2) := Prod.ext (eq_of_beq e).symm rfl
      simp only [cond_true]; rw [← this]
    | false =>
      rw [e] at h
      simp only [cond_false]
      exact ((adel_perm h).cons x).trans (List.Perm.swap ..)
theorem drop_law {owner : Int} : ∀ (ks : List (List UInt8)) (T l : Tab) (n : Nat), Rel T l → Rel (dropS owner T ks n).1 (foldL true owner ks (l, n, 0)).1 ∧ (dropS owner T ks n).2 = (foldL true owner ks (l, n, 0)).2.1 ∧ (foldL true owner ks (l, n, 0)).2.2 = 0
  | [], T, l, n, h => ⟨h, rfl, rfl⟩
  | k :: ks, T, l, n, h => by
    simp only [dropS, foldL, beq_self_eq_true, cond_true]
    obtain ⟨h1, h2, h3⟩ := rDrop_perm (owner := owner) (k := k) (l := l)
    cases hd : (rDrop owner k l).2 with
    | true =>
      have hm : (k, owner) ∈ T := h.perm.mem_iff.1 ((h1 hd).mem_iff.2 (List.mem_cons_self ..))
      have hg := aget_of h.nd hm
      have e : (aget k T == some owner) = true := by rw [hg]; simp
      simp only [e, cond_true]
      have hp : ((rDrop owner k l).1).Perm (adel k T) := (((h1 hd).symm.trans h.perm).trans (adel_perm hg)).cons_inv
      exact drop_law ks _ _ _ ⟨h.sorted.sublist h3, hp, fun x hx => h.ok x (adel_sub x hx), fun x hx => h.pos x (adel_sub x hx)⟩
    | false =>
      obtain ⟨e1, e2⟩ := h2 hd
      have e : (aget k T == some owner) = false := by
        rw [Bool.eq_false_iff]; intro e
        exact e2 (h.perm.mem_iff.2 (aget_mem (eq_of_beq e)))
      simp only [e, e1, cond_false]
      exact drop_law ks _ _ _ h

/-! ### What is told -/
theorem Rel.owned_eq {T l : Tab} (h : Rel T l) {owner : Int} {ks : List (List UInt8)} (hp : ks.Perm (owned owner T)) (hs : ks.Pairwise (fun x y => ltB y x = false)) : ks = owned owner l := by
  have hok : ∀ k ∈ ks, okK k := fun k hk => owned_mem h.ok k (hp.mem_iff.1 hk)
  have hp2 : ks.Perm (owned owner l) := hp.trans (((h.perm.filter _).map _).symm)
  have hs2 : (owned owner l).Pairwise (fun x y => ltB y x = false) := by
    unfold owned
    rw [List.pairwise_map]
    refine (h.sorted.sublist List.filter_sublist).imp_of_mem fun {x y} hx hy hxy => ?_
    cases e : ltB y.1 x.1 with
    | false => rfl
    | true =>
      have hx' := h.lok x (List.mem_filter.1 hx).1
      have hy' := h.lok y (List.mem_filter.1 hy).1
      have := ltB_trans (by rw [hx', hy']) (by rw [hy', hx']) hxy e
      rw [ltB_same] at this; cases this
  refine List.Perm.eq_of_pairwise (fun a b ha hb h1 h2 => ?_) hs hs2 hp2
  exact ltB_total (by rw [hok a ha, hok b (hp2.mem_iff.2 hb)]) h2 h1

/-! ### The owners -/
theorem compact_law (d : Array Int) (hs : ∀ i j, i ≤ j → j < d.size → d[i]! ≤ d[j]!) : ∀ m, m ≤ d.size → (Lib.compactUpTo d m).Pairwise (· < ·) ∧ (∀ x ∈ Lib.compactUpTo d m, ∃ j, j < m ∧ x = d[j]!) ∧ (∀ j, j < m → d[j]! ∈ Lib.compactUpTo d m)
  | 0, _ => by simp [Lib.compactUpTo]
  | m + 1, hm => by
    obtain ⟨h1, h2, h3⟩ := compact_law d hs m (by omega)
    rw [Lib.compactUpTo_succ]
    cases hk : Lib.keeps d m with
    | false =>
      simp only [Bool.false_eq_true, if_false, List.append_nil]
      refine ⟨h1, fun x hx => ?_, fun j hj => ?_⟩
      · obtain ⟨j, hj, e⟩ := h2 x hx; exact ⟨j, by omega, e⟩
      · by_cases hjm : j < m
        · exact h3 j hjm
        · have : j = m := by omega
          subst this
          simp only [Lib.keeps, decide_eq_false_iff_not, not_or, ne_eq, Classical.not_not] at hk
          rw [hk.2]; exact h3 (j - 1) (by omega)
    | true =>
      simp only [if_true]
      have hlt : ∀ x ∈ Lib.compactUpTo d m, x < d[m]! := by
        intro x hx
        obtain ⟨j, hj, e⟩ := h2 x hx
        simp only [Lib.keeps, decide_eq_true_eq, ne_eq] at hk
        have h4 : d[m - 1]! < d[m]! := by
          have h5 := hs (m - 1) m (by omega) (by omega)
          rcases hk with hk | hk
          · omega
          · exact Int.lt_iff_le_and_ne.2 ⟨h5, fun e => hk e.symm⟩
        have h6 := hs j (m - 1) (by omega) (by omega)
        rw [e]; omega
      refine ⟨?_, fun x hx => ?_, fun j hj => ?_⟩
      · rw [List.pairwise_append]
        exact ⟨h1, by simp, fun a ha b hb => by rw [List.mem_singleton.1 hb]; exact hlt a ha⟩
      · rcases List.mem_append.1 hx with hx | hx
        · obtain ⟨j, hj, e⟩ := h2 x hx; exact ⟨j, by omega, e⟩
        · exact ⟨m, by omega, List.mem_singleton.1 hx⟩
      · by_cases hjm : j < m
        · exact List.mem_append_left _ (h3 j hjm)
        · have : j = m := by omega
          subst this
          exact List.mem_append_right _ (by simp)
theorem compact_sorted (l : List Int) : (Lib.compact (l.mergeSort fun x y => decide (x ≤ y))).Pairwise (· < ·) ∧ ∀ x, x ∈ Lib.compact (l.mergeSort fun x y => decide (x ≤ y)) ↔ x ∈ l := by
  have hp := List.mergeSort_perm l (fun x y => decide (x ≤ y))
  have hsrt : (l.mergeSort fun x y => decide (x ≤ y)).Pairwise (fun a b => decide (a ≤ b) = true) := List.pairwise_mergeSort (fun a b c h1 h2 => by simp at *; omega) (fun a b => by simp; omega) l
  generalize (l.mergeSort fun x y => decide (x ≤ y)) = s at hp hsrt
  have hs : ∀ i j, i ≤ j → j < s.toArray.size → s.toArray[i]! ≤ s.toArray[j]! := by
    intro i j hij hj
    have hj' : j < s.length := by simpa using hj
    rw [getElem!_pos _ i (by simp; omega), getElem!_pos _ j (by simpa using hj')]
    rcases Nat.lt_or_ge i j with h | h
    · have := List.pairwise_iff_getElem.1 hsrt i j (by omega) hj' h
      simpa using this
    · have : i = j := by omega
      subst this; exact Int.le_refl _
  obtain ⟨h1, h2, h3⟩ := compact_law s.toArray hs s.length (by simp)
  refine ⟨h1, fun x => ⟨fun hx => ?_, fun hx => ?_⟩⟩
  · obtain ⟨j, hj, e⟩ := h2 x hx
    rw [e, getElem!_pos _ j (by simpa using hj)]
    exact hp.mem_iff.1 (by simp)
  · obtain ⟨j, hj, e⟩ := List.mem_iff_getElem.1 (hp.mem_iff.2 hx)
    have := h3 j hj
    rw [getElem!_pos _ j (by simpa using hj)] at this
    rw [← e]; unfold Lib.compact; simpa using this
theorem one_of_nodup (y : Int) : ∀ (os : List Int), os.Nodup → y ∈ os → (os.map fun o => bif y == o then 1 else 0).sum = 1
  | [], _, h => by cases h
  | o :: os, hn, h => by
    have hn' := List.nodup_cons.1 hn
    simp only [List.map_cons, List.sum_cons]
    cases e : y == o with
    | true =>
      have := eq_of_beq e; subst this
      have hz : (os.map fun o => bif y == o then 1 else 0).sum = 0 := by
        have : ∀ os : List Int, y ∉ os → (os.map fun o => bif y == o then 1 else 0).sum = 0 := by
          intro os; induction os with
          | nil => intro _; rfl
          | cons o os ih =>
            intro hy
            simp only [List.mem_cons, not_or] at hy
            have : (y == o) = false := by simpa using hy.1
            simp [this, ih hy.2]
        exact this os hn'.1
      rw [hz]; rfl
    | false =>
      have hm : y ∈ os := by
        rcases List.mem_cons.1 h with rfl | h
        · simp at e
        · exact h
      rw [one_of_nodup y os hn'.2 hm]; rfl
theorem owned_sum : ∀ (l : Tab) (os : List Int), os.Nodup → (∀ x ∈ l, x.2 ∈ os) → (os.map fun o => (owned o l).length).sum = l.length
  | [], os, _, _ => by
    have : ∀ os : List Int, (os.map fun o => (owned o ([] : Tab)).length).sum = 0 := by
      intro os; induction os with
      | nil => rfl
      | cons o os ih => simp only [List.map_cons, List.sum_cons, ih]; rfl
    exact this os
  | x :: l, os, hn, h => by
    have ih := owned_sum l os hn (fun y hy => h y (List.mem_cons_of_mem _ hy))
    have h1 := one_of_nodup x.2 os hn (h x (List.mem_cons_self ..))
    have : ∀ os : List Int, (os.map fun o => (owned o (x :: l)).length).sum = (os.map fun o => bif x.2 == o then 1 else 0).sum + (os.map fun o => (owned o l).length).sum := by
      intro os; induction os with
      | nil => rfl
      | cons o os ih =>
        simp only [List.map_cons, List.sum_cons, ih]
        have : (owned o (x :: l)).length = (bif x.2 == o then 1 else 0) + (owned o l).length := by
          simp only [owned, List.filter_cons]
          cases x.2 == o <;> simp <;> omega
        rw [this]; omega
    rw [this, h1, ih]; simp; omega
theorem owned_pos {o : Int} {l : Tab} (h : o ∈ l.map (·.2)) : 0 < (owned o l).length := by
  obtain ⟨x, hx, rfl⟩ := List.mem_map.1 h
  have : x.1 ∈ owned x.2 l := List.mem_map_of_mem (f := (·.1)) (List.mem_filter.2 ⟨hx, by simp⟩)
  exact List.length_pos_of_mem this
theorem Rel.owners {T l : Tab} (h : Rel T l) {os : List Int} (hp : os.Perm (T.map (·.2))) :
    (Lib.compact (os.mergeSort fun x y => decide (x ≤ y))).Pairwise (· < ·) ∧ (∀ o ∈ Lib.compact (os.mergeSort fun x y => decide (x ≤ y)), 0 < (owned o l).length) ∧
      ((Lib.compact (os.mergeSort fun x y => decide (x ≤ y))).map fun o => (owned o l).length).sum = l.length := by
  obtain ⟨h1, h2⟩ := compact_sorted os
  have hm : ∀ o, o ∈ Lib.compact (os.mergeSort fun x y => decide (x ≤ y)) ↔ o ∈ l.map (·.2) := fun o => by
    rw [h2, hp.mem_iff, ← (h.perm.map (·.2)).mem_iff]
  refine ⟨h1, fun o ho => owned_pos ((hm o).1 ho), owned_sum l _ (h1.imp fun {a b} hab => Int.ne_of_lt hab) fun x hx => (hm _).2 (List.mem_map_of_mem (f := (·.2)) hx)⟩
end Go.Proofs.YtfoakjdnopljmaaGreatDoor

set_option linter.unusedVariables false
set_option linter.unusedSimpArgs false
set_option maxRecDepth 100000
namespace Go.Proofs.YtfoakjdnopljmaaGreatDoor
open Go Go.Proofs

theorem takeS_keys {owner : Int} : ∀ {ks : List (List UInt8)} {T : Tab} {n : Nat}, (∀ k ∈ ks, okK k) → (∀ x ∈ T, okK x.1) → ∀ x ∈ (takeS owner T ks n).1, okK x.1
  | [], T, n, _, h => h
  | k :: ks, T, n, hk, h => by
    have hks := fun x hx => hk x (List.mem_cons_of_mem _ hx)
    simp only [takeS]
    cases rightB k with
    | false => exact h
    | true =>
      simp only [cond_true]
      cases aget k T with
      | none => exact takeS_keys hks (aput_keys (hk k (List.mem_cons_self ..)) h)
      | some o =>
        simp only
        cases o != owner with
        | true => exact h
        | false => exact takeS_keys hks h
theorem dropS_keys {owner : Int} : ∀ {ks : List (List UInt8)} {T : Tab} {n : Nat}, (∀ x ∈ T, okK x.1) → ∀ x ∈ (dropS owner T ks n).1, okK x.1
  | [], T, n, h => h
  | k :: ks, T, n, h => by
    simp only [dropS]
    cases aget k T == some owner with
    | true => exact dropS_keys fun x hx => h x (adel_sub x hx)
    | false => exact dropS_keys h
theorem dropS_nil {owner : Int} : ∀ {ks : List (List UInt8)} {n : Nat}, (dropS owner [] ks n).1 = []
  | [], n => rfl
  | k :: ks, n => by simp [dropS, aget, dropS_nil (ks := ks)]
theorem keys2 (a b : List UInt8) : keysC [a, b] = a.map u8 ++ b.map u8 := by simp [keysC]

section
variable {r : Option Nat} {Q : Post} {n : Nat} {l : Slots} {ds : List Nat} {G : Heap} {L : Locs} {ops : Array Oper} {rest : List Oper} {ty : TypeId} {pos : String} {af : Array Edge} {g : Option (Nat × Bool)}
theorem tab_up {G : Heap} {L : Locs} {bt bm : Nat} {T : Tab} (wf : Wf G L) (h1 : bt ∉ L.map (·.1)) (h2 : bm ∉ L.map (·.1)) : Wf (setTab G bt (some bm) T) L ∧ ov (setTab G bt (some bm) T) L = setTab (ov G L) bt (some bm) T := by
  obtain ⟨w1, e1⟩ := ov_set_base (V := .cells [.map (some bm)] 86) wf h1
  obtain ⟨w2, e2⟩ := ov_set_base (V := tabT T) w1 h2
  exact ⟨w2, by simp only [setTab]; rw [e2, e1]⟩
theorem WPL.tabTakeN {d : Option Tmp} {c : Operand} {args : Array Operand} {ats : Array TypeId} {bt bs N cap : Nat} {T : Tab} {owner : Int} {ks : List (List UInt8)} (hT : TabIn G bt none T) (ho : ¬ owner < 1) (hks : ∀ k ∈ ks, okK k) (hn : ks.length ≤ 1000000) (hw : wantedL ops l g = some true)
    (hc : evL l c = some (.func (.func 22) #[] #[])) (ha : evs l args.toList = some [ptr bt 0, .int .i64 owner, .slice (some ⟨bs, 0, none⟩) ks.length cap]) (hr : InR G L bs (.row 0 (keysC ks) 30 N))
    (K : ∀ bm, G bm = none → WPL Tryz.prog r ops rest Q ⟨n, putL d (.tuple ⟨[num (takeS owner T ks 0).2.1, num (takeS owner T ks 0).2.2]⟩) l, ds⟩ (setTab G bt (some bm) (takeS owner T ks 0).1) L) :
    WPL Tryz.prog r ops (⟨d, .call ⟨.value c, args, ats⟩, ty, pos, af, g⟩ :: rest) Q ⟨n, l, ds⟩ G L :=
  WPL.wf fun wf => WPL.ev hw hc ha (fun wf => cTakeN bt none T owner ks bs N cap hks hn _ (hT.up wf) ho rfl (hr wf)) fun v H' ⟨bm, h1, h2, h3⟩ => by
    subst h2
    refine ⟨setTab G bt (some bm) (takeS owner T ks 0).1, L, fun wf => ?_, K bm (ov_none h1).2⟩
    obtain ⟨w1, e1⟩ := tab_up (T := (takeS owner T ks 0).1) wf (base_out wf hT.s) (none_out h1)
    exact ⟨w1, by rw [e1, h3]; exact Sub.refl _⟩
theorem WPL.tabTakeS {d : Option Tmp} {c : Operand} {args : Array Operand} {ats : Array TypeId} {bt bm bs N cap : Nat} {T : Tab} {owner : Int} {ks : List (List UInt8)} (hT : TabIn G bt (some bm) T) (ho : ¬ owner < 1) (hks : ∀ k ∈ ks, okK k) (hn : ks.length ≤ 1000000) (hw : wantedL ops l g = some true)
    (hc : evL l c = some (.func (.func 22) #[] #[])) (ha : evs l args.toList = some [ptr bt 0, .int .i64 owner, .slice (some ⟨bs, 0, none⟩) ks.length cap]) (hr : InR G L bs (.row 0 (keysC ks) 30 N))
    (K : WPL Tryz.prog r ops rest Q ⟨n, putL d (.tuple ⟨[num (takeS owner T ks 0).2.1, num (takeS owner T ks 0).2.2]⟩) l, ds⟩ (setTab G bt (some bm) (takeS owner T ks 0).1) L) :
    WPL Tryz.prog r ops (⟨d, .call ⟨.value c, args, ats⟩, ty, pos, af, g⟩ :: rest) Q ⟨n, l, ds⟩ G L :=
  WPL.ev hw hc ha (fun wf => cTakeS bt (some bm) T owner ks bs N cap hks hn _ (hT.up wf) ho bm rfl (hr wf)) fun v H' ⟨h2, h3⟩ => by
    subst h2
    refine ⟨setTab G bt (some bm) (takeS owner T ks 0).1, L, fun wf => ?_, K⟩
    obtain ⟨w1, e1⟩ := tab_up (T := (takeS owner T ks 0).1) wf (base_out wf hT.s) (base_out wf (hT.m bm rfl))
    exact ⟨w1, by rw [e1, h3]; exact Sub.refl _⟩
theorem WPL.tabDrop {d : Option Tmp} {c : Operand} {args : Array Operand} {ats : Array TypeId} {bt bs N cap : Nat} {o : Option Nat} {T : Tab} {owner : Int} {ks : List (List UInt8)} (hT : TabIn G bt o T) (hks : ∀ k ∈ ks, okK k) (hn : ks.length ≤ 1000000) (hw : wantedL ops l g = some true)
    (hc : evL l c = some (.func (.func 21) #[] #[])) (ha : evs l args.toList = some [ptr bt 0, .int .i64 owner, .slice (some ⟨bs, 0, none⟩) ks.length cap]) (hr : InR G L bs (.row 0 (keysC ks) 30 N))
    (K : WPL Tryz.prog r ops rest Q ⟨n, putL d (num (dropS owner T ks 0).2) l, ds⟩ (setTab G bt o (dropS owner T ks 0).1) L) :
    WPL Tryz.prog r ops (⟨d, .call ⟨.value c, args, ats⟩, ty, pos, af, g⟩ :: rest) Q ⟨n, l, ds⟩ G L :=
  WPL.ev hw hc ha (fun wf => cDrop bt o T owner ks bs N cap hks hn _ (hT.up wf) (hr wf)) fun v H' ⟨h2, h3⟩ => by
    subst h2
    refine ⟨setTab G bt o (dropS owner T ks 0).1, L, fun wf => ?_, K⟩
    cases o with
    | none => exact ⟨wf, by rw [h3]; exact Sub.refl _⟩
    | some bm =>
      obtain ⟨w1, e1⟩ := tab_up (T := (dropS owner T ks 0).1) wf (base_out wf hT.s) (base_out wf (hT.m bm rfl))
      exact ⟨w1, by rw [e1, h3]; exact Sub.refl _⟩
end
theorem setTab2 {H : Heap} {bt bm : Nat} {T T' : Tab} : setTab (setTab H bt (some bm) T) bt (some bm) T' = setTab H bt (some bm) T' := by
  funext x
  simp only [setTab, Heap.set]
  by_cases h1 : x = bm <;> by_cases h2 : x = bt <;> simp [h1, h2]
theorem sub_known {H : Heap} {bt bm : Nat} {V : View} {T : Tab} {L : Locs} (hf : H bt = none) (hbm : (H.set bt V) bm = none) (wf : Wf (setTab (H.set bt V) bt (some bm) T) L) : Sub H (ov (setTab (H.set bt V) bt (some bm) T) L) := by
  intro b W hb
  refine InR.base ?_ wf
  have h1 : b ≠ bt := fun e => by subst e; rw [hf] at hb; cases hb
  have h2 : b ≠ bm := fun e => by subst e; simp only [Heap.set, if_neg h1] at hbm; rw [hbm] at hb; cases hb
  rw [setTab_other h1 h2]; simp only [Heap.set, if_neg h1]; exact hb
def kA : List UInt8 := 1 :: List.replicate 24 0
def kB : List UInt8 := 1 :: 1 :: List.replicate 23 0
def kC : List UInt8 := 1 :: 2 :: List.replicate 23 0
def tT1 : Tab := [(kA, 1), (kB, 1)]
def tT2 : Tab := [(kA, 1), (kB, 1), (kC, 2)]
theorem t1_is : takeS 1 [] [kA, kB] 0 = (tT1, 2, 0) := by decide +kernel
theorem t2_is : takeS 2 tT1 [kC, kB] 0 = (tT2, 1, 11) := by decide +kernel
theorem t3_is : aget kC tT2 = some 2 := by decide +kernel
theorem t4_is : (dropS 2 tT2 [kB, kC] 0).2 = 1 := by decide +kernel
theorem okABC : okK kA ∧ okK kB ∧ okK kC := ⟨rfl, rfl, rfl⟩
theorem ok2 {a b : List UInt8} (ha : okK a) (hb : okK b) : ∀ k ∈ [a, b], okK k := by
  intro k hk
  simp only [List.mem_cons, List.mem_nil_iff, or_false] at hk
  rcases hk with rfl | rfl
  · exact ha
  · exact hb

set_option maxHeartbeats 400000 in
theorem cKnown16 (H : Heap) : EvP Tryz.prog 31 [] H (.bool true) := by
  refine Ev.enter Tryz.func31 rfl ent31 ?_
  refine WP.seq ?_
  refine WP.region rfl ?_
  refine WPL.p (PS.assign rfl) ?_
  refine WPL.nil ?_
  refine WP.seq ?_
  refine WP.region rfl ?_
  refine WPL.nw (V := .cells [.map none] 86) (NS.allocL (by rfl)) ?_
  intro b1
  refine WPL.nil ?_
  refine WP.seq ?_
  refine WP.absorb (fun hf => ?_)
  have hT : TabIn (H.set b1 (.cells [.map none] 86)) b1 none [] := ⟨Heap.set_at, (fun bm e => by cases e), fun _ => rfl, by simp⟩
  refine WP.region rfl ?_
  refine WPL.p (PS.build (cs := kA.map u8) rfl rfl) ?_
  refine WPL.p (PS.build (cs := kB.map u8) rfl rfl) ?_
  refine WPL.p (PS.build (cs := kC.map u8) rfl rfl) ?_
  refine WPL.nw (V := .cells ((List.replicate 25 (0 : UInt8)).map u8) 30) (NS.allocL (by rfl)) ?_
  intro b2
  refine WPL.nw (V := .cells ((List.replicate 25 (0 : UInt8)).map u8) 30) (NS.allocL (by rfl)) ?_
  intro b3
  refine WPL.nw (V := .cells ((List.replicate 25 (0 : UInt8)).map u8) 30) (NS.allocL (by rfl)) ?_
  intro b4
  refine WPL.sA (m := 25) rfl rfl (UpdR.there (UpdR.there UpdR.here)) rfl (one_u8 kA) (View.write_whole rfl) ?_
  refine WPL.sA (m := 25) rfl rfl (UpdR.there UpdR.here) rfl (one_u8 kB) (View.write_whole rfl) ?_
  refine WPL.sA (m := 25) rfl rfl UpdR.here rfl (one_u8 kC) (View.write_whole rfl) ?_
  refine WPL.nil ?_
  refine WP.seq ?_
  refine WP.region rfl ?_
  refine WPL.p (PS.loadAgg rfl (InR.there (InR.there (InR.here))) (View.take_whole rfl)) ?_
  refine WPL.p (PS.loadAgg rfl (InR.there (InR.here)) (View.take_whole rfl)) ?_
  refine WPL.nw (NS.buildSlice (n := 25) (cs := keysC [kA, kB]) rfl (by decide) (by rfl) (by rw [keys2]; exact fill_two rfl rfl (by rfl))) ?_
  intro b17
  refine WPL.tabTakeN (ks := [kA, kB]) hT (by decide) (ok2 okABC.1 okABC.2.1) (by decide) rfl rfl rfl InR.here ?_
  intro bm hbm
  rw [t1_is]
  have hT1 := hT.set (T' := tT1) (.inr hbm) (by intro x hx; simp only [tT1, List.mem_cons, List.mem_nil_iff, or_false] at hx; rcases hx with rfl | rfl <;> rfl)
  refine WPL.p (PS.move rfl) ?_
  refine WPL.p (PS.extract rfl rfl) ?_
  refine WPL.p (PS.extract rfl rfl) ?_
  refine WPL.p (PS.assign rfl) ?_
  refine WPL.p (PS.assign rfl) ?_
  refine WPL.nil ?_
  refine WP.seq ?_
  refine WP.region rfl ?_
  refine WPL.p (PS.loadAgg rfl (InR.there (InR.here)) (View.take_whole rfl)) ?_
  refine WPL.p (PS.loadAgg rfl (InR.there (InR.there (InR.here))) (View.take_whole rfl)) ?_
  refine WPL.nw (NS.buildSlice (n := 25) (cs := keysC [kC, kB]) rfl (by decide) (by rfl) (by rw [keys2]; exact fill_two rfl rfl (by rfl))) ?_
  intro b24
  refine WPL.tabTakeS (ks := [kC, kB]) hT1 (by decide) (ok2 okABC.2.2 okABC.2.1) (by decide) rfl rfl rfl InR.here ?_
  rw [t2_is, setTab2]
  have hT2 := hT.set (T' := tT2) (.inr hbm) (by intro x hx; simp only [tT2, List.mem_cons, List.mem_nil_iff, or_false] at hx; rcases hx with rfl | rfl | rfl <;> rfl)
  refine WPL.p (PS.move rfl) ?_
  refine WPL.p (PS.extract rfl rfl) ?_
  refine WPL.p (PS.extract rfl rfl) ?_
  refine WPL.p (PS.assign rfl) ?_
  refine WPL.p (PS.assign rfl) ?_
  refine WPL.nil ?_
  refine WP.seq ?_
  refine WP.region rfl ?_
  refine WPL.p (PS.loadAgg rfl (InR.there (InR.there (InR.here))) (View.take_whole rfl)) ?_
  refine WPL.cl rfl rfl (fun wf => by have := cOwner b1 (some bm) tT2 kC rfl; rw [t3_is] at this; exact this _ (hT2.up wf)) ?_
  refine WPL.p (PS.move rfl) ?_
  refine WPL.p (PS.extract rfl rfl) ?_
  refine WPL.p (PS.extract rfl rfl) ?_
  refine WPL.p (PS.assign rfl) ?_
  refine WPL.p (PS.assign rfl) ?_
  refine WPL.nil ?_
  refine WP.seq ?_
  refine WP.region rfl ?_
  refine WPL.p (PS.move rfl) ?_
  refine WPL.p (PS.binInt rfl rfl rfl) ?_
  refine WPL.p (PS.move rfl) ?_
  refine WPL.ps rfl (PS.move rfl) ?_
  refine WPL.ps rfl (PS.binInt rfl rfl rfl) ?_
  refine WPL.p (PS.pickAnd rfl (fun _ => rfl) rfl) ?_
  refine WPL.p (PS.move rfl) ?_
  refine WPL.ps rfl (PS.move rfl) ?_
  refine WPL.ps rfl (PS.binInt rfl rfl rfl) ?_
  refine WPL.p (PS.pickAnd rfl (fun _ => rfl) rfl) ?_
  refine WPL.p (PS.move rfl) ?_
  refine WPL.ps rfl (PS.move rfl) ?_
  refine WPL.ps rfl (PS.binInt rfl rfl rfl) ?_
  refine WPL.p (PS.pickAnd rfl (fun _ => rfl) rfl) ?_
  refine WPL.p (PS.move rfl) ?_
  refine WPL.ps rfl (PS.move rfl) ?_
  refine WPL.ps rfl (PS.binInt rfl rfl rfl) ?_
  refine WPL.p (PS.pickAnd rfl (fun _ => rfl) rfl) ?_
  refine WPL.p (PS.move rfl) ?_
  refine WPL.ps rfl (PS.move rfl) ?_
  refine WPL.p (PS.pickAnd rfl (fun _ => rfl) rfl) ?_
  refine WPL.p (PS.move rfl) ?_
  refine WPL.ps rfl (PS.loadAgg rfl (InR.there (InR.there (InR.there InR.here))) (View.take_whole rfl)) ?_
  refine WPL.ps rfl (PS.loadAgg rfl (InR.there (InR.there InR.here)) (View.take_whole rfl)) ?_
  refine WPL.ns rfl (NS.buildSlice (n := 25) (cs := keysC [kB, kC]) rfl (by decide) (by rfl) (by rw [keys2]; exact fill_two rfl rfl (by rfl))) ?_
  intro b57
  refine WPL.tabDrop (ks := [kB, kC]) hT2 (ok2 okABC.2.1 okABC.2.2) (by decide) rfl rfl rfl InR.here ?_
  rw [t4_is, setTab2]
  refine WPL.ps rfl (PS.binInt rfl rfl rfl) ?_
  refine WPL.p (PS.pickAnd rfl (fun _ => rfl) rfl) ?_
  refine WPL.p (PS.assign rfl) ?_
  refine WPL.nil ?_
  refine WP.ret ?_
  refine RetQ.end (.inr rfl) ((fun wf => sub_known hf hbm wf)) ⟨_, (res1 (resT rfl) res0), ?_⟩
  exact ⟨rfl, rfl⟩

end Go.Proofs.YtfoakjdnopljmaaGreatDoor

set_option linter.unusedVariables false
set_option linter.unusedSimpArgs false
set_option maxRecDepth 100000
namespace Go.Proofs.YtfoakjdnopljmaaGreatDoor
open Go Go.Proofs

abbrev Act16 := Bool × Int × List UInt8 × List UInt8
def actC (x : Act16) : List Value := [.bool x.1, .int .i64 x.2.1] ++ (x.2.2.1.map u8 ++ x.2.2.2.map u8)
def okA (x : Act16) : Prop := okK x.2.2.1 ∧ okK x.2.2.2
theorem act_len {x : Act16} (h : okA x) : (actC x).length = 52 := by
  have h1 : x.2.2.1.length = 25 := h.1
  have h2 : x.2.2.2.length = 25 := h.2
  simp [actC, h1, h2]
theorem act_one (x : Act16) : (actC x).all (·.oneCell') = true := by
  have h1 := one_u8 x.2.2.1
  have h2 := one_u8 x.2.2.2
  simp only [actC, List.all_append, h1, h2]; rfl
theorem act_keys {x : Act16} {e : TypeId} (h : okA x) : (View.cells (actC x) e).take 2 25 = some (x.2.2.1.map u8) ∧ (View.cells (actC x) e).take 27 25 = some (x.2.2.2.map u8) := by
  have h1 : (x.2.2.1.map u8).length = 25 := by simpa [okK] using h.1
  have h2 : (x.2.2.2.map u8).length = 25 := by simpa [okK] using h.2
  constructor
  · have := take_mid (A := [.bool x.1, .int .i64 x.2.1]) (M := x.2.2.1.map u8) (Z := x.2.2.2.map u8) (o := 2) (n := 25) (e := e) rfl h1
    rwa [List.append_assoc] at this
  · have := take_mid (A := [.bool x.1, .int .i64 x.2.1] ++ x.2.2.1.map u8) (M := x.2.2.2.map u8) (Z := []) (o := 27) (n := 25) (e := e) (by simp at h1 ⊢; omega) h2
    rw [List.append_nil, List.append_assoc] at this; exact this
theorem pair_take {a b : List UInt8} {e : TypeId} {j : Nat} (ha : okK a) (hb : okK b) (hj : j < 2) : (View.cells (keysC [a, b]) e).take (0 + (j : Int).toNat * 25) 25 = some (([a, b].getD j []).map u8) := by
  have h1 : (a.map u8).length = 25 := by simpa [okK] using ha
  have h2 : (b.map u8).length = 25 := by simpa [okK] using hb
  rw [keys2]
  rcases (show j = 0 ∨ j = 1 by omega) with rfl | rfl
  · have := take_mid (A := []) (M := a.map u8) (Z := b.map u8) (o := 0) (n := 25) (e := e) rfl h1
    exact this
  · have := take_mid (A := a.map u8) (M := b.map u8) (Z := []) (o := 25) (n := 25) (e := e) h1 h2
    rw [List.append_nil] at this; exact this
theorem pair_ok {a b : List UInt8} {j : Nat} (ha : okK a) (hb : okK b) (hj : j < 2) : okK ([a, b].getD j []) := by
  rcases (show j = 0 ∨ j = 1 by omega) with rfl | rfl
  · exact ha
  · exact hb
theorem foldL_end {out : Bool} {owner : Int} {a b : List UInt8} {j : Nat} {s : Tab × Nat × Nat} (hj : j ≤ 2) (h : (decide ((j : Int) < 2) && ((s.2.2 : Int) == 0)) = false) : foldL out owner ([a, b].drop j) s = s := by
  simp only [Bool.and_eq_false_iff, decide_eq_false_iff_not] at h
  rcases h with h | h
  · have : j = 2 := by omega
    subst this; rfl
  · exact foldL_stop (by simp at h; omega) _

/-! ### The table lies among the blocks that were there -/
def G0 (H : Heap) (bt : Nat) : Heap := H.set bt (.cells [.map none] 86)
theorem tabG {H : Heap} {bt : Nat} {o : Option Nat} {T : Tab} (hz : o = none → T = []) (hm : ∀ bm, o = some bm → G0 H bt bm = none) (hk : ∀ x ∈ T, okK x.1) : TabIn (setTab (G0 H bt) bt o T) bt o T := by
  have h0 : TabIn (G0 H bt) bt none [] := ⟨Heap.set_at, (fun bm e => by cases e), fun _ => rfl, by simp⟩
  cases o with
  | none => rw [hz rfl]; exact h0
  | some bm => exact h0.set (.inr (hm bm rfl)) hk
theorem keepG {H : Heap} {bt b : Nat} {o : Option Nat} {T : Tab} {V : View} (hf : H bt = none) (hm : ∀ bm, o = some bm → G0 H bt bm = none) (h : H b = some V) : setTab (G0 H bt) bt o T b = some V := by
  have h1 : b ≠ bt := fun e => by subst e; rw [hf] at h; cases h
  have h3 : G0 H bt b = some V := by simp only [G0, Heap.set, if_neg h1]; exact h
  cases o with
  | none => exact h3
  | some bm =>
    have h2 : b ≠ bm := fun e => by subst e; rw [hm b rfl] at h3; cases h3
    rw [setTab_other h1 h2]; exact h3
theorem subG {H : Heap} {bt : Nat} {o : Option Nat} {T : Tab} {L : Locs} (hf : H bt = none) (hm : ∀ bm, o = some bm → G0 H bt bm = none) (wf : Wf (setTab (G0 H bt) bt o T) L) : Sub H (ov (setTab (G0 H bt) bt o T) L) :=
  fun b V h => InR.base (keepG hf hm h) wf
theorem setTabO {H : Heap} {bt : Nat} {o : Option Nat} {T T' : Tab} : setTab (setTab H bt o T) bt o T' = setTab H bt o T' := by
  cases o with
  | none => rfl
  | some bm => exact setTab2
section
variable {r : Option Nat} {Q : Post} {n : Nat} {l : Slots} {ds : List Nat} {H : Heap} {L : Locs} {ops : Array Oper} {rest : List Oper} {ty : TypeId} {pos : String} {af : Array Edge} {g : Option (Nat × Bool)}
theorem WPL.tabTake {d : Option Tmp} {c : Operand} {args : Array Operand} {ats : Array TypeId} {bt bs N cap : Nat} {o : Option Nat} {T : Tab} {owner : Int} {ks : List (List UInt8)} (hz : o = none → T = []) (hm : ∀ bm, o = some bm → G0 H bt bm = none) (hkT : ∀ x ∈ T, okK x.1)
    (ho : ¬ owner < 1) (hks : ∀ k ∈ ks, okK k) (hn : ks.length ≤ 1000000) (hw : wantedL ops l g = some true)
    (hc : evL l c = some (.func (.func 22) #[] #[])) (ha : evs l args.toList = some [ptr bt 0, .int .i64 owner, .slice (some ⟨bs, 0, none⟩) ks.length cap]) (hr : InR (setTab (G0 H bt) bt o T) L bs (.row 0 (keysC ks) 30 N))
    (K : ∀ bm, G0 H bt bm = none → WPL Tryz.prog r ops rest Q ⟨n, putL d (.tuple ⟨[num (takeS owner T ks 0).2.1, num (takeS owner T ks 0).2.2]⟩) l, ds⟩ (setTab (G0 H bt) bt (some bm) (takeS owner T ks 0).1) L) :
    WPL Tryz.prog r ops (⟨d, .call ⟨.value c, args, ats⟩, ty, pos, af, g⟩ :: rest) Q ⟨n, l, ds⟩ (setTab (G0 H bt) bt o T) L := by
  have hT := tabG (H := H) (bt := bt) hz hm hkT
  cases o with
  | none => exact WPL.tabTakeN hT ho hks hn hw hc ha hr fun bm hb => K bm hb
  | some bm =>
    refine WPL.tabTakeS hT ho hks hn hw hc ha hr ?_
    rw [setTab2]; exact K bm (hm bm rfl)
end
def newL (is : Bool) (S : Locs) : Locs := bif is then S else []
theorem newL_ok {G H' : Heap} {L : Locs} {a : Option Addr} {c : Nat} {l l' : Tab} {is : Bool} {sv : Value} (h : NewL (ov G L) H' a c l l' is sv) : Wf G L →
    Wf G (newL is (slL sv (isC l') 126 26) ++ L) ∧ Sub (ov G (newL is (slL sv (isC l') 126 26) ++ L)) H' ∧ Sub (ov G L) (ov G (newL is (slL sv (isC l') 126 26) ++ L)) := fun wf => by
  rcases h with ⟨rfl, rfl, rfl, rfl⟩ | ⟨rfl, h1, h2, rfl⟩
  · exact ⟨wf, Sub.refl _, Sub.refl _⟩
  · obtain ⟨w, e⟩ := ov_slL (H := G) wf h2
    exact ⟨w, by show Sub (ov G (slL sv (isC l') _ 26 ++ L)) _; rw [e]; exact Sub.refl _, (wf_sublist (List.sublist_append_right _ _) w).2⟩
theorem newL_own {H H' : Heap} {a : Option Addr} {c : Nat} {l l' : Tab} {is : Bool} {sv : Value} (h : NewL H H' a c l l' is sv) (hO : Own (.slice a l.length c) (isC l) 26 l.length) : Own sv (isC l') 26 l'.length := by
  rcases h with ⟨rfl, rfl, rfl, rfl⟩ | ⟨rfl, h1, h2, rfl⟩
  · exact hO
  · exact h1
theorem newL_drop {H H' : Heap} {a : Option Addr} {c : Nat} {l l' : Tab} {is : Bool} {sv : Value} (h : NewL H H' a c l l' is sv) {G : Heap} {B : Locs} :
    Wf G (newL is (slL sv (isC l') 126 26) ++ (slL (.slice a l.length c) (isC l) 126 26 ++ B)) →
      Wf G (slL sv (isC l') 126 26 ++ B) ∧ Sub (ov G (slL sv (isC l') 126 26 ++ B)) (ov G (newL is (slL sv (isC l') 126 26) ++ (slL (.slice a l.length c) (isC l) 126 26 ++ B))) := by
  rcases h with ⟨rfl, rfl, rfl, rfl⟩ | ⟨rfl, h1, h2, rfl⟩
  · exact wf_same
  · exact wf_sub (List.Sublist.append (List.Sublist.refl _) (List.sublist_append_right _ _))
theorem rTake_keys {l : Tab} {owner : Int} {k : List UInt8} (hk : okK k) (h : ∀ x ∈ l, okK x.1) : (∀ x ∈ (rTake l owner k).1, okK x.1) ∧ (rTake l owner k).1.length ≤ l.length + 1 := by
  simp only [rTake]
  cases !rightB k with
  | true => exact ⟨h, by simp⟩
  | false =>
    cases (aget k l).getD 0 == owner with
    | true => exact ⟨h, by simp⟩
    | false =>
      cases decide ((aget k l).getD 0 > 0) with
      | true => exact ⟨h, by simp⟩
      | false =>
        simp only [cond_false]
        refine ⟨fun x hx => ?_, ?_⟩
        · have := (ins_perm (k := k) (o := owner) l).mem_iff.1 hx
          rcases List.mem_append.1 this with hx | hx
          · exact h x hx
          · rw [List.mem_singleton.1 hx]; exact hk
        · have := (ins_perm (k := k) (o := owner) l).length_eq; simp at this; omega
theorem rDrop_keys {l : Tab} {owner : Int} {k : List UInt8} (h : ∀ x ∈ l, okK x.1) : (∀ x ∈ (rDrop owner k l).1, okK x.1) ∧ (rDrop owner k l).1.length ≤ l.length + 1 := by
  have := (rDrop_perm (owner := owner) (k := k) (l := l)).2.2
  exact ⟨fun x hx => h x (this.subset hx), by have := this.length_le; omega⟩
theorem foldL_drop {owner : Int} {a b : List UInt8} {j : Nat} {l : Tab} {n : Nat} (hj : j < 2) : foldL true owner ([a, b].drop j) (l, n, 0) = foldL true owner ([a, b].drop (j + 1)) ((rDrop owner ([a, b].getD j []) l).1, (bif (rDrop owner ([a, b].getD j []) l).2 then n + 1 else n), 0) := by
  rw [drop_get (d := []) (by simpa using hj)]; rfl
theorem foldL_take {owner : Int} {a b : List UInt8} {j : Nat} {l : Tab} {n : Nat} (hj : j < 2) : foldL false owner ([a, b].drop j) (l, n, 0) = foldL false owner ([a, b].drop (j + 1)) ((rTake l owner ([a, b].getD j [])).1, (bif (rTake l owner ([a, b].getD j [])).2.1 then n + 1 else n), (rTake l owner ([a, b].getD j [])).2.2) := by
  rw [drop_get (d := []) (by simpa using hj)]; rfl
theorem perm3 {x y z : Nat × View} {S : Locs} : (x :: y :: (S ++ [z])).Perm (S ++ (x :: y :: [z])) := by
  have h1 : (x :: y :: (S ++ [z])).Perm (([x, y] ++ S) ++ [z]) := by simp
  refine h1.trans ?_
  have h2 : (([x, y] ++ S) ++ [z]).Perm ((S ++ [x, y]) ++ [z]) := (List.perm_append_comm).append_right _
  exact h2.trans (by simp)

/-! ### What the law compares -/
theorem Rel.e2 {T l : Tab} (h : Rel T l) (k : List UInt8) : ((aget k T).getD 0 != (aget k l).getD 0) = false := by rw [h.get k]; simp
theorem Rel.e7 {T l : Tab} (h : Rel T l) (k : List UInt8) : (!((aget k T).isSome == decide ((aget k l).getD 0 > 0))) = false := by
  rw [h.get k]
  cases hg : aget k T with
  | none => rfl
  | some o =>
    have : 1 ≤ o := h.pos _ (aget_mem hg)
    have : decide ((some o).getD 0 > 0) = true := by simp; omega
    rw [this]; rfl
theorem e21 (ks : List (List UInt8)) : (!((!ks.isEmpty) == decide ((ks.length : Int) > 0))) = false := by cases ks <;> simp
theorem e32 {ks : List (List UInt8)} (h : ∀ k ∈ ks, okK k) : ((!ks.isEmpty) && !cellsEq (rkb (ks.headD (List.replicate 25 0))) (rkb (ks.getD 0 []))) = false := by
  cases ks with
  | nil => rfl
  | cons x r =>
    have : cellsEq (rkb x) (rkb x) = true := by rw [cellsEq_rkb (h x (List.mem_cons_self ..)) (h x (List.mem_cons_self ..))]; simp
    show (true && !cellsEq (rkb x) (rkb x)) = false
    rw [this]; rfl
theorem e41 (ks : List (List UInt8)) : ((!!ks.isEmpty) && !cellsEq ((ks.headD (List.replicate 25 0)).map u8) ((List.replicate 25 (0 : UInt8)).map u8)) = false := by
  cases ks with
  | nil => rw [cellsEq_u8]; simp
  | cons x r => rfl
theorem head_ok {ks : List (List UInt8)} (h : ∀ k ∈ ks, okK k) : okK (ks.headD (List.replicate 25 0)) := by
  cases ks with
  | nil => rfl
  | cons x r => exact h x (List.mem_cons_self ..)
theorem e16 {os : List Int} (h : os.Pairwise (· < ·)) {j : Nat} (hj : j < os.length) : (decide ((j : Int) > 0) && decide (os.getD (j - 1) 0 ≥ os.getD j 0)) = false := by
  rw [Bool.and_eq_false_iff]
  by_cases h0 : 0 < j
  · right
    have := List.pairwise_iff_getElem.1 h (j - 1) j (by omega) hj (by omega)
    rw [List.getD_eq_getElem?_getD, List.getD_eq_getElem?_getD, List.getElem?_eq_getElem hj, List.getElem?_eq_getElem (show j - 1 < os.length by omega)]
    simp; omega
  · left; simp; omega
theorem sum_snoc {os : List Int} {f : Int → Nat} {j : Nat} (hj : j < os.length) : ((os.take (j + 1)).map f).sum = ((os.take j).map f).sum + f (os.getD j 0) := by
  rw [take_snoc (d := 0) hj]; simp
theorem sum_take_le {os : List Int} {f : Int → Nat} {n : Nat} : ((os.take n).map f).sum ≤ (os.map f).sum := by
  conv => rhs; rw [← List.take_append_drop n os, List.map_append, List.sum_append]
  exact Nat.le_add_right _ _
theorem len_ne0 {n : Nat} (h : 0 < n) : ((n : Int) == 0) = false := by
  rw [beq_eq_false_iff_ne]; omega
theorem bne_self (x : Int) : (x != x) = false := by simp

end Go.Proofs.YtfoakjdnopljmaaGreatDoor

set_option linter.unusedVariables false
set_option linter.unusedSimpArgs false
set_option maxRecDepth 100000
namespace Go.Proofs.YtfoakjdnopljmaaGreatDoor
open Go Go.Proofs

set_option maxHeartbeats 2000000 in
theorem cIntentPlays (a : Option Addr) (b off c : Nat) (V : View) (acts : List Act16) (k : List UInt8) (hk : okK k) (owner : Int) (hn : acts.length ≤ 9223372036854775807) (hok : ∀ x ∈ acts, okA x) (H : Heap) (hA : 0 < acts.length → a = some ⟨b, off, none⟩ ∧ H b = some V ∧ ∀ i, i < acts.length → V.take (off + i * 52) 52 = some (actC (acts.getD i (false, 0, [], [])))) : EvP Tryz.prog 4 [.slice a acts.length c, nm k, .int .i64 owner] H (.bool true) := by
  refine Ev.enter Tryz.func4 rfl ent4 ?_
  refine WP.seq ?_
  refine WP.region rfl ?_
  refine WPL.nw (NS.boxA rfl) ?_
  intro b4
  refine WPL.p (PS.assign rfl) ?_
  refine WPL.nil ?_
  refine WP.seq ?_
  refine WP.region rfl ?_
  refine WPL.nw (V := .cells [.map none] 86) (NS.allocL (by rfl)) ?_
  intro b7
  refine WPL.nil ?_
  refine WP.seq ?_
  have hkl : (k.map u8).length = 25 := by simpa [okK] using hk
  refine WP.absorb (fun hf0 => ?_)
  have hf : H b7 = none := hf0
  clear hf0
  refine WP.region rfl ?_
  refine WPL.p (PS.assign rfl) ?_
  refine WPL.nil ?_
  refine WP.seq ?_
  refine WP.seq ?_
  refine WP.region rfl ?_
  refine WPL.p (PS.assign rfl) ?_
  refine WPL.nil ?_
  refine WP.block ?_
  refine WP.whileV (ι := Nat × Option Nat × Tab × Value × Tab) (fun s => [(0, .slice a acts.length c), (2, .int .i64 owner), (4, ptr b4 0), (7, ptr b7 0), (8, s.2.2.2.1), (9, num s.1)]) (fun s => setTab (G0 H b7) b7 s.2.1 s.2.2.1) (fun s => slL s.2.2.2.1 (isC s.2.2.2.2) 126 26 ++ [(b4, .cells (k.map u8) 30)])
    (fun s => s.1 ≤ acts.length ∧ s.1 ≤ 60 ∧ Rel s.2.2.1 s.2.2.2.2 ∧ Own s.2.2.2.1 (isC s.2.2.2.2) 26 s.2.2.2.2.length ∧ (s.2.1 = none → s.2.2.1 = []) ∧ (∀ bm, s.2.1 = some bm → G0 H b7 bm = none) ∧ s.2.2.1.length ≤ 2 * s.1) (fun s => acts.length - s.1) (0, none, [], .slice none 0 0, []) ⟨rfl, rfl, rfl, rfl, rfl, rfl, trivial⟩
    ⟨by simp, by simp, Rel.nil, Own.nil, fun _ => rfl, (fun bm e => by cases e), by simp⟩ wf_same ?_
  rintro ⟨i, o, T, sv, l⟩ ⟨hi, hi60, hRel, hO, hz, hm, hTl⟩
  simp only at hi hi60 hRel hO hz hm hTl ⊢
  refine WP.seq ?_
  refine WP.seq ?_
  refine WP.region rfl ?_
  refine WPL.p (PS.move rfl) ?_
  refine WPL.p (PS.move rfl) ?_
  refine WPL.p (PS.lenSlice rfl) ?_
  refine WPL.p (PS.binInt rfl rfl rfl) ?_
  refine WPL.p (PS.move rfl) ?_
  refine WPL.c (Wants.yes rfl rfl rfl) (fun hb => (PS.move rfl)) ?_
  refine WPL.c (Wants.yes rfl rfl rfl) (fun hb => (PS.binInt (gt hb rfl) rfl rfl)) ?_
  refine WPL.p (PS.pickAnd rfl (fun hc => gt hc rfl) rfl) ?_
  refine WPL.nil ?_
  refine WP.ifs rfl ?_ ?_
  · intro h0
    have q : i < acts.length ∧ i < 60 := by
      simp only [Bool.and_eq_true, decide_eq_true_eq] at h0; omega
    obtain ⟨haa, hbV, hVt⟩ := hA (by omega)
    subst haa
    have hbV' := keepG (o := o) (T := T) hf hm hbV
    obtain ⟨out, ow, ka, kb, hx, hka, hkb⟩ : ∃ out ow ka kb, acts.getD i (false, 0, [], []) = (out, ow, ka, kb) ∧ okK ka ∧ okK kb := ⟨_, _, _, _, rfl, (hok _ (getD_mem q.1)).1, (hok _ (getD_mem q.1)).2⟩
    have hVi := hVt i q.1
    rw [hx] at hVi
    have hAk : okA (out, ow, ka, kb) := ⟨hka, hkb⟩
    have hAl := act_len hAk
    obtain ⟨hta, htb⟩ := act_keys (e := 89) hAk
    have hla : (ka.map u8).length = 25 := by simpa [okK] using hka
    have hlb : (kb.map u8).length = 25 := by simpa [okK] using hkb
    have hTab := tabG (H := H) (bt := b7) hz hm hRel.ok
    refine WP.skip ?_
    refine WP.seq ?_
    refine WP.block ?_
    refine WP.seq ?_
    refine WP.region rfl ?_
    refine WPL.p (PS.move rfl) ?_
    refine WPL.p (PS.move rfl) ?_
    refine WPL.p (PS.indexAddr rfl rfl (by omega) (by omega)) ?_
    refine WPL.p (PS.loadAgg (n := 52) rfl (InR.base hbV') (by rw [Int.toNat_natCast]; exact hVi)) ?_
    refine WPL.nw NS.alloc ?_
    intro b10
    refine WPL.sA (m := 52) rfl rfl UpdR.here hAl (act_one _) (View.write_whole (by rw [hAl]; rfl)) ?_
    refine WPL.nil ?_
    refine WP.seq ?_
    refine WP.region rfl ?_
    refine WPL.p (PS.fieldAddr rfl) ?_
    refine WPL.p (PS.loadAgg (n := 25) rfl InR.here hta) ?_
    refine WPL.p (PS.fieldAddr rfl) ?_
    refine WPL.p (PS.loadAgg (n := 25) rfl InR.here htb) ?_
    refine WPL.p (PS.build (cs := keysC [ka, kb]) rfl (by rw [keys2]; exact fill_two (n := 25) hla hlb (by rfl))) ?_
    refine WPL.nw NS.alloc ?_
    intro b11
    have hKl : (keysC [ka, kb]).length = 50 := by rw [keys2]; simp at hla hlb ⊢; omega
    have hK1 : (keysC [ka, kb]).all (·.oneCell') = true := by have h1 := one_u8 ka; have h2 := one_u8 kb; simp only [keys2, List.all_append, h1, h2]; rfl
    refine WPL.sA (m := 50) rfl rfl UpdR.here hKl hK1 (View.write_whole (by rw [hKl]; rfl)) ?_
    refine WPL.nil ?_
    refine WP.seq ?_
    refine WP.region rfl ?_
    refine WPL.p (PS.assign rfl) ?_
    refine WPL.p (PS.assign rfl) ?_
    refine WPL.nil ?_
    refine WP.seq ?_
    refine WP.seq ?_
    have hF : out = true ∨ (out = false ∧ ow < 1) ∨ (out = false ∧ ¬ ow < 1) := by
      cases out with
      | true => exact .inl rfl
      | false => by_cases h : ow < 1
                 · exact .inr (.inl ⟨rfl, h⟩)
                 · exact .inr (.inr ⟨rfl, h⟩)
    rcases hF with hF | ⟨hF, hlt⟩ | ⟨hF, hlt⟩
    · subst hF
      have he : (decide (ow < 1) && !true) = false := by simp
      obtain ⟨R, hR⟩ : ∃ R, foldL true ow [ka, kb] (l, 0, 0) = R := ⟨_, rfl⟩
      refine WP.region rfl ?_
      refine WPL.p (PS.fieldAddr rfl) ?_
      refine WPL.p (PS.load rfl (InR.there InR.here) rfl) ?_
      refine WPL.p (PS.binInt rfl rfl rfl) ?_
      refine WPL.p (PS.move rfl) ?_
      refine WPL.c (Wants.yes rfl rfl rfl) (fun hb => (PS.fieldAddr rfl)) ?_
      refine WPL.c (Wants.yes rfl rfl rfl) (fun hb => (PS.load (gt hb rfl) (InR.there InR.here) rfl)) ?_
      refine WPL.c (Wants.yes rfl rfl rfl) (fun hb => (PS.not (gt hb rfl))) ?_
      refine WPL.p (PS.pickAnd rfl (fun hc => gt hc rfl) rfl) ?_
      rw [he]
      refine WPL.nil ?_
      refine WP.nope rfl ?_
      refine WP.skip ?_
      refine WP.seq ?_
      refine WP.seq ?_
      refine WP.region rfl ?_
      refine WPL.p (PS.assign rfl) ?_
      refine WPL.nil ?_
      refine WP.block ?_
      refine WP.whileV (ι := Nat × Value × Tab × Nat × Nat) (fun s => [(0, .slice (some ⟨b, off, none⟩) acts.length c), (2, .int .i64 owner), (4, ptr b4 0), (7, ptr b7 0), (9, num i), (10, ptr b10 0), (11, ptr b11 0), (8, s.2.1), (12, num s.2.2.2.1), (13, num s.2.2.2.2), (14, num s.1)]) (fun s => setTab (G0 H b7) b7 o T)
        (fun s => slL s.2.1 (isC s.2.2.1) 126 26 ++ ((b11, .cells (keysC [ka, kb]) 90) :: (b10, .cells (actC (true, ow, ka, kb)) 89) :: [(b4, .cells (k.map u8) 30)]))
        (fun s => s.1 ≤ 2 ∧ foldL true ow ([ka, kb].drop s.1) (s.2.2.1, s.2.2.2.1, s.2.2.2.2) = R ∧ Own s.2.1 (isC s.2.2.1) 26 s.2.2.1.length ∧ (∀ x ∈ s.2.2.1, okK x.1) ∧ s.2.2.1.length ≤ 2 * i + s.1 ∧ s.2.2.2.1 ≤ s.1 ∧ (false = true → s.2.2.2.2 = 5)) (fun s => 2 - s.1) (0, sv, l, 0, 0) ⟨rfl, rfl, rfl, rfl, rfl, rfl, rfl, rfl, rfl, rfl, rfl, trivial⟩
        ⟨by simp, hR, hO, hRel.lok, by have := hRel.len; simp; omega, by simp, (fun e => by cases e)⟩ (wf_perm2 perm3) ?_
      rintro ⟨j, sv1, l1, n, want⟩ ⟨hj2, hfold, hO1, hlk1, hln1, hnj, hwB⟩
      simp only at hj2 hfold hO1 hlk1 hln1 hnj hwB ⊢
      obtain ⟨a1, b1, c1, hsv, ha1, hc1, hin⟩ := slIn_own2 hO1
      subst hsv
      refine WP.seq ?_
      refine WP.seq ?_
      refine WP.region rfl ?_
      refine WPL.p (PS.move rfl) ?_
      refine WPL.p (PS.binInt rfl rfl rfl) ?_
      refine WPL.p (PS.move rfl) ?_
      refine WPL.c (Wants.yes rfl rfl rfl) (fun hb => (PS.move rfl)) ?_
      refine WPL.c (Wants.yes rfl rfl rfl) (fun hb => (PS.binInt (gt hb rfl) rfl rfl)) ?_
      refine WPL.p (PS.pickAnd rfl (fun hc => gt hc rfl) rfl) ?_
      refine WPL.nil ?_
      refine WP.ifs rfl ?_ ?_
      · intro h2
        have hjw : j < 2 ∧ want = 0 := by
          simp only [Bool.and_eq_true, decide_eq_true_eq, beq_iff_eq] at h2; omega
        obtain ⟨hj, hw0⟩ := hjw
        subst hw0
        have hkj := pair_ok hka hkb hj
        refine WP.skip ?_
        refine WP.seq ?_
        refine WP.block ?_
        refine WP.seq ?_
        refine WP.region rfl ?_
        refine WPL.p (PS.assign rfl) ?_
        refine WPL.nil ?_
        refine WP.seq ?_
        refine WP.seq ?_
        refine WP.region rfl ?_
        refine WPL.p (PS.fieldAddr rfl) ?_
        refine WPL.p (PS.load rfl (InR.skip (InR.there InR.here) _) rfl) ?_
        refine WPL.nil ?_
        refine WP.yes rfl ?_
        refine WP.draw 12 mixed (by kernel_rfl) rfl ?_
        refine Scr.ps (i := 0) rfl rfl rfl rfl (PS.move rfl) ?_
        refine Scr.ps (i := 1) rfl rfl rfl rfl (PS.fieldAddr rfl) ?_
        refine Scr.ps (i := 2) rfl rfl rfl rfl (PS.load rfl (InR.skip (InR.there InR.here) _) rfl) ?_
        refine Scr.ps (i := 3) rfl rfl rfl rfl (PS.move rfl) ?_
        refine Scr.ps (i := 4) rfl rfl rfl rfl (PS.indexAddrArr rfl rfl (by omega) (by omega)) ?_
        refine Scr.ps (i := 5) rfl rfl rfl rfl (PS.loadAgg (n := 25) rfl (InR.skip InR.here _) (pair_take hka hkb hj)) ?_
        refine Scr.cl (i := 6) rfl rfl rfl rfl rfl (fun wf => cvulgatelaw06_Of _ hkj _) late0 ?_
        refine Scr.ev (i := 7) rfl rfl rfl rfl rfl rfl (fun wf => cRDrop a1 b1 c1 l1 hlk1 (by omega) ow _ hkj _ (hin _ [] _ wf)) late0 ?_
        rintro v73 H73 ⟨sv2, hv73, hN⟩
        subst hv73
        refine ⟨_, newL_ok hN, ?_⟩
        have hO2 := newL_own hN hO1
        have hwf2 := fun G B => newL_drop hN (G := G) (B := B)
        clear hN
        refine Scr.ps (i := 8) rfl rfl rfl rfl (PS.move rfl) ?_
        refine Scr.ps (i := 9) rfl rfl rfl rfl (PS.extract rfl rfl) ?_
        refine Scr.ps (i := 10) rfl rfl rfl rfl (PS.extract rfl rfl) ?_
        refine Scr.ps (i := 11) rfl rfl rfl rfl (PS.assign rfl) ?_
        refine Scr.end ?_
        refine WPL.p (PS.assign rfl) ?_
        refine WPL.nil ?_
        refine WP.seq ?_
        refine WP.region rfl ?_
        refine WPL.p (PS.move rfl) ?_
        refine WPL.nil ?_
        refine WP.ifs rfl ?_ ?_
        · intro h4
          refine WP.region rfl ?_
          refine WPL.p (PS.move rfl) ?_
          refine WPL.p (PS.arith rfl rfl (.inl ⟨rfl, rfl⟩) (wrap_i64 (by omega) (by omega))) ?_
          refine WPL.p (PS.assign rfl) ?_
          refine WPL.nil ?_
          refine WP.region rfl ?_
          refine WPL.p (PS.move rfl) ?_
          refine WPL.p (PS.arith rfl rfl (.inl ⟨rfl, rfl⟩) (wrap_i64 (by omega) (by omega))) ?_
          refine WPL.p (PS.assign rfl) ?_
          refine WPL.nil ?_
          have h4' : (rDrop ow ([ka, kb].getD j []) l1).2 = true := h4
          have hkk := rDrop_keys (owner := ow) (k := [ka, kb].getD j []) hlk1
          exact ⟨(j + 1, sv2, (rDrop ow ([ka, kb].getD j []) l1).1, n + 1, 0), by simp <;> omega, ⟨by simp <;> omega, by rw [← hfold, foldL_drop hj, h4'] <;> rfl, hO2, hkk.1, by have := hkk.2; show (rDrop ow ([ka, kb].getD j []) l1).1.length ≤ 2 * i + (j + 1); omega, by simp <;> omega, (fun e => by cases e)⟩, rfl, rfl, ⟨rfl, rfl, rfl, rfl, rfl, rfl, rfl, rfl, rfl, rfl, rfl, trivial⟩, hwf2 _ _⟩
        · intro h4
          refine WP.skip ?_
          refine WP.region rfl ?_
          refine WPL.p (PS.move rfl) ?_
          refine WPL.p (PS.arith rfl rfl (.inl ⟨rfl, rfl⟩) (wrap_i64 (by omega) (by omega))) ?_
          refine WPL.p (PS.assign rfl) ?_
          refine WPL.nil ?_
          have h4' : (rDrop ow ([ka, kb].getD j []) l1).2 = false := h4
          have hkk := rDrop_keys (owner := ow) (k := [ka, kb].getD j []) hlk1
          exact ⟨(j + 1, sv2, (rDrop ow ([ka, kb].getD j []) l1).1, n, 0), by simp <;> omega, ⟨by simp <;> omega, by rw [← hfold, foldL_drop hj, h4'] <;> rfl, hO2, hkk.1, by have := hkk.2; show (rDrop ow ([ka, kb].getD j []) l1).1.length ≤ 2 * i + (j + 1); omega, by simp <;> omega, (fun e => by cases e)⟩, rfl, rfl, ⟨rfl, rfl, rfl, rfl, rfl, rfl, rfl, rfl, rfl, rfl, rfl, trivial⟩, hwf2 _ _⟩
      · intro h2
        have hRe : R = (l1, n, want) := by rw [← hfold]; exact foldL_end hj2 h2
        subst hRe
        obtain ⟨hRel0, hcnt, hw⟩ := drop_law [ka, kb] T l 0 hRel (owner := ow)
        rw [hR] at hRel0 hcnt hw
        simp only at hRel0 hcnt hw
        refine WP.exit ?_
        refine WP.seq ?_
        refine WP.seq ?_
        refine WP.region rfl ?_
        refine WPL.p (PS.fieldAddr rfl) ?_
        refine WPL.p (PS.load rfl (InR.skip (InR.there InR.here) _) rfl) ?_
        refine WPL.p (PS.move rfl) ?_
        refine WPL.ps rfl (PS.fieldAddr rfl) ?_
        refine WPL.ps rfl (PS.load rfl (InR.skip (InR.there InR.here) _) rfl) ?_
        refine WPL.ps rfl (PS.fieldAddr rfl) ?_
        refine WPL.ps rfl (PS.loadAgg (n := 25) rfl (InR.skip (InR.there InR.here) _) hta) ?_
        refine WPL.ps rfl (PS.fieldAddr rfl) ?_
        refine WPL.ps rfl (PS.loadAgg (n := 25) rfl (InR.skip (InR.there InR.here) _) htb) ?_
        refine WPL.ns rfl (NS.buildSlice (n := 25) (cs := keysC [ka, kb]) rfl (by decide) (by rfl) (by rw [keys2]; exact fill_two hla hlb (by rfl))) ?_
        intro b100
        refine WPL.tabDrop (ks := [ka, kb]) hTab (ok2 hka hkb) (by simp) rfl rfl rfl InR.here ?_
        rw [setTabO, hcnt]
        have hz2 : o = none → (dropS ow T [ka, kb] 0).1 = [] := fun e => by rw [hz e]; exact dropS_nil
        have hTab2 := tabG (H := H) (bt := b7) hz2 hm hRel0.ok
        have hm2 := hm
        have hTl2 : (dropS ow T [ka, kb] 0).1.length ≤ 2 * (i + 1) := by have := hRel0.len; omega
        have hRel2 := hRel0
        generalize (dropS ow T [ka, kb] 0).1 = T2 at hTab2 hRel2 hz2 hTl2 ⊢
        refine WPL.ps rfl (PS.move rfl) ?_
        refine WPL.ps rfl (PS.binInt rfl rfl rfl) ?_
        rw [bne_self]
        refine WPL.p (PS.pickAnd rfl (fun _ => rfl) rfl) ?_
        refine WPL.nil ?_
        refine WP.nope rfl ?_
        refine WP.skip ?_
        refine WP.seq ?_
        refine WP.seq ?_
        refine WP.region rfl ?_
        refine WPL.p (PS.fieldAddr rfl) ?_
        refine WPL.p (PS.load rfl (InR.there (InR.skip (InR.there InR.here) _)) rfl) ?_
        refine WPL.p (PS.not rfl) ?_
        refine WPL.nil ?_
        refine WP.nope rfl ?_
        refine WP.skip ?_
        refine WP.seq ?_
        refine WP.region rfl ?_
        refine WPL.p (PS.loadAgg (n := 25) rfl (InR.there (InR.skip (InR.there (InR.there InR.here)) _)) (View.take_whole hkl)) ?_
        refine WPL.cl rfl rfl (fun wf => cOwner b7 o T2 k hk _ (hTab2.up wf)) ?_
        refine WPL.p (PS.move rfl) ?_
        refine WPL.p (PS.extract rfl rfl) ?_
        refine WPL.p (PS.extract rfl rfl) ?_
        refine WPL.p (PS.assign rfl) ?_
        refine WPL.p (PS.assign rfl) ?_
        refine WPL.nil ?_
        refine WP.seq ?_
        refine WP.region rfl ?_
        refine WPL.p (PS.move rfl) ?_
        refine WPL.p (PS.loadAgg (n := 25) rfl (InR.there (InR.skip (InR.there (InR.there InR.here)) _)) (View.take_whole hkl)) ?_
        refine WPL.cl rfl rfl (fun wf => cvulgatelaw06_Of k hk _) ?_
        refine WPL.cl rfl rfl (fun wf => cROwner a1 b1 c1 l1 hlk1 (by omega) k hk _ (hin _ [_] _ wf)) ?_
        refine WPL.p (PS.assign rfl) ?_
        refine WPL.nil ?_
        refine WP.seq ?_
        refine WP.region rfl ?_
        refine WPL.p (PS.move rfl) ?_
        refine WPL.ev rfl rfl rfl (fun wf => cFirst b7 o T2 owner (by omega) _ (hTab2.up wf)) ?_
        rintro v138 H138 ⟨ks1, hp1, hs1, hv138, hH138⟩
        subst hv138
        have hk1 := hRel2.owned_eq hp1 hs1
        subst hk1
        refine ⟨_, _, fun wf => ⟨wf, by rw [hH138]; exact Sub.refl _⟩, ?_⟩
        have hokO := owned_mem (owner := owner) hlk1
        have hh := head_ok hokO
        have hhl : (((owned owner l1).headD (List.replicate 25 0)).map u8).length = 25 := by simpa [okK] using hh
        refine WPL.p (PS.move rfl) ?_
        refine WPL.p (PS.extract rfl rfl) ?_
        refine WPL.p (PS.extract rfl rfl) ?_
        refine WPL.nw NS.alloc ?_
        intro b21
        refine WPL.sA (m := 25) rfl rfl UpdR.here hhl (one_u8 _) (View.write_whole (by rw [hhl]; rfl)) ?_
        refine WPL.p (PS.assign rfl) ?_
        refine WPL.nil ?_
        refine WP.seq ?_
        refine WP.region rfl ?_
        refine WPL.p (PS.move rfl) ?_
        refine WPL.p (PS.move rfl) ?_
        refine WPL.sl rfl rfl (fun wf => cROf a1 b1 c1 l1 hlk1 (by omega) owner _ (hin _ [_, _] _ wf)) ?_
        intro v143 cs143 m143 hO143 hR143
        obtain ⟨hcs, hms⟩ := hR143
        subst hcs hms
        obtain ⟨a3, b3, c3, hv3, ha3, hc3, hin3⟩ := slIn_own2 hO143
        subst hv3
        refine WPL.p (PS.assign rfl) ?_
        refine WPL.nil ?_
        refine WP.seq ?_
        refine WP.seq ?_
        refine WP.draw 49 mixed (by kernel_rfl) rfl ?_
        refine Scr.ps (i := 0) rfl rfl rfl rfl (PS.move rfl) ?_
        refine Scr.ps (i := 1) rfl rfl rfl rfl (PS.move rfl) ?_
        refine Scr.ps (i := 2) rfl rfl rfl rfl (PS.binInt rfl rfl rfl) ?_
        rw [hRel2.e2 k]
        refine Scr.ps (i := 3) rfl rfl rfl rfl (PS.move rfl) ?_
        refine Scr.ps (i := 4) rfl rfl rfl rfl (PS.move rfl) ?_
        refine Scr.ps (i := 5) rfl rfl rfl rfl (PS.move rfl) ?_
        refine Scr.ps (i := 6) rfl rfl rfl rfl (PS.binInt rfl rfl rfl) ?_
        refine Scr.ps (i := 7) rfl rfl rfl rfl (PS.eqBool rfl rfl rfl) ?_
        rw [hRel2.e7 k]
        refine Scr.ps (i := 8) rfl rfl rfl rfl (PS.pickOr rfl rfl (fun _ => rfl)) ?_
        refine Scr.ps (i := 9) rfl rfl rfl rfl (PS.move rfl) ?_
        refine Scr.ps (i := 10) rfl rfl rfl rfl (PS.move rfl) ?_
        refine Scr.ps (i := 12) rfl rfl rfl rfl (PS.move rfl) ?_
        refine Scr.sl (i := 11) rfl rfl rfl rfl rfl rfl (fun wf => cOf b7 o T2 owner (by omega) _ (hTab2.up wf)) late0 ?_
        intro v155 cs155 m155 hO155 hR155
        obtain ⟨ks2, hcs2, hms2, hp2, hs2⟩ := hR155
        have hk2 := hRel2.owned_eq hp2 hs2
        subst hk2 hcs2 hms2
        obtain ⟨a4, b4', c4, hv4, ha4, hc4, hin4⟩ := slIn_own2 hO155
        subst hv4
        refine Scr.clg (i := 13) rfl rfl rfl rfl rfl rfl (fun wf => cKeys a4 a3 b4' b3 c4 c3 _ _ hokO hokO (by have := owned_le owner l1; omega) _ (hin4 _ [] _ wf) (hin3 _ (slL _ _ _ _) _ wf)) late0 ?_
        refine Scr.ps (i := 14) rfl rfl rfl rfl (PS.not rfl) ?_
        rw [show (!(owned owner l1 == owned owner l1)) = false by simp]
        refine Scr.ps (i := 15) rfl rfl rfl rfl (PS.pickOr rfl rfl (fun _ => rfl)) ?_
        refine Scr.ps (i := 16) rfl rfl rfl rfl (PS.move rfl) ?_
        refine Scr.ps (i := 17) rfl rfl rfl rfl (PS.move rfl) ?_
        refine Scr.ps (i := 18) rfl rfl rfl rfl (PS.move rfl) ?_
        refine Scr.ps (i := 19) rfl rfl rfl rfl (PS.lenSlice rfl) ?_
        refine Scr.ps (i := 20) rfl rfl rfl rfl (PS.binInt rfl rfl rfl) ?_
        refine Scr.ps (i := 21) rfl rfl rfl rfl (PS.eqBool rfl rfl rfl) ?_
        rw [e21]
        refine Scr.ps (i := 22) rfl rfl rfl rfl (PS.pickOr rfl rfl (fun _ => rfl)) ?_
        refine Scr.ps (i := 23) rfl rfl rfl rfl (PS.move rfl) ?_
        refine Scr.ps (i := 24) rfl rfl rfl rfl (PS.move rfl) ?_
        refine Scr.ps (i := 25) rfl rfl rfl rfl (PS.move rfl) ?_
        refine Scr.c (i := 26) rfl rfl rfl (Wants.yes rfl rfl rfl) (fun hb => PS.loadAgg (n := 25) rfl (InR.skip (InR.skip InR.here _) _) (View.take_whole hhl)) ?_
        refine Scr.c (i := 28) rfl rfl rfl (Wants.yes rfl rfl rfl) (fun hb => (PS.move rfl)) ?_
        refine Scr.c (i := 29) (v := ptr b3 (0 + (0 : Int).toNat * 25)) rfl rfl rfl (Wants.yes rfl rfl rfl) (fun hb => ?_) ?_
        · have hpos : 0 < (owned owner l1).length := by
            have hb : (!(owned owner l1).isEmpty) = true := hb
            cases ho : owned owner l1 with
            | nil => rw [ho] at hb; cases hb
            | cons x r => simp
          have ha := ha3 hpos
          subst ha
          exact PS.indexAddr (gt hb rfl) rfl (by omega) (by omega)
        refine Scr.c (i := 30) (v := .agg ⟨rkb ((owned owner l1).getD 0 [])⟩) rfl rfl rfl (Wants.yes rfl rfl rfl) (fun hb => ?_) ?_
        · have hpos : 0 < (owned owner l1).length := by
            have hb : (!(owned owner l1).isEmpty) = true := hb
            cases ho : owned owner l1 with
            | nil => rw [ho] at hb; cases hb
            | cons x r => simp
          have ha := ha3 hpos
          exact PS.loadAgg (n := 25) (gt hb rfl) (InR.skip (slIn_inr (A := []) hin3 hpos) _) (rkb_take (i := 0) hokO hpos)
        refine Scr.clc (i := 27) rfl rfl rfl rfl (Wants.yes rfl rfl rfl) (fun hb => rfl) (fun hb => (evsC (gt hb rfl) rfl)) (fun hb wf => cvulgatelaw06_Of _ hh _) late0 ?_
        refine Scr.c (i := 31) (v := .bool (!cellsEq (rkb ((owned owner l1).headD (List.replicate 25 0))) (rkb ((owned owner l1).getD 0 [])))) rfl rfl rfl (Wants.yes rfl rfl rfl) (fun hb => ?_) ?_
        · have hpos : 0 < (owned owner l1).length := by
            have hb : (!(owned owner l1).isEmpty) = true := hb
            cases ho : owned owner l1 with
            | nil => rw [ho] at hb; cases hb
            | cons x r => simp
          have ha := ha3 hpos
          exact PS.eqFlatN (gt hb rfl) (gt hb rfl) (fits_rkb hh) (fits_rkb (hokO _ (getD_mem hpos)))
        refine Scr.ps (i := 32) rfl rfl rfl rfl (PS.pickAnd rfl (fun hc => gt hc rfl) rfl) ?_
        rw [e32 hokO]
        refine Scr.ps (i := 33) rfl rfl rfl rfl (PS.pickOr rfl rfl (fun _ => rfl)) ?_
        refine Scr.ps (i := 34) rfl rfl rfl rfl (PS.move rfl) ?_
        refine Scr.ps (i := 35) rfl rfl rfl rfl (PS.move rfl) ?_
        refine Scr.ps (i := 36) rfl rfl rfl rfl (PS.not rfl) ?_
        refine Scr.ps (i := 37) rfl rfl rfl rfl (PS.move rfl) ?_
        refine Scr.c (i := 38) rfl rfl rfl (Wants.yes rfl rfl rfl) (fun hb => PS.loadAgg (n := 25) rfl (InR.skip (InR.skip InR.here _) _) (View.take_whole hhl)) ?_
        refine Scr.c (i := 39) rfl rfl rfl (Wants.yes rfl rfl rfl) (fun hb => PS.build (cs := (List.replicate 25 (0 : UInt8)).map u8) rfl rfl) ?_
        refine Scr.c (i := 40) rfl rfl rfl (Wants.yes rfl rfl rfl) (fun hb => PS.eqFlatN (gt hb rfl) (gt hb rfl) (fits_u8' (n := 25) hh) (fits_u8' (n := 25) rfl)) ?_
        refine Scr.ps (i := 41) rfl rfl rfl rfl (PS.pickAnd rfl (fun hc => gt hc rfl) rfl) ?_
        rw [e41]
        refine Scr.ps (i := 42) rfl rfl rfl rfl (PS.pickOr rfl rfl (fun _ => rfl)) ?_
        refine Scr.ps (i := 43) rfl rfl rfl rfl (PS.move rfl) ?_
        refine Scr.ps (i := 45) rfl rfl rfl rfl (PS.move rfl) ?_
        refine Scr.ps (i := 46) rfl rfl rfl rfl (PS.lenSlice rfl) ?_
        refine Scr.clg (i := 44) rfl rfl rfl rfl rfl rfl (fun wf => cLen b7 o T2 _ (hTab2.up wf)) late0 ?_
        refine Scr.ps (i := 47) rfl rfl rfl rfl (PS.binInt rfl rfl rfl) ?_
        rw [show (((T2.length : Nat) : Int) != ((l1.length : Nat) : Int)) = false by rw [hRel2.len]; simp]
        refine Scr.ps (i := 48) rfl rfl rfl rfl (PS.pickOr rfl rfl (fun _ => rfl)) ?_
        refine Scr.end ?_
        refine WPL.nil ?_
        refine WP.nope rfl ?_
        refine WP.skip ?_
        refine WP.seq ?_
        refine WP.region rfl ?_
        refine WPL.p (PS.assign rfl) ?_
        refine WPL.nil ?_
        refine WP.seq ?_
        refine WP.region rfl ?_
        refine WPL.sl rfl rfl (fun wf => cOwners b7 o T2 (by omega) _ (hTab2.up wf)) ?_
        intro v193 cs193 m193 hO193 hR193
        obtain ⟨os0, hpo, hcs3, hms3⟩ := hR193
        obtain ⟨hos1, hos2, hos3⟩ := hRel2.owners hpo
        subst hcs3 hms3
        have hoslen : (Lib.compact (os0.mergeSort fun x y => decide (x ≤ y))).length ≤ 1000000000 := by
          have h1 := Lib.compact_length_le (os0.mergeSort fun x y => decide (x ≤ y))
          have h2 := hpo.length_eq
          simp only [List.length_map, List.length_mergeSort] at h1 h2
          omega
        generalize Lib.compact (os0.mergeSort fun x y => decide (x ≤ y)) = os at hO193 hos1 hos2 hos3 hoslen ⊢
        obtain ⟨a5, b5, c5, hv5, ha5, hc5, hin5⟩ := slIn_own2 hO193
        subst hv5
        refine WPL.p (PS.assign rfl) ?_
        refine WPL.nil ?_
        refine WP.seq ?_
        refine WP.seq ?_
        refine WP.drop (L' := slL (.slice a5 os.length c5) (os.map (Value.int .i64)) 3 1 ++ (slL (.slice a1 l1.length c1) (isC l1) 126 26 ++ [(b4, .cells (k.map u8) 30)])) (List.Sublist.append (List.Sublist.refl _) ((List.Sublist.trans (List.Sublist.trans (List.Sublist.cons _ (List.Sublist.cons _ (List.Sublist.append (List.Sublist.refl _) (List.Sublist.cons _ (List.Sublist.cons _ (List.Sublist.refl _)))))) (List.sublist_append_right _ _)) (List.sublist_append_right _ _)))) ?_
        refine WP.region rfl ?_
        refine WPL.p (PS.assign rfl) ?_
        refine WPL.nil ?_
        refine WP.block ?_
        refine WP.whileV (ι := Nat × Nat) (fun s => [(0, .slice (some ⟨b, off, none⟩) acts.length c), (2, .int .i64 owner), (4, ptr b4 0), (7, ptr b7 0), (9, num i), (8, .slice a1 l1.length c1), (24, num s.2), (25, .slice a5 os.length c5), (26, num s.1)]) (fun s => setTab (G0 H b7) b7 o T2) (fun s => slL (.slice a5 os.length c5) (os.map (Value.int .i64)) 3 1 ++ (slL (.slice a1 l1.length c1) (isC l1) 126 26 ++ [(b4, .cells (k.map u8) 30)]))
          (fun s => s.1 ≤ os.length ∧ s.2 = ((os.take s.1).map fun o => (owned o l1).length).sum) (fun s => os.length - s.1) (0, 0) ⟨rfl, rfl, rfl, rfl, rfl, rfl, rfl, rfl, rfl, trivial⟩ ⟨by simp, rfl⟩ wf_same ?_
        rintro ⟨j', sum⟩ ⟨hj', hsum⟩
        simp only at hj' hsum ⊢
        refine WP.seq ?_
        refine WP.seq ?_
        refine WP.region rfl ?_
        refine WPL.p (PS.move rfl) ?_
        refine WPL.p (PS.move rfl) ?_
        refine WPL.p (PS.lenSlice rfl) ?_
        refine WPL.p (PS.binInt rfl rfl rfl) ?_
        refine WPL.nil ?_
        refine WP.ifs rfl ?_ ?_
        · intro h8
          have qo : j' < os.length := by have := of_decide_eq_true h8; omega
          have hirO := slIn_inr (G := setTab (G0 H b7) b7 o T2) (A := []) (B := slL (.slice a1 l1.length c1) (isC l1) 126 26 ++ [(b4, .cells (k.map u8) 30)]) hin5 (by omega)
          have ha5' := ha5 (by omega)
          subst ha5'
          refine WP.skip ?_
          refine WP.seq ?_
          refine WP.block ?_
          refine WP.seq ?_
          refine WP.region rfl ?_
          refine WPL.p (PS.move rfl) ?_
          refine WPL.p (PS.move rfl) ?_
          refine WPL.p (PS.move rfl) ?_
          refine WPL.p (PS.indexAddr rfl rfl (by omega) (by omega)) ?_
          refine WPL.p (PS.load (v := .int .i64 (os.getD j' 0)) rfl hirO (cell_row _ qo)) ?_
          refine WPL.sl rfl rfl (fun wf => cROf a1 b1 c1 l1 hlk1 (by omega) (os.getD j' 0) _ (hin _ (slL _ _ _ _) _ wf)) ?_
          intro v205 cs205 m205 hO205 hR205
          obtain ⟨hcs6, hms6⟩ := hR205
          subst hcs6 hms6
          obtain ⟨a6, b6, c6, hv6, ha6, hc6, hin6⟩ := slIn_own2 (e := 51) hO205
          subst hv6
          have hol := owned_le (os.getD j' 0) l1
          have hsb : sum + (owned (os.getD j' 0) l1).length ≤ l1.length := by
            have h1 := sum_take_le (os := os) (f := fun o => (owned o l1).length) (n := j' + 1)
            rw [sum_snoc qo, hos3] at h1
            omega
          refine WPL.p (PS.lenSlice rfl) ?_
          refine WPL.p (PS.assign rfl) ?_
          refine WPL.nil ?_
          refine WP.seq ?_
          refine WP.region rfl ?_
          refine WPL.p (PS.move rfl) ?_
          refine WPL.p (PS.move rfl) ?_
          refine WPL.p (PS.arith rfl rfl (.inl ⟨rfl, rfl⟩) (wrap_i64 (by omega) (by omega))) ?_
          refine WPL.p (PS.assign rfl) ?_
          refine WPL.nil ?_
          refine WP.seq ?_
          refine WP.draw 18 mixed (by kernel_rfl) rfl ?_
          refine Scr.ps (i := 0) rfl rfl rfl rfl (PS.move rfl) ?_
          refine Scr.ps (i := 1) rfl rfl rfl rfl (PS.binInt rfl rfl rfl) ?_
          rw [show (((owned (os.getD j' 0) l1).length : Int) == 0) = false from len_ne0 (hos2 _ (getD_mem (d := 0) qo))]
          refine Scr.ps (i := 2) rfl rfl rfl rfl (PS.move rfl) ?_
          refine Scr.ps (i := 3) rfl rfl rfl rfl (PS.move rfl) ?_
          refine Scr.ps (i := 4) rfl rfl rfl rfl (PS.binInt rfl rfl rfl) ?_
          refine Scr.ps (i := 5) rfl rfl rfl rfl (PS.move rfl) ?_
          refine Scr.c (i := 6) rfl rfl rfl (Wants.yes rfl rfl rfl) (fun hb => (PS.move rfl)) ?_
          refine Scr.c (i := 7) rfl rfl rfl (Wants.yes rfl rfl rfl) (fun hb => (PS.move rfl)) ?_
          refine Scr.c (i := 8) rfl rfl rfl (Wants.yes rfl rfl rfl) (fun hb => (PS.arith (gt hb rfl) rfl (.inr (.inl ⟨rfl, rfl⟩)) (wrap_i64 (by omega) (by omega)))) ?_
          refine Scr.c (i := 9) (v := ptr b5 (0 + ((j' : Int) - 1).toNat * 1)) rfl rfl rfl (Wants.yes rfl rfl rfl) (fun hb => PS.indexAddr (gt hb rfl) (gt hb rfl) (by have := of_decide_eq_true hb; omega) (by have := of_decide_eq_true hb; omega)) ?_
          refine Scr.c (i := 10) (v := .int .i64 (os.getD (j' - 1) 0)) rfl rfl rfl (Wants.yes rfl rfl rfl) (fun hb => PS.load (gt hb rfl) (InR.skip hirO _) (by have := of_decide_eq_true hb; rw [show ((j' : Int) - 1) = ((j' - 1 : Nat) : Int) by omega]; exact cell_row _ (by omega))) ?_
          refine Scr.c (i := 11) rfl rfl rfl (Wants.yes rfl rfl rfl) (fun hb => (PS.move rfl)) ?_
          refine Scr.c (i := 12) rfl rfl rfl (Wants.yes rfl rfl rfl) (fun hb => (PS.move rfl)) ?_
          refine Scr.c (i := 13) (v := ptr b5 (0 + (j' : Int).toNat * 1)) rfl rfl rfl (Wants.yes rfl rfl rfl) (fun hb => PS.indexAddr (gt hb rfl) (gt hb rfl) (by omega) (by omega)) ?_
          refine Scr.c (i := 14) (v := .int .i64 (os.getD j' 0)) rfl rfl rfl (Wants.yes rfl rfl rfl) (fun hb => PS.load (gt hb rfl) (InR.skip hirO _) (cell_row _ qo)) ?_
          refine Scr.c (i := 15) rfl rfl rfl (Wants.yes rfl rfl rfl) (fun hb => (PS.binInt (gt hb rfl) (gt hb rfl) rfl)) ?_
          refine Scr.ps (i := 16) rfl rfl rfl rfl (PS.pickAnd rfl (fun hc => gt hc rfl) rfl) ?_
          rw [e16 hos1 qo]
          refine Scr.ps (i := 17) rfl rfl rfl rfl (PS.pickOr rfl rfl (fun _ => rfl)) ?_
          refine Scr.end ?_
          refine WPL.nil ?_
          refine WP.nope rfl ?_
          refine WP.skip ?_
          refine WP.region rfl ?_
          refine WPL.p (PS.move rfl) ?_
          refine WPL.p (PS.arith rfl rfl (.inl ⟨rfl, rfl⟩) (wrap_i64 (by omega) (by omega))) ?_
          refine WPL.p (PS.assign rfl) ?_
          refine WPL.nil ?_
          exact ⟨(j' + 1, sum + (owned (os.getD j' 0) l1).length), by simp <;> omega, ⟨by simp <;> omega, by rw [sum_snoc qo, hsum]⟩, rfl, rfl, ⟨rfl, rfl, rfl, rfl, rfl, rfl, rfl, rfl, rfl, trivial⟩, wf_sub (List.sublist_append_right _ _)⟩
        · intro h8
          have qo : j' = os.length := by have := of_decide_eq_false h8; omega
          have hsumE : sum = l1.length := by rw [hsum, qo, List.take_length, hos3]
          refine WP.exit ?_
          refine WP.seq ?_
          refine WP.region rfl ?_
          refine WPL.p (PS.move rfl) ?_
          refine WPL.p (PS.move rfl) ?_
          refine WPL.p (PS.lenSlice rfl) ?_
          refine WPL.p (PS.binInt rfl rfl rfl) ?_
          rw [show ((sum : Int) != (l1.length : Int)) = false by rw [hsumE]; simp]
          refine WPL.nil ?_
          refine WP.nope rfl ?_
          refine WP.skip ?_
          refine WP.region rfl ?_
          refine WPL.p (PS.move rfl) ?_
          refine WPL.p (PS.arith rfl rfl (.inl ⟨rfl, rfl⟩) (wrap_i64 (by omega) (by omega))) ?_
          refine WPL.p (PS.assign rfl) ?_
          refine WPL.nil ?_
          exact ⟨(i + 1, o, T2, .slice a1 l1.length c1, l1), by simp <;> omega, ⟨by simp <;> omega, by simp <;> omega, hRel2, hO1, hz2, hm2, hTl2⟩, rfl, rfl, ⟨rfl, rfl, rfl, rfl, rfl, rfl, trivial⟩, wf_sub (List.sublist_append_right _ _)⟩
    · subst hF
      have he : (decide (ow < 1) && !false) = true := by simp [hlt]
      obtain ⟨R, hR⟩ : ∃ R, foldL false ow [ka, kb] (l, 0, 5) = R := ⟨_, rfl⟩
      refine WP.region rfl ?_
      refine WPL.p (PS.fieldAddr rfl) ?_
      refine WPL.p (PS.load rfl (InR.there InR.here) rfl) ?_
      refine WPL.p (PS.binInt rfl rfl rfl) ?_
      refine WPL.p (PS.move rfl) ?_
      refine WPL.c (Wants.yes rfl rfl rfl) (fun hb => (PS.fieldAddr rfl)) ?_
      refine WPL.c (Wants.yes rfl rfl rfl) (fun hb => (PS.load (gt hb rfl) (InR.there InR.here) rfl)) ?_
      refine WPL.c (Wants.yes rfl rfl rfl) (fun hb => (PS.not (gt hb rfl))) ?_
      refine WPL.p (PS.pickAnd rfl (fun hc => gt hc rfl) rfl) ?_
      rw [he]
      refine WPL.nil ?_
      refine WP.yes rfl ?_
      refine WP.region rfl ?_
      refine WPL.p (PS.assign rfl) ?_
      refine WPL.nil ?_
      refine WP.seq ?_
      refine WP.seq ?_
      refine WP.region rfl ?_
      refine WPL.p (PS.assign rfl) ?_
      refine WPL.nil ?_
      refine WP.block ?_
      refine WP.whileV (ι := Nat × Value × Tab × Nat × Nat) (fun s => [(0, .slice (some ⟨b, off, none⟩) acts.length c), (2, .int .i64 owner), (4, ptr b4 0), (7, ptr b7 0), (9, num i), (10, ptr b10 0), (11, ptr b11 0), (8, s.2.1), (12, num s.2.2.2.1), (13, num s.2.2.2.2), (14, num s.1)]) (fun s => setTab (G0 H b7) b7 o T)
        (fun s => slL s.2.1 (isC s.2.2.1) 126 26 ++ ((b11, .cells (keysC [ka, kb]) 90) :: (b10, .cells (actC (false, ow, ka, kb)) 89) :: [(b4, .cells (k.map u8) 30)]))
        (fun s => s.1 ≤ 2 ∧ foldL false ow ([ka, kb].drop s.1) (s.2.2.1, s.2.2.2.1, s.2.2.2.2) = R ∧ Own s.2.1 (isC s.2.2.1) 26 s.2.2.1.length ∧ (∀ x ∈ s.2.2.1, okK x.1) ∧ s.2.2.1.length ≤ 2 * i + s.1 ∧ s.2.2.2.1 ≤ s.1 ∧ (true = true → s.2.2.2.2 = 5)) (fun s => 2 - s.1) (0, sv, l, 0, 5) ⟨rfl, rfl, rfl, rfl, rfl, rfl, rfl, rfl, rfl, rfl, rfl, trivial⟩
        ⟨by simp, hR, hO, hRel.lok, by have := hRel.len; simp; omega, by simp, (fun _ => rfl)⟩ (wf_perm2 perm3) ?_
      rintro ⟨j, sv1, l1, n, want⟩ ⟨hj2, hfold, hO1, hlk1, hln1, hnj, hwB⟩
      simp only at hj2 hfold hO1 hlk1 hln1 hnj hwB ⊢
      obtain ⟨a1, b1, c1, hsv, ha1, hc1, hin⟩ := slIn_own2 hO1
      subst hsv
      refine WP.seq ?_
      refine WP.seq ?_
      refine WP.region rfl ?_
      refine WPL.p (PS.move rfl) ?_
      refine WPL.p (PS.binInt rfl rfl rfl) ?_
      refine WPL.p (PS.move rfl) ?_
      refine WPL.c (Wants.yes rfl rfl rfl) (fun hb => (PS.move rfl)) ?_
      refine WPL.c (Wants.yes rfl rfl rfl) (fun hb => (PS.binInt (gt hb rfl) rfl rfl)) ?_
      refine WPL.p (PS.pickAnd rfl (fun hc => gt hc rfl) rfl) ?_
      refine WPL.nil ?_
      refine WP.ifs rfl ?_ ?_
      · intro h2
        exfalso
        have := hwB (by simp)
        subst this
        simp at h2
      · intro h2
        have hRe : R = (l1, n, want) := by rw [← hfold]; exact foldL_end hj2 h2
        subst hRe
        rw [foldL_stop (by simp)] at hR
        simp only [Prod.mk.injEq] at hR
        obtain ⟨hR1, hR2, hR3⟩ := hR
        subst l hR2 hR3
        have hRel2 := hRel
        have hTab2 := hTab
        have hz2 := hz
        have hm2 := hm
        have hTl2 : T.length ≤ 2 * (i + 1) := by omega
        refine WP.exit ?_
        refine WP.seq ?_
        refine WP.seq ?_
        refine WP.region rfl ?_
        refine WPL.p (PS.fieldAddr rfl) ?_
        refine WPL.p (PS.load rfl (InR.skip (InR.there InR.here) _) rfl) ?_
        refine WPL.p (PS.move rfl) ?_
        refine WPL.no rfl ?_
        refine WPL.no rfl ?_
        refine WPL.no rfl ?_
        refine WPL.no rfl ?_
        refine WPL.no rfl ?_
        refine WPL.no rfl ?_
        refine WPL.no rfl ?_
        refine WPL.no rfl ?_
        refine WPL.no rfl ?_
        refine WPL.no rfl ?_
        refine WPL.p (PS.pickAnd (a := false) (b := false) rfl (fun h => by cases h) rfl) ?_
        refine WPL.nil ?_
        refine WP.nope rfl ?_
        refine WP.skip ?_
        refine WP.seq ?_
        refine WP.seq ?_
        refine WP.region rfl ?_
        refine WPL.p (PS.fieldAddr rfl) ?_
        refine WPL.p (PS.load rfl (InR.skip (InR.there InR.here) _) rfl) ?_
        refine WPL.p (PS.not rfl) ?_
        refine WPL.nil ?_
        refine WP.yes rfl ?_
        refine WP.seq ?_
        refine WP.region rfl ?_
        refine WPL.p (PS.fieldAddr rfl) ?_
        refine WPL.p (PS.load rfl (InR.skip (InR.there InR.here) _) rfl) ?_
        refine WPL.p (PS.fieldAddr rfl) ?_
        refine WPL.p (PS.loadAgg (n := 25) rfl (InR.skip (InR.there InR.here) _) hta) ?_
        refine WPL.p (PS.fieldAddr rfl) ?_
        refine WPL.p (PS.loadAgg (n := 25) rfl (InR.skip (InR.there InR.here) _) htb) ?_
        refine WPL.nw (NS.buildSlice (n := 25) (cs := keysC [ka, kb]) rfl (by decide) (by rfl) (by rw [keys2]; exact fill_two hla hlb (by rfl))) ?_
        intro b100
        refine WPL.cl rfl rfl (fun wf => cTakeBad b7 ow _ hlt _) ?_
        refine WPL.p (PS.move rfl) ?_
        refine WPL.p (PS.extract rfl rfl) ?_
        refine WPL.p (PS.extract rfl rfl) ?_
        refine WPL.p (PS.assign rfl) ?_
        refine WPL.p (PS.assign rfl) ?_
        refine WPL.nil ?_
        refine WP.seq ?_
        refine WP.region rfl ?_
        refine WPL.p (PS.move rfl) ?_
        refine WPL.p (PS.move rfl) ?_
        refine WPL.p (PS.binInt rfl rfl rfl) ?_
        rw [bne_self]
        refine WPL.p (PS.move rfl) ?_
        refine WPL.ps rfl (PS.move rfl) ?_
        refine WPL.ps rfl (PS.move rfl) ?_
        refine WPL.ps rfl (PS.binInt rfl rfl rfl) ?_
        rw [bne_self]
        refine WPL.p (PS.pickOr rfl rfl (fun _ => rfl)) ?_
        refine WPL.nil ?_
        refine WP.nope rfl ?_
        refine WP.skip ?_
        refine WP.seq ?_
        refine WP.region rfl ?_
        refine WPL.p (PS.loadAgg (n := 25) rfl (InR.there (InR.skip (InR.there (InR.there InR.here)) _)) (View.take_whole hkl)) ?_
        refine WPL.cl rfl rfl (fun wf => cOwner b7 o T k hk _ (hTab2.up wf)) ?_
        refine WPL.p (PS.move rfl) ?_
        refine WPL.p (PS.extract rfl rfl) ?_
        refine WPL.p (PS.extract rfl rfl) ?_
        refine WPL.p (PS.assign rfl) ?_
        refine WPL.p (PS.assign rfl) ?_
        refine WPL.nil ?_
        refine WP.seq ?_
        refine WP.region rfl ?_
        refine WPL.p (PS.move rfl) ?_
        refine WPL.p (PS.loadAgg (n := 25) rfl (InR.there (InR.skip (InR.there (InR.there InR.here)) _)) (View.take_whole hkl)) ?_
        refine WPL.cl rfl rfl (fun wf => cvulgatelaw06_Of k hk _) ?_
        refine WPL.cl rfl rfl (fun wf => cROwner a1 b1 c1 l1 hlk1 (by omega) k hk _ (hin _ [_] _ wf)) ?_
        refine WPL.p (PS.assign rfl) ?_
        refine WPL.nil ?_
        refine WP.seq ?_
        refine WP.region rfl ?_
        refine WPL.p (PS.move rfl) ?_
        refine WPL.ev rfl rfl rfl (fun wf => cFirst b7 o T owner (by omega) _ (hTab2.up wf)) ?_
        rintro v138 H138 ⟨ks1, hp1, hs1, hv138, hH138⟩
        subst hv138
        have hk1 := hRel2.owned_eq hp1 hs1
        subst hk1
        refine ⟨_, _, fun wf => ⟨wf, by rw [hH138]; exact Sub.refl _⟩, ?_⟩
        have hokO := owned_mem (owner := owner) hlk1
        have hh := head_ok hokO
        have hhl : (((owned owner l1).headD (List.replicate 25 0)).map u8).length = 25 := by simpa [okK] using hh
        refine WPL.p (PS.move rfl) ?_
        refine WPL.p (PS.extract rfl rfl) ?_
        refine WPL.p (PS.extract rfl rfl) ?_
        refine WPL.nw NS.alloc ?_
        intro b21
        refine WPL.sA (m := 25) rfl rfl UpdR.here hhl (one_u8 _) (View.write_whole (by rw [hhl]; rfl)) ?_
        refine WPL.p (PS.assign rfl) ?_
        refine WPL.nil ?_
        refine WP.seq ?_
        refine WP.region rfl ?_
        refine WPL.p (PS.move rfl) ?_
        refine WPL.p (PS.move rfl) ?_
        refine WPL.sl rfl rfl (fun wf => cROf a1 b1 c1 l1 hlk1 (by omega) owner _ (hin _ [_, _] _ wf)) ?_
        intro v143 cs143 m143 hO143 hR143
        obtain ⟨hcs, hms⟩ := hR143
        subst hcs hms
        obtain ⟨a3, b3, c3, hv3, ha3, hc3, hin3⟩ := slIn_own2 hO143
        subst hv3
        refine WPL.p (PS.assign rfl) ?_
        refine WPL.nil ?_
        refine WP.seq ?_
        refine WP.seq ?_
        refine WP.draw 49 mixed (by kernel_rfl) rfl ?_
        refine Scr.ps (i := 0) rfl rfl rfl rfl (PS.move rfl) ?_
        refine Scr.ps (i := 1) rfl rfl rfl rfl (PS.move rfl) ?_
        refine Scr.ps (i := 2) rfl rfl rfl rfl (PS.binInt rfl rfl rfl) ?_
        rw [hRel2.e2 k]
        refine Scr.ps (i := 3) rfl rfl rfl rfl (PS.move rfl) ?_
        refine Scr.ps (i := 4) rfl rfl rfl rfl (PS.move rfl) ?_
        refine Scr.ps (i := 5) rfl rfl rfl rfl (PS.move rfl) ?_
        refine Scr.ps (i := 6) rfl rfl rfl rfl (PS.binInt rfl rfl rfl) ?_
        refine Scr.ps (i := 7) rfl rfl rfl rfl (PS.eqBool rfl rfl rfl) ?_
        rw [hRel2.e7 k]
        refine Scr.ps (i := 8) rfl rfl rfl rfl (PS.pickOr rfl rfl (fun _ => rfl)) ?_
        refine Scr.ps (i := 9) rfl rfl rfl rfl (PS.move rfl) ?_
        refine Scr.ps (i := 10) rfl rfl rfl rfl (PS.move rfl) ?_
        refine Scr.ps (i := 12) rfl rfl rfl rfl (PS.move rfl) ?_
        refine Scr.sl (i := 11) rfl rfl rfl rfl rfl rfl (fun wf => cOf b7 o T owner (by omega) _ (hTab2.up wf)) late0 ?_
        intro v155 cs155 m155 hO155 hR155
        obtain ⟨ks2, hcs2, hms2, hp2, hs2⟩ := hR155
        have hk2 := hRel2.owned_eq hp2 hs2
        subst hk2 hcs2 hms2
        obtain ⟨a4, b4', c4, hv4, ha4, hc4, hin4⟩ := slIn_own2 hO155
        subst hv4
        refine Scr.clg (i := 13) rfl rfl rfl rfl rfl rfl (fun wf => cKeys a4 a3 b4' b3 c4 c3 _ _ hokO hokO (by have := owned_le owner l1; omega) _ (hin4 _ [] _ wf) (hin3 _ (slL _ _ _ _) _ wf)) late0 ?_
        refine Scr.ps (i := 14) rfl rfl rfl rfl (PS.not rfl) ?_
        rw [show (!(owned owner l1 == owned owner l1)) = false by simp]
        refine Scr.ps (i := 15) rfl rfl rfl rfl (PS.pickOr rfl rfl (fun _ => rfl)) ?_
        refine Scr.ps (i := 16) rfl rfl rfl rfl (PS.move rfl) ?_
        refine Scr.ps (i := 17) rfl rfl rfl rfl (PS.move rfl) ?_
        refine Scr.ps (i := 18) rfl rfl rfl rfl (PS.move rfl) ?_
        refine Scr.ps (i := 19) rfl rfl rfl rfl (PS.lenSlice rfl) ?_
        refine Scr.ps (i := 20) rfl rfl rfl rfl (PS.binInt rfl rfl rfl) ?_
        refine Scr.ps (i := 21) rfl rfl rfl rfl (PS.eqBool rfl rfl rfl) ?_
        rw [e21]
        refine Scr.ps (i := 22) rfl rfl rfl rfl (PS.pickOr rfl rfl (fun _ => rfl)) ?_
        refine Scr.ps (i := 23) rfl rfl rfl rfl (PS.move rfl) ?_
        refine Scr.ps (i := 24) rfl rfl rfl rfl (PS.move rfl) ?_
        refine Scr.ps (i := 25) rfl rfl rfl rfl (PS.move rfl) ?_
        refine Scr.c (i := 26) rfl rfl rfl (Wants.yes rfl rfl rfl) (fun hb => PS.loadAgg (n := 25) rfl (InR.skip (InR.skip InR.here _) _) (View.take_whole hhl)) ?_
        refine Scr.c (i := 28) rfl rfl rfl (Wants.yes rfl rfl rfl) (fun hb => (PS.move rfl)) ?_
        refine Scr.c (i := 29) (v := ptr b3 (0 + (0 : Int).toNat * 25)) rfl rfl rfl (Wants.yes rfl rfl rfl) (fun hb => ?_) ?_
        · have hpos : 0 < (owned owner l1).length := by
            have hb : (!(owned owner l1).isEmpty) = true := hb
            cases ho : owned owner l1 with
            | nil => rw [ho] at hb; cases hb
            | cons x r => simp
          have ha := ha3 hpos
          subst ha
          exact PS.indexAddr (gt hb rfl) rfl (by omega) (by omega)
        refine Scr.c (i := 30) (v := .agg ⟨rkb ((owned owner l1).getD 0 [])⟩) rfl rfl rfl (Wants.yes rfl rfl rfl) (fun hb => ?_) ?_
        · have hpos : 0 < (owned owner l1).length := by
            have hb : (!(owned owner l1).isEmpty) = true := hb
            cases ho : owned owner l1 with
            | nil => rw [ho] at hb; cases hb
            | cons x r => simp
          have ha := ha3 hpos
          exact PS.loadAgg (n := 25) (gt hb rfl) (InR.skip (slIn_inr (A := []) hin3 hpos) _) (rkb_take (i := 0) hokO hpos)
        refine Scr.clc (i := 27) rfl rfl rfl rfl (Wants.yes rfl rfl rfl) (fun hb => rfl) (fun hb => (evsC (gt hb rfl) rfl)) (fun hb wf => cvulgatelaw06_Of _ hh _) late0 ?_
        refine Scr.c (i := 31) (v := .bool (!cellsEq (rkb ((owned owner l1).headD (List.replicate 25 0))) (rkb ((owned owner l1).getD 0 [])))) rfl rfl rfl (Wants.yes rfl rfl rfl) (fun hb => ?_) ?_
        · have hpos : 0 < (owned owner l1).length := by
            have hb : (!(owned owner l1).isEmpty) = true := hb
            cases ho : owned owner l1 with
            | nil => rw [ho] at hb; cases hb
            | cons x r => simp
          have ha := ha3 hpos
          exact PS.eqFlatN (gt hb rfl) (gt hb rfl) (fits_rkb hh) (fits_rkb (hokO _ (getD_mem hpos)))
        refine Scr.ps (i := 32) rfl rfl rfl rfl (PS.pickAnd rfl (fun hc => gt hc rfl) rfl) ?_
        rw [e32 hokO]
        refine Scr.ps (i := 33) rfl rfl rfl rfl (PS.pickOr rfl rfl (fun _ => rfl)) ?_
        refine Scr.ps (i := 34) rfl rfl rfl rfl (PS.move rfl) ?_
        refine Scr.ps (i := 35) rfl rfl rfl rfl (PS.move rfl) ?_
        refine Scr.ps (i := 36) rfl rfl rfl rfl (PS.not rfl) ?_
        refine Scr.ps (i := 37) rfl rfl rfl rfl (PS.move rfl) ?_
        refine Scr.c (i := 38) rfl rfl rfl (Wants.yes rfl rfl rfl) (fun hb => PS.loadAgg (n := 25) rfl (InR.skip (InR.skip InR.here _) _) (View.take_whole hhl)) ?_
        refine Scr.c (i := 39) rfl rfl rfl (Wants.yes rfl rfl rfl) (fun hb => PS.build (cs := (List.replicate 25 (0 : UInt8)).map u8) rfl rfl) ?_
        refine Scr.c (i := 40) rfl rfl rfl (Wants.yes rfl rfl rfl) (fun hb => PS.eqFlatN (gt hb rfl) (gt hb rfl) (fits_u8' (n := 25) hh) (fits_u8' (n := 25) rfl)) ?_
        refine Scr.ps (i := 41) rfl rfl rfl rfl (PS.pickAnd rfl (fun hc => gt hc rfl) rfl) ?_
        rw [e41]
        refine Scr.ps (i := 42) rfl rfl rfl rfl (PS.pickOr rfl rfl (fun _ => rfl)) ?_
        refine Scr.ps (i := 43) rfl rfl rfl rfl (PS.move rfl) ?_
        refine Scr.ps (i := 45) rfl rfl rfl rfl (PS.move rfl) ?_
        refine Scr.ps (i := 46) rfl rfl rfl rfl (PS.lenSlice rfl) ?_
        refine Scr.clg (i := 44) rfl rfl rfl rfl rfl rfl (fun wf => cLen b7 o T _ (hTab2.up wf)) late0 ?_
        refine Scr.ps (i := 47) rfl rfl rfl rfl (PS.binInt rfl rfl rfl) ?_
        rw [show (((T.length : Nat) : Int) != ((l1.length : Nat) : Int)) = false by rw [hRel2.len]; simp]
        refine Scr.ps (i := 48) rfl rfl rfl rfl (PS.pickOr rfl rfl (fun _ => rfl)) ?_
        refine Scr.end ?_
        refine WPL.nil ?_
        refine WP.nope rfl ?_
        refine WP.skip ?_
        refine WP.seq ?_
        refine WP.region rfl ?_
        refine WPL.p (PS.assign rfl) ?_
        refine WPL.nil ?_
        refine WP.seq ?_
        refine WP.region rfl ?_
        refine WPL.sl rfl rfl (fun wf => cOwners b7 o T (by omega) _ (hTab2.up wf)) ?_
        intro v193 cs193 m193 hO193 hR193
        obtain ⟨os0, hpo, hcs3, hms3⟩ := hR193
        obtain ⟨hos1, hos2, hos3⟩ := hRel2.owners hpo
        subst hcs3 hms3
        have hoslen : (Lib.compact (os0.mergeSort fun x y => decide (x ≤ y))).length ≤ 1000000000 := by
          have h1 := Lib.compact_length_le (os0.mergeSort fun x y => decide (x ≤ y))
          have h2 := hpo.length_eq
          simp only [List.length_map, List.length_mergeSort] at h1 h2
          omega
        generalize Lib.compact (os0.mergeSort fun x y => decide (x ≤ y)) = os at hO193 hos1 hos2 hos3 hoslen ⊢
        obtain ⟨a5, b5, c5, hv5, ha5, hc5, hin5⟩ := slIn_own2 hO193
        subst hv5
        refine WPL.p (PS.assign rfl) ?_
        refine WPL.nil ?_
        refine WP.seq ?_
        refine WP.seq ?_
        refine WP.drop (L' := slL (.slice a5 os.length c5) (os.map (Value.int .i64)) 3 1 ++ (slL (.slice a1 l1.length c1) (isC l1) 126 26 ++ [(b4, .cells (k.map u8) 30)])) (List.Sublist.append (List.Sublist.refl _) ((List.Sublist.trans (List.Sublist.trans (List.Sublist.cons _ (List.Sublist.cons _ (List.Sublist.append (List.Sublist.refl _) (List.Sublist.cons _ (List.Sublist.cons _ (List.Sublist.refl _)))))) (List.sublist_append_right _ _)) (List.sublist_append_right _ _)))) ?_
        refine WP.region rfl ?_
        refine WPL.p (PS.assign rfl) ?_
        refine WPL.nil ?_
        refine WP.block ?_
        refine WP.whileV (ι := Nat × Nat) (fun s => [(0, .slice (some ⟨b, off, none⟩) acts.length c), (2, .int .i64 owner), (4, ptr b4 0), (7, ptr b7 0), (9, num i), (8, .slice a1 l1.length c1), (24, num s.2), (25, .slice a5 os.length c5), (26, num s.1)]) (fun s => setTab (G0 H b7) b7 o T) (fun s => slL (.slice a5 os.length c5) (os.map (Value.int .i64)) 3 1 ++ (slL (.slice a1 l1.length c1) (isC l1) 126 26 ++ [(b4, .cells (k.map u8) 30)]))
          (fun s => s.1 ≤ os.length ∧ s.2 = ((os.take s.1).map fun o => (owned o l1).length).sum) (fun s => os.length - s.1) (0, 0) ⟨rfl, rfl, rfl, rfl, rfl, rfl, rfl, rfl, rfl, trivial⟩ ⟨by simp, rfl⟩ wf_same ?_
        rintro ⟨j', sum⟩ ⟨hj', hsum⟩
        simp only at hj' hsum ⊢
        refine WP.seq ?_
        refine WP.seq ?_
        refine WP.region rfl ?_
        refine WPL.p (PS.move rfl) ?_
        refine WPL.p (PS.move rfl) ?_
        refine WPL.p (PS.lenSlice rfl) ?_
        refine WPL.p (PS.binInt rfl rfl rfl) ?_
        refine WPL.nil ?_
        refine WP.ifs rfl ?_ ?_
        · intro h7
          have qo : j' < os.length := by have := of_decide_eq_true h7; omega
          have hirO := slIn_inr (G := setTab (G0 H b7) b7 o T) (A := []) (B := slL (.slice a1 l1.length c1) (isC l1) 126 26 ++ [(b4, .cells (k.map u8) 30)]) hin5 (by omega)
          have ha5' := ha5 (by omega)
          subst ha5'
          refine WP.skip ?_
          refine WP.seq ?_
          refine WP.block ?_
          refine WP.seq ?_
          refine WP.region rfl ?_
          refine WPL.p (PS.move rfl) ?_
          refine WPL.p (PS.move rfl) ?_
          refine WPL.p (PS.move rfl) ?_
          refine WPL.p (PS.indexAddr rfl rfl (by omega) (by omega)) ?_
          refine WPL.p (PS.load (v := .int .i64 (os.getD j' 0)) rfl hirO (cell_row _ qo)) ?_
          refine WPL.sl rfl rfl (fun wf => cROf a1 b1 c1 l1 hlk1 (by omega) (os.getD j' 0) _ (hin _ (slL _ _ _ _) _ wf)) ?_
          intro v205 cs205 m205 hO205 hR205
          obtain ⟨hcs6, hms6⟩ := hR205
          subst hcs6 hms6
          obtain ⟨a6, b6, c6, hv6, ha6, hc6, hin6⟩ := slIn_own2 (e := 51) hO205
          subst hv6
          have hol := owned_le (os.getD j' 0) l1
          have hsb : sum + (owned (os.getD j' 0) l1).length ≤ l1.length := by
            have h1 := sum_take_le (os := os) (f := fun o => (owned o l1).length) (n := j' + 1)
            rw [sum_snoc qo, hos3] at h1
            omega
          refine WPL.p (PS.lenSlice rfl) ?_
          refine WPL.p (PS.assign rfl) ?_
          refine WPL.nil ?_
          refine WP.seq ?_
          refine WP.region rfl ?_
          refine WPL.p (PS.move rfl) ?_
          refine WPL.p (PS.move rfl) ?_
          refine WPL.p (PS.arith rfl rfl (.inl ⟨rfl, rfl⟩) (wrap_i64 (by omega) (by omega))) ?_
          refine WPL.p (PS.assign rfl) ?_
          refine WPL.nil ?_
          refine WP.seq ?_
          refine WP.draw 18 mixed (by kernel_rfl) rfl ?_
          refine Scr.ps (i := 0) rfl rfl rfl rfl (PS.move rfl) ?_
          refine Scr.ps (i := 1) rfl rfl rfl rfl (PS.binInt rfl rfl rfl) ?_
          rw [show (((owned (os.getD j' 0) l1).length : Int) == 0) = false from len_ne0 (hos2 _ (getD_mem (d := 0) qo))]
          refine Scr.ps (i := 2) rfl rfl rfl rfl (PS.move rfl) ?_
          refine Scr.ps (i := 3) rfl rfl rfl rfl (PS.move rfl) ?_
          refine Scr.ps (i := 4) rfl rfl rfl rfl (PS.binInt rfl rfl rfl) ?_
          refine Scr.ps (i := 5) rfl rfl rfl rfl (PS.move rfl) ?_
          refine Scr.c (i := 6) rfl rfl rfl (Wants.yes rfl rfl rfl) (fun hb => (PS.move rfl)) ?_
          refine Scr.c (i := 7) rfl rfl rfl (Wants.yes rfl rfl rfl) (fun hb => (PS.move rfl)) ?_
          refine Scr.c (i := 8) rfl rfl rfl (Wants.yes rfl rfl rfl) (fun hb => (PS.arith (gt hb rfl) rfl (.inr (.inl ⟨rfl, rfl⟩)) (wrap_i64 (by omega) (by omega)))) ?_
          refine Scr.c (i := 9) (v := ptr b5 (0 + ((j' : Int) - 1).toNat * 1)) rfl rfl rfl (Wants.yes rfl rfl rfl) (fun hb => PS.indexAddr (gt hb rfl) (gt hb rfl) (by have := of_decide_eq_true hb; omega) (by have := of_decide_eq_true hb; omega)) ?_
          refine Scr.c (i := 10) (v := .int .i64 (os.getD (j' - 1) 0)) rfl rfl rfl (Wants.yes rfl rfl rfl) (fun hb => PS.load (gt hb rfl) (InR.skip hirO _) (by have := of_decide_eq_true hb; rw [show ((j' : Int) - 1) = ((j' - 1 : Nat) : Int) by omega]; exact cell_row _ (by omega))) ?_
          refine Scr.c (i := 11) rfl rfl rfl (Wants.yes rfl rfl rfl) (fun hb => (PS.move rfl)) ?_
          refine Scr.c (i := 12) rfl rfl rfl (Wants.yes rfl rfl rfl) (fun hb => (PS.move rfl)) ?_
          refine Scr.c (i := 13) (v := ptr b5 (0 + (j' : Int).toNat * 1)) rfl rfl rfl (Wants.yes rfl rfl rfl) (fun hb => PS.indexAddr (gt hb rfl) (gt hb rfl) (by omega) (by omega)) ?_
          refine Scr.c (i := 14) (v := .int .i64 (os.getD j' 0)) rfl rfl rfl (Wants.yes rfl rfl rfl) (fun hb => PS.load (gt hb rfl) (InR.skip hirO _) (cell_row _ qo)) ?_
          refine Scr.c (i := 15) rfl rfl rfl (Wants.yes rfl rfl rfl) (fun hb => (PS.binInt (gt hb rfl) (gt hb rfl) rfl)) ?_
          refine Scr.ps (i := 16) rfl rfl rfl rfl (PS.pickAnd rfl (fun hc => gt hc rfl) rfl) ?_
          rw [e16 hos1 qo]
          refine Scr.ps (i := 17) rfl rfl rfl rfl (PS.pickOr rfl rfl (fun _ => rfl)) ?_
          refine Scr.end ?_
          refine WPL.nil ?_
          refine WP.nope rfl ?_
          refine WP.skip ?_
          refine WP.region rfl ?_
          refine WPL.p (PS.move rfl) ?_
          refine WPL.p (PS.arith rfl rfl (.inl ⟨rfl, rfl⟩) (wrap_i64 (by omega) (by omega))) ?_
          refine WPL.p (PS.assign rfl) ?_
          refine WPL.nil ?_
          exact ⟨(j' + 1, sum + (owned (os.getD j' 0) l1).length), by simp <;> omega, ⟨by simp <;> omega, by rw [sum_snoc qo, hsum]⟩, rfl, rfl, ⟨rfl, rfl, rfl, rfl, rfl, rfl, rfl, rfl, rfl, trivial⟩, wf_sub (List.sublist_append_right _ _)⟩
        · intro h7
          have qo : j' = os.length := by have := of_decide_eq_false h7; omega
          have hsumE : sum = l1.length := by rw [hsum, qo, List.take_length, hos3]
          refine WP.exit ?_
          refine WP.seq ?_
          refine WP.region rfl ?_
          refine WPL.p (PS.move rfl) ?_
          refine WPL.p (PS.move rfl) ?_
          refine WPL.p (PS.lenSlice rfl) ?_
          refine WPL.p (PS.binInt rfl rfl rfl) ?_
          rw [show ((sum : Int) != (l1.length : Int)) = false by rw [hsumE]; simp]
          refine WPL.nil ?_
          refine WP.nope rfl ?_
          refine WP.skip ?_
          refine WP.region rfl ?_
          refine WPL.p (PS.move rfl) ?_
          refine WPL.p (PS.arith rfl rfl (.inl ⟨rfl, rfl⟩) (wrap_i64 (by omega) (by omega))) ?_
          refine WPL.p (PS.assign rfl) ?_
          refine WPL.nil ?_
          exact ⟨(i + 1, o, T, .slice a1 l1.length c1, l1), by simp <;> omega, ⟨by simp <;> omega, by simp <;> omega, hRel2, hO1, hz2, hm2, hTl2⟩, rfl, rfl, ⟨rfl, rfl, rfl, rfl, rfl, rfl, trivial⟩, wf_sub (List.sublist_append_right _ _)⟩
    · subst hF
      have he : (decide (ow < 1) && !false) = false := by simp [hlt]
      obtain ⟨R, hR⟩ : ∃ R, foldL false ow [ka, kb] (l, 0, 0) = R := ⟨_, rfl⟩
      refine WP.region rfl ?_
      refine WPL.p (PS.fieldAddr rfl) ?_
      refine WPL.p (PS.load rfl (InR.there InR.here) rfl) ?_
      refine WPL.p (PS.binInt rfl rfl rfl) ?_
      refine WPL.p (PS.move rfl) ?_
      refine WPL.c (Wants.yes rfl rfl rfl) (fun hb => (PS.fieldAddr rfl)) ?_
      refine WPL.c (Wants.yes rfl rfl rfl) (fun hb => (PS.load (gt hb rfl) (InR.there InR.here) rfl)) ?_
      refine WPL.c (Wants.yes rfl rfl rfl) (fun hb => (PS.not (gt hb rfl))) ?_
      refine WPL.p (PS.pickAnd rfl (fun hc => gt hc rfl) rfl) ?_
      rw [he]
      refine WPL.nil ?_
      refine WP.nope rfl ?_
      refine WP.skip ?_
      refine WP.seq ?_
      refine WP.seq ?_
      refine WP.region rfl ?_
      refine WPL.p (PS.assign rfl) ?_
      refine WPL.nil ?_
      refine WP.block ?_
      refine WP.whileV (ι := Nat × Value × Tab × Nat × Nat) (fun s => [(0, .slice (some ⟨b, off, none⟩) acts.length c), (2, .int .i64 owner), (4, ptr b4 0), (7, ptr b7 0), (9, num i), (10, ptr b10 0), (11, ptr b11 0), (8, s.2.1), (12, num s.2.2.2.1), (13, num s.2.2.2.2), (14, num s.1)]) (fun s => setTab (G0 H b7) b7 o T)
        (fun s => slL s.2.1 (isC s.2.2.1) 126 26 ++ ((b11, .cells (keysC [ka, kb]) 90) :: (b10, .cells (actC (false, ow, ka, kb)) 89) :: [(b4, .cells (k.map u8) 30)]))
        (fun s => s.1 ≤ 2 ∧ foldL false ow ([ka, kb].drop s.1) (s.2.2.1, s.2.2.2.1, s.2.2.2.2) = R ∧ Own s.2.1 (isC s.2.2.1) 26 s.2.2.1.length ∧ (∀ x ∈ s.2.2.1, okK x.1) ∧ s.2.2.1.length ≤ 2 * i + s.1 ∧ s.2.2.2.1 ≤ s.1 ∧ (false = true → s.2.2.2.2 = 5)) (fun s => 2 - s.1) (0, sv, l, 0, 0) ⟨rfl, rfl, rfl, rfl, rfl, rfl, rfl, rfl, rfl, rfl, rfl, trivial⟩
        ⟨by simp, hR, hO, hRel.lok, by have := hRel.len; simp; omega, by simp, (fun e => by cases e)⟩ (wf_perm2 perm3) ?_
      rintro ⟨j, sv1, l1, n, want⟩ ⟨hj2, hfold, hO1, hlk1, hln1, hnj, hwB⟩
      simp only at hj2 hfold hO1 hlk1 hln1 hnj hwB ⊢
      obtain ⟨a1, b1, c1, hsv, ha1, hc1, hin⟩ := slIn_own2 hO1
      subst hsv
      refine WP.seq ?_
      refine WP.seq ?_
      refine WP.region rfl ?_
      refine WPL.p (PS.move rfl) ?_
      refine WPL.p (PS.binInt rfl rfl rfl) ?_
      refine WPL.p (PS.move rfl) ?_
      refine WPL.c (Wants.yes rfl rfl rfl) (fun hb => (PS.move rfl)) ?_
      refine WPL.c (Wants.yes rfl rfl rfl) (fun hb => (PS.binInt (gt hb rfl) rfl rfl)) ?_
      refine WPL.p (PS.pickAnd rfl (fun hc => gt hc rfl) rfl) ?_
      refine WPL.nil ?_
      refine WP.ifs rfl ?_ ?_
      · intro h2
        have hjw : j < 2 ∧ want = 0 := by
          simp only [Bool.and_eq_true, decide_eq_true_eq, beq_iff_eq] at h2; omega
        obtain ⟨hj, hw0⟩ := hjw
        subst hw0
        have hkj := pair_ok hka hkb hj
        refine WP.skip ?_
        refine WP.seq ?_
        refine WP.block ?_
        refine WP.seq ?_
        refine WP.region rfl ?_
        refine WPL.p (PS.assign rfl) ?_
        refine WPL.nil ?_
        refine WP.seq ?_
        refine WP.seq ?_
        refine WP.region rfl ?_
        refine WPL.p (PS.fieldAddr rfl) ?_
        refine WPL.p (PS.load rfl (InR.skip (InR.there InR.here) _) rfl) ?_
        refine WPL.nil ?_
        refine WP.nope rfl ?_
        refine WP.draw 14 mixed (by kernel_rfl) rfl ?_
        refine Scr.ps (i := 0) rfl rfl rfl rfl (PS.move rfl) ?_
        refine Scr.ps (i := 1) rfl rfl rfl rfl (PS.fieldAddr rfl) ?_
        refine Scr.ps (i := 2) rfl rfl rfl rfl (PS.load rfl (InR.skip (InR.there InR.here) _) rfl) ?_
        refine Scr.ps (i := 3) rfl rfl rfl rfl (PS.move rfl) ?_
        refine Scr.ps (i := 4) rfl rfl rfl rfl (PS.indexAddrArr rfl rfl (by omega) (by omega)) ?_
        refine Scr.ps (i := 5) rfl rfl rfl rfl (PS.loadAgg (n := 25) rfl (InR.skip InR.here _) (pair_take hka hkb hj)) ?_
        refine Scr.cl (i := 6) rfl rfl rfl rfl rfl (fun wf => cvulgatelaw06_Of _ hkj _) late0 ?_
        refine Scr.ev (i := 7) rfl rfl rfl rfl rfl rfl (fun wf => cRTake a1 b1 c1 l1 hlk1 (by omega) ow _ hkj _ (hin _ [] _ wf)) late0 ?_
        rintro v73 H73 ⟨sv2, hv73, hN⟩
        subst hv73
        refine ⟨_, newL_ok hN, ?_⟩
        have hO2 := newL_own hN hO1
        have hwf2 := fun G B => newL_drop hN (G := G) (B := B)
        clear hN
        refine Scr.ps (i := 8) rfl rfl rfl rfl (PS.move rfl) ?_
        refine Scr.ps (i := 9) rfl rfl rfl rfl (PS.extract rfl rfl) ?_
        refine Scr.ps (i := 10) rfl rfl rfl rfl (PS.extract rfl rfl) ?_
        refine Scr.ps (i := 11) rfl rfl rfl rfl (PS.extract rfl rfl) ?_
        refine Scr.ps (i := 12) rfl rfl rfl rfl (PS.assign rfl) ?_
        refine Scr.ps (i := 13) rfl rfl rfl rfl (PS.assign rfl) ?_
        refine Scr.end ?_
        refine WPL.p (PS.assign rfl) ?_
        refine WPL.nil ?_
        refine WP.seq ?_
        refine WP.region rfl ?_
        refine WPL.p (PS.move rfl) ?_
        refine WPL.nil ?_
        refine WP.ifs rfl ?_ ?_
        · intro h4
          refine WP.region rfl ?_
          refine WPL.p (PS.move rfl) ?_
          refine WPL.p (PS.arith rfl rfl (.inl ⟨rfl, rfl⟩) (wrap_i64 (by omega) (by omega))) ?_
          refine WPL.p (PS.assign rfl) ?_
          refine WPL.nil ?_
          refine WP.region rfl ?_
          refine WPL.p (PS.move rfl) ?_
          refine WPL.p (PS.arith rfl rfl (.inl ⟨rfl, rfl⟩) (wrap_i64 (by omega) (by omega))) ?_
          refine WPL.p (PS.assign rfl) ?_
          refine WPL.nil ?_
          have h4' : (rTake l1 ow ([ka, kb].getD j [])).2.1 = true := h4
          have hkk := rTake_keys (owner := ow) hkj hlk1
          exact ⟨(j + 1, sv2, (rTake l1 ow ([ka, kb].getD j [])).1, n + 1, (rTake l1 ow ([ka, kb].getD j [])).2.2), by simp <;> omega, ⟨by simp <;> omega, by rw [← hfold, foldL_take hj, h4'] <;> rfl, hO2, hkk.1, by have := hkk.2; show (rTake l1 ow ([ka, kb].getD j [])).1.length ≤ 2 * i + (j + 1); omega, by simp <;> omega, (fun e => by cases e)⟩, rfl, rfl, ⟨rfl, rfl, rfl, rfl, rfl, rfl, rfl, rfl, rfl, rfl, rfl, trivial⟩, hwf2 _ _⟩
        · intro h4
          refine WP.skip ?_
          refine WP.region rfl ?_
          refine WPL.p (PS.move rfl) ?_
          refine WPL.p (PS.arith rfl rfl (.inl ⟨rfl, rfl⟩) (wrap_i64 (by omega) (by omega))) ?_
          refine WPL.p (PS.assign rfl) ?_
          refine WPL.nil ?_
          have h4' : (rTake l1 ow ([ka, kb].getD j [])).2.1 = false := h4
          have hkk := rTake_keys (owner := ow) hkj hlk1
          exact ⟨(j + 1, sv2, (rTake l1 ow ([ka, kb].getD j [])).1, n, (rTake l1 ow ([ka, kb].getD j [])).2.2), by simp <;> omega, ⟨by simp <;> omega, by rw [← hfold, foldL_take hj, h4'] <;> rfl, hO2, hkk.1, by have := hkk.2; show (rTake l1 ow ([ka, kb].getD j [])).1.length ≤ 2 * i + (j + 1); omega, by simp <;> omega, (fun e => by cases e)⟩, rfl, rfl, ⟨rfl, rfl, rfl, rfl, rfl, rfl, rfl, rfl, rfl, rfl, rfl, trivial⟩, hwf2 _ _⟩
      · intro h2
        have hRe : R = (l1, n, want) := by rw [← hfold]; exact foldL_end hj2 h2
        subst hRe
        obtain ⟨hRel0, hcnt⟩ := take_law (show 1 ≤ ow by omega) [ka, kb] T l 0 (ok2 hka hkb) hRel
        rw [hR] at hRel0 hcnt
        simp only at hRel0 hcnt
        have hc1' : (takeS ow T [ka, kb] 0).2.1 = n := by rw [hcnt]
        have hc2' : (takeS ow T [ka, kb] 0).2.2 = want := by rw [hcnt]
        refine WP.exit ?_
        refine WP.seq ?_
        refine WP.seq ?_
        refine WP.region rfl ?_
        refine WPL.p (PS.fieldAddr rfl) ?_
        refine WPL.p (PS.load rfl (InR.skip (InR.there InR.here) _) rfl) ?_
        refine WPL.p (PS.move rfl) ?_
        refine WPL.no rfl ?_
        refine WPL.no rfl ?_
        refine WPL.no rfl ?_
        refine WPL.no rfl ?_
        refine WPL.no rfl ?_
        refine WPL.no rfl ?_
        refine WPL.no rfl ?_
        refine WPL.no rfl ?_
        refine WPL.no rfl ?_
        refine WPL.no rfl ?_
        refine WPL.p (PS.pickAnd (a := false) (b := false) rfl (fun h => by cases h) rfl) ?_
        refine WPL.nil ?_
        refine WP.nope rfl ?_
        refine WP.skip ?_
        refine WP.seq ?_
        refine WP.seq ?_
        refine WP.region rfl ?_
        refine WPL.p (PS.fieldAddr rfl) ?_
        refine WPL.p (PS.load rfl (InR.skip (InR.there InR.here) _) rfl) ?_
        refine WPL.p (PS.not rfl) ?_
        refine WPL.nil ?_
        refine WP.yes rfl ?_
        refine WP.seq ?_
        refine WP.region rfl ?_
        refine WPL.p (PS.fieldAddr rfl) ?_
        refine WPL.p (PS.load rfl (InR.skip (InR.there InR.here) _) rfl) ?_
        refine WPL.p (PS.fieldAddr rfl) ?_
        refine WPL.p (PS.loadAgg (n := 25) rfl (InR.skip (InR.there InR.here) _) hta) ?_
        refine WPL.p (PS.fieldAddr rfl) ?_
        refine WPL.p (PS.loadAgg (n := 25) rfl (InR.skip (InR.there InR.here) _) htb) ?_
        refine WPL.nw (NS.buildSlice (n := 25) (cs := keysC [ka, kb]) rfl (by decide) (by rfl) (by rw [keys2]; exact fill_two hla hlb (by rfl))) ?_
        intro b100
        refine WPL.tabTake (ks := [ka, kb]) hz hm hRel.ok hlt (ok2 hka hkb) (by simp) rfl rfl rfl InR.here ?_
        intro bm2 hbm2
        rw [hc1', hc2']
        have hz2 : (some bm2 : Option Nat) = none → (takeS ow T [ka, kb] 0).1 = [] := fun e => by cases e
        have hm2 : ∀ bm, (some bm2 : Option Nat) = some bm → G0 H b7 bm = none := fun bm e => by cases e; exact hbm2
        have hTab2 := tabG (H := H) (bt := b7) hz2 hm2 hRel0.ok
        have hTl2 : (takeS ow T [ka, kb] 0).1.length ≤ 2 * (i + 1) := by have := hRel0.len; omega
        have hRel2 := hRel0
        generalize (takeS ow T [ka, kb] 0).1 = T2 at hTab2 hRel2 hz2 hTl2 ⊢
        refine WPL.p (PS.move rfl) ?_
        refine WPL.p (PS.extract rfl rfl) ?_
        refine WPL.p (PS.extract rfl rfl) ?_
        refine WPL.p (PS.assign rfl) ?_
        refine WPL.p (PS.assign rfl) ?_
        refine WPL.nil ?_
        refine WP.seq ?_
        refine WP.region rfl ?_
        refine WPL.p (PS.move rfl) ?_
        refine WPL.p (PS.move rfl) ?_
        refine WPL.p (PS.binInt rfl rfl rfl) ?_
        rw [bne_self]
        refine WPL.p (PS.move rfl) ?_
        refine WPL.ps rfl (PS.move rfl) ?_
        refine WPL.ps rfl (PS.move rfl) ?_
        refine WPL.ps rfl (PS.binInt rfl rfl rfl) ?_
        rw [bne_self]
        refine WPL.p (PS.pickOr rfl rfl (fun _ => rfl)) ?_
        refine WPL.nil ?_
        refine WP.nope rfl ?_
        refine WP.skip ?_
        refine WP.seq ?_
        refine WP.region rfl ?_
        refine WPL.p (PS.loadAgg (n := 25) rfl (InR.there (InR.skip (InR.there (InR.there InR.here)) _)) (View.take_whole hkl)) ?_
        refine WPL.cl rfl rfl (fun wf => cOwner b7 (some bm2) T2 k hk _ (hTab2.up wf)) ?_
        refine WPL.p (PS.move rfl) ?_
        refine WPL.p (PS.extract rfl rfl) ?_
        refine WPL.p (PS.extract rfl rfl) ?_
        refine WPL.p (PS.assign rfl) ?_
        refine WPL.p (PS.assign rfl) ?_
        refine WPL.nil ?_
        refine WP.seq ?_
        refine WP.region rfl ?_
        refine WPL.p (PS.move rfl) ?_
        refine WPL.p (PS.loadAgg (n := 25) rfl (InR.there (InR.skip (InR.there (InR.there InR.here)) _)) (View.take_whole hkl)) ?_
        refine WPL.cl rfl rfl (fun wf => cvulgatelaw06_Of k hk _) ?_
        refine WPL.cl rfl rfl (fun wf => cROwner a1 b1 c1 l1 hlk1 (by omega) k hk _ (hin _ [_] _ wf)) ?_
        refine WPL.p (PS.assign rfl) ?_
        refine WPL.nil ?_
        refine WP.seq ?_
        refine WP.region rfl ?_
        refine WPL.p (PS.move rfl) ?_
        refine WPL.ev rfl rfl rfl (fun wf => cFirst b7 (some bm2) T2 owner (by omega) _ (hTab2.up wf)) ?_
        rintro v138 H138 ⟨ks1, hp1, hs1, hv138, hH138⟩
        subst hv138
        have hk1 := hRel2.owned_eq hp1 hs1
        subst hk1
        refine ⟨_, _, fun wf => ⟨wf, by rw [hH138]; exact Sub.refl _⟩, ?_⟩
        have hokO := owned_mem (owner := owner) hlk1
        have hh := head_ok hokO
        have hhl : (((owned owner l1).headD (List.replicate 25 0)).map u8).length = 25 := by simpa [okK] using hh
        refine WPL.p (PS.move rfl) ?_
        refine WPL.p (PS.extract rfl rfl) ?_
        refine WPL.p (PS.extract rfl rfl) ?_
        refine WPL.nw NS.alloc ?_
        intro b21
        refine WPL.sA (m := 25) rfl rfl UpdR.here hhl (one_u8 _) (View.write_whole (by rw [hhl]; rfl)) ?_
        refine WPL.p (PS.assign rfl) ?_
        refine WPL.nil ?_
        refine WP.seq ?_
        refine WP.region rfl ?_
        refine WPL.p (PS.move rfl) ?_
        refine WPL.p (PS.move rfl) ?_
        refine WPL.sl rfl rfl (fun wf => cROf a1 b1 c1 l1 hlk1 (by omega) owner _ (hin _ [_, _] _ wf)) ?_
        intro v143 cs143 m143 hO143 hR143
        obtain ⟨hcs, hms⟩ := hR143
        subst hcs hms
        obtain ⟨a3, b3, c3, hv3, ha3, hc3, hin3⟩ := slIn_own2 hO143
        subst hv3
        refine WPL.p (PS.assign rfl) ?_
        refine WPL.nil ?_
        refine WP.seq ?_
        refine WP.seq ?_
        refine WP.draw 49 mixed (by kernel_rfl) rfl ?_
        refine Scr.ps (i := 0) rfl rfl rfl rfl (PS.move rfl) ?_
        refine Scr.ps (i := 1) rfl rfl rfl rfl (PS.move rfl) ?_
        refine Scr.ps (i := 2) rfl rfl rfl rfl (PS.binInt rfl rfl rfl) ?_
        rw [hRel2.e2 k]
        refine Scr.ps (i := 3) rfl rfl rfl rfl (PS.move rfl) ?_
        refine Scr.ps (i := 4) rfl rfl rfl rfl (PS.move rfl) ?_
        refine Scr.ps (i := 5) rfl rfl rfl rfl (PS.move rfl) ?_
        refine Scr.ps (i := 6) rfl rfl rfl rfl (PS.binInt rfl rfl rfl) ?_
        refine Scr.ps (i := 7) rfl rfl rfl rfl (PS.eqBool rfl rfl rfl) ?_
        rw [hRel2.e7 k]
        refine Scr.ps (i := 8) rfl rfl rfl rfl (PS.pickOr rfl rfl (fun _ => rfl)) ?_
        refine Scr.ps (i := 9) rfl rfl rfl rfl (PS.move rfl) ?_
        refine Scr.ps (i := 10) rfl rfl rfl rfl (PS.move rfl) ?_
        refine Scr.ps (i := 12) rfl rfl rfl rfl (PS.move rfl) ?_
        refine Scr.sl (i := 11) rfl rfl rfl rfl rfl rfl (fun wf => cOf b7 (some bm2) T2 owner (by omega) _ (hTab2.up wf)) late0 ?_
        intro v155 cs155 m155 hO155 hR155
        obtain ⟨ks2, hcs2, hms2, hp2, hs2⟩ := hR155
        have hk2 := hRel2.owned_eq hp2 hs2
        subst hk2 hcs2 hms2
        obtain ⟨a4, b4', c4, hv4, ha4, hc4, hin4⟩ := slIn_own2 hO155
        subst hv4
        refine Scr.clg (i := 13) rfl rfl rfl rfl rfl rfl (fun wf => cKeys a4 a3 b4' b3 c4 c3 _ _ hokO hokO (by have := owned_le owner l1; omega) _ (hin4 _ [] _ wf) (hin3 _ (slL _ _ _ _) _ wf)) late0 ?_
        refine Scr.ps (i := 14) rfl rfl rfl rfl (PS.not rfl) ?_
        rw [show (!(owned owner l1 == owned owner l1)) = false by simp]
        refine Scr.ps (i := 15) rfl rfl rfl rfl (PS.pickOr rfl rfl (fun _ => rfl)) ?_
        refine Scr.ps (i := 16) rfl rfl rfl rfl (PS.move rfl) ?_
        refine Scr.ps (i := 17) rfl rfl rfl rfl (PS.move rfl) ?_
        refine Scr.ps (i := 18) rfl rfl rfl rfl (PS.move rfl) ?_
        refine Scr.ps (i := 19) rfl rfl rfl rfl (PS.lenSlice rfl) ?_
        refine Scr.ps (i := 20) rfl rfl rfl rfl (PS.binInt rfl rfl rfl) ?_
        refine Scr.ps (i := 21) rfl rfl rfl rfl (PS.eqBool rfl rfl rfl) ?_
        rw [e21]
        refine Scr.ps (i := 22) rfl rfl rfl rfl (PS.pickOr rfl rfl (fun _ => rfl)) ?_
        refine Scr.ps (i := 23) rfl rfl rfl rfl (PS.move rfl) ?_
        refine Scr.ps (i := 24) rfl rfl rfl rfl (PS.move rfl) ?_
        refine Scr.ps (i := 25) rfl rfl rfl rfl (PS.move rfl) ?_
        refine Scr.c (i := 26) rfl rfl rfl (Wants.yes rfl rfl rfl) (fun hb => PS.loadAgg (n := 25) rfl (InR.skip (InR.skip InR.here _) _) (View.take_whole hhl)) ?_
        refine Scr.c (i := 28) rfl rfl rfl (Wants.yes rfl rfl rfl) (fun hb => (PS.move rfl)) ?_
        refine Scr.c (i := 29) (v := ptr b3 (0 + (0 : Int).toNat * 25)) rfl rfl rfl (Wants.yes rfl rfl rfl) (fun hb => ?_) ?_
        · have hpos : 0 < (owned owner l1).length := by
            have hb : (!(owned owner l1).isEmpty) = true := hb
            cases ho : owned owner l1 with
            | nil => rw [ho] at hb; cases hb
            | cons x r => simp
          have ha := ha3 hpos
          subst ha
          exact PS.indexAddr (gt hb rfl) rfl (by omega) (by omega)
        refine Scr.c (i := 30) (v := .agg ⟨rkb ((owned owner l1).getD 0 [])⟩) rfl rfl rfl (Wants.yes rfl rfl rfl) (fun hb => ?_) ?_
        · have hpos : 0 < (owned owner l1).length := by
            have hb : (!(owned owner l1).isEmpty) = true := hb
            cases ho : owned owner l1 with
            | nil => rw [ho] at hb; cases hb
            | cons x r => simp
          have ha := ha3 hpos
          exact PS.loadAgg (n := 25) (gt hb rfl) (InR.skip (slIn_inr (A := []) hin3 hpos) _) (rkb_take (i := 0) hokO hpos)
        refine Scr.clc (i := 27) rfl rfl rfl rfl (Wants.yes rfl rfl rfl) (fun hb => rfl) (fun hb => (evsC (gt hb rfl) rfl)) (fun hb wf => cvulgatelaw06_Of _ hh _) late0 ?_
        refine Scr.c (i := 31) (v := .bool (!cellsEq (rkb ((owned owner l1).headD (List.replicate 25 0))) (rkb ((owned owner l1).getD 0 [])))) rfl rfl rfl (Wants.yes rfl rfl rfl) (fun hb => ?_) ?_
        · have hpos : 0 < (owned owner l1).length := by
            have hb : (!(owned owner l1).isEmpty) = true := hb
            cases ho : owned owner l1 with
            | nil => rw [ho] at hb; cases hb
            | cons x r => simp
          have ha := ha3 hpos
          exact PS.eqFlatN (gt hb rfl) (gt hb rfl) (fits_rkb hh) (fits_rkb (hokO _ (getD_mem hpos)))
        refine Scr.ps (i := 32) rfl rfl rfl rfl (PS.pickAnd rfl (fun hc => gt hc rfl) rfl) ?_
        rw [e32 hokO]
        refine Scr.ps (i := 33) rfl rfl rfl rfl (PS.pickOr rfl rfl (fun _ => rfl)) ?_
        refine Scr.ps (i := 34) rfl rfl rfl rfl (PS.move rfl) ?_
        refine Scr.ps (i := 35) rfl rfl rfl rfl (PS.move rfl) ?_
        refine Scr.ps (i := 36) rfl rfl rfl rfl (PS.not rfl) ?_
        refine Scr.ps (i := 37) rfl rfl rfl rfl (PS.move rfl) ?_
        refine Scr.c (i := 38) rfl rfl rfl (Wants.yes rfl rfl rfl) (fun hb => PS.loadAgg (n := 25) rfl (InR.skip (InR.skip InR.here _) _) (View.take_whole hhl)) ?_
        refine Scr.c (i := 39) rfl rfl rfl (Wants.yes rfl rfl rfl) (fun hb => PS.build (cs := (List.replicate 25 (0 : UInt8)).map u8) rfl rfl) ?_
        refine Scr.c (i := 40) rfl rfl rfl (Wants.yes rfl rfl rfl) (fun hb => PS.eqFlatN (gt hb rfl) (gt hb rfl) (fits_u8' (n := 25) hh) (fits_u8' (n := 25) rfl)) ?_
        refine Scr.ps (i := 41) rfl rfl rfl rfl (PS.pickAnd rfl (fun hc => gt hc rfl) rfl) ?_
        rw [e41]
        refine Scr.ps (i := 42) rfl rfl rfl rfl (PS.pickOr rfl rfl (fun _ => rfl)) ?_
        refine Scr.ps (i := 43) rfl rfl rfl rfl (PS.move rfl) ?_
        refine Scr.ps (i := 45) rfl rfl rfl rfl (PS.move rfl) ?_
        refine Scr.ps (i := 46) rfl rfl rfl rfl (PS.lenSlice rfl) ?_
        refine Scr.clg (i := 44) rfl rfl rfl rfl rfl rfl (fun wf => cLen b7 (some bm2) T2 _ (hTab2.up wf)) late0 ?_
        refine Scr.ps (i := 47) rfl rfl rfl rfl (PS.binInt rfl rfl rfl) ?_
        rw [show (((T2.length : Nat) : Int) != ((l1.length : Nat) : Int)) = false by rw [hRel2.len]; simp]
        refine Scr.ps (i := 48) rfl rfl rfl rfl (PS.pickOr rfl rfl (fun _ => rfl)) ?_
        refine Scr.end ?_
        refine WPL.nil ?_
        refine WP.nope rfl ?_
        refine WP.skip ?_
        refine WP.seq ?_
        refine WP.region rfl ?_
        refine WPL.p (PS.assign rfl) ?_
        refine WPL.nil ?_
        refine WP.seq ?_
        refine WP.region rfl ?_
        refine WPL.sl rfl rfl (fun wf => cOwners b7 (some bm2) T2 (by omega) _ (hTab2.up wf)) ?_
        intro v193 cs193 m193 hO193 hR193
        obtain ⟨os0, hpo, hcs3, hms3⟩ := hR193
        obtain ⟨hos1, hos2, hos3⟩ := hRel2.owners hpo
        subst hcs3 hms3
        have hoslen : (Lib.compact (os0.mergeSort fun x y => decide (x ≤ y))).length ≤ 1000000000 := by
          have h1 := Lib.compact_length_le (os0.mergeSort fun x y => decide (x ≤ y))
          have h2 := hpo.length_eq
          simp only [List.length_map, List.length_mergeSort] at h1 h2
          omega
        generalize Lib.compact (os0.mergeSort fun x y => decide (x ≤ y)) = os at hO193 hos1 hos2 hos3 hoslen ⊢
        obtain ⟨a5, b5, c5, hv5, ha5, hc5, hin5⟩ := slIn_own2 hO193
        subst hv5
        refine WPL.p (PS.assign rfl) ?_
        refine WPL.nil ?_
        refine WP.seq ?_
        refine WP.seq ?_
        refine WP.drop (L' := slL (.slice a5 os.length c5) (os.map (Value.int .i64)) 3 1 ++ (slL (.slice a1 l1.length c1) (isC l1) 126 26 ++ [(b4, .cells (k.map u8) 30)])) (List.Sublist.append (List.Sublist.refl _) ((List.Sublist.trans (List.Sublist.trans (List.Sublist.cons _ (List.Sublist.cons _ (List.Sublist.append (List.Sublist.refl _) (List.Sublist.cons _ (List.Sublist.cons _ (List.Sublist.refl _)))))) (List.sublist_append_right _ _)) (List.sublist_append_right _ _)))) ?_
        refine WP.region rfl ?_
        refine WPL.p (PS.assign rfl) ?_
        refine WPL.nil ?_
        refine WP.block ?_
        refine WP.whileV (ι := Nat × Nat) (fun s => [(0, .slice (some ⟨b, off, none⟩) acts.length c), (2, .int .i64 owner), (4, ptr b4 0), (7, ptr b7 0), (9, num i), (8, .slice a1 l1.length c1), (24, num s.2), (25, .slice a5 os.length c5), (26, num s.1)]) (fun s => setTab (G0 H b7) b7 (some bm2) T2) (fun s => slL (.slice a5 os.length c5) (os.map (Value.int .i64)) 3 1 ++ (slL (.slice a1 l1.length c1) (isC l1) 126 26 ++ [(b4, .cells (k.map u8) 30)]))
          (fun s => s.1 ≤ os.length ∧ s.2 = ((os.take s.1).map fun o => (owned o l1).length).sum) (fun s => os.length - s.1) (0, 0) ⟨rfl, rfl, rfl, rfl, rfl, rfl, rfl, rfl, rfl, trivial⟩ ⟨by simp, rfl⟩ wf_same ?_
        rintro ⟨j', sum⟩ ⟨hj', hsum⟩
        simp only at hj' hsum ⊢
        refine WP.seq ?_
        refine WP.seq ?_
        refine WP.region rfl ?_
        refine WPL.p (PS.move rfl) ?_
        refine WPL.p (PS.move rfl) ?_
        refine WPL.p (PS.lenSlice rfl) ?_
        refine WPL.p (PS.binInt rfl rfl rfl) ?_
        refine WPL.nil ?_
        refine WP.ifs rfl ?_ ?_
        · intro h9
          have qo : j' < os.length := by have := of_decide_eq_true h9; omega
          have hirO := slIn_inr (G := setTab (G0 H b7) b7 (some bm2) T2) (A := []) (B := slL (.slice a1 l1.length c1) (isC l1) 126 26 ++ [(b4, .cells (k.map u8) 30)]) hin5 (by omega)
          have ha5' := ha5 (by omega)
          subst ha5'
          refine WP.skip ?_
          refine WP.seq ?_
          refine WP.block ?_
          refine WP.seq ?_
          refine WP.region rfl ?_
          refine WPL.p (PS.move rfl) ?_
          refine WPL.p (PS.move rfl) ?_
          refine WPL.p (PS.move rfl) ?_
          refine WPL.p (PS.indexAddr rfl rfl (by omega) (by omega)) ?_
          refine WPL.p (PS.load (v := .int .i64 (os.getD j' 0)) rfl hirO (cell_row _ qo)) ?_
          refine WPL.sl rfl rfl (fun wf => cROf a1 b1 c1 l1 hlk1 (by omega) (os.getD j' 0) _ (hin _ (slL _ _ _ _) _ wf)) ?_
          intro v205 cs205 m205 hO205 hR205
          obtain ⟨hcs6, hms6⟩ := hR205
          subst hcs6 hms6
          obtain ⟨a6, b6, c6, hv6, ha6, hc6, hin6⟩ := slIn_own2 (e := 51) hO205
          subst hv6
          have hol := owned_le (os.getD j' 0) l1
          have hsb : sum + (owned (os.getD j' 0) l1).length ≤ l1.length := by
            have h1 := sum_take_le (os := os) (f := fun o => (owned o l1).length) (n := j' + 1)
            rw [sum_snoc qo, hos3] at h1
            omega
          refine WPL.p (PS.lenSlice rfl) ?_
          refine WPL.p (PS.assign rfl) ?_
          refine WPL.nil ?_
          refine WP.seq ?_
          refine WP.region rfl ?_
          refine WPL.p (PS.move rfl) ?_
          refine WPL.p (PS.move rfl) ?_
          refine WPL.p (PS.arith rfl rfl (.inl ⟨rfl, rfl⟩) (wrap_i64 (by omega) (by omega))) ?_
          refine WPL.p (PS.assign rfl) ?_
          refine WPL.nil ?_
          refine WP.seq ?_
          refine WP.draw 18 mixed (by kernel_rfl) rfl ?_
          refine Scr.ps (i := 0) rfl rfl rfl rfl (PS.move rfl) ?_
          refine Scr.ps (i := 1) rfl rfl rfl rfl (PS.binInt rfl rfl rfl) ?_
          rw [show (((owned (os.getD j' 0) l1).length : Int) == 0) = false from len_ne0 (hos2 _ (getD_mem (d := 0) qo))]
          refine Scr.ps (i := 2) rfl rfl rfl rfl (PS.move rfl) ?_
          refine Scr.ps (i := 3) rfl rfl rfl rfl (PS.move rfl) ?_
          refine Scr.ps (i := 4) rfl rfl rfl rfl (PS.binInt rfl rfl rfl) ?_
          refine Scr.ps (i := 5) rfl rfl rfl rfl (PS.move rfl) ?_
          refine Scr.c (i := 6) rfl rfl rfl (Wants.yes rfl rfl rfl) (fun hb => (PS.move rfl)) ?_
          refine Scr.c (i := 7) rfl rfl rfl (Wants.yes rfl rfl rfl) (fun hb => (PS.move rfl)) ?_
          refine Scr.c (i := 8) rfl rfl rfl (Wants.yes rfl rfl rfl) (fun hb => (PS.arith (gt hb rfl) rfl (.inr (.inl ⟨rfl, rfl⟩)) (wrap_i64 (by omega) (by omega)))) ?_
          refine Scr.c (i := 9) (v := ptr b5 (0 + ((j' : Int) - 1).toNat * 1)) rfl rfl rfl (Wants.yes rfl rfl rfl) (fun hb => PS.indexAddr (gt hb rfl) (gt hb rfl) (by have := of_decide_eq_true hb; omega) (by have := of_decide_eq_true hb; omega)) ?_
          refine Scr.c (i := 10) (v := .int .i64 (os.getD (j' - 1) 0)) rfl rfl rfl (Wants.yes rfl rfl rfl) (fun hb => PS.load (gt hb rfl) (InR.skip hirO _) (by have := of_decide_eq_true hb; rw [show ((j' : Int) - 1) = ((j' - 1 : Nat) : Int) by omega]; exact cell_row _ (by omega))) ?_
          refine Scr.c (i := 11) rfl rfl rfl (Wants.yes rfl rfl rfl) (fun hb => (PS.move rfl)) ?_
          refine Scr.c (i := 12) rfl rfl rfl (Wants.yes rfl rfl rfl) (fun hb => (PS.move rfl)) ?_
          refine Scr.c (i := 13) (v := ptr b5 (0 + (j' : Int).toNat * 1)) rfl rfl rfl (Wants.yes rfl rfl rfl) (fun hb => PS.indexAddr (gt hb rfl) (gt hb rfl) (by omega) (by omega)) ?_
          refine Scr.c (i := 14) (v := .int .i64 (os.getD j' 0)) rfl rfl rfl (Wants.yes rfl rfl rfl) (fun hb => PS.load (gt hb rfl) (InR.skip hirO _) (cell_row _ qo)) ?_
          refine Scr.c (i := 15) rfl rfl rfl (Wants.yes rfl rfl rfl) (fun hb => (PS.binInt (gt hb rfl) (gt hb rfl) rfl)) ?_
          refine Scr.ps (i := 16) rfl rfl rfl rfl (PS.pickAnd rfl (fun hc => gt hc rfl) rfl) ?_
          rw [e16 hos1 qo]
          refine Scr.ps (i := 17) rfl rfl rfl rfl (PS.pickOr rfl rfl (fun _ => rfl)) ?_
          refine Scr.end ?_
          refine WPL.nil ?_
          refine WP.nope rfl ?_
          refine WP.skip ?_
          refine WP.region rfl ?_
          refine WPL.p (PS.move rfl) ?_
          refine WPL.p (PS.arith rfl rfl (.inl ⟨rfl, rfl⟩) (wrap_i64 (by omega) (by omega))) ?_
          refine WPL.p (PS.assign rfl) ?_
          refine WPL.nil ?_
          exact ⟨(j' + 1, sum + (owned (os.getD j' 0) l1).length), by simp <;> omega, ⟨by simp <;> omega, by rw [sum_snoc qo, hsum]⟩, rfl, rfl, ⟨rfl, rfl, rfl, rfl, rfl, rfl, rfl, rfl, rfl, trivial⟩, wf_sub (List.sublist_append_right _ _)⟩
        · intro h9
          have qo : j' = os.length := by have := of_decide_eq_false h9; omega
          have hsumE : sum = l1.length := by rw [hsum, qo, List.take_length, hos3]
          refine WP.exit ?_
          refine WP.seq ?_
          refine WP.region rfl ?_
          refine WPL.p (PS.move rfl) ?_
          refine WPL.p (PS.move rfl) ?_
          refine WPL.p (PS.lenSlice rfl) ?_
          refine WPL.p (PS.binInt rfl rfl rfl) ?_
          rw [show ((sum : Int) != (l1.length : Int)) = false by rw [hsumE]; simp]
          refine WPL.nil ?_
          refine WP.nope rfl ?_
          refine WP.skip ?_
          refine WP.region rfl ?_
          refine WPL.p (PS.move rfl) ?_
          refine WPL.p (PS.arith rfl rfl (.inl ⟨rfl, rfl⟩) (wrap_i64 (by omega) (by omega))) ?_
          refine WPL.p (PS.assign rfl) ?_
          refine WPL.nil ?_
          exact ⟨(i + 1, (some bm2), T2, .slice a1 l1.length c1, l1), by simp <;> omega, ⟨by simp <;> omega, by simp <;> omega, hRel2, hO1, hz2, hm2, hTl2⟩, rfl, rfl, ⟨rfl, rfl, rfl, rfl, rfl, rfl, trivial⟩, wf_sub (List.sublist_append_right _ _)⟩
  · intro h0
    refine WP.exit ?_
    refine WP.seq ?_
    refine WP.region rfl ?_
    refine WPL.cl rfl rfl (fun wf => cKnown16 _) ?_
    refine WPL.p (PS.assign rfl) ?_
    refine WPL.nil ?_
    refine WP.ret ?_
    refine RetQ.end (.inr rfl) ((fun wf => subG hf hm wf)) ⟨_, (res1 (resT rfl) res0), ?_⟩
    exact ⟨rfl, rfl⟩

end Go.Proofs.YtfoakjdnopljmaaGreatDoor

set_option linter.unusedVariables false
set_option linter.unusedSimpArgs false
set_option maxRecDepth 100000
namespace Go.Proofs.YtfoakjdnopljmaaGreatDoor
open Go Go.Proofs

open Go.ChangeShapes Go.WideShapes Go.ChangeAt Go.RowKit

theorem tryz_own : ownKnob Tryz.prog.godebug = none := by kernel_rfl
theorem tryz_laidOut : laidOutB Tryz.prog = true := by kernel_rfl

section
variable {H : Type} {enc : TypeId × Value → H} {w : World} {base fuel : Nat} {spare : Nat → Bool} {held : Bool} {cs : List Value} {x : DataW H × List MemPlace} {o : Nat}

/-- A tag's bytes. -/
theorem read_tag (h : DataW.trod enc Tryz.prog w base spare held fuel 28 ((cs.drop o).take 10) = some x) : ∀ i, i < 10 → U8At cs (o + i) := by
  obtain ⟨xs, n, _, _, _, hxl, hel⟩ := DataW.trod_struct Tryz.underlying28 h
  have hxl : xs.length = 3 := hxl
  have g : ∀ i, i < 3 → ∃ y, xs[i]? = some y := fun i hi => ⟨_, List.getElem?_eq_getElem (by omega)⟩
  have f0 : DataW.trod enc Tryz.prog w base spare held n 25 ((((cs.drop o).take 10).drop 0).take (Tryz.prog.cellsOf 25)) = xs[0]? := hel 0 _ rfl
  have f1 : DataW.trod enc Tryz.prog w base spare held n 26 ((((cs.drop o).take 10).drop 3).take (Tryz.prog.cellsOf 26)) = xs[1]? := hel 1 _ rfl
  have f2 : DataW.trod enc Tryz.prog w base spare held n 25 ((((cs.drop o).take 10).drop 7).take (Tryz.prog.cellsOf 25)) = xs[2]? := hel 2 _ rfl
  obtain ⟨y0, e0⟩ := g 0 (by omega)
  obtain ⟨y1, e1⟩ := g 1 (by omega)
  obtain ⟨y2, e2⟩ := g 2 (by omega)
  have c5 : Tryz.prog.cellsOf 5 = 1 := by kernel_rfl
  have c3 : Tryz.prog.cellsOf 25 = 3 := by kernel_rfl
  have c4 : Tryz.prog.cellsOf 26 = 4 := by kernel_rfl
  simp only [e0, c3] at f0
  simp only [e1, c4] at f1
  simp only [e2, c3] at f2
  rw [drop_take_drop (by omega)] at f0 f1 f2
  have u0 := u8_arr Tryz.underlying25 Tryz.underlying5 c5 f0
  have u1 := u8_arr Tryz.underlying26 Tryz.underlying5 c5 f1
  have u2 := u8_arr Tryz.underlying25 Tryz.underlying5 c5 f2
  intro i hi
  by_cases h3 : i < 3
  · exact u0 i h3
  · by_cases h7 : i < 7
    · have := u1 (i - 3) (by omega)
      rwa [show o + 3 + (i - 3) = o + i by omega] at this
    · have := u2 (i - 7) (by omega)
      rwa [show o + 7 + (i - 7) = o + i by omega] at this

/-- A key reads as 25 bytes. -/
theorem read_key (hl : o + 25 ≤ cs.length) (h : DataW.trod enc Tryz.prog w base spare held fuel 30 ((cs.drop o).take 25) = some x) : ∃ k : List UInt8, okK k ∧ (cs.drop o).take 25 = k.map u8 := by
  obtain ⟨xs, n, _, _, _, hxl, hel⟩ := DataW.trod_struct Tryz.underlying30 h
  have hxl : xs.length = 5 := hxl
  have g : ∀ i, i < 5 → ∃ y, xs[i]? = some y := fun i hi => ⟨_, List.getElem?_eq_getElem (by omega)⟩
  have f0 : DataW.trod enc Tryz.prog w base spare held n 5 ((((cs.drop o).take 25).drop 0).take (Tryz.prog.cellsOf 5)) = xs[0]? := hel 0 _ rfl
  have f1 : DataW.trod enc Tryz.prog w base spare held n 5 ((((cs.drop o).take 25).drop 1).take (Tryz.prog.cellsOf 5)) = xs[1]? := hel 1 _ rfl
  have f2 : DataW.trod enc Tryz.prog w base spare held n 5 ((((cs.drop o).take 25).drop 2).take (Tryz.prog.cellsOf 5)) = xs[2]? := hel 2 _ rfl
  have f3 : DataW.trod enc Tryz.prog w base spare held n 24 ((((cs.drop o).take 25).drop 3).take (Tryz.prog.cellsOf 24)) = xs[3]? := hel 3 _ rfl
  have f4 : DataW.trod enc Tryz.prog w base spare held n 28 ((((cs.drop o).take 25).drop 15).take (Tryz.prog.cellsOf 28)) = xs[4]? := hel 4 _ rfl
  obtain ⟨y0, e0⟩ := g 0 (by omega)
  obtain ⟨y1, e1⟩ := g 1 (by omega)
  obtain ⟨y2, e2⟩ := g 2 (by omega)
  obtain ⟨y3, e3⟩ := g 3 (by omega)
  obtain ⟨y4, e4⟩ := g 4 (by omega)
  have c5 : Tryz.prog.cellsOf 5 = 1 := by kernel_rfl
  have cN : Tryz.prog.cellsOf 24 = 12 := by kernel_rfl
  have cT : Tryz.prog.cellsOf 28 = 10 := by kernel_rfl
  simp only [e0, c5] at f0
  simp only [e1, c5] at f1
  simp only [e2, c5] at f2
  simp only [e3, cN] at f3
  simp only [e4, cT] at f4
  rw [drop_take_drop (by omega)] at f0 f1 f2 f3 f4
  have u0 := u8_int Tryz.underlying5 f0
  have u1 := u8_int Tryz.underlying5 f1
  have u2 := u8_int Tryz.underlying5 f2
  have u3 := u8_arr Tryz.underlying24 Tryz.underlying5 c5 f3
  have u4 := read_tag f4
  refine u8_stretch hl fun i hi => ?_
  by_cases h3 : i < 3
  · have : i = 0 ∨ i = 1 ∨ i = 2 := by omega
    rcases this with rfl | rfl | rfl
    · exact u0
    · exact u1
    · exact u2
  · by_cases h15 : i < 15
    · have := u3 (i - 3) (by omega)
      rwa [show o + 3 + (i - 3) = o + i by omega] at this
    · have := u4 (i - 15) (by omega)
      rwa [show o + 15 + (i - 15) = o + i by omega] at this

theorem read_act (hl : cs.length = 52) (h : DataW.trod enc Tryz.prog w base spare held fuel 89 cs = some x) : ∃ a : Act16, okA a ∧ cs = actC a := by
  obtain ⟨xs, n, _, _, _, hxl, hel⟩ := DataW.trod_struct Tryz.underlying89 h
  have hxl : xs.length = 4 := hxl
  have g : ∀ i, i < 4 → ∃ y, xs[i]? = some y := fun i hi => ⟨_, List.getElem?_eq_getElem (by omega)⟩
  have f0 : DataW.trod enc Tryz.prog w base spare held n 4 ((cs.drop 0).take (Tryz.prog.cellsOf 4)) = xs[0]? := hel 0 _ rfl
  have f1 : DataW.trod enc Tryz.prog w base spare held n 3 ((cs.drop 1).take (Tryz.prog.cellsOf 3)) = xs[1]? := hel 1 _ rfl
  have f2 : DataW.trod enc Tryz.prog w base spare held n 30 ((cs.drop 2).take (Tryz.prog.cellsOf 30)) = xs[2]? := hel 2 _ rfl
  have f3 : DataW.trod enc Tryz.prog w base spare held n 30 ((cs.drop 27).take (Tryz.prog.cellsOf 30)) = xs[3]? := hel 3 _ rfl
  obtain ⟨y0, e0⟩ := g 0 (by omega)
  obtain ⟨y1, e1⟩ := g 1 (by omega)
  obtain ⟨y2, e2⟩ := g 2 (by omega)
  obtain ⟨y3, e3⟩ := g 3 (by omega)
  have c1 : Tryz.prog.cellsOf 4 = 1 := by kernel_rfl
  have c2 : Tryz.prog.cellsOf 3 = 1 := by kernel_rfl
  have cK : Tryz.prog.cellsOf 30 = 25 := by kernel_rfl
  simp only [e0, c1] at f0
  simp only [e1, c2] at f1
  simp only [e2, cK] at f2
  simp only [e3, cK] at f3
  obtain ⟨bb, b1, _⟩ := DataW.trod_bool Tryz.underlying4 f0
  obtain ⟨z, b2, _, _⟩ := DataW.trod_int Tryz.underlying3 f1
  obtain ⟨ka, hka, b3⟩ := read_key (by omega) f2
  obtain ⟨kb, hkb, b4⟩ := read_key (by omega) f3
  refine ⟨(bb, z, ka, kb), ⟨hka, hkb⟩, ?_⟩
  have h27 : (cs.drop 27).take 25 = cs.drop 27 := List.take_of_length_le (by simp; omega)
  rw [h27] at b4
  show cs = [.bool bb, .int .i64 z] ++ (ka.map u8 ++ kb.map u8)
  rw [← b3, ← b4]
  have s1 : cs = cs.take 1 ++ cs.drop 1 := (List.take_append_drop 1 cs).symm
  have s2 : cs.drop 1 = (cs.drop 1).take 1 ++ cs.drop 2 := by
    have := (List.take_append_drop 1 (cs.drop 1)).symm
    rwa [List.drop_drop] at this
  have s3 : cs.drop 2 = (cs.drop 2).take 25 ++ cs.drop 27 := by
    have := (List.take_append_drop 25 (cs.drop 2)).symm
    rwa [List.drop_drop] at this
  rw [List.drop_zero] at b1
  rw [← s3]
  calc cs = cs.take 1 ++ cs.drop 1 := s1
    _ = [.bool bb] ++ ([.int .i64 z] ++ cs.drop 2) := by rw [b1, s2, b2]
    _ = _ := by simp

/-- Functions chosen out of what there is for each place. -/
theorem choose_list {α : Type} [Inhabited α] {n : Nat} {R : Nat → α → Prop} (h : ∀ i, i < n → ∃ a, R i a) : ∃ l : List α, l.length = n ∧ ∀ i, i < n → R i (l.getD i default) := by
  induction n with
  | zero => exact ⟨[], rfl, fun i hi => by omega⟩
  | succ n ih =>
    obtain ⟨l, h1, h2⟩ := ih fun i hi => h i (by omega)
    obtain ⟨a, ha⟩ := h n (by omega)
    refine ⟨l ++ [a], by simp [h1], fun i hi => ?_⟩
    by_cases e : i < n
    · have := h2 i e
      rwa [show (l ++ [a]).getD i default = l.getD i default by simp [List.getD_eq_getElem?_getD, List.getElem?_append, h1, e]]
    · have : i = n := by omega
      subst this
      simpa [List.getD_eq_getElem?_getD, List.getElem?_append, h1] using ha
end

end Go.Proofs.YtfoakjdnopljmaaGreatDoor
