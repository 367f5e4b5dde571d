/-
  Lemmas for this claim: WName, WName2, WTag1, WTag2, WTag3, WTag4, WKey1, WKey2, WRef5, WRef5b, WName3.
-/
import Derived.Test.YtfoakjdnopljmaaGreatDoorPartC

set_option linter.unusedVariables false
set_option linter.unusedSimpArgs false
set_option maxRecDepth 100000
namespace Go.Proofs.YtfoakjdnopljmaaGreatDoor
open Go Go.Proofs



theorem c315 (c : UInt8) (H : Heap) : EvP Tryz.prog 137 [u8 c] H (.bool (isLetter c)) := by
  refine Ev.enter Tryz.func137 rfl ent137 ?_
  refine WP.seq ?_
  refine WP.region rfl ?_
  refine WPL.p (PS.assign rfl) ?_
  refine WPL.nil ?_
  refine WP.seq ?_
  refine WP.region rfl ?_
  refine WPL.p (PS.move rfl) ?_
  refine WPL.p (PS.binInt rfl rfl rfl) ?_
  refine WPL.p (PS.move rfl) ?_
  refine WPL.c (Wants.yes rfl rfl rfl) (fun hb => (PS.move rfl)) ?_
  refine WPL.c (Wants.yes rfl rfl rfl) (fun hb => (PS.binInt (gt hb rfl) rfl rfl)) ?_
  refine WPL.p (PS.pickAnd rfl (fun hc => gt hc rfl) rfl) ?_
  refine WPL.p (PS.assign rfl) ?_
  refine WPL.nil ?_
  refine WP.ret ?_
  refine RetQ.end (.inr rfl) (sub_all) ⟨_, (res1 (resT rfl) res0), ?_⟩
  exact ⟨rfl, rfl⟩

theorem c316 (c : UInt8) (H : Heap) : EvP Tryz.prog 138 [u8 c] H (.bool (isSign c)) := by
  refine Ev.enter Tryz.func138 rfl ent138 ?_
  refine WP.seq ?_
  refine WP.region rfl ?_
  refine WPL.p (PS.assign rfl) ?_
  refine WPL.nil ?_
  refine WP.seq ?_
  refine WP.region rfl ?_
  refine WPL.p (PS.move rfl) ?_
  refine WPL.cl rfl rfl (fun wf => c315 _ _) ?_
  refine WPL.p (PS.move rfl) ?_
  refine WPL.c (Wants.no rfl rfl rfl) (fun hb => (PS.move rfl)) ?_
  refine WPL.c (Wants.no rfl rfl rfl) (fun hb => (PS.binInt (gt hb rfl) rfl rfl)) ?_
  refine WPL.c (Wants.no rfl rfl rfl) (fun hb => (PS.move (gt hb rfl))) ?_
  refine WPL.c (Wants.yesG rfl rfl rfl) (fun hb => (PS.move rfl)) ?_
  refine WPL.c (Wants.yesG rfl rfl rfl) (fun hb => (PS.binInt (gt hb rfl) rfl rfl)) ?_
  refine WPL.c (Wants.no rfl rfl rfl) (fun hb => (PS.pickAnd (gt hb rfl) (fun hc => gt (andI hb hc) rfl) rfl)) ?_
  refine WPL.p (PS.pickOr rfl rfl (fun hc => gt (by rw [hc]; rfl) rfl)) ?_
  refine WPL.p (PS.move rfl) ?_
  refine WPL.c (Wants.no rfl rfl rfl) (fun hb => (PS.move rfl)) ?_
  refine WPL.c (Wants.no rfl rfl rfl) (fun hb => (PS.binInt (gt hb rfl) rfl rfl)) ?_
  refine WPL.p (PS.pickOr rfl rfl (fun hc => gt (by rw [hc]; rfl) rfl)) ?_
  refine WPL.p (PS.move rfl) ?_
  refine WPL.c (Wants.no rfl rfl rfl) (fun hb => (PS.move rfl)) ?_
  refine WPL.c (Wants.no rfl rfl rfl) (fun hb => (PS.binInt (gt hb rfl) rfl rfl)) ?_
  refine WPL.p (PS.pickOr rfl rfl (fun hc => gt (by rw [hc]; rfl) rfl)) ?_
  refine WPL.p (PS.move rfl) ?_
  refine WPL.c (Wants.no rfl rfl rfl) (fun hb => (PS.move rfl)) ?_
  refine WPL.c (Wants.no rfl rfl rfl) (fun hb => (PS.binInt (gt hb rfl) rfl rfl)) ?_
  refine WPL.p (PS.pickOr rfl rfl (fun hc => gt (by rw [hc]; rfl) rfl)) ?_
  refine WPL.p (PS.assign rfl) ?_
  refine WPL.nil ?_
  refine WP.ret ?_
  refine RetQ.end (.inr rfl) (sub_all) ⟨_, (res1 (resT rfl) res0), ?_⟩
  exact ⟨rfl, rfl⟩

theorem c252 (s : List UInt8) (H : Heap) : EvP Tryz.prog 113 [str s] H (.tuple ⟨[nm (parsedName s), okErr (validName s) 15]⟩) := by
  refine Ev.enter Tryz.func113 rfl ent113 ?_
  refine WP.seq ?_
  refine WP.region rfl ?_
  refine WPL.nw NS.alloc ?_
  intro b2
  refine WPL.p (PS.assign rfl) ?_
  refine WPL.nil ?_
  refine WP.seq ?_
  refine WP.seq ?_
  refine WP.region rfl ?_
  refine WPL.p (PS.move rfl) ?_
  refine WPL.p (PS.sLen rfl) ?_
  refine WPL.p (PS.binInt rfl rfl rfl) ?_
  refine WPL.p (PS.move rfl) ?_
  refine WPL.c (Wants.no rfl rfl rfl) (fun hb => (PS.move rfl)) ?_
  refine WPL.c (Wants.no rfl rfl rfl) (fun hb => (PS.sLen (gt hb rfl))) ?_
  refine WPL.c (Wants.no rfl rfl rfl) (fun hb => (PS.binInt (gt hb rfl) rfl rfl)) ?_
  refine WPL.p (PS.pickOr rfl rfl (fun hc => gt (by rw [hc]; rfl) rfl)) ?_
  refine WPL.p (PS.move rfl) ?_
  refine WPL.c (Wants.no rfl rfl rfl) (fun hb => (PS.move rfl)) ?_
  refine WPL.c (Wants.no rfl rfl rfl) (fun hb => (PS.sIndex (m := 0) (gt hb rfl) rfl rfl (by simp at hb; omega))) ?_
  refine WPL.clc (Wants.no rfl rfl rfl) (fun hb => rfl) (fun hb => (evsC (gt hb rfl) rfl)) (fun hb wf => c315 _ _) ?_
  refine WPL.c (Wants.no rfl rfl rfl) (fun hb => (PS.not (gt hb rfl))) ?_
  refine WPL.p (PS.pickOr rfl rfl (fun hc => gt (by rw [hc]; rfl) rfl)) ?_
  refine WPL.nil ?_
  refine WP.ifs rfl ?_ ?_
  · intro h0
    have hv : validName s = false := by
      simp only [Bool.or_eq_true, decide_eq_true_eq, Bool.not_eq_true'] at h0
      simp only [validName]
      rcases h0 with (h0 | h0) | h0
      · simp [show ¬ 1 ≤ s.length by omega]
      · simp [show ¬ s.length ≤ 12 by omega]
      · rw [h0]; simp
    refine WP.seq ?_
    refine WP.region rfl ?_
    refine WPL.p (PS.build rfl rfl) ?_
    refine WPL.s rfl rfl UpdR.here rfl rfl rfl ?_
    refine WPL.p (PS.assign rfl) ?_
    refine WPL.nil ?_
    refine WP.ret ?_
    refine toQ ?_
    refine RetQ.end (.inr rfl) (sub_all) ⟨_, (res1 (resA rfl InR.here rfl) (res1 (resT rfl) res0)), ?_⟩
    exact ⟨by simp [tupled, parsedName, okErr, hv], rfl⟩
  · intro h0
    have hv : 1 ≤ s.length ∧ s.length ≤ 12 ∧ isLetter (s.getD 0 0) = true := by
      simp only [Bool.or_eq_false_iff, decide_eq_false_iff_not, Bool.not_eq_false'] at h0
      exact ⟨by omega, by omega, h0.2⟩
    refine WP.skip ?_
    refine WP.seq ?_
    refine WP.region rfl ?_
    refine WPL.nw NS.alloc ?_
    intro b4
    refine WPL.nil ?_
    refine WP.seq ?_
    refine WP.seq ?_
    refine WP.region rfl ?_
    refine WPL.p (PS.move rfl) ?_
    refine WPL.p (PS.sLen rfl) ?_
    refine WPL.p (PS.move rfl) ?_
    refine WPL.nil ?_
    refine WP.block ?_
    refine WP.while (ι := Nat) (fun i => [(0, str s), (2, ptr b2 0), (3, num 0), (4, ptr b4 0), (22, num s.length), (23, num i)]) (fun _ => H)
      (fun i => [(b4, .cells ((pad 12 (s.take i)).map u8) 24), (b2, .cells ((List.replicate 12 (0 : UInt8)).map u8) 24)])
      (fun i => i ≤ s.length ∧ (s.take i).all isSign = true) (fun i => s.length - i) 0 ⟨rfl, rfl, rfl, rfl, rfl, rfl, trivial⟩ ⟨by omega, rfl⟩ rfl rfl ?_
    rintro i ⟨hi, ha⟩
    refine WP.seq ?_
    refine WP.region rfl ?_
    refine WPL.p (PS.binInt rfl rfl rfl) ?_
    refine WPL.nil ?_
    refine WP.seq ?_
    refine WP.ifs rfl ?_ ?_
    · intro h1
      have q1 : i < s.length := by have := of_decide_eq_true h1; omega
      refine WP.skip ?_
      refine WP.seq ?_
      refine WP.block ?_
      refine WP.seq ?_
      refine WP.region rfl ?_
      refine WPL.p (PS.move rfl) ?_
      refine WPL.p (PS.assign rfl) ?_
      refine WPL.nil ?_
      refine WP.seq ?_
      refine WP.seq ?_
      refine WP.region rfl ?_
      refine WPL.p (PS.move rfl) ?_
      refine WPL.p (PS.move rfl) ?_
      refine WPL.p (PS.sIndex (m := i) rfl rfl rfl q1) ?_
      refine WPL.cl rfl rfl (fun wf => c316 _ _) ?_
      refine WPL.p (PS.not rfl) ?_
      refine WPL.nil ?_
      refine WP.ifs rfl ?_ ?_
      · intro h2
        have hv' : validName s = false := by
          have : s.all isSign = false := by
            rw [Bool.not_eq_true'] at h2
            refine List.all_eq_false.2 ⟨s.getD i 0, ?_, by rw [h2]; simp⟩
            simp [List.getD_eq_getElem?_getD, q1]
          simp [validName, this]
        refine WP.seq ?_
        refine WP.region rfl ?_
        refine WPL.p (PS.build rfl rfl) ?_
        refine WPL.s rfl rfl (UpdR.there UpdR.here) rfl rfl rfl ?_
        refine WPL.p (PS.assign rfl) ?_
        refine WPL.nil ?_
        refine WP.ret ?_
        refine toQ (toB (toQ (toQ (toB (toQ ?_)))))
        refine RetQ.end (.inr rfl) (sub_all) ⟨_, (res1 (resA rfl (InR.there InR.here) rfl) (res1 (resT rfl) res0)), ?_⟩
        exact ⟨by simp [tupled, parsedName, okErr, hv'], rfl⟩
      · intro h2
        refine WP.skip ?_
        refine WP.region rfl ?_
        refine WPL.p (PS.move rfl) ?_
        refine WPL.p (PS.move rfl) ?_
        refine WPL.p (PS.move rfl) ?_
        refine WPL.p (PS.sIndex (m := i) rfl rfl rfl q1) ?_
        refine WPL.p (PS.indexAddrArr rfl rfl (by omega) (by omega)) ?_
        refine WPL.s rfl rfl UpdR.here rfl rfl (View.write_one (by simp [pad]; omega)) ?_
        refine WPL.nil ?_
        refine WP.region rfl ?_
        refine WPL.p (PS.arith rfl rfl (.inl ⟨rfl, rfl⟩) (wrap_i64 (by omega) (by omega))) ?_
        refine WPL.p (PS.move rfl) ?_
        refine WPL.nil ?_
        exact ⟨i + 1, by omega, ⟨by omega, by rw [all_take_succ q1, ha, notF h2]; rfl⟩, rfl, rfl, ⟨rfl, rfl, rfl, rfl, rfl, rfl, trivial⟩, rfl, by simp only [Int.toNat_natCast, Nat.mul_one, Nat.zero_add, map_set, pad_set hv.2.1 q1]⟩
    · intro h1
      have q1 : i = s.length := by have := of_decide_eq_false h1; omega
      have hv' : validName s = true := by
        subst q1; simp only [List.take_length] at ha
        simp only [validName, hv.1, hv.2.1, hv.2.2, ha, decide_true, Bool.and_self]
      refine WP.exit ?_
      refine WP.seq ?_
      refine WP.region rfl ?_
      refine WPL.p (PS.loadAgg rfl InR.here (View.take_whole (by simp [pad]; omega))) ?_
      refine WPL.s rfl rfl (UpdR.there UpdR.here) (by simp [pad]; omega) (one_u8 _) (View.write_whole (by simp [pad]; omega)) ?_
      refine WPL.p (PS.assign rfl) ?_
      refine WPL.nil ?_
      refine WP.ret ?_
      refine RetQ.end (.inr rfl) (sub_all) ⟨_, (res1 (resA rfl (InR.there InR.here) (View.take_whole (by simp [pad]; omega))) (res1 (resT rfl) res0)), ?_⟩
      exact ⟨by subst q1; simp [tupled, parsedName, okErr, hv', List.take_length], rfl⟩

end Go.Proofs.YtfoakjdnopljmaaGreatDoor

set_option linter.unusedVariables false
set_option linter.unusedSimpArgs false
set_option maxRecDepth 100000
namespace Go.Proofs.YtfoakjdnopljmaaGreatDoor
open Go Go.Proofs

theorem x369 {v : Value} {s : List UInt8} {c : UInt8} {H : Heap} (h : BytesAt H v s) : Xv Tryz.prog 165 [v, u8 c] H (.int .i64 (Lib.indexByte s c)) :=
  Xv.of (e := Extern.BytealgIndexByte.indexByte) Tryz.func165 (by kernel_rfl) (by kernel_rfl) (by kernel_rfl) (by kernel_rfl) fun w hw => indexByte_run (h.run hw)

theorem c317 (v : Value) (s : List UInt8) (c : UInt8) (H : Heap) (h : BytesAt H v s) : EvP Tryz.prog 139 [v, u8 c] H (.int .i64 (Lib.indexByte s c)) := by
  refine Ev.enter Tryz.func139 rfl ent139 ?_
  refine WP.seq ?_
  refine WP.region rfl ?_
  refine WPL.p (PS.assign rfl) ?_
  refine WPL.nil ?_
  refine WP.seq ?_
  refine WP.region rfl ?_
  refine WPL.p (PS.move rfl) ?_
  refine WPL.p (PS.move rfl) ?_
  refine WPL.p (PS.ext rfl rfl (fun wf => x369 h)) ?_
  refine WPL.p (PS.assign rfl) ?_
  refine WPL.nil ?_
  refine WP.ret ?_
  refine RetQ.end (.inr rfl) (sub_all) ⟨_, (res1 (resT rfl) res0), ?_⟩
  exact ⟨rfl, rfl⟩

theorem c253 (n : List UInt8) (hn : n.length = 12) (H : Heap) : EvP Tryz.prog 114 [nm n] H (str (front n)) := by
  refine Ev.enter Tryz.func114 rfl ent114 ?_
  refine WP.seq ?_
  refine WP.region rfl ?_
  refine WPL.nw (NS.boxA rfl) ?_
  intro b1
  refine WPL.p (PS.assign rfl) ?_
  refine WPL.nil ?_
  refine WP.seq ?_
  refine WP.region rfl ?_
  refine WPL.p (PS.slArr (b := b1) (off := 0) (len := 12) (n := 1) rfl Bnd.none Bnd.none Bnd.none (by omega) (by omega) (by omega) (by simp)) ?_
  refine WPL.p (PS.assign rfl) ?_
  refine WPL.nil ?_
  refine WP.seq ?_
  refine WP.seq ?_
  refine WP.region rfl ?_
  refine WPL.p (PS.move rfl) ?_
  refine WPL.cl rfl rfl (fun wf => c317 _ n 0 _ (.inl ⟨b1, 0, 12, _, by rw [hn]; rfl, InR.here wf, by rw [hn]; exact View.take_whole (by simp [hn])⟩)) ?_
  refine WPL.p (PS.assign rfl) ?_
  refine WPL.nil ?_
  refine WP.seq ?_
  refine WP.region rfl ?_
  refine WPL.p (PS.move rfl) ?_
  refine WPL.p (PS.binInt rfl rfl rfl) ?_
  refine WPL.nil ?_
  refine WP.ifs rfl ?_ ?_
  · intro h0
    have h1 := index_ge (of_decide_eq_true h0)
    have h2 := front_le n
    refine WP.region rfl ?_
    refine WPL.p (PS.move rfl) ?_
    refine WPL.p (PS.move rfl) ?_
    refine WPL.p (PS.slSlice (b := b1) (off := 0) (len := 12) (cap := 12) (n := 1) rfl Bnd.none (Bnd.some rfl h1) Bnd.none (by omega) (by omega) (by omega) (by simp)) ?_
    refine WPL.p (PS.assign rfl) ?_
    refine WPL.nil ?_
    refine WP.seq ?_
    refine WP.region rfl ?_
    refine WPL.p (PS.move rfl) ?_
    have hq : View.take (.cells (nm n).cells.toList 24) 0 (front n).length = some ((front n).map u8) := by
      have := View.take_cells (cs := n.map u8) (e := 24) (o := 0) (n := (front n).length) (by simp; have := front_le n; omega)
      rw [List.drop_zero, ← List.map_take, front_take] at this; exact this
    refine WPL.p (PS.b2s (b := b1) (off := 0) (s := front n) rfl InR.here (by first | exact hq | (rw [h1] at hq ⊢; rw [hn] at hq; exact hq))) ?_
    refine WPL.p (PS.assign rfl) ?_
    refine WPL.nil ?_
    refine WP.ret ?_
    refine RetQ.end (.inr rfl) (sub_all) ⟨_, (res1 (resT rfl) res0), ?_⟩
    exact ⟨rfl, rfl⟩
  · intro h0
    have h1 := index_lt (of_decide_eq_false h0)
    refine WP.skip ?_
    refine WP.seq ?_
    refine WP.region rfl ?_
    refine WPL.p (PS.move rfl) ?_
    have hq : View.take (.cells (nm n).cells.toList 24) 0 (front n).length = some ((front n).map u8) := by
      have := View.take_cells (cs := n.map u8) (e := 24) (o := 0) (n := (front n).length) (by simp; have := front_le n; omega)
      rw [List.drop_zero, ← List.map_take, front_take] at this; exact this
    refine WPL.p (PS.b2s (b := b1) (off := 0) (s := front n) rfl InR.here (by first | exact hq | (rw [h1] at hq ⊢; rw [hn] at hq; exact hq))) ?_
    refine WPL.p (PS.assign rfl) ?_
    refine WPL.nil ?_
    refine WP.ret ?_
    refine RetQ.end (.inr rfl) (sub_all) ⟨_, (res1 (resT rfl) res0), ?_⟩
    exact ⟨rfl, rfl⟩

theorem c184 (n : List UInt8) (hn : n.length = 12) (H : Heap) : EvP Tryz.prog 76 [nm n] H (.bool (rightName n)) := by
  refine Ev.enter Tryz.func76 rfl ent76 ?_
  refine WP.seq ?_
  refine WP.region rfl ?_
  refine WPL.nw (NS.boxA rfl) ?_
  intro b1
  refine WPL.p (PS.assign rfl) ?_
  refine WPL.nil ?_
  refine WP.seq ?_
  refine WP.region rfl ?_
  refine WPL.p (PS.loadAgg rfl InR.here (View.take_whole (by simp [hn]))) ?_
  refine WPL.cl rfl rfl (fun wf => c253 n hn _) ?_
  refine WPL.cl rfl rfl (fun wf => c252 _ _) ?_
  refine WPL.p (PS.move rfl) ?_
  refine WPL.p (PS.extract rfl rfl) ?_
  refine WPL.p (PS.extract rfl rfl) ?_
  refine WPL.nw NS.alloc ?_
  intro b3
  refine WPL.sA (m := 12) rfl rfl UpdR.here (by first | rfl | simp [hn, parsedName_length]) (by first | rfl | exact one_u8 _) (by first | rfl | exact View.write_whole (by simp [hn, parsedName_length])) ?_
  refine WPL.p (PS.assign rfl) ?_
  refine WPL.nil ?_
  refine WP.seq ?_
  refine WP.region rfl ?_
  refine WPL.p (PS.move rfl) ?_
  refine WPL.p (PS.binInt rfl rfl rfl) ?_
  refine WPL.p (PS.move rfl) ?_
  refine WPL.c (Wants.yes rfl rfl rfl) (fun hb => (PS.loadAgg rfl InR.here (by first | rfl | exact View.take_whole (by simp [hn, parsedName_length])))) ?_
  refine WPL.c (Wants.yes rfl rfl rfl) (fun hb => (PS.loadAgg rfl (InR.there InR.here) (by first | rfl | exact View.take_whole (by simp [hn, parsedName_length])))) ?_
  refine WPL.c (Wants.yes rfl rfl rfl) (fun hb => (PS.eqFlat (gt hb rfl) (gt hb rfl) (fits_u8' (n := 12) (parsedName_length _)) (fits_u8' (n := 12) hn))) ?_
  refine WPL.p (PS.pickAnd rfl (fun hc => gt hc rfl) rfl) ?_
  refine WPL.p (PS.assign rfl) ?_
  refine WPL.nil ?_
  refine WP.ret ?_
  refine RetQ.end (.inr rfl) (sub_all) ⟨_, (res1 (resT rfl) res0), ?_⟩
  exact ⟨by simp only [tupled, rightName, cellsEq_u8, parsedName]; cases validName (front n) <;> simp [cellsEq_u8], rfl⟩

theorem c68 (s : List UInt8) (H : Heap) : EvP Tryz.prog 108 [str s] H (.bool (validName s)) := by
  refine Ev.enter Tryz.func108 rfl ent108 ?_
  refine WP.seq ?_
  refine WP.region rfl ?_
  refine WPL.p (PS.assign rfl) ?_
  refine WPL.nil ?_
  refine WP.seq ?_
  refine WP.seq ?_
  refine WP.region rfl ?_
  refine WPL.p (PS.move rfl) ?_
  refine WPL.p (PS.sLen rfl) ?_
  refine WPL.p (PS.binInt rfl rfl rfl) ?_
  refine WPL.p (PS.move rfl) ?_
  refine WPL.c (Wants.no rfl rfl rfl) (fun hb => (PS.move rfl)) ?_
  refine WPL.c (Wants.no rfl rfl rfl) (fun hb => (PS.sLen (gt hb rfl))) ?_
  refine WPL.c (Wants.no rfl rfl rfl) (fun hb => (PS.binInt (gt hb rfl) rfl rfl)) ?_
  refine WPL.p (PS.pickOr rfl rfl (fun hc => gt (by rw [hc]; rfl) rfl)) ?_
  refine WPL.nil ?_
  refine WP.ifs rfl ?_ ?_
  · intro h0
    have hv : validName s = false := by
      simp only [Bool.or_eq_true, decide_eq_true_eq] at h0
      simp only [validName]
      rcases h0 with h0 | h0
      · simp [show ¬ 1 ≤ s.length by omega]
      · simp [show ¬ s.length ≤ 12 by omega]
    refine WP.seq ?_
    refine WP.region rfl ?_
    refine WPL.p (PS.assign rfl) ?_
    refine WPL.nil ?_
    refine WP.ret ?_
    refine toQ ?_
    refine RetQ.end (.inr rfl) (sub_all) ⟨_, (res1 (resT rfl) res0), ?_⟩
    exact ⟨by rw [hv]; rfl, rfl⟩
  · intro h0
    have hv : 1 ≤ s.length ∧ s.length ≤ 12 := by
      simp only [Bool.or_eq_false_iff, decide_eq_false_iff_not] at h0
      omega
    refine WP.skip ?_
    refine WP.seq ?_
    refine WP.seq ?_
    refine WP.region rfl ?_
    refine WPL.p (PS.assign rfl) ?_
    refine WPL.nil ?_
    refine WP.block ?_
    refine WP.while (ι := Nat) (fun i => [(0, str s), (2, .bool false), (3, num i)]) (fun _ => H)
      (fun i => []) (fun i => i ≤ s.length ∧ (s.take i).all isSign = true ∧ (1 ≤ i → isLetter (s.getD 0 0) = true)) (fun i => s.length - i) 0 ⟨rfl, rfl, rfl, trivial⟩ ⟨by omega, rfl, by omega⟩ rfl rfl ?_
    rintro i ⟨hi, ha, hl⟩
    refine WP.seq ?_
    refine WP.seq ?_
    refine WP.region rfl ?_
    refine WPL.p (PS.move rfl) ?_
    refine WPL.p (PS.move rfl) ?_
    refine WPL.p (PS.sLen rfl) ?_
    refine WPL.p (PS.binInt rfl rfl rfl) ?_
    refine WPL.nil ?_
    refine WP.ifs rfl ?_ ?_
    · intro h1
      have q1 : i < s.length := by have := of_decide_eq_true h1; omega
      refine WP.skip ?_
      refine WP.seq ?_
      refine WP.block ?_
      refine WP.seq ?_
      refine WP.region rfl ?_
      refine WPL.p (PS.move rfl) ?_
      refine WPL.p (PS.move rfl) ?_
      refine WPL.p (PS.sIndex (m := i) rfl rfl rfl q1) ?_
      refine WPL.p (PS.assign rfl) ?_
      refine WPL.nil ?_
      refine WP.seq ?_
      refine WP.region rfl ?_
      refine WPL.p (PS.move rfl) ?_
      refine WPL.p (PS.binInt rfl rfl rfl) ?_
      refine WPL.p (PS.move rfl) ?_
      refine WPL.c (Wants.yes rfl rfl rfl) (fun hb => (PS.move rfl)) ?_
      refine WPL.c (Wants.yes rfl rfl rfl) (fun hb => (PS.binInt (gt hb rfl) rfl rfl)) ?_
      refine WPL.p (PS.pickAnd rfl (fun hc => gt hc rfl) rfl) ?_
      refine WPL.p (PS.assign rfl) ?_
      refine WPL.nil ?_
      refine WP.seq ?_
      refine WP.region rfl ?_
      refine WPL.p (PS.move rfl) ?_
      refine WPL.p (PS.binInt rfl rfl rfl) ?_
      refine WPL.p (PS.move rfl) ?_
      refine WPL.c (Wants.yes rfl rfl rfl) (fun hb => (PS.move rfl)) ?_
      refine WPL.c (Wants.yes rfl rfl rfl) (fun hb => (PS.binInt (gt hb rfl) rfl rfl)) ?_
      refine WPL.p (PS.pickAnd rfl (fun hc => gt hc rfl) rfl) ?_
      refine WPL.p (PS.move rfl) ?_
      refine WPL.c (Wants.no rfl rfl rfl) (fun hb => (PS.move rfl)) ?_
      refine WPL.c (Wants.no rfl rfl rfl) (fun hb => (PS.binInt (gt hb rfl) rfl rfl)) ?_
      refine WPL.p (PS.pickOr rfl rfl (fun hc => gt (by rw [hc]; rfl) rfl)) ?_
      refine WPL.p (PS.move rfl) ?_
      refine WPL.c (Wants.no rfl rfl rfl) (fun hb => (PS.move rfl)) ?_
      refine WPL.c (Wants.no rfl rfl rfl) (fun hb => (PS.binInt (gt hb rfl) rfl rfl)) ?_
      refine WPL.p (PS.pickOr rfl rfl (fun hc => gt (by rw [hc]; rfl) rfl)) ?_
      refine WPL.p (PS.move rfl) ?_
      refine WPL.c (Wants.no rfl rfl rfl) (fun hb => (PS.move rfl)) ?_
      refine WPL.c (Wants.no rfl rfl rfl) (fun hb => (PS.binInt (gt hb rfl) rfl rfl)) ?_
      refine WPL.p (PS.pickOr rfl rfl (fun hc => gt (by rw [hc]; rfl) rfl)) ?_
      refine WPL.p (PS.assign rfl) ?_
      refine WPL.nil ?_
      refine WP.seq ?_
      refine WP.region rfl ?_
      refine WPL.p (PS.move rfl) ?_
      refine WPL.p (PS.not rfl) ?_
      refine WPL.p (PS.move rfl) ?_
      refine WPL.c (Wants.yes rfl rfl rfl) (fun hb => (PS.move rfl)) ?_
      refine WPL.c (Wants.yes rfl rfl rfl) (fun hb => (PS.not (gt hb rfl))) ?_
      refine WPL.c (Wants.yes rfl rfl rfl) (fun hb => (PS.move (gt hb rfl))) ?_
      refine WPL.c (Wants.noG rfl rfl rfl) (fun hb => (PS.move rfl)) ?_
      refine WPL.c (Wants.noG rfl rfl rfl) (fun hb => (PS.binInt (gt hb rfl) rfl rfl)) ?_
      refine WPL.c (Wants.yes rfl rfl rfl) (fun hb => (PS.pickOr (gt hb rfl) rfl (fun hc => gt (andI hb (notI hc)) rfl))) ?_
      refine WPL.p (PS.pickAnd rfl (fun hc => gt hc rfl) rfl) ?_
      refine WPL.nil ?_
      refine WP.ifs rfl ?_ ?_
      · intro h2
        have hv' : validName s = false := is_step_bad q1 h2
        refine WP.seq ?_
        refine WP.region rfl ?_
        refine WPL.p (PS.assign rfl) ?_
        refine WPL.nil ?_
        refine WP.ret ?_
        refine toB (toQ (toQ (toB (toQ ?_))))
        refine RetQ.end (.inr rfl) (sub_all) ⟨_, (res1 (resT rfl) res0), ?_⟩
        exact ⟨by rw [hv']; rfl, rfl⟩
      · intro h2
        have q2 : isSign (s.getD i 0) = true ∧ (i = 0 → isLetter (s.getD i 0) = true) := is_step h2
        refine WP.skip ?_
        refine WP.region rfl ?_
        refine WPL.p (PS.move rfl) ?_
        refine WPL.p (PS.arith rfl rfl (.inl ⟨rfl, rfl⟩) (wrap_i64 (by omega) (by omega))) ?_
        refine WPL.p (PS.assign rfl) ?_
        refine WPL.nil ?_
        exact ⟨i + 1, by omega, ⟨by omega, by rw [all_take_succ q1, ha]; exact q2.1, fun _ => (Nat.eq_zero_or_pos i).elim (fun e => by subst e; exact q2.2 rfl) hl⟩, rfl, rfl, ⟨rfl, rfl, rfl, trivial⟩, rfl, rfl⟩
    · intro h1
      have q1 : i = s.length := by have := of_decide_eq_false h1; omega
      have hv' : validName s = true := by
        subst q1; simp only [List.take_length] at ha
        simp only [validName, hv.1, hv.2, hl hv.1, ha, decide_true, Bool.and_self]
      refine WP.exit ?_
      refine WP.seq ?_
      refine WP.region rfl ?_
      refine WPL.p (PS.assign rfl) ?_
      refine WPL.nil ?_
      refine WP.ret ?_
      refine RetQ.end (.inr rfl) (sub_all) ⟨_, (res1 (resT rfl) res0), ?_⟩
      exact ⟨by rw [hv']; rfl, rfl⟩

end Go.Proofs.YtfoakjdnopljmaaGreatDoor

set_option linter.unusedVariables false
set_option linter.unusedSimpArgs false
set_option maxRecDepth 100000
namespace Go.Proofs.YtfoakjdnopljmaaGreatDoor
open Go Go.Proofs

theorem c151 (c : UInt8) (H : Heap) : EvP Tryz.prog 142 [u8 c] H (.bool (tLetter c)) := by
  refine Ev.enter Tryz.func142 rfl ent142 ?_
  refine WP.seq ?_
  refine WP.region rfl ?_
  refine WPL.p (PS.assign rfl) ?_
  refine WPL.nil ?_
  refine WP.seq ?_
  refine WP.region rfl ?_
  refine WPL.p (PS.move rfl) ?_
  refine WPL.p (PS.binInt rfl rfl rfl) ?_
  refine WPL.p (PS.move rfl) ?_
  refine WPL.c (Wants.yes rfl rfl rfl) (fun hb => (PS.move rfl)) ?_
  refine WPL.c (Wants.yes rfl rfl rfl) (fun hb => (PS.binInt (gt hb rfl) rfl rfl)) ?_
  refine WPL.p (PS.pickAnd rfl (fun hc => gt hc rfl) rfl) ?_
  refine WPL.p (PS.move rfl) ?_
  refine WPL.c (Wants.no rfl rfl rfl) (fun hb => (PS.move rfl)) ?_
  refine WPL.c (Wants.no rfl rfl rfl) (fun hb => (PS.binInt (gt hb rfl) rfl rfl)) ?_
  refine WPL.c (Wants.no rfl rfl rfl) (fun hb => (PS.move (gt hb rfl))) ?_
  refine WPL.c (Wants.yesG rfl rfl rfl) (fun hb => (PS.move rfl)) ?_
  refine WPL.c (Wants.yesG rfl rfl rfl) (fun hb => (PS.binInt (gt hb rfl) rfl rfl)) ?_
  refine WPL.c (Wants.no rfl rfl rfl) (fun hb => (PS.pickAnd (gt hb rfl) (fun hc => gt (andI hb hc) rfl) rfl)) ?_
  refine WPL.p (PS.pickOr rfl rfl (fun hc => gt (by rw [hc]; rfl) rfl)) ?_
  refine WPL.p (PS.assign rfl) ?_
  refine WPL.nil ?_
  refine WP.ret ?_
  refine RetQ.end (.inr rfl) (sub_all) ⟨_, (res1 (resT rfl) res0), ?_⟩
  exact ⟨rfl, rfl⟩

theorem c154 (c : UInt8) (H : Heap) : EvP Tryz.prog 145 [u8 c] H (.bool (tDigit c)) := by
  refine Ev.enter Tryz.func145 rfl ent145 ?_
  refine WP.seq ?_
  refine WP.region rfl ?_
  refine WPL.p (PS.assign rfl) ?_
  refine WPL.nil ?_
  refine WP.seq ?_
  refine WP.region rfl ?_
  refine WPL.p (PS.move rfl) ?_
  refine WPL.p (PS.binInt rfl rfl rfl) ?_
  refine WPL.p (PS.move rfl) ?_
  refine WPL.c (Wants.yes rfl rfl rfl) (fun hb => (PS.move rfl)) ?_
  refine WPL.c (Wants.yes rfl rfl rfl) (fun hb => (PS.binInt (gt hb rfl) rfl rfl)) ?_
  refine WPL.p (PS.pickAnd rfl (fun hc => gt hc rfl) rfl) ?_
  refine WPL.p (PS.assign rfl) ?_
  refine WPL.nil ?_
  refine WP.ret ?_
  refine RetQ.end (.inr rfl) (sub_all) ⟨_, (res1 (resT rfl) res0), ?_⟩
  exact ⟨rfl, rfl⟩

theorem c152 (c : UInt8) (H : Heap) : EvP Tryz.prog 143 [u8 c] H (u8 (tLower c)) := by
  refine Ev.enter Tryz.func143 rfl ent143 ?_
  refine WP.seq ?_
  refine WP.region rfl ?_
  refine WPL.p (PS.assign rfl) ?_
  refine WPL.nil ?_
  refine WP.seq ?_
  refine WP.seq ?_
  refine WP.region rfl ?_
  refine WPL.p (PS.move rfl) ?_
  refine WPL.p (PS.binInt rfl rfl rfl) ?_
  refine WPL.p (PS.move rfl) ?_
  refine WPL.c (Wants.yes rfl rfl rfl) (fun hb => (PS.move rfl)) ?_
  refine WPL.c (Wants.yes rfl rfl rfl) (fun hb => (PS.binInt (gt hb rfl) rfl rfl)) ?_
  refine WPL.p (PS.pickAnd rfl (fun hc => gt hc rfl) rfl) ?_
  refine WPL.nil ?_
  refine WP.ifs rfl ?_ ?_
  · intro h0
    refine WP.seq ?_
    refine WP.region rfl ?_
    refine WPL.p (PS.move rfl) ?_
    refine WPL.p (PS.binInt rfl rfl rfl) ?_
    refine WPL.p (PS.assign rfl) ?_
    refine WPL.nil ?_
    refine WP.ret ?_
    refine toQ ?_
    refine RetQ.end (.inr rfl) (sub_all) ⟨_, (res1 (resT rfl) res0), ?_⟩
    exact ⟨by rw [← u8_add h0]; rfl, rfl⟩
  · intro h0
    refine WP.skip ?_
    refine WP.seq ?_
    refine WP.region rfl ?_
    refine WPL.p (PS.move rfl) ?_
    refine WPL.p (PS.assign rfl) ?_
    refine WPL.nil ?_
    refine WP.ret ?_
    refine RetQ.end (.inr rfl) (sub_all) ⟨_, (res1 (resT rfl) res0), ?_⟩
    exact ⟨by simp only [tLower, h0]; rfl, rfl⟩

theorem c153 (c : UInt8) (H : Heap) : EvP Tryz.prog 144 [u8 c] H (u8 (tUpper c)) := by
  refine Ev.enter Tryz.func144 rfl ent144 ?_
  refine WP.seq ?_
  refine WP.region rfl ?_
  refine WPL.p (PS.assign rfl) ?_
  refine WPL.nil ?_
  refine WP.seq ?_
  refine WP.seq ?_
  refine WP.region rfl ?_
  refine WPL.p (PS.move rfl) ?_
  refine WPL.p (PS.binInt rfl rfl rfl) ?_
  refine WPL.p (PS.move rfl) ?_
  refine WPL.c (Wants.yes rfl rfl rfl) (fun hb => (PS.move rfl)) ?_
  refine WPL.c (Wants.yes rfl rfl rfl) (fun hb => (PS.binInt (gt hb rfl) rfl rfl)) ?_
  refine WPL.p (PS.pickAnd rfl (fun hc => gt hc rfl) rfl) ?_
  refine WPL.nil ?_
  refine WP.ifs rfl ?_ ?_
  · intro h0
    refine WP.seq ?_
    refine WP.region rfl ?_
    refine WPL.p (PS.move rfl) ?_
    refine WPL.p (PS.binInt rfl rfl rfl) ?_
    refine WPL.p (PS.assign rfl) ?_
    refine WPL.nil ?_
    refine WP.ret ?_
    refine toQ ?_
    refine RetQ.end (.inr rfl) (sub_all) ⟨_, (res1 (resT rfl) res0), ?_⟩
    exact ⟨by rw [← u8_sub h0]; rfl, rfl⟩
  · intro h0
    refine WP.skip ?_
    refine WP.seq ?_
    refine WP.region rfl ?_
    refine WPL.p (PS.move rfl) ?_
    refine WPL.p (PS.assign rfl) ?_
    refine WPL.nil ?_
    refine WP.ret ?_
    refine RetQ.end (.inr rfl) (sub_all) ⟨_, (res1 (resT rfl) res0), ?_⟩
    exact ⟨by simp only [tUpper, h0]; rfl, rfl⟩

theorem c150 (s : List UInt8) (f : FuncId) (p : UInt8 → Bool) (hs : s.length ≤ 9223372036854775807) (H : Heap) (hf : ∀ c, EvP Tryz.prog f [u8 c] H (.bool (p c))) : EvP Tryz.prog 141 [str s, .func (.func f) #[] #[]] H (.bool (s.all p)) := by
  refine Ev.enter Tryz.func141 rfl ent141 ?_
  refine WP.seq ?_
  refine WP.region rfl ?_
  refine WPL.p (PS.assign rfl) ?_
  refine WPL.nil ?_
  refine WP.seq ?_
  refine WP.seq ?_
  refine WP.region rfl ?_
  refine WPL.p (PS.move rfl) ?_
  refine WPL.p (PS.sLen rfl) ?_
  refine WPL.p (PS.move rfl) ?_
  refine WPL.nil ?_
  refine WP.block ?_
  refine WP.while (ι := Nat) (fun i => [(0, str s), (1, .func (.func f) #[] #[]), (4, .bool false), (7, num s.length), (8, num i)]) (fun _ => H)
    (fun i => []) (fun i => i ≤ s.length ∧ (s.take i).all p = true) (fun i => s.length - i) 0 ⟨rfl, rfl, rfl, rfl, rfl, trivial⟩ ⟨by omega, rfl⟩ rfl rfl ?_
  rintro i ⟨hi, ha⟩
  refine WP.seq ?_
  refine WP.region rfl ?_
  refine WPL.p (PS.binInt rfl rfl rfl) ?_
  refine WPL.nil ?_
  refine WP.seq ?_
  refine WP.ifs rfl ?_ ?_
  · intro h0
    have q1 : i < s.length := by have := of_decide_eq_true h0; omega
    refine WP.skip ?_
    refine WP.seq ?_
    refine WP.block ?_
    refine WP.seq ?_
    refine WP.region rfl ?_
    refine WPL.p (PS.move rfl) ?_
    refine WPL.p (PS.assign rfl) ?_
    refine WPL.nil ?_
    refine WP.seq ?_
    refine WP.region rfl ?_
    refine WPL.p (PS.move rfl) ?_
    refine WPL.p (PS.move rfl) ?_
    refine WPL.p (PS.move rfl) ?_
    refine WPL.p (PS.sIndex (m := i) rfl rfl rfl q1) ?_
    refine WPL.cl rfl rfl (fun wf => hf _) ?_
    refine WPL.p (PS.not rfl) ?_
    refine WPL.nil ?_
    refine WP.ifs rfl ?_ ?_
    · intro h1
      have hv : s.all p = false := by
        rw [Bool.not_eq_true'] at h1
        refine List.all_eq_false.2 ⟨s.getD i 0, ?_, by rw [h1]; simp⟩
        simp [List.getD_eq_getElem?_getD, q1]
      refine WP.seq ?_
      refine WP.region rfl ?_
      refine WPL.p (PS.assign rfl) ?_
      refine WPL.nil ?_
      refine WP.ret ?_
      refine toB (toQ (toQ (toB (toQ ?_))))
      refine RetQ.end (.inr rfl) (sub_all) ⟨_, (res1 (resT rfl) res0), ?_⟩
      exact ⟨by rw [hv]; rfl, rfl⟩
    · intro h1
      refine WP.skip ?_
      refine WP.region rfl ?_
      refine WPL.p (PS.arith rfl rfl (.inl ⟨rfl, rfl⟩) (wrap_i64 (by omega) (by omega))) ?_
      refine WPL.p (PS.move rfl) ?_
      refine WPL.nil ?_
      exact ⟨i + 1, by omega, ⟨by omega, by rw [all_take_succ q1, ha, notF h1]; rfl⟩, rfl, rfl, ⟨rfl, rfl, rfl, rfl, rfl, trivial⟩, rfl, rfl⟩
  · intro h0
    have q1 : i = s.length := by have := of_decide_eq_false h0; omega
    have hv : s.all p = true := by subst q1; rwa [List.take_length] at ha
    refine WP.exit ?_
    refine WP.seq ?_
    refine WP.region rfl ?_
    refine WPL.p (PS.assign rfl) ?_
    refine WPL.nil ?_
    refine WP.ret ?_
    refine RetQ.end (.inr rfl) (sub_all) ⟨_, (res1 (resT rfl) res0), ?_⟩
    exact ⟨by rw [hv]; rfl, rfl⟩

theorem c377 (s : List UInt8) (c : UInt8) (hs : s.length ≤ 9223372036854775807) (H : Heap) : EvP Tryz.prog 177 [str s, u8 c] H (str (trimR c s)) := by
  refine Ev.enter Tryz.func177 rfl ent177 ?_
  refine WP.seq ?_
  refine WP.region rfl ?_
  refine WPL.p (PS.assign rfl) ?_
  refine WPL.nil ?_
  refine WP.seq ?_
  refine WP.block ?_
  refine WP.while (ι := List UInt8) (fun t => [(0, str t), (1, u8 c), (4, str [])]) (fun _ => H)
    (fun _ => []) (fun t => t.length ≤ s.length ∧ trimR c t = trimR c s) (fun t => t.length) s ⟨rfl, rfl, rfl, trivial⟩ ⟨Nat.le_refl _, rfl⟩ rfl rfl ?_
  rintro t ⟨hi, ha⟩
  refine WP.seq ?_
  refine WP.seq ?_
  refine WP.region rfl ?_
  refine WPL.p (PS.move rfl) ?_
  refine WPL.p (PS.sLen rfl) ?_
  refine WPL.p (PS.binInt rfl rfl rfl) ?_
  refine WPL.p (PS.move rfl) ?_
  refine WPL.c (Wants.yes rfl rfl rfl) (fun hb => (PS.move rfl)) ?_
  refine WPL.c (Wants.yes rfl rfl rfl) (fun hb => (PS.move rfl)) ?_
  refine WPL.c (Wants.yes rfl rfl rfl) (fun hb => (PS.sLen (gt hb rfl))) ?_
  have q0 : (decide ((t.length : Int) > 0)) = true → 0 < t.length := fun h => by have := of_decide_eq_true h; omega
  refine WPL.c (Wants.yes rfl rfl rfl) (fun hb => (PS.arith (gt hb rfl) rfl (.inr (.inl ⟨rfl, rfl⟩)) (wrap_i64 (by omega) (by omega)))) ?_
  refine WPL.c (Wants.yes rfl rfl rfl) (fun hb => (PS.sIndex (m := t.length - 1) (gt hb rfl) (gt hb rfl) (by have := q0 hb; omega) (by have := q0 hb; omega))) ?_
  refine WPL.c (Wants.yes rfl rfl rfl) (fun hb => (PS.move rfl)) ?_
  refine WPL.c (Wants.yes rfl rfl rfl) (fun hb => (PS.binInt (gt hb rfl) (gt hb rfl) rfl)) ?_
  refine WPL.p (PS.pickAnd rfl (fun hc => gt hc rfl) rfl) ?_
  refine WPL.nil ?_
  refine WP.ifs rfl ?_ ?_
  · intro h0
    have q1 : 0 < t.length ∧ ((t.getD (t.length - 1) 0).toNat : Int) == (c.toNat : Int) := by
      simp only [Bool.and_eq_true, decide_eq_true_eq] at h0
      exact ⟨by omega, h0.2⟩
    refine WP.skip ?_
    refine WP.block ?_
    refine WP.region rfl ?_
    refine WPL.p (PS.move rfl) ?_
    refine WPL.p (PS.move rfl) ?_
    refine WPL.p (PS.sLen rfl) ?_
    refine WPL.p (PS.arith rfl rfl (.inr (.inl ⟨rfl, rfl⟩)) (wrap_i64 (by omega) (by omega))) ?_
    refine WPL.p (PS.sSlice (j := t.length - 1) rfl Bnd.none (Bnd.some rfl (by omega)) (by omega) (by omega)) ?_
    refine WPL.p (PS.assign rfl) ?_
    refine WPL.nil ?_
    exact ⟨t.take (t.length - 1), by simp; omega, ⟨by simp; omega, by rw [trimR_step (by omega) q1.2]; exact ha⟩, rfl, rfl, ⟨rfl, rfl, rfl, trivial⟩, rfl, rfl⟩
  · intro h0
    have q1 : trimR c t = t := by
      simp only [Bool.and_eq_false_iff, decide_eq_false_iff_not] at h0
      exact trimR_stop (h0.imp (fun h => by omega) id)
    refine WP.exit ?_
    refine WP.seq ?_
    refine WP.region rfl ?_
    refine WPL.p (PS.move rfl) ?_
    refine WPL.p (PS.assign rfl) ?_
    refine WPL.nil ?_
    refine WP.ret ?_
    refine RetQ.end (.inr rfl) (sub_all) ⟨_, (res1 (resT rfl) res0), ?_⟩
    exact ⟨by rw [← ha, q1]; rfl, rfl⟩

theorem c324 (s : List UInt8) (c : UInt8) (hc : c.toNat < 128) (hs : s.length ≤ 9223372036854775807) (H : Heap) : EvP Tryz.prog 167 [str s, str [c]] H (str (trimR c s)) := by
  refine Ev.enter Tryz.func167 rfl ent167 ?_
  refine WP.seq ?_
  refine WP.region rfl ?_
  refine WPL.p (PS.assign rfl) ?_
  refine WPL.nil ?_
  refine WP.seq ?_
  refine WP.seq ?_
  refine WP.region rfl ?_
  refine WPL.p (PS.move rfl) ?_
  refine WPL.p (PS.sEq rfl rfl) ?_
  refine WPL.p (PS.move rfl) ?_
  refine WPL.c (Wants.no rfl rfl rfl) (fun hb => (PS.move rfl)) ?_
  refine WPL.c (Wants.no rfl rfl rfl) (fun hb => (PS.sEq (gt hb rfl) rfl)) ?_
  refine WPL.p (PS.pickOr rfl rfl (fun hc => gt (by rw [hc]; rfl) rfl)) ?_
  refine WPL.nil ?_
  refine WP.ifs rfl ?_ ?_
  · intro h0
    have hv : s = [] := by simpa using h0
    refine WP.seq ?_
    refine WP.region rfl ?_
    refine WPL.p (PS.move rfl) ?_
    refine WPL.p (PS.assign rfl) ?_
    refine WPL.nil ?_
    refine WP.ret ?_
    refine toQ ?_
    refine RetQ.end (.inr rfl) (sub_all) ⟨_, (res1 (resT rfl) res0), ?_⟩
    exact ⟨by rw [hv]; rfl, rfl⟩
  · intro h0
    refine WP.skip ?_
    refine WP.seq ?_
    refine WP.seq ?_
    refine WP.region rfl ?_
    refine WPL.p (PS.move rfl) ?_
    refine WPL.p (PS.sLen rfl) ?_
    refine WPL.p (PS.binInt rfl rfl rfl) ?_
    refine WPL.p (PS.move rfl) ?_
    refine WPL.c (Wants.yes rfl rfl rfl) (fun hb => (PS.move rfl)) ?_
    refine WPL.c (Wants.yes rfl rfl rfl) (fun hb => (PS.sIndex (m := 0) (gt hb rfl) rfl rfl (by simp))) ?_
    refine WPL.c (Wants.yes rfl rfl rfl) (fun hb => (PS.binInt (gt hb rfl) rfl rfl)) ?_
    refine WPL.p (PS.pickAnd rfl (fun hc => gt hc rfl) rfl) ?_
    refine WPL.nil ?_
    refine WP.ifs rfl ?_ ?_
    · intro h1
      refine WP.seq ?_
      refine WP.region rfl ?_
      refine WPL.p (PS.move rfl) ?_
      refine WPL.p (PS.move rfl) ?_
      refine WPL.p (PS.sIndex (m := 0) rfl rfl rfl (by simp)) ?_
      refine WPL.cl rfl rfl (fun wf => c377 _ _ hs _) ?_
      refine WPL.p (PS.assign rfl) ?_
      refine WPL.nil ?_
      refine WP.ret ?_
      refine toQ ?_
      refine RetQ.end (.inr rfl) (sub_all) ⟨_, (res1 (resT rfl) res0), ?_⟩
      exact ⟨rfl, rfl⟩
    · intro h1
      exfalso; simp only [List.length_singleton, List.getD_cons_zero] at h1; simp at h1; omega

theorem x410 {s : List UInt8} {c : UInt8} {H : Heap} : Xv Tryz.prog 197 [str s, u8 c] H (.int .i64 (Lib.indexByte s c)) :=
  Xv.of (e := Extern.BytealgIndexByte.indexByte) Tryz.func197 (by kernel_rfl) (by kernel_rfl) (by kernel_rfl) (by kernel_rfl) fun w hw => strIndex_run
theorem x330 {s : List UInt8} {c : UInt8} {H : Heap} : Xv Tryz.prog 185 [str s, u8 c] H (num (Lib.countByte s c)) :=
  Xv.of (e := Extern.BytealgCount.count) Tryz.func185 (by kernel_rfl) (by kernel_rfl) (by kernel_rfl) (by kernel_rfl) fun w hw => count_run

theorem c382 (s : List UInt8) (c : UInt8) (H : Heap) : EvP Tryz.prog 191 [str s, u8 c] H (.int .i64 (Lib.indexByte s c)) := by
  refine Ev.enter Tryz.func191 rfl ent191 ?_
  refine WP.seq ?_
  refine WP.region rfl ?_
  refine WPL.p (PS.assign rfl) ?_
  refine WPL.nil ?_
  refine WP.seq ?_
  refine WP.region rfl ?_
  refine WPL.p (PS.move rfl) ?_
  refine WPL.p (PS.move rfl) ?_
  refine WPL.p (PS.ext rfl rfl (fun wf => x410)) ?_
  refine WPL.p (PS.assign rfl) ?_
  refine WPL.nil ?_
  refine WP.ret ?_
  refine RetQ.end (.inr rfl) (sub_all) ⟨_, (res1 (resT rfl) res0), ?_⟩
  exact ⟨rfl, rfl⟩

theorem c331 (s : List UInt8) (c : UInt8) (H : Heap) : EvP Tryz.prog 186 [str s, str [c]] H (.int .i64 (Lib.indexByte s c)) := by
  refine Ev.enter Tryz.func186 rfl ent186 ?_
  refine WP.seq ?_
  refine WP.region rfl ?_
  refine WPL.p (PS.assign rfl) ?_
  refine WPL.nil ?_
  refine WP.seq ?_
  refine WP.region rfl ?_
  refine WPL.p (PS.move rfl) ?_
  refine WPL.p (PS.sLen rfl) ?_
  refine WPL.p (PS.assign rfl) ?_
  refine WPL.nil ?_
  refine WP.seq ?_
  refine WP.block ?_
  refine WP.seq ?_
  refine WP.region rfl ?_
  refine WPL.p (PS.move rfl) ?_
  refine WPL.p (PS.binInt rfl rfl rfl) ?_
  refine WPL.p (PS.move rfl) ?_
  refine WPL.c (Wants.no rfl rfl rfl) (fun hb => (PS.move rfl)) ?_
  refine WPL.c (Wants.no rfl rfl rfl) (fun hb => (PS.move rfl)) ?_
  refine WPL.c (Wants.no rfl rfl rfl) (fun hb => (PS.sEq (gt hb rfl) (gt hb rfl))) ?_
  refine WPL.p (PS.pickOr rfl rfl (fun hc => gt (by rw [hc]; rfl) rfl)) ?_
  refine WPL.p (PS.assign rfl) ?_
  refine WPL.nil ?_
  refine WP.ifs rfl ?_ ?_
  · intro h0
    have hv : s = [c] := by
      have h1 : ([c] == s) = true := by simpa using h0
      exact (eq_of_beq h1).symm
    refine WP.seq ?_
    refine WP.region rfl ?_
    refine WPL.p (PS.assign rfl) ?_
    refine WPL.nil ?_
    refine WP.ret ?_
    refine toB (toQ ?_)
    refine RetQ.end (.inr rfl) (sub_all) ⟨_, (res1 (resT rfl) res0), ?_⟩
    exact ⟨by rw [hv]; simp [Lib.indexByte, tupled], rfl⟩
  · intro h0
    refine WP.seq ?_
    refine WP.region rfl ?_
    refine WPL.p (PS.move rfl) ?_
    refine WPL.p (PS.binInt rfl rfl rfl) ?_
    refine WPL.p (PS.assign rfl) ?_
    refine WPL.nil ?_
    refine WP.yes rfl ?_
    refine WP.seq ?_
    refine WP.region rfl ?_
    refine WPL.p (PS.move rfl) ?_
    refine WPL.p (PS.move rfl) ?_
    refine WPL.p (PS.sIndex (m := 0) rfl rfl rfl (by simp)) ?_
    refine WPL.cl rfl rfl (fun wf => c382 _ _ _) ?_
    refine WPL.p (PS.assign rfl) ?_
    refine WPL.nil ?_
    refine WP.ret ?_
    refine toB (toQ ?_)
    refine RetQ.end (.inr rfl) (sub_all) ⟨_, (res1 (resT rfl) res0), ?_⟩
    exact ⟨rfl, rfl⟩

theorem c283 (s : List UInt8) (c : UInt8) (H : Heap) : EvP Tryz.prog 176 [str s, str [c]] H (.int .i64 (Lib.indexByte s c)) := by
  refine Ev.enter Tryz.func176 rfl ent176 ?_
  refine WP.seq ?_
  refine WP.region rfl ?_
  refine WPL.p (PS.assign rfl) ?_
  refine WPL.nil ?_
  refine WP.seq ?_
  refine WP.region rfl ?_
  refine WPL.p (PS.move rfl) ?_
  refine WPL.p (PS.move rfl) ?_
  refine WPL.cl rfl rfl (fun wf => c331 _ _ _) ?_
  refine WPL.p (PS.assign rfl) ?_
  refine WPL.nil ?_
  refine WP.ret ?_
  refine RetQ.end (.inr rfl) (sub_all) ⟨_, (res1 (resT rfl) res0), ?_⟩
  exact ⟨rfl, rfl⟩

theorem c282 (s : List UInt8) (c : UInt8) (H : Heap) : EvP Tryz.prog 175 [str s, str [c]] H (num (Lib.countByte s c)) := by
  refine Ev.enter Tryz.func175 rfl ent175 ?_
  refine WP.seq ?_
  refine WP.region rfl ?_
  refine WPL.p (PS.assign rfl) ?_
  refine WPL.nil ?_
  refine WP.seq ?_
  refine WP.seq ?_
  refine WP.region rfl ?_
  refine WPL.p (PS.move rfl) ?_
  refine WPL.p (PS.sLen rfl) ?_
  refine WPL.p (PS.binInt rfl rfl rfl) ?_
  refine WPL.nil ?_
  refine WP.nope rfl ?_
  refine WP.skip ?_
  refine WP.seq ?_
  refine WP.seq ?_
  refine WP.region rfl ?_
  refine WPL.p (PS.move rfl) ?_
  refine WPL.p (PS.sLen rfl) ?_
  refine WPL.p (PS.binInt rfl rfl rfl) ?_
  refine WPL.nil ?_
  refine WP.yes rfl ?_
  refine WP.seq ?_
  refine WP.region rfl ?_
  refine WPL.p (PS.move rfl) ?_
  refine WPL.p (PS.move rfl) ?_
  refine WPL.p (PS.sIndex (m := 0) rfl rfl rfl (by simp)) ?_
  refine WPL.p (PS.ext rfl rfl (fun wf => x330)) ?_
  refine WPL.p (PS.assign rfl) ?_
  refine WPL.nil ?_
  refine WP.ret ?_
  refine toQ ?_
  refine RetQ.end (.inr rfl) (sub_all) ⟨_, (res1 (resT rfl) res0), ?_⟩
  exact ⟨rfl, rfl⟩

end Go.Proofs.YtfoakjdnopljmaaGreatDoor

set_option linter.unusedVariables false
set_option linter.unusedSimpArgs false
set_option maxRecDepth 100000
namespace Go.Proofs.YtfoakjdnopljmaaGreatDoor
open Go Go.Proofs

def partsAt (ps : List (List UInt8)) (b : Nat) (v : Value) (V : View) : Prop := v = .slice (some ⟨b, 0, none⟩) ps.length ps.length ∧ V = .row 0 (ps.map str) 9 ps.length

theorem c233 (s : List UInt8) (c : UInt8) (hs : s.length ≤ 1000000) (H : Heap) : EvF Tryz.prog 166 [str s, str [c], num 0, .int .i64 (-1)] H (partsAt (splitC c s)) := by
  refine Ev.enter Tryz.func166 rfl ent166 ?_
  refine WP.seq ?_
  refine WP.region rfl ?_
  refine WPL.p (PS.assign rfl) ?_
  refine WPL.nil ?_
  refine WP.seq ?_
  refine WP.seq ?_
  refine WP.region rfl ?_
  refine WPL.p (PS.move rfl) ?_
  refine WPL.p (PS.binInt rfl rfl rfl) ?_
  refine WPL.nil ?_
  refine WP.nope rfl ?_
  refine WP.skip ?_
  refine WP.seq ?_
  refine WP.seq ?_
  refine WP.region rfl ?_
  refine WPL.p (PS.move rfl) ?_
  refine WPL.p (PS.sEq rfl rfl) ?_
  refine WPL.nil ?_
  refine WP.nope rfl ?_
  refine WP.skip ?_
  refine WP.seq ?_
  refine WP.seq ?_
  refine WP.region rfl ?_
  refine WPL.p (PS.move rfl) ?_
  refine WPL.p (PS.binInt rfl rfl rfl) ?_
  refine WPL.nil ?_
  refine WP.yes rfl ?_
  refine WP.region rfl ?_
  have hcnt := count_le c s
  have hparts := splitC_count c s
  refine WPL.p (PS.move rfl) ?_
  refine WPL.p (PS.move rfl) ?_
  refine WPL.cl rfl rfl (fun wf => c282 _ _ _) ?_
  refine WPL.p (PS.arith rfl rfl (.inl ⟨rfl, rfl⟩) (wrap_i64 (by omega) (by omega))) ?_
  refine WPL.p (PS.assign rfl) ?_
  refine WPL.nil ?_
  refine WP.seq ?_
  refine WP.region rfl ?_
  refine WPL.p (PS.move rfl) ?_
  refine WPL.p (PS.move rfl) ?_
  refine WPL.p (PS.sLen rfl) ?_
  refine WPL.p (PS.arith (c := ((s.length + 1 : Nat) : Int)) rfl rfl (.inl ⟨rfl, by omega⟩) (wrap_i64 (by omega) (by omega))) ?_
  refine WPL.p (PS.min rfl rfl) ?_
  have hmin : (if ((s.length + 1 : Nat) : Int) < (Lib.countByte s c : Int) + 1 then ((s.length + 1 : Nat) : Int) else (Lib.countByte s c : Int) + 1) = ((Lib.countByte s c + 1 : Nat) : Int) := by split <;> omega
  rw [hmin]
  refine WPL.p (PS.assign rfl) ?_
  refine WPL.nil ?_
  refine WP.seq ?_
  refine WP.region rfl ?_
  refine WPL.p (PS.move rfl) ?_
  refine WPL.nw (NS.makeSlice (m := Lib.countByte s c + 1) (c := Lib.countByte s c + 1) rfl rfl rfl rfl (by omega) (by omega) (by omega)) ?_
  intro b31
  refine WPL.p (PS.assign rfl) ?_
  refine WPL.nil ?_
  refine WP.seq ?_
  refine WP.region rfl ?_
  refine WPL.p (PS.move rfl) ?_
  refine WPL.p (PS.arith (c := ((Lib.countByte s c : Nat) : Int)) rfl rfl (.inr (.inl ⟨rfl, by omega⟩)) (wrap_i64 (by omega) (by omega))) ?_
  refine WPL.p (PS.assign rfl) ?_
  refine WPL.nil ?_
  refine WP.seq ?_
  refine WP.region rfl ?_
  refine WPL.p (PS.assign rfl) ?_
  refine WPL.nil ?_
  refine WP.seq ?_
  refine WP.block ?_
  refine WP.while (ι := List (List UInt8) × List UInt8) (fun i => [(0, str i.2), (1, str [c]), (2, num 0), (3, num (Lib.countByte s c)), (8, .slice none 0 0), (9, .slice (some ⟨b31, 0, none⟩) (Lib.countByte s c + 1) (Lib.countByte s c + 1)), (10, num i.1.length)]) (fun _ => H)
    (fun i => [(b31, .row 0 ((i.1.map str) ++ zeros [str []] (Lib.countByte s c + 1 - i.1.length)) 9 ((Lib.countByte s c + 1) * 1))])
    (fun i => i.1 ++ splitC c i.2 = splitC c s ∧ i.1.length + Lib.countByte i.2 c = Lib.countByte s c ∧ i.2.length ≤ s.length) (fun i => i.2.length) ([], s) ⟨rfl, rfl, rfl, rfl, rfl, rfl, rfl, trivial⟩ ⟨rfl, by simp, Nat.le_refl _⟩ rfl rfl ?_
  rintro ⟨done, rst⟩ ⟨hd, hn, hl⟩
  simp only at hd hn hl ⊢
  refine WP.seq ?_
  refine WP.seq ?_
  refine WP.region rfl ?_
  refine WPL.p (PS.move rfl) ?_
  refine WPL.p (PS.move rfl) ?_
  refine WPL.p (PS.binInt rfl rfl rfl) ?_
  refine WPL.nil ?_
  refine WP.ifs rfl ?_ ?_
  · intro h3
    have q1 : done.length < Lib.countByte s c := by have := of_decide_eq_true h3; omega
    refine WP.skip ?_
    refine WP.block ?_
    refine WP.seq ?_
    refine WP.region rfl ?_
    refine WPL.p (PS.move rfl) ?_
    refine WPL.p (PS.move rfl) ?_
    refine WPL.cl rfl rfl (fun wf => c283 _ _ _) ?_
    refine WPL.p (PS.assign rfl) ?_
    refine WPL.nil ?_
    refine WP.seq ?_
    refine WP.seq ?_
    refine WP.region rfl ?_
    refine WPL.p (PS.move rfl) ?_
    refine WPL.p (PS.binInt rfl rfl rfl) ?_
    refine WPL.nil ?_
    refine WP.ifs rfl ?_ ?_
    · intro h4
      exfalso
      have := ((splitC_index c rst).1 (of_decide_eq_true h4)).2
      omega
    · intro h4
      obtain ⟨m, hm⟩ := Int.eq_ofNat_of_zero_le (show 0 ≤ Lib.indexByte rst c by have := of_decide_eq_false h4; omega)
      obtain ⟨k1, k2, k3⟩ := (splitC_index c rst).2 m hm
      refine WP.skip ?_
      refine WP.seq ?_
      refine WP.region rfl ?_
      refine WPL.p (PS.move rfl) ?_
      refine WPL.p (PS.move rfl) ?_
      refine WPL.p (PS.move rfl) ?_
      refine WPL.p (PS.move rfl) ?_
      refine WPL.p (PS.move rfl) ?_
      refine WPL.p (PS.arith rfl rfl (.inl ⟨rfl, rfl⟩) (wrap_i64 (by omega) (by omega))) ?_
      refine WPL.p (PS.sSlice (i := 0) (j := m) rfl Bnd.none (Bnd.some rfl (by omega)) (by omega) (by omega)) ?_
      refine WPL.p (PS.indexAddr rfl rfl (by omega) (by omega)) ?_
      refine WPL.s rfl rfl UpdR.here rfl rfl (View.write_row (vs := [str (rst.take m)]) (by omega) (by simp [zeros_length]; omega)) ?_
      refine WPL.nil ?_
      refine WP.seq ?_
      refine WP.region rfl ?_
      refine WPL.p (PS.move rfl) ?_
      refine WPL.p (PS.move rfl) ?_
      refine WPL.p (PS.move rfl) ?_
      refine WPL.p (PS.sLen rfl) ?_
      refine WPL.p (PS.arith (c := ((m + 1 : Nat) : Int)) rfl rfl (.inl ⟨rfl, by simp; omega⟩) (wrap_i64 (by omega) (by omega))) ?_
      refine WPL.p (PS.sSlice (i := m + 1) (j := rst.length) rfl (Bnd.some rfl rfl) Bnd.none (by omega) (by omega)) ?_
      refine WPL.p (PS.assign rfl) ?_
      refine WPL.nil ?_
      refine WP.region rfl ?_
      refine WPL.p (PS.move rfl) ?_
      refine WPL.p (PS.arith rfl rfl (.inl ⟨rfl, rfl⟩) (wrap_i64 (by omega) (by omega))) ?_
      refine WPL.p (PS.assign rfl) ?_
      refine WPL.nil ?_
      exact ⟨(done ++ [rst.take m], rst.drop (m + 1)), by simp; omega, ⟨by rw [← hd, k2]; simp, by simp; omega, by simp; omega⟩, rfl, rfl, ⟨congrArg (fun x => some (str x)) (by rw [List.take_length]), rfl, rfl, rfl, rfl, rfl, (by simp [look]), trivial⟩, rfl, by simp only [Int.toNat_natCast, Nat.mul_one, Nat.zero_add, Nat.sub_zero, List.length_singleton]; rw [row_step str done (str []) _ _ (by omega)]⟩
  · intro h3
    have q1 : done.length = Lib.countByte s c := by have := of_decide_eq_false h3; omega
    have q2 : splitC c rst = [rst] := by
      have h1 := splitC_count c rst
      have h2 := splitC_index c rst
      by_cases h4 : Lib.indexByte rst c < 0
      · exact (h2.1 h4).1
      · obtain ⟨m, hm⟩ := Int.eq_ofNat_of_zero_le (show 0 ≤ Lib.indexByte rst c by omega)
        have := (h2.2 m hm).2.2
        omega
    refine WP.exit ?_
    refine WP.seq ?_
    refine WP.region rfl ?_
    refine WPL.p (PS.move rfl) ?_
    refine WPL.p (PS.move rfl) ?_
    refine WPL.p (PS.move rfl) ?_
    refine WPL.p (PS.indexAddr rfl rfl (by omega) (by omega)) ?_
    refine WPL.s rfl rfl UpdR.here rfl rfl (View.write_row (vs := [str rst]) (by omega) (by simp [zeros_length]; omega)) ?_
    refine WPL.nil ?_
    refine WP.seq ?_
    refine WP.region rfl ?_
    refine WPL.wf fun wf => ?_
    refine WPL.p (PS.move rfl) ?_
    refine WPL.p (PS.move rfl) ?_
    refine WPL.p (PS.arith rfl rfl (.inl ⟨rfl, rfl⟩) (wrap_i64 (by omega) (by omega))) ?_
    refine WPL.p (PS.slSlice (b := b31) (off := 0) (i := 0) (j := Lib.countByte s c + 1) (m := Lib.countByte s c + 1) (n := 1) rfl Bnd.none (Bnd.some rfl (by omega)) Bnd.none (by omega) (by omega) (by omega) (by simp)) ?_
    refine WPL.p (PS.assign rfl) ?_
    refine WPL.nil ?_
    refine WP.ret ?_
    refine RetQ.endF (b := b31) (.inr rfl) (List.Sublist.refl _) (wf.base (List.mem_cons_self ..)) ⟨_, res1 (resT rfl) res0, ?_⟩
    have e0 : (splitC c s).length = Lib.countByte s c + 1 := hparts
    have e1 := row_step str done (str []) (Lib.countByte s c + 1) rst (by omega)
    refine ⟨by simp [tupled, e0, sub], ?_⟩
    simp only [Int.toNat_natCast, Nat.mul_one, Nat.zero_add, Nat.sub_zero, List.length_singleton]
    rw [e1, e0, ← hd, q2]
    simp [zeros, q1]

theorem c149 (s : List UInt8) (c : UInt8) (hs : s.length ≤ 1000000) (H : Heap) : EvF Tryz.prog 140 [str s, str [c]] H (partsAt (splitC c s)) := by
  refine Ev.enter Tryz.func140 rfl ent140 ?_
  refine WP.seq ?_
  refine WP.region rfl ?_
  refine WPL.p (PS.assign rfl) ?_
  refine WPL.nil ?_
  refine WP.seq ?_
  refine WP.region rfl ?_
  refine WPL.p (PS.move rfl) ?_
  refine WPL.p (PS.move rfl) ?_
  refine WPL.wf fun _ => ?_
  refine WPL.fr rfl rfl (fun wf => c233 s c hs _) ?_
  intro b V v hR
  refine WPL.wf fun wf => ?_
  refine WPL.p (PS.assign rfl) ?_
  refine WPL.nil ?_
  refine WP.ret ?_
  refine RetQ.endF (b := b) (.inr rfl) (List.Sublist.refl _) (wf.base (List.mem_cons_self ..)) ⟨_, res1 (resT rfl) res0, hR⟩

end Go.Proofs.YtfoakjdnopljmaaGreatDoor

set_option linter.unusedVariables false
set_option linter.unusedSimpArgs false
set_option maxRecDepth 100000
namespace Go.Proofs.YtfoakjdnopljmaaGreatDoor
open Go Go.Proofs

theorem c266 (b off len cap : Nat) (V : View) (s : List UInt8) (H : Heap) (hb : H b = some V) (hs : V.take off len = some (s.map u8)) (hl : s.length ≤ 9223372036854775807) : EvP Tryz.prog 146 [.slice (some ⟨b, off, none⟩) len cap] H (str (trimR 0 s)) := by
  refine Ev.enter Tryz.func146 rfl ent146 ?_
  refine WP.seq ?_
  refine WP.region rfl ?_
  refine WPL.p (PS.assign rfl) ?_
  refine WPL.nil ?_
  refine WP.seq ?_
  refine WP.region rfl ?_
  refine WPL.p (PS.move rfl) ?_
  refine WPL.p (PS.b2s rfl (InR.base hb) hs) ?_
  refine WPL.cl rfl rfl (fun wf => c324 s 0 (by decide) hl _) ?_
  refine WPL.p (PS.assign rfl) ?_
  refine WPL.nil ?_
  refine WP.ret ?_
  refine RetQ.end (.inr rfl) (sub_all) ⟨_, (res1 (resT rfl) res0), ?_⟩
  exact ⟨rfl, rfl⟩

theorem c216 (a b c : List UInt8) (ha : a.length = 3) (hb : b.length = 4) (hc : c.length = 3) (H : Heap) : EvP Tryz.prog 116 [nm (a ++ b ++ c)] H (str (tagPlain a b c)) := by
  refine Ev.enter Tryz.func116 rfl ent116 ?_
  refine WP.seq ?_
  refine WP.region rfl ?_
  refine WPL.nw (NS.boxA rfl) ?_
  intro b1
  refine WPL.p (PS.assign rfl) ?_
  refine WPL.nil ?_
  refine WP.seq ?_
  refine WP.seq ?_
  refine WP.region rfl ?_
  have ht := tag_take (e := 28) ha hb hc
  refine WPL.p (PS.loadAgg rfl InR.here (View.take_whole (by simp [ha, hb, hc]))) ?_
  refine WPL.p (PS.build rfl rfl) ?_
  refine WPL.p (PS.eqFlat (ys := (List.replicate 10 (0 : UInt8)).map u8) rfl rfl (fits_u8' (n := 10) (by simp [ha, hb, hc])) (fits_u8' (n := 10) rfl)) ?_
  refine WPL.nil ?_
  refine WP.ifs rfl ?_ ?_
  · intro h0
    rw [cellsEq_u8] at h0
    refine WP.seq ?_
    refine WP.region rfl ?_
    refine WPL.p (PS.assign rfl) ?_
    refine WPL.nil ?_
    refine WP.ret ?_
    refine toQ ?_
    refine RetQ.end (.inr rfl) (sub_all) ⟨_, (res1 (resT rfl) res0), ?_⟩
    exact ⟨by simp only [tagPlain, h0]; rfl, rfl⟩
  · intro h0
    rw [cellsEq_u8] at h0
    have la := trimR_le 0 a
    have lb := trimR_le 0 b
    have lc := trimR_le 0 c
    refine WP.skip ?_
    refine WP.seq ?_
    refine WP.region rfl ?_
    refine WPL.p (PS.fieldAddr rfl) ?_
    refine WPL.p (PS.slArr (b := b1) (off := 0) (len := 3) (n := 1) rfl Bnd.none Bnd.none Bnd.none (by omega) (by omega) (by omega) (by simp)) ?_
    refine WPL.cl rfl rfl (fun wf => c266 b1 0 3 3 _ a _ (InR.here wf) ht.1 (by omega)) ?_
    refine WPL.p (PS.assign rfl) ?_
    refine WPL.nil ?_
    refine WP.seq ?_
    refine WP.seq ?_
    refine WP.draw 9 mixed (by kernel_rfl) rfl ?_
    refine Scr.ps (i := 0) rfl rfl rfl rfl (PS.fieldAddr rfl) ?_
    refine Scr.ps (i := 1) rfl rfl rfl rfl (PS.slArr (b := b1) (off := 3) (len := 4) (n := 1) rfl Bnd.none Bnd.none Bnd.none (by omega) (by omega) (by omega) (by simp)) ?_
    refine Scr.ps (i := 3) rfl rfl rfl rfl (PS.fieldAddr rfl) ?_
    refine Scr.ps (i := 4) rfl rfl rfl rfl (PS.slArr (b := b1) (off := 7) (len := 3) (n := 1) rfl Bnd.none Bnd.none Bnd.none (by omega) (by omega) (by omega) (by simp)) ?_
    refine Scr.ps (i := 8) rfl rfl rfl rfl (PS.move rfl) ?_
    refine Scr.cl (i := 2) rfl rfl rfl rfl rfl (fun wf => c266 b1 3 4 4 _ b _ (InR.here wf) ht.2.1 (by omega)) late0 ?_
    refine Scr.cl (i := 5) rfl rfl rfl rfl rfl (fun wf => c266 b1 7 3 3 _ c _ (InR.here wf) ht.2.2 (by omega)) late0 ?_
    refine Scr.nw (i := 6) rfl rfl rfl rfl (NS.buildSlice (n := 1) rfl (by decide) (by rfl) rfl) late0 ?_
    intro b18
    refine Scr.ps (i := 7) rfl rfl rfl rfl (PS.lenSlice rfl) ?_
    refine Scr.end ?_
    refine WPL.nil ?_
    refine WP.block ?_
    refine WP.while (ι := Nat × List UInt8) (fun i => [(0, nm (a ++ b ++ c)), (1, ptr b1 0), (3, str i.2), (18, .slice (some ⟨b18, 0, none⟩) 2 2), (19, num 2), (20, num i.1)]) (fun _ => H)
      (fun i => [(b18, .row 0 ([trimR 0 b, trimR 0 c].map str) 9 2), (b1, .cells ((a ++ b ++ c).map u8) 28)])
      (fun i => i.1 ≤ 2 ∧ i.2 = trimR 0 a ++ ([trimR 0 b, trimR 0 c].take i.1).flatMap ext ∧ i.2.length ≤ 3 + 5 * i.1) (fun i => 2 - i.1) (0, trimR 0 a) ⟨rfl, rfl, rfl, rfl, rfl, rfl, trivial⟩ ⟨by simp, by simp, by simp; omega⟩ rfl rfl ?_
    rintro ⟨i, acc⟩ ⟨hi, he, hl⟩
    simp only at hi he hl ⊢
    refine WP.seq ?_
    refine WP.region rfl ?_
    refine WPL.p (PS.binInt rfl rfl rfl) ?_
    refine WPL.nil ?_
    refine WP.seq ?_
    refine WP.ifs rfl ?_ ?_
    · intro h1
      have q1 : i < 2 := by have := of_decide_eq_true h1; omega
      obtain ⟨p, hp, hpl, tk⟩ : ∃ p, [trimR 0 b, trimR 0 c].getD i [] = p ∧ p.length ≤ 4 ∧ [trimR 0 b, trimR 0 c].take (i + 1) = [trimR 0 b, trimR 0 c].take i ++ [p] := by
        rcases (show i = 0 ∨ i = 1 by omega) with rfl | rfl
        · exact ⟨_, rfl, by simpa using by omega, rfl⟩
        · exact ⟨_, rfl, by simpa using by omega, rfl⟩
      refine WP.skip ?_
      refine WP.seq ?_
      refine WP.block ?_
      refine WP.seq ?_
      refine WP.region rfl ?_
      refine WPL.p (PS.indexAddr rfl rfl (by omega) (by omega)) ?_
      refine WPL.p (PS.load (v := str p) rfl InR.here (by rw [← hp]; exact cell_row str q1)) ?_
      refine WPL.p (PS.assign rfl) ?_
      refine WPL.nil ?_
      refine WP.seq ?_
      refine WP.region rfl ?_
      refine WPL.p (PS.move rfl) ?_
      refine WPL.p (PS.sNe rfl rfl) ?_
      refine WPL.nil ?_
      refine WP.ifs rfl ?_ ?_
      · intro h2
        have hx : ext p = 45 :: p := by
          have h3 : (p != []) = true := by simpa using h2
          simp only [ext, h3]; rfl
        have hacc0 : acc ++ ext p = acc ++ ([45] ++ p) := by rw [hx]; rfl
        refine WP.region rfl ?_
        refine WPL.p (PS.move rfl) ?_
        refine WPL.p (PS.move rfl) ?_
        refine WPL.p (PS.sCat rfl rfl (by simp; omega)) ?_
        refine WPL.p (PS.sCat rfl rfl (by simp; omega)) ?_
        refine WPL.p (PS.assign rfl) ?_
        refine WPL.nil ?_
        refine WP.region rfl ?_
        refine WPL.p (PS.arith rfl rfl (.inl ⟨rfl, rfl⟩) (wrap_i64 (by omega) (by omega))) ?_
        refine WPL.p (PS.move rfl) ?_
        refine WPL.nil ?_
        exact ⟨(i + 1, acc ++ ext p), by simp; omega, ⟨by simp; omega, by rw [tk, List.flatMap_append, ← List.append_assoc, ← he]; simp, by have := ext_le p; simp; omega⟩, rfl, rfl, ⟨rfl, rfl, congrArg (fun x => some (str x)) hacc0.symm, rfl, rfl, rfl, trivial⟩, rfl, rfl⟩
      · intro h2
        have hx : ext p = [] := by
          have h3 : (p != []) = false := by simpa using h2
          simp only [ext, h3]; rfl
        have hacc0 : acc ++ ext p = acc := by rw [hx]; simp
        refine WP.skip ?_
        refine WP.region rfl ?_
        refine WPL.p (PS.arith rfl rfl (.inl ⟨rfl, rfl⟩) (wrap_i64 (by omega) (by omega))) ?_
        refine WPL.p (PS.move rfl) ?_
        refine WPL.nil ?_
        exact ⟨(i + 1, acc ++ ext p), by simp; omega, ⟨by simp; omega, by rw [tk, List.flatMap_append, ← List.append_assoc, ← he]; simp, by have := ext_le p; simp; omega⟩, rfl, rfl, ⟨rfl, rfl, congrArg (fun x => some (str x)) hacc0.symm, rfl, rfl, rfl, trivial⟩, rfl, rfl⟩
    · intro h1
      have q1 : i = 2 := by have := of_decide_eq_false h1; omega
      refine WP.exit ?_
      refine WP.seq ?_
      refine WP.region rfl ?_
      refine WPL.p (PS.move rfl) ?_
      refine WPL.p (PS.assign rfl) ?_
      refine WPL.nil ?_
      refine WP.ret ?_
      refine RetQ.end (.inr rfl) (sub_all) ⟨_, (res1 (resT rfl) res0), ?_⟩
      exact ⟨by subst q1; rw [he]; simp only [tagPlain, h0]; simp [tupled], rfl⟩

end Go.Proofs.YtfoakjdnopljmaaGreatDoor

set_option linter.unusedVariables false
set_option linter.unusedSimpArgs false
set_option maxRecDepth 100000
namespace Go.Proofs.YtfoakjdnopljmaaGreatDoor
open Go Go.Proofs

theorem set_eq {A Z f : List UInt8} {n i k : Nat} {x : UInt8} {e e' : TypeId} {b : Nat} {R : Locs} (hk : k = A.length + i) (hf : f.length ≤ n) (hi : i < f.length) (hx : x = f.getD i 0) :
    ((b, View.cells (((A ++ pad n (f.take i) ++ Z).map u8).set k (u8 x)) e) :: R : Locs) = (b, View.cells ((A ++ pad n (f.take (i + 1)) ++ Z).map u8) e) :: R := by
  rw [map_set, seg_set hk hf hi hx]

theorem takeS_no {r : List (List UInt8)} (h : ((decide ((r.length : Int) > 0) && ((((r.getD 0 []).length : Int)) == 4)) && (r.getD 0 []).all tLetter) = false) : takeScript r = ([], r) := by
  cases r with
  | nil => rfl
  | cons q r =>
    simp only [takeScript]
    have : ((q.length == 4) && q.all tLetter) = false := by
      have h1 : decide ((((q :: r).length : Nat) : Int) > 0) = true := by simp <;> omega
      simp only [h1, Bool.true_and, List.getD_cons_zero] at h
      rw [← h]
      congr 1
      rw [Bool.eq_iff_iff]; simp <;> omega
    rw [this]; rfl

theorem takeS_yes {q : List UInt8} {r : List (List UInt8)} (h1 : q.length = 4) (h2 : q.all tLetter = true) : takeScript (q :: r) = (capS q, r) := by
  simp [takeScript, h1, h2]

def regionOk (r : List (List UInt8)) : Bool := decide ((r.length : Int) > 0) && ((((((r.getD 0 []).length : Int)) == 2) && (r.getD 0 []).all tLetter) || (((((r.getD 0 []).length : Int)) == 3) && (r.getD 0 []).all tDigit))

theorem takeR_no {r : List (List UInt8)} (h : regionOk r = false) : takeRegion r = ([], r) := by
  cases r with
  | nil => rfl
  | cons q r =>
    have h1 : decide ((((q :: r).length : Nat) : Int) > 0) = true := by simp <;> omega
    simp only [regionOk, h1, Bool.true_and, List.getD_cons_zero] at h
    simp only [takeRegion]
    have e : ∀ n : Nat, (((q.length : Int)) == (n : Int)) = (q.length == n) := fun n => by rw [Bool.eq_iff_iff]; simp <;> omega
    have e2 := e 2
    have e3 := e 3
    simp only [Int.cast_ofNat_Int] at e2 e3
    rw [e2, e3] at h
    rw [h]; rfl

theorem takeR_yes {r : List (List UInt8)} (h : regionOk r = true) : ∃ q r', r = q :: r' ∧ q.length ≤ 3 ∧ 2 ≤ q.length ∧ takeRegion r = (q.map tUpper, r') := by
  cases r with
  | nil => simp [regionOk] at h
  | cons q r =>
    have h1 : decide ((((q :: r).length : Nat) : Int) > 0) = true := by simp <;> omega
    simp only [regionOk, h1, Bool.true_and, List.getD_cons_zero] at h
    have e : ∀ n : Nat, (((q.length : Int)) == (n : Int)) = (q.length == n) := fun n => by rw [Bool.eq_iff_iff]; simp <;> omega
    have e2 := e 2
    have e3 := e 3
    simp only [Int.cast_ofNat_Int] at e2 e3
    rw [e2, e3] at h
    refine ⟨q, r, rfl, ?_, ?_, by simp only [takeRegion, h]; rfl⟩
    · simp only [Bool.or_eq_true, Bool.and_eq_true, beq_iff_eq] at h; omega
    · simp only [Bool.or_eq_true, Bool.and_eq_true, beq_iff_eq] at h; omega

theorem c67 (s : List UInt8) (hs : s.length ≤ 1000000) (H : Heap) : EvP Tryz.prog 115 [str s] H (.tuple ⟨[nm (tagBytes (parseTag s)), okErr (parseTag s).isSome 14]⟩) := by
  refine Ev.enter Tryz.func115 rfl ent115 ?_
  refine WP.seq ?_
  refine WP.region rfl ?_
  refine WPL.nw NS.alloc ?_
  intro b2
  refine WPL.p (PS.assign rfl) ?_
  refine WPL.nil ?_
  refine WP.seq ?_
  refine WP.region rfl ?_
  refine WPL.nw NS.alloc ?_
  intro b4
  refine WPL.nil ?_
  refine WP.seq ?_
  refine WP.seq ?_
  refine WP.region rfl ?_
  refine WPL.p (PS.move rfl) ?_
  refine WPL.p (PS.sEq rfl rfl) ?_
  refine WPL.nil ?_
  refine WP.ifs rfl ?_ ?_
  · intro h0
    have hv : parseTag s = some ([], [], []) := by simp only [parseTag, rootS, h0]; rfl
    refine WP.seq ?_
    refine WP.region rfl ?_
    refine WPL.p (PS.loadAgg (cs := (List.replicate 10 (0 : UInt8)).map u8) rfl InR.here rfl) ?_
    refine WPL.sA (m := 10) rfl rfl (UpdR.there UpdR.here) (by first | rfl | simp [pad, tagBytes]) (by first | rfl | exact one_u8 _) (by first | rfl | exact View.write_whole (by simp [pad, tagBytes])) ?_
    refine WPL.p (PS.assign rfl) ?_
    refine WPL.nil ?_
    refine WP.ret ?_
    refine toQ ?_
    refine RetQ.end (.inr rfl) (sub_all) ⟨_, (res1 (resA rfl (InR.there InR.here) (View.take_whole (by rfl))) (res1 (resT rfl) res0)), ?_⟩
    exact ⟨by rw [hv]; rfl, rfl⟩
  · intro h0
    refine WP.skip ?_
    refine WP.seq ?_
    refine WP.region rfl ?_
    refine WPL.p (PS.move rfl) ?_
    refine WPL.fr rfl rfl (fun wf => c149 s 45 hs _) ?_
    rintro bs V v ⟨rfl, rfl⟩
    obtain ⟨p, r, hpr⟩ : ∃ p r, splitC 45 s = p :: r := by
      cases h : splitC 45 s with
      | nil => exact absurd h (splitC_ne _ _)
      | cons p r => exact ⟨p, r, rfl⟩
    have hall : ∀ q ∈ p :: r, q.length ≤ 1000000 := fun q hq => by rw [← hpr] at hq; have := splitC_le 45 s q hq; omega
    have hp := hall p (by simp)
    have hcnt := splitC_count 45 s
    have hcle := count_le 45 s
    have hrl : r.length ≤ 1000000 := by rw [hpr] at hcnt; simp at hcnt <;> omega
    have hparse : parseTag s = parseParts p r := by simp only [parseTag, rootS, h0, hpr]; rfl
    rw [hpr]
    clear hpr hcnt hcle
    refine WPL.p (PS.assign rfl) ?_
    refine WPL.nil ?_
    refine WP.seq ?_
    refine WP.seq ?_
    refine WP.region rfl ?_
    refine WPL.p (PS.move rfl) ?_
    refine WPL.p (PS.indexAddr rfl rfl (by omega) (by simp <;> omega)) ?_
    refine WPL.p (PS.load (v := str p) rfl InR.here rfl) ?_
    refine WPL.p (PS.sLen rfl) ?_
    refine WPL.p (PS.assign rfl) ?_
    refine WPL.nil ?_
    refine WP.seq ?_
    refine WP.region rfl ?_
    refine WPL.p (PS.move rfl) ?_
    refine WPL.p (PS.binInt rfl rfl rfl) ?_
    refine WPL.p (PS.move rfl) ?_
    refine WPL.c (Wants.no rfl rfl rfl) (fun hb => (PS.move rfl)) ?_
    refine WPL.c (Wants.no rfl rfl rfl) (fun hb => (PS.binInt (gt hb rfl) rfl rfl)) ?_
    refine WPL.p (PS.pickOr rfl rfl (fun hc => gt (by rw [hc]; rfl) rfl)) ?_
    refine WPL.p (PS.move rfl) ?_
    refine WPL.c (Wants.no rfl rfl rfl) (fun hb => (PS.move rfl)) ?_
    refine WPL.c (Wants.no rfl rfl rfl) (fun hb => (PS.indexAddr (gt hb rfl) rfl (by omega) (by simp <;> omega))) ?_
    refine WPL.c (Wants.no rfl rfl rfl) (fun hb => (PS.load (v := str p) (gt hb rfl) InR.here rfl)) ?_
    refine WPL.clc (Wants.no rfl rfl rfl) (fun hb => rfl) (fun hb => (evsC (gt hb rfl) (evsC rfl rfl))) (fun hb wf => c150 p 142 tLetter (by omega) _ (fun c => c151 c _)) ?_
    refine WPL.c (Wants.no rfl rfl rfl) (fun hb => (PS.not (gt hb rfl))) ?_
    refine WPL.p (PS.pickOr rfl rfl (fun hc => gt (by rw [hc]; rfl) rfl)) ?_
    refine WPL.nil ?_
    refine WP.ifs rfl ?_ ?_
    · intro h1
      have hv : parseTag s = none := by
        rw [hparse]
        have : ((decide (2 ≤ p.length) && decide (p.length ≤ 3)) && p.all tLetter) = false := by
          simp only [Bool.or_eq_true, decide_eq_true_eq, Bool.not_eq_true'] at h1
          rcases h1 with (h1 | h1) | h1
          · simp [show ¬ 2 ≤ p.length by omega]
          · simp [show ¬ p.length ≤ 3 by omega]
          · rw [h1]; simp
        simp only [parseParts, this]; rfl
      refine WP.seq ?_
      refine WP.region rfl ?_
      refine WPL.p (PS.build rfl rfl) ?_
      refine WPL.sA (m := 10) rfl rfl (UpdR.there (UpdR.there UpdR.here)) (by first | rfl | simp [pad, tagBytes]) (by first | rfl | exact one_u8 _) (by first | rfl | exact View.write_whole (by simp [pad, tagBytes])) ?_
      refine WPL.p (PS.assign rfl) ?_
      refine WPL.nil ?_
      refine WP.ret ?_
      refine toQ ?_
      refine RetQ.end (.inr rfl) (sub_all) ⟨_, (res1 (resA rfl (InR.there (InR.there InR.here)) (View.take_whole (by rfl))) (res1 (resT rfl) res0)), ?_⟩
      exact ⟨by rw [hv]; rfl, rfl⟩
    · intro h1
      have hp3 : 2 ≤ p.length ∧ p.length ≤ 3 ∧ p.all tLetter = true := by
        simp only [Bool.or_eq_false_iff, decide_eq_false_iff_not, Bool.not_eq_false'] at h1
        exact ⟨by omega, by omega, h1.2⟩
      have hpp : parseParts p r = (bif (takeRegion (takeScript r).2).2.isEmpty then some (p.map tLower, (takeScript r).1, (takeRegion (takeScript r).2).1) else none) := by
        simp only [parseParts, hp3.1, hp3.2.1, hp3.2.2, decide_true, Bool.and_self, cond_true]
      rw [hpp] at hparse
      refine WP.skip ?_
      refine WP.seq ?_
      refine WP.seq ?_
      refine WP.region rfl ?_
      refine WPL.p (PS.move rfl) ?_
      refine WPL.p (PS.indexAddr rfl rfl (by omega) (by simp <;> omega)) ?_
      refine WPL.p (PS.load (v := str p) rfl InR.here rfl) ?_
      refine WPL.p (PS.sLen rfl) ?_
      refine WPL.p (PS.move rfl) ?_
      refine WPL.nil ?_
      refine WP.block ?_
      refine WP.while (ι := Nat) (fun i => [(0, str s), (2, ptr b2 0), (3, num 0), (4, ptr b4 0), (5, .slice (some ⟨bs, 0, none⟩) (r.length + 1) (r.length + 1)), (36, num p.length), (37, num i)]) (fun _ => H)
        (fun i => [(bs, .row 0 ((p :: r).map str) 9 (r.length + 1)), (b4, .cells (([] ++ pad 3 ((p.map tLower).take i) ++ List.replicate 7 0).map u8) 28), (b2, .cells ((List.replicate 10 (0 : UInt8)).map u8) 28)]) (fun i => i ≤ p.length) (fun i => p.length - i) 0 ⟨rfl, rfl, rfl, rfl, rfl, rfl, rfl, trivial⟩ (by omega) rfl rfl ?_
      intro i hi
      refine WP.seq ?_
      refine WP.region rfl ?_
      refine WPL.p (PS.binInt rfl rfl rfl) ?_
      refine WPL.nil ?_
      refine WP.seq ?_
      refine WP.ifs rfl ?_ ?_
      · intro h2
        have q1 : i < p.length := by have := of_decide_eq_true h2; omega
        refine WP.skip ?_
        refine WP.seq ?_
        refine WP.block ?_
        refine WP.seq ?_
        refine WP.region rfl ?_
        refine WPL.p (PS.move rfl) ?_
        refine WPL.p (PS.assign rfl) ?_
        refine WPL.nil ?_
        refine WP.region rfl ?_
        refine WPL.p (PS.move rfl) ?_
        refine WPL.p (PS.move rfl) ?_
        refine WPL.p (PS.indexAddr rfl rfl (by omega) (by simp <;> omega)) ?_
        refine WPL.p (PS.load (v := str p) rfl InR.here rfl) ?_
        refine WPL.p (PS.move rfl) ?_
        refine WPL.p (PS.sIndex (m := i) rfl rfl rfl q1) ?_
        refine WPL.cl rfl rfl (fun wf => c152 _ _) ?_
        refine WPL.p (PS.fieldAddr rfl) ?_
        refine WPL.p (PS.indexAddrArr rfl rfl (by omega) (by omega)) ?_
        refine WPL.s rfl rfl (UpdR.there UpdR.here) rfl rfl (View.write_one (by simp [pad]; omega)) ?_
        refine WPL.nil ?_
        refine WP.region rfl ?_
        refine WPL.p (PS.arith rfl rfl (.inl ⟨rfl, rfl⟩) (wrap_i64 (by omega) (by omega))) ?_
        refine WPL.p (PS.move rfl) ?_
        refine WPL.nil ?_
        exact ⟨i + 1, by omega, by omega, rfl, rfl, ⟨rfl, rfl, rfl, rfl, rfl, rfl, rfl, trivial⟩, rfl, congrArg _ (set_eq (e' := 0) (by simp) (by simp <;> omega) (by simp <;> omega) (getD_map q1))⟩
      · intro h2
        have q1 : i = p.length := by have := of_decide_eq_false h2; omega
        have q2 : [] ++ pad 3 ((p.map tLower).take i) ++ List.replicate 7 0 = pad 3 (p.map tLower) ++ pad 4 [] ++ (List.replicate 3 0 : List UInt8) := by
          subst q1; rw [List.take_of_length_le (by simp)]; simp [pad]
        rw [q2]
        refine WP.exit ?_
        refine WP.seq ?_
        refine WP.region rfl ?_
        refine WPL.p (PS.move rfl) ?_
        refine WPL.p (PS.tail rfl) ?_
        refine WPL.p (PS.assign rfl) ?_
        refine WPL.nil ?_
        refine WP.cutP (fun l' G' L' => ∃ (rst : List (List UInt8)) (o : Nat), takeScript r = ((takeScript r).1, rst) ∧ (takeScript r).1.length ≤ 4 ∧ (∀ q ∈ rst, q.length ≤ 1000000) ∧ rst.length ≤ 1000000 ∧
            (0 < rst.length → (View.row 0 ((p :: r).map str) 9 (r.length + 1)).cell (o + Int.toNat 0 * 1) = some (str (rst.getD 0 []))) ∧
            l' = [(0, str s), (2, ptr b2 0), (3, num 0), (4, ptr b4 0), (5, .slice (some ⟨bs, o, none⟩) rst.length rst.length)] ∧ H = G' ∧ L' = [(bs, .row 0 ((p :: r).map str) 9 (r.length + 1)), (b4, .cells ((pad 3 (p.map tLower) ++ pad 4 (takeScript r).1 ++ List.replicate 3 0).map u8) 28), (b2, .cells ((List.replicate 10 (0 : UInt8)).map u8) 28)]) ?_ ?_
        · refine WP.seq ?_
          refine WP.region rfl ?_
          refine WPL.p (PS.move rfl) ?_
          refine WPL.p (PS.lenSlice rfl) ?_
          refine WPL.p (PS.binInt rfl rfl rfl) ?_
          refine WPL.p (PS.move rfl) ?_
          refine WPL.c (Wants.yes rfl rfl rfl) (fun hb => (PS.move rfl)) ?_
          refine WPL.c (Wants.yes rfl rfl rfl) (fun hb => (PS.indexAddr (gt hb rfl) rfl (by omega) (by simp at hb; omega))) ?_
          have hc1 : 0 < r.length → (View.row 0 ((p :: r).map str) 9 (r.length + 1)).cell ((bif r.length == 0 then 0 else 0 + 1) + Int.toNat 0 * 1) = some (str (r.getD 0 [])) := fun h => by
            cases r with
            | nil => simp at h
            | cons q r => rfl
          refine WPL.c (Wants.yes rfl rfl rfl) (fun hb => (PS.load (v := str (r.getD 0 [])) (gt hb rfl) InR.here (hc1 (by simp at hb; omega)))) ?_
          refine WPL.c (Wants.yes rfl rfl rfl) (fun hb => (PS.sLen (gt hb rfl))) ?_
          refine WPL.c (Wants.yes rfl rfl rfl) (fun hb => (PS.binInt (gt hb rfl) rfl rfl)) ?_
          refine WPL.p (PS.pickAnd rfl (fun hc => gt hc rfl) rfl) ?_
          refine WPL.p (PS.move rfl) ?_
          refine WPL.c (Wants.yes rfl rfl rfl) (fun hb => (PS.move rfl)) ?_
          refine WPL.c (Wants.yes rfl rfl rfl) (fun hb => (PS.indexAddr (gt hb rfl) rfl (by omega) (by simp at hb; omega))) ?_
          refine WPL.c (Wants.yes rfl rfl rfl) (fun hb => (PS.load (v := str (r.getD 0 [])) (gt hb rfl) InR.here (hc1 (by simp at hb; omega)))) ?_
          refine WPL.clc (Wants.yes rfl rfl rfl) (fun hb => rfl) (fun hb => (evsC (gt hb rfl) (evsC rfl rfl))) (fun hb wf => c150 (r.getD 0 []) 142 tLetter (by have := getD_le hall; omega) _ (fun c => c151 c _)) ?_
          refine WPL.p (PS.pickAnd rfl (fun hc => gt hc rfl) rfl) ?_
          refine WPL.nil ?_
          refine WP.ifs rfl ?_ ?_
          · intro h3
            obtain ⟨q, r', rfl⟩ : ∃ q r', r = q :: r' := by
              cases r with
              | nil => simp at h3
              | cons q r' => exact ⟨q, r', rfl⟩
            have hq4 : q.length = 4 ∧ q.all tLetter = true := by
              simp only [Bool.and_eq_true, beq_iff_eq, List.getD_cons_zero] at h3
              exact ⟨by omega, h3.2⟩
            refine WP.seq ?_
            refine WP.seq ?_
            refine WP.region rfl ?_
            refine WPL.p (PS.move rfl) ?_
            refine WPL.nil ?_
            refine WP.block ?_
            refine WP.while (ι := Nat) (fun i => [(0, str s), (2, ptr b2 0), (3, num 0), (4, ptr b4 0), (5, .slice (some ⟨bs, 1, none⟩) (r'.length + 1) (r'.length + 1)), (68, num i)]) (fun _ => H)
              (fun i => [(bs, .row 0 ((p :: q :: r').map str) 9 ((q :: r').length + 1)), (b4, .cells ((pad 3 (p.map tLower) ++ pad 4 ((q.map tLower).take i) ++ List.replicate 3 0).map u8) 28), (b2, .cells ((List.replicate 10 (0 : UInt8)).map u8) 28)]) (fun i => i ≤ 4) (fun i => 4 - i) 0 ⟨rfl, rfl, rfl, rfl, rfl, rfl, trivial⟩ (by omega) rfl rfl ?_
            intro i hi
            refine WP.seq ?_
            refine WP.region rfl ?_
            refine WPL.p (PS.binInt rfl rfl rfl) ?_
            refine WPL.nil ?_
            refine WP.seq ?_
            refine WP.ifs rfl ?_ ?_
            · intro h4
              have q1 : i < 4 := by have := of_decide_eq_true h4; omega
              refine WP.skip ?_
              refine WP.seq ?_
              refine WP.block ?_
              refine WP.seq ?_
              refine WP.region rfl ?_
              refine WPL.p (PS.move rfl) ?_
              refine WPL.p (PS.assign rfl) ?_
              refine WPL.nil ?_
              refine WP.region rfl ?_
              refine WPL.p (PS.move rfl) ?_
              refine WPL.p (PS.move rfl) ?_
              refine WPL.p (PS.indexAddr rfl rfl (by omega) (by omega)) ?_
              refine WPL.p (PS.load (v := str q) rfl InR.here (hc1 (by simp))) ?_
              refine WPL.p (PS.move rfl) ?_
              refine WPL.p (PS.sIndex (m := i) rfl rfl rfl (by omega)) ?_
              refine WPL.cl rfl rfl (fun wf => c152 _ _) ?_
              refine WPL.p (PS.fieldAddr rfl) ?_
              refine WPL.p (PS.indexAddrArr rfl rfl (by omega) (by omega)) ?_
              refine WPL.s rfl rfl (UpdR.there UpdR.here) rfl rfl (View.write_one (by simp [pad]; omega)) ?_
              refine WPL.nil ?_
              refine WP.region rfl ?_
              refine WPL.p (PS.arith rfl rfl (.inl ⟨rfl, rfl⟩) (wrap_i64 (by omega) (by omega))) ?_
              refine WPL.p (PS.move rfl) ?_
              refine WPL.nil ?_
              exact ⟨i + 1, by omega, by omega, rfl, rfl, ⟨rfl, rfl, rfl, rfl, rfl, rfl, trivial⟩, rfl, congrArg _ (set_eq (e' := 0) (by simp [pad]; omega) (by simp <;> omega) (by simp <;> omega) (getD_map (by omega)))⟩
            · intro h4
              have q1 : i = 4 := by have := of_decide_eq_false h4; omega
              subst q1
              rw [List.take_of_length_le (show (q.map tLower).length ≤ 4 by simp; omega)]
              refine WP.exit ?_
              refine WP.seq ?_
              refine WP.region rfl ?_
              refine WPL.p (PS.fieldAddr rfl) ?_
              refine WPL.p (PS.indexAddrArr rfl rfl (by omega) (by omega)) ?_
              obtain ⟨x, q', rfl⟩ : ∃ x q', q = x :: q' := by
                cases q with
                | nil => simp at hq4
                | cons x q' => exact ⟨x, q', rfl⟩
              have hcell : (View.cells ((pad 3 (p.map tLower) ++ pad 4 ((x :: q').map tLower) ++ List.replicate 3 0).map u8) 28).cell (0 + 3 + Int.toNat 0 * 1) = some (u8 (tLower x)) := by
                exact seg_cell (by simp [pad]; omega)
              refine WPL.p (PS.load (v := u8 (tLower x)) rfl (InR.there InR.here) hcell) ?_
              refine WPL.cl rfl rfl (fun wf => c153 _ _) ?_
              refine WPL.p (PS.fieldAddr rfl) ?_
              refine WPL.p (PS.indexAddrArr rfl rfl (by omega) (by omega)) ?_
              refine WPL.s rfl rfl (UpdR.there UpdR.here) rfl rfl (View.write_one (by simp [pad]; omega)) ?_
              have hset : ((b4, View.cells (((pad 3 (p.map tLower) ++ pad 4 ((x :: q').map tLower) ++ List.replicate 3 0).map u8).set (0 + 3 + Int.toNat 0 * 1) (u8 (tUpper (tLower x)))) 28) :: [(b2, .cells ((List.replicate 10 (0 : UInt8)).map u8) 28)] : Locs) = (b4, View.cells ((pad 3 (p.map tLower) ++ pad 4 (capS (x :: q')) ++ List.replicate 3 0).map u8) 28) :: [(b2, .cells ((List.replicate 10 (0 : UInt8)).map u8) 28)] := by
                rw [map_set, seg_first (by simp [pad]; omega)]
              refine WPL.nil ?_
              refine WP.region rfl ?_
              refine WPL.p (PS.move rfl) ?_
              refine WPL.p (PS.tail (o := 1) (m := r'.length) rfl) ?_
              refine WPL.p (PS.assign rfl) ?_
              refine WPL.nil ?_
              exact ⟨rfl, rfl, [(0, str s), (2, ptr b2 0), (3, num 0), (4, ptr b4 0), (5, .slice (some ⟨bs, bif r'.length == 0 then 1 else 1 + 1, none⟩) r'.length r'.length)], ⟨rfl, rfl, rfl, rfl, rfl, trivial⟩, r', _, by rw [takeS_yes hq4.1 hq4.2], by rw [takeS_yes hq4.1 hq4.2, capS_length]; omega, fun x hx => hall x (by simp [hx]), by simp at hrl; omega, fun h => tail_cell h (by cases r' with | nil => simp at h | cons => rfl), rfl, rfl, by rw [takeS_yes hq4.1 hq4.2]; exact congrArg _ hset⟩
          · intro h3
            refine WP.skip ?_
            exact ⟨rfl, rfl, [(0, str s), (2, ptr b2 0), (3, num 0), (4, ptr b4 0), (5, .slice (some ⟨bs, bif r.length == 0 then 0 else 0 + 1, none⟩) r.length r.length)], ⟨rfl, rfl, rfl, rfl, rfl, trivial⟩, r, _, by rw [takeS_no h3], by rw [takeS_no h3]; simp, fun x hx => hall x (by simp [hx]), hrl, hc1, rfl, rfl, by rw [takeS_no h3]⟩
        · rintro l' G' L' ⟨rst, o, ht1, ht2, ht3, ht4, ht5, rfl, rfl, rfl⟩
          rw [ht1] at hparse
          simp only at hparse
          generalize (takeScript r).1 = sc at ht2 hparse ⊢
          refine WP.seq ?_
          refine WP.seq ?_
          refine WP.region rfl ?_
          refine WPL.p (PS.move rfl) ?_
          refine WPL.p (PS.lenSlice rfl) ?_
          refine WPL.p (PS.binInt rfl rfl rfl) ?_
          refine WPL.p (PS.move rfl) ?_
          refine WPL.c (Wants.yes rfl rfl rfl) (fun hb => (PS.move rfl)) ?_
          refine WPL.c (Wants.yes rfl rfl rfl) (fun hb => (PS.indexAddr (gt hb rfl) rfl (by omega) (by simp at hb; omega))) ?_
          refine WPL.c (Wants.yes rfl rfl rfl) (fun hb => (PS.load (v := str (rst.getD 0 [])) (gt hb rfl) InR.here (ht5 (by simp at hb; omega)))) ?_
          refine WPL.c (Wants.yes rfl rfl rfl) (fun hb => (PS.sLen (gt hb rfl))) ?_
          refine WPL.c (Wants.yes rfl rfl rfl) (fun hb => (PS.binInt (gt hb rfl) rfl rfl)) ?_
          refine WPL.c (Wants.yes rfl rfl rfl) (fun hb => (PS.move (gt hb rfl))) ?_
          refine WPL.c (Wants.yesG rfl rfl rfl) (fun hb => (PS.move rfl)) ?_
          refine WPL.c (Wants.yesG rfl rfl rfl) (fun hb => (PS.indexAddr (gt hb rfl) rfl (by omega) (by simp at hb; omega))) ?_
          refine WPL.c (Wants.yesG rfl rfl rfl) (fun hb => (PS.load (v := str (rst.getD 0 [])) (gt hb rfl) InR.here (ht5 (by simp at hb; omega)))) ?_
          refine WPL.clc (Wants.yesG rfl rfl rfl) (fun hb => rfl) (fun hb => (evsC (gt hb rfl) (evsC rfl rfl))) (fun hb wf => c150 (rst.getD 0 []) 142 tLetter (by have := getD_le' ht3; omega) _ (fun c => c151 c _)) ?_
          refine WPL.c (Wants.yes rfl rfl rfl) (fun hb => (PS.pickAnd (gt hb rfl) (fun hc => gt (andI hb hc) rfl) rfl)) ?_
          refine WPL.c (Wants.yes rfl rfl rfl) (fun hb => (PS.move (gt hb rfl))) ?_
          refine WPL.c (Wants.noG rfl rfl rfl) (fun hb => (PS.move rfl)) ?_
          refine WPL.c (Wants.noG rfl rfl rfl) (fun hb => (PS.indexAddr (gt hb rfl) rfl (by omega) (by simp at hb; omega))) ?_
          refine WPL.c (Wants.noG rfl rfl rfl) (fun hb => (PS.load (v := str (rst.getD 0 [])) (gt hb rfl) InR.here (ht5 (by simp at hb; omega)))) ?_
          refine WPL.c (Wants.noG rfl rfl rfl) (fun hb => (PS.sLen (gt hb rfl))) ?_
          refine WPL.c (Wants.noG rfl rfl rfl) (fun hb => (PS.binInt (gt hb rfl) rfl rfl)) ?_
          refine WPL.c (Wants.noG rfl rfl rfl) (fun hb => (PS.move (gt hb rfl))) ?_
          refine WPL.c (Wants.yesG rfl rfl rfl) (fun hb => (PS.move rfl)) ?_
          refine WPL.c (Wants.yesG rfl rfl rfl) (fun hb => (PS.indexAddr (gt hb rfl) rfl (by omega) (by simp at hb; omega))) ?_
          refine WPL.c (Wants.yesG rfl rfl rfl) (fun hb => (PS.load (v := str (rst.getD 0 [])) (gt hb rfl) InR.here (ht5 (by simp at hb; omega)))) ?_
          refine WPL.clc (Wants.yesG rfl rfl rfl) (fun hb => rfl) (fun hb => (evsC (gt hb rfl) (evsC rfl rfl))) (fun hb wf => c150 (rst.getD 0 []) 145 tDigit (by have := getD_le' ht3; omega) _ (fun c => c154 c _)) ?_
          refine WPL.c (Wants.noG rfl rfl rfl) (fun hb => (PS.pickAnd (gt hb rfl) (fun hc => gt (andI hb hc) rfl) rfl)) ?_
          refine WPL.c (Wants.yes rfl rfl rfl) (fun hb => (PS.pickOr (gt hb rfl) rfl (fun hc => gt (andI hb (notI hc)) rfl))) ?_
          refine WPL.p (PS.pickAnd rfl (fun hc => gt hc rfl) rfl) ?_
          refine WPL.nil ?_
          refine WP.ifs rfl ?_ ?_
          · intro h5
            obtain ⟨q, r', rfl, hq3, hq2, hreg⟩ := takeR_yes h5
            rw [hreg] at hparse
            simp only at hparse
            simp only [List.getD_cons_zero, List.length_cons] at ht5 ht4
            refine WP.seq ?_
            refine WP.seq ?_
            refine WP.region rfl ?_
            refine WPL.p (PS.move rfl) ?_
            refine WPL.p (PS.indexAddr rfl rfl (by omega) (by simp <;> omega)) ?_
            refine WPL.p (PS.load (v := str q) rfl InR.here (ht5 (by omega))) ?_
            refine WPL.p (PS.sLen rfl) ?_
            refine WPL.p (PS.move rfl) ?_
            refine WPL.nil ?_
            refine WP.block ?_
            refine WP.while (ι := Nat) (fun i => [(0, str s), (2, ptr b2 0), (3, num 0), (4, ptr b4 0), (5, .slice (some ⟨bs, o, none⟩) (r'.length + 1) (r'.length + 1)), (121, num q.length), (122, num i)]) (fun _ => H)
              (fun i => [(bs, .row 0 ((p :: r).map str) 9 (r.length + 1)), (b4, .cells (((pad 3 (p.map tLower) ++ pad 4 sc) ++ pad 3 ((q.map tUpper).take i) ++ []).map u8) 28), (b2, .cells ((List.replicate 10 (0 : UInt8)).map u8) 28)]) (fun i => i ≤ q.length) (fun i => q.length - i) 0 ⟨rfl, rfl, rfl, rfl, rfl, rfl, rfl, trivial⟩ (by omega) rfl (by simp [pad]) ?_
            intro i hi
            refine WP.seq ?_
            refine WP.region rfl ?_
            refine WPL.p (PS.binInt rfl rfl rfl) ?_
            refine WPL.nil ?_
            refine WP.seq ?_
            refine WP.ifs rfl ?_ ?_
            · intro h6
              have q1 : i < q.length := by have := of_decide_eq_true h6; omega
              refine WP.skip ?_
              refine WP.seq ?_
              refine WP.block ?_
              refine WP.seq ?_
              refine WP.region rfl ?_
              refine WPL.p (PS.move rfl) ?_
              refine WPL.p (PS.assign rfl) ?_
              refine WPL.nil ?_
              refine WP.region rfl ?_
              refine WPL.p (PS.move rfl) ?_
              refine WPL.p (PS.move rfl) ?_
              refine WPL.p (PS.indexAddr rfl rfl (by omega) (by simp <;> omega)) ?_
              refine WPL.p (PS.load (v := str q) rfl InR.here (ht5 (by omega))) ?_
              refine WPL.p (PS.move rfl) ?_
              refine WPL.p (PS.sIndex (m := i) rfl rfl rfl q1) ?_
              refine WPL.cl rfl rfl (fun wf => c153 _ _) ?_
              refine WPL.p (PS.fieldAddr rfl) ?_
              refine WPL.p (PS.indexAddrArr rfl rfl (by omega) (by omega)) ?_
              refine WPL.s rfl rfl (UpdR.there UpdR.here) rfl rfl (View.write_one (by simp [pad]; omega)) ?_
              refine WPL.nil ?_
              refine WP.region rfl ?_
              refine WPL.p (PS.arith rfl rfl (.inl ⟨rfl, rfl⟩) (wrap_i64 (by omega) (by omega))) ?_
              refine WPL.p (PS.move rfl) ?_
              refine WPL.nil ?_
              exact ⟨i + 1, by omega, by omega, rfl, rfl, ⟨rfl, rfl, rfl, rfl, rfl, rfl, rfl, trivial⟩, rfl, congrArg _ (set_eq (e' := 0) (by simp [pad]; omega) (by simp <;> omega) (by simp <;> omega) (getD_map q1))⟩
            · intro h6
              have q1 : i = q.length := by have := of_decide_eq_false h6; omega
              have q2 : (pad 3 (p.map tLower) ++ pad 4 sc) ++ pad 3 ((q.map tUpper).take i) ++ [] = tagBytes (some (p.map tLower, sc, q.map tUpper)) := by
                subst q1; rw [List.take_of_length_le (by simp)]; simp [tagBytes]
              rw [q2]
              refine WP.exit ?_
              refine WP.region rfl ?_
              refine WPL.p (PS.move rfl) ?_
              refine WPL.p (PS.tail rfl) ?_
              refine WPL.p (PS.assign rfl) ?_
              refine WPL.nil ?_
              refine WP.seq ?_
              refine WP.seq ?_
              refine WP.region rfl ?_
              refine WPL.p (PS.move rfl) ?_
              refine WPL.p (PS.lenSlice rfl) ?_
              refine WPL.p (PS.binInt rfl rfl rfl) ?_
              refine WPL.nil ?_
              refine WP.ifs rfl ?_ ?_
              · intro h7
                have hv : parseTag s = none := by
                  rw [hparse]; have := of_decide_eq_true h7
                  cases r' with
                  | nil => simp at this
                  | cons => rfl
                refine WP.seq ?_
                refine WP.region rfl ?_
                refine WPL.p (PS.build rfl rfl) ?_
                refine WPL.sA (m := 10) rfl rfl (UpdR.there (UpdR.there UpdR.here)) (by first | rfl | simp [pad, tagBytes]) (by first | rfl | exact one_u8 _) (by first | rfl | exact View.write_whole (by simp [pad, tagBytes])) ?_
                refine WPL.p (PS.assign rfl) ?_
                refine WPL.nil ?_
                refine WP.ret ?_
                refine toQ ?_
                refine RetQ.end (.inr rfl) (sub_all) ⟨_, (res1 (resA rfl (InR.there (InR.there InR.here)) (View.take_whole (by rfl))) (res1 (resT rfl) res0)), ?_⟩
                exact ⟨by rw [hv]; rfl, rfl⟩
              · intro h7
                have hv : parseTag s = some (p.map tLower, sc, q.map tUpper) := by
                  rw [hparse]; have := of_decide_eq_false h7
                  cases r' with
                  | nil => rfl
                  | cons => simp at this <;> omega
                refine WP.skip ?_
                refine WP.seq ?_
                refine WP.region rfl ?_
                refine WPL.p (PS.loadAgg rfl (InR.there InR.here) (View.take_whole (by simp [tagBytes, pad]; omega))) ?_
                refine WPL.s (m := 10) rfl rfl (UpdR.there (UpdR.there UpdR.here)) (by simp [tagBytes, pad]; omega) (one_u8 _) (View.write_whole (by simp [tagBytes, pad]; omega)) ?_
                refine WPL.p (PS.assign rfl) ?_
                refine WPL.nil ?_
                refine WP.ret ?_
                refine RetQ.end (.inr rfl) (sub_all) ⟨_, (res1 (resA rfl (InR.there (InR.there InR.here)) (View.take_whole (by simp [tagBytes, pad]; omega))) (res1 (resT rfl) res0)), ?_⟩
                exact ⟨by rw [hv]; rfl, rfl⟩
          · intro h5
            have hreg := takeR_no h5
            rw [hreg] at hparse
            simp only at hparse
            have q2 : pad 3 (p.map tLower) ++ pad 4 sc ++ List.replicate 3 0 = tagBytes (some (p.map tLower, sc, [])) := rfl
            rw [q2]
            refine WP.skip ?_
            refine WP.seq ?_
            refine WP.seq ?_
            refine WP.region rfl ?_
            refine WPL.p (PS.move rfl) ?_
            refine WPL.p (PS.lenSlice rfl) ?_
            refine WPL.p (PS.binInt rfl rfl rfl) ?_
            refine WPL.nil ?_
            refine WP.ifs rfl ?_ ?_
            · intro h8
              have hv : parseTag s = none := by
                rw [hparse]; have := of_decide_eq_true h8
                cases rst with
                | nil => simp at this
                | cons => rfl
              refine WP.seq ?_
              refine WP.region rfl ?_
              refine WPL.p (PS.build rfl rfl) ?_
              refine WPL.sA (m := 10) rfl rfl (UpdR.there (UpdR.there UpdR.here)) (by first | rfl | simp [pad, tagBytes]) (by first | rfl | exact one_u8 _) (by first | rfl | exact View.write_whole (by simp [pad, tagBytes])) ?_
              refine WPL.p (PS.assign rfl) ?_
              refine WPL.nil ?_
              refine WP.ret ?_
              refine toQ ?_
              refine RetQ.end (.inr rfl) (sub_all) ⟨_, (res1 (resA rfl (InR.there (InR.there InR.here)) (View.take_whole (by rfl))) (res1 (resT rfl) res0)), ?_⟩
              exact ⟨by rw [hv]; rfl, rfl⟩
            · intro h8
              have hv : parseTag s = some (p.map tLower, sc, []) := by
                rw [hparse]; have := of_decide_eq_false h8
                cases rst with
                | nil => rfl
                | cons => simp at this <;> omega
              refine WP.skip ?_
              refine WP.seq ?_
              refine WP.region rfl ?_
              refine WPL.p (PS.loadAgg rfl (InR.there InR.here) (View.take_whole (by simp [tagBytes, pad]; omega))) ?_
              refine WPL.s (m := 10) rfl rfl (UpdR.there (UpdR.there UpdR.here)) (by simp [tagBytes, pad]; omega) (one_u8 _) (View.write_whole (by simp [tagBytes, pad]; omega)) ?_
              refine WPL.p (PS.assign rfl) ?_
              refine WPL.nil ?_
              refine WP.ret ?_
              refine RetQ.end (.inr rfl) (sub_all) ⟨_, (res1 (resA rfl (InR.there (InR.there InR.here)) (View.take_whole (by simp [tagBytes, pad]; omega))) (res1 (resT rfl) res0)), ?_⟩
              exact ⟨by rw [hv]; rfl, rfl⟩

theorem c128 (a b c : List UInt8) (la : a.length = 3) (lb : b.length = 4) (lc : c.length = 3) (H : Heap) : EvP Tryz.prog 77 [nm (a ++ b ++ c)] H (.bool (rightTag a b c)) := by
  refine Ev.enter Tryz.func77 rfl ent77 ?_
  refine WP.seq ?_
  refine WP.region rfl ?_
  refine WPL.nw (NS.boxA rfl) ?_
  intro b1
  refine WPL.p (PS.assign rfl) ?_
  refine WPL.nil ?_
  refine WP.seq ?_
  refine WP.region rfl ?_
  refine WPL.p (PS.loadAgg rfl InR.here (View.take_whole (by simp [la, lb, lc]))) ?_
  refine WPL.cl rfl rfl (fun wf => c216 a b c la lb lc _) ?_
  refine WPL.cl rfl rfl (fun wf => c67 _ (tagPlain_le la lb lc) _) ?_
  refine WPL.p (PS.move rfl) ?_
  refine WPL.p (PS.extract rfl rfl) ?_
  refine WPL.p (PS.extract rfl rfl) ?_
  refine WPL.nw NS.alloc ?_
  intro b3
  refine WPL.sA (m := 10) rfl rfl UpdR.here (by first | rfl | simp [la, lb, lc, tagBytes_length]) (by first | rfl | exact one_u8 _) (by first | rfl | exact View.write_whole (by simp [la, lb, lc, tagBytes_length])) ?_
  refine WPL.p (PS.assign rfl) ?_
  refine WPL.nil ?_
  refine WP.seq ?_
  refine WP.region rfl ?_
  refine WPL.p (PS.move rfl) ?_
  refine WPL.p (PS.binInt rfl rfl rfl) ?_
  refine WPL.p (PS.move rfl) ?_
  refine WPL.c (Wants.yes rfl rfl rfl) (fun hb => (PS.loadAgg rfl InR.here (by first | rfl | exact View.take_whole (by simp [la, lb, lc, tagBytes_length])))) ?_
  refine WPL.c (Wants.yes rfl rfl rfl) (fun hb => (PS.loadAgg rfl (InR.there InR.here) (by first | rfl | exact View.take_whole (by simp [la, lb, lc, tagBytes_length])))) ?_
  refine WPL.c (Wants.yes rfl rfl rfl) (fun hb => (PS.eqFlat (gt hb rfl) (gt hb rfl) (fits_u8' (n := 10) (tagBytes_length _)) (fits_u8' (n := 10) (by simp [la, lb, lc])))) ?_
  refine WPL.p (PS.pickAnd rfl (fun hc => gt hc rfl) rfl) ?_
  refine WPL.p (PS.assign rfl) ?_
  refine WPL.nil ?_
  refine WP.ret ?_
  refine RetQ.end (.inr rfl) (sub_all) ⟨_, (res1 (resT rfl) res0), ?_⟩
  exact ⟨by simp only [tupled, rightTag, cellsEq_u8, agg_toList]; cases parseTag (tagPlain a b c) <;> rfl, rfl⟩

end Go.Proofs.YtfoakjdnopljmaaGreatDoor

set_option linter.unusedVariables false
set_option linter.unusedSimpArgs false
set_option maxRecDepth 100000
namespace Go.Proofs.YtfoakjdnopljmaaGreatDoor
open Go Go.Proofs

theorem c183 (k : Int) (H : Heap) : EvP Tryz.prog 75 [.int .i64 k] H (.agg ⟨[num (uAt k), .bool (uName k), .bool (uTag k)]⟩) := by
  refine Ev.enter Tryz.func75 rfl ent75 ?_
  refine WP.seq ?_
  refine WP.region rfl ?_
  refine WPL.nw NS.alloc ?_
  intro b2
  refine WPL.nil ?_
  refine WP.seq ?_
  refine WP.seq ?_
  refine WP.region rfl ?_
  refine WPL.p (PS.move rfl) ?_
  refine WPL.nil ?_
  refine WP.block ?_
  refine WP.seq ?_
  refine WP.region rfl ?_
  refine WPL.p (PS.binInt rfl rfl rfl) ?_
  refine WPL.p (PS.assign rfl) ?_
  refine WPL.nil ?_
  refine WP.ifs rfl ?_ ?_
  · intro h0
    have hk : k = 2 := eq_of_beq h0
    subst hk
    refine WP.seq ?_
    refine WP.region rfl ?_
    refine WPL.p (PS.build rfl rfl) ?_
    refine WPL.s rfl rfl UpdR.here rfl rfl rfl ?_
    refine WPL.nil ?_
    refine WP.ret ?_
    refine toB (toQ ?_)
    refine RetQ.end (.inr rfl) (sub_all) ⟨_, (res1 (resA rfl InR.here rfl) res0), ?_⟩
    exact ⟨rfl, rfl⟩
  · intro h0
    refine WP.seq ?_
    refine WP.region rfl ?_
    refine WPL.p (PS.binInt rfl rfl rfl) ?_
    refine WPL.p (PS.assign rfl) ?_
    refine WPL.nil ?_
    refine WP.ifs rfl ?_ ?_
    · intro h1
      have hk : k = 3 := eq_of_beq h1
      subst hk
      refine WP.seq ?_
      refine WP.region rfl ?_
      refine WPL.p (PS.build rfl rfl) ?_
      refine WPL.s rfl rfl UpdR.here rfl rfl rfl ?_
      refine WPL.nil ?_
      refine WP.ret ?_
      refine toB (toQ ?_)
      refine RetQ.end (.inr rfl) (sub_all) ⟨_, (res1 (resA rfl InR.here rfl) res0), ?_⟩
      exact ⟨rfl, rfl⟩
    · intro h1
      refine WP.seq ?_
      refine WP.region rfl ?_
      refine WPL.p (PS.binInt rfl rfl rfl) ?_
      refine WPL.p (PS.assign rfl) ?_
      refine WPL.nil ?_
      refine WP.ifs rfl ?_ ?_
      · intro h2
        have hk : k = 4 := eq_of_beq h2
        subst hk
        refine WP.seq ?_
        refine WP.region rfl ?_
        refine WPL.p (PS.build rfl rfl) ?_
        refine WPL.s rfl rfl UpdR.here rfl rfl rfl ?_
        refine WPL.nil ?_
        refine WP.ret ?_
        refine toB (toQ ?_)
        refine RetQ.end (.inr rfl) (sub_all) ⟨_, (res1 (resA rfl InR.here rfl) res0), ?_⟩
        exact ⟨rfl, rfl⟩
      · intro h2
        refine WP.seq ?_
        refine WP.region rfl ?_
        refine WPL.p (PS.binInt rfl rfl rfl) ?_
        refine WPL.p (PS.assign rfl) ?_
        refine WPL.nil ?_
        refine WP.ifs rfl ?_ ?_
        · intro h3
          have hk : k = 5 := eq_of_beq h3
          subst hk
          refine WP.seq ?_
          refine WP.region rfl ?_
          refine WPL.p (PS.build rfl rfl) ?_
          refine WPL.s rfl rfl UpdR.here rfl rfl rfl ?_
          refine WPL.nil ?_
          refine WP.ret ?_
          refine toB (toQ ?_)
          refine RetQ.end (.inr rfl) (sub_all) ⟨_, (res1 (resA rfl InR.here rfl) res0), ?_⟩
          exact ⟨rfl, rfl⟩
        · intro h3
          refine WP.seq ?_
          refine WP.region rfl ?_
          refine WPL.p (PS.binInt rfl rfl rfl) ?_
          refine WPL.p (PS.assign rfl) ?_
          refine WPL.nil ?_
          refine WP.ifs rfl ?_ ?_
          · intro h4
            have hk : k = 6 := eq_of_beq h4
            subst hk
            refine WP.seq ?_
            refine WP.region rfl ?_
            refine WPL.p (PS.build rfl rfl) ?_
            refine WPL.s rfl rfl UpdR.here rfl rfl rfl ?_
            refine WPL.nil ?_
            refine WP.ret ?_
            refine toB (toQ ?_)
            refine RetQ.end (.inr rfl) (sub_all) ⟨_, (res1 (resA rfl InR.here rfl) res0), ?_⟩
            exact ⟨rfl, rfl⟩
          · intro h4
            refine WP.skip ?_
            refine WP.seq ?_
            refine WP.region rfl ?_
            refine WPL.p (PS.build rfl rfl) ?_
            refine WPL.s rfl rfl UpdR.here rfl rfl rfl ?_
            refine WPL.nil ?_
            refine WP.ret ?_
            refine RetQ.end (.inr rfl) (sub_all) ⟨_, (res1 (resA rfl InR.here rfl) res0), ?_⟩
            exact ⟨by simp only [beq_eq_false_iff_ne] at h0 h1 h2 h3 h4; simp [tupled, uAt, uName, uTag, h0, h1, h2, h3, h4], rfl⟩

set_option maxHeartbeats 400000 in
theorem c97 (k p a : Int) (n x y z : List UInt8) (ln : n.length = 12) (lx : x.length = 3) (ly : y.length = 4) (lz : z.length = 3) (H : Heap) : EvP Tryz.prog 54 [.int .i64 k, .int .i64 p, .int .i64 a, nm n, nm (x ++ y ++ z)] H (.tuple ⟨[nm (ofBytes k p a n x y z), num (ofErr k p a n x y z)]⟩) := by
  refine Ev.enter Tryz.func54 rfl ent54 ?_
  refine WP.seq ?_
  refine WP.region rfl ?_
  refine WPL.nw (NS.boxA rfl) ?_
  intro b8
  refine WPL.nw (NS.boxA rfl) ?_
  intro b9
  refine WPL.nw NS.alloc ?_
  intro b10
  refine WPL.p (PS.assign rfl) ?_
  refine WPL.nil ?_
  refine WP.seq ?_
  refine WP.region rfl ?_
  refine WPL.p (PS.move rfl) ?_
  refine WPL.cl rfl rfl (fun wf => c183 _ _) ?_
  refine WPL.nw NS.alloc ?_
  intro b12
  refine WPL.sA (m := 3) rfl rfl UpdR.here (by first | rfl | simp [ln, lx, ly, lz]) (by first | rfl | exact one_u8 _) (by first | rfl | exact View.write_whole (by simp [ln, lx, ly, lz])) ?_
  refine WPL.nil ?_
  refine WP.seq ?_
  refine WP.block ?_
  refine WP.seq ?_
  refine WP.region rfl ?_
  refine WPL.p (PS.move rfl) ?_
  refine WPL.p (PS.binInt rfl rfl rfl) ?_
  refine WPL.p (PS.move rfl) ?_
  refine WPL.c (Wants.no rfl rfl rfl) (fun hb => (PS.move rfl)) ?_
  refine WPL.c (Wants.no rfl rfl rfl) (fun hb => (PS.binInt (gt hb rfl) rfl rfl)) ?_
  refine WPL.p (PS.pickOr rfl rfl (fun hc => gt (by rw [hc]; rfl) rfl)) ?_
  refine WPL.p (PS.assign rfl) ?_
  refine WPL.nil ?_
  refine WP.ifs rfl ?_ ?_
  · intro h0
    have he : ofErr k p a n x y z = 16 := by simp only [ofErr, h0]; rfl
    refine WP.seq ?_
    refine WP.region rfl ?_
    refine WPL.p (PS.build rfl rfl) ?_
    refine WPL.sA (m := 25) rfl rfl (UpdR.there UpdR.here) (by first | rfl | simp [ln, lx, ly, lz]) (by first | rfl | exact one_u8 _) (by first | rfl | exact View.write_whole (by simp [ln, lx, ly, lz])) ?_
    refine WPL.p (PS.assign rfl) ?_
    refine WPL.nil ?_
    refine WP.ret ?_
    refine toB (toQ ?_)
    refine RetQ.end (.inr rfl) (sub_all) ⟨_, (res1 (resA rfl (InR.there InR.here) (View.take_whole (by rfl))) (res1 (resT rfl) res0)), ?_⟩
    exact ⟨by rw [ofBytes, he]; rfl, rfl⟩
  · intro h0
    refine WP.seq ?_
    refine WP.region rfl ?_
    refine WPL.p (PS.move rfl) ?_
    refine WPL.p (PS.binInt rfl rfl rfl) ?_
    refine WPL.p (PS.move rfl) ?_
    refine WPL.c (Wants.no rfl rfl rfl) (fun hb => (PS.move rfl)) ?_
    refine WPL.c (Wants.no rfl rfl rfl) (fun hb => (PS.binInt (gt hb rfl) rfl rfl)) ?_
    refine WPL.p (PS.pickOr rfl rfl (fun hc => gt (by rw [hc]; rfl) rfl)) ?_
    refine WPL.p (PS.move rfl) ?_
    refine WPL.c (Wants.no rfl rfl rfl) (fun hb => (PS.fieldAddr rfl)) ?_
    refine WPL.c (Wants.no rfl rfl rfl) (fun hb => (PS.load (gt hb rfl) InR.here rfl)) ?_
    refine WPL.c (Wants.no rfl rfl rfl) (fun hb => (PS.binInt (gt hb rfl) rfl rfl)) ?_
    refine WPL.c (Wants.no rfl rfl rfl) (fun hb => (PS.move (gt hb rfl))) ?_
    refine WPL.c (Wants.yesG rfl rfl rfl) (fun hb => (PS.move rfl)) ?_
    refine WPL.c (Wants.yesG rfl rfl rfl) (fun hb => (PS.binInt (gt hb rfl) rfl rfl)) ?_
    refine WPL.c (Wants.yesG rfl rfl rfl) (fun hb => (PS.move (gt hb rfl))) ?_
    refine WPL.c (Wants.noG rfl rfl rfl) (fun hb => (PS.move rfl)) ?_
    refine WPL.c (Wants.noG rfl rfl rfl) (fun hb => (PS.fieldAddr rfl)) ?_
    refine WPL.c (Wants.noG rfl rfl rfl) (fun hb => (PS.load (gt hb rfl) InR.here rfl)) ?_
    refine WPL.c (Wants.noG rfl rfl rfl) (fun hb => (PS.binInt (gt hb rfl) (gt hb rfl) rfl)) ?_
    refine WPL.c (Wants.yesG rfl rfl rfl) (fun hb => (PS.pickOr (gt hb rfl) rfl (fun hc => gt (andI hb (notI hc)) rfl))) ?_
    refine WPL.c (Wants.no rfl rfl rfl) (fun hb => (PS.pickAnd (gt hb rfl) (fun hc => gt (andI hb hc) rfl) rfl)) ?_
    refine WPL.p (PS.pickOr rfl rfl (fun hc => gt (by rw [hc]; rfl) rfl)) ?_
    refine WPL.p (PS.assign rfl) ?_
    refine WPL.nil ?_
    refine WP.ifs rfl ?_ ?_
    · intro h1
      have he : ofErr k p a n x y z = 5 := by simp only [ofErr, h0, h1]; rfl
      refine WP.seq ?_
      refine WP.region rfl ?_
      refine WPL.p (PS.build rfl rfl) ?_
      refine WPL.sA (m := 25) rfl rfl (UpdR.there UpdR.here) (by first | rfl | simp [ln, lx, ly, lz]) (by first | rfl | exact one_u8 _) (by first | rfl | exact View.write_whole (by simp [ln, lx, ly, lz])) ?_
      refine WPL.p (PS.assign rfl) ?_
      refine WPL.nil ?_
      refine WP.ret ?_
      refine toB (toQ ?_)
      refine RetQ.end (.inr rfl) (sub_all) ⟨_, (res1 (resA rfl (InR.there InR.here) (View.take_whole (by rfl))) (res1 (resT rfl) res0)), ?_⟩
      exact ⟨by rw [ofBytes, he]; rfl, rfl⟩
    · intro h1
      refine WP.seq ?_
      refine WP.region rfl ?_
      refine WPL.p (PS.fieldAddr rfl) ?_
      refine WPL.p (PS.load rfl InR.here rfl) ?_
      refine WPL.p (PS.move rfl) ?_
      refine WPL.c (Wants.yes rfl rfl rfl) (fun hb => (PS.loadAgg rfl (InR.there (InR.there (InR.there InR.here))) (by first | rfl | exact View.take_whole (by simp [ln, lx, ly, lz])))) ?_
      refine WPL.clc (Wants.yes rfl rfl rfl) (fun hb => rfl) (fun hb => (evsC (gt hb rfl) rfl)) (fun hb wf => c184 n ln _) ?_
      refine WPL.c (Wants.yes rfl rfl rfl) (fun hb => (PS.not (gt hb rfl))) ?_
      refine WPL.p (PS.pickAnd rfl (fun hc => gt hc rfl) rfl) ?_
      refine WPL.p (PS.assign rfl) ?_
      refine WPL.nil ?_
      refine WP.ifs rfl ?_ ?_
      · intro h2
        have he : ofErr k p a n x y z = 15 := by simp only [ofErr, h0, h1, h2]; rfl
        refine WP.seq ?_
        refine WP.region rfl ?_
        refine WPL.p (PS.build rfl rfl) ?_
        refine WPL.sA (m := 25) rfl rfl (UpdR.there UpdR.here) (by first | rfl | simp [ln, lx, ly, lz]) (by first | rfl | exact one_u8 _) (by first | rfl | exact View.write_whole (by simp [ln, lx, ly, lz])) ?_
        refine WPL.p (PS.assign rfl) ?_
        refine WPL.nil ?_
        refine WP.ret ?_
        refine toB (toQ ?_)
        refine RetQ.end (.inr rfl) (sub_all) ⟨_, (res1 (resA rfl (InR.there InR.here) (View.take_whole (by rfl))) (res1 (resT rfl) res0)), ?_⟩
        exact ⟨by rw [ofBytes, he]; rfl, rfl⟩
      · intro h2
        refine WP.seq ?_
        refine WP.region rfl ?_
        refine WPL.p (PS.fieldAddr rfl) ?_
        refine WPL.p (PS.load rfl InR.here rfl) ?_
        refine WPL.p (PS.move rfl) ?_
        refine WPL.c (Wants.yes rfl rfl rfl) (fun hb => (PS.loadAgg rfl (InR.there (InR.there InR.here)) (by first | rfl | exact View.take_whole (by simp [ln, lx, ly, lz])))) ?_
        refine WPL.clc (Wants.yes rfl rfl rfl) (fun hb => rfl) (fun hb => (evsC (gt hb rfl) rfl)) (fun hb wf => c128 x y z lx ly lz _) ?_
        refine WPL.c (Wants.yes rfl rfl rfl) (fun hb => (PS.not (gt hb rfl))) ?_
        refine WPL.c (Wants.yes rfl rfl rfl) (fun hb => (PS.move (gt hb rfl))) ?_
        refine WPL.c (Wants.noG rfl rfl rfl) (fun hb => (PS.loadAgg rfl (InR.there (InR.there InR.here)) (by first | rfl | exact View.take_whole (by simp [ln, lx, ly, lz])))) ?_
        refine WPL.c (Wants.noG rfl rfl rfl) (fun hb => (PS.build (cs := (List.replicate 10 (0 : UInt8)).map u8) rfl rfl)) ?_
        refine WPL.c (Wants.noG rfl rfl rfl) (fun hb => (PS.eqFlat (gt hb rfl) (gt hb rfl) (fits_u8' (n := 10) (by simp [lx, ly, lz])) (fits_u8' (n := 10) rfl))) ?_
        refine WPL.c (Wants.yes rfl rfl rfl) (fun hb => (PS.pickOr (gt hb rfl) rfl (fun hc => gt (andI hb (notI hc)) rfl))) ?_
        refine WPL.p (PS.pickAnd rfl (fun hc => gt hc rfl) rfl) ?_
        refine WPL.p (PS.assign rfl) ?_
        refine WPL.nil ?_
        refine WP.ifs rfl ?_ ?_
        · intro h3
          rw [cellsEq_u8] at h3
          have he : ofErr k p a n x y z = 14 := by simp only [ofErr, h0, h1, h2, h3]; rfl
          refine WP.seq ?_
          refine WP.region rfl ?_
          refine WPL.p (PS.build rfl rfl) ?_
          refine WPL.sA (m := 25) rfl rfl (UpdR.there UpdR.here) (by first | rfl | simp [ln, lx, ly, lz]) (by first | rfl | exact one_u8 _) (by first | rfl | exact View.write_whole (by simp [ln, lx, ly, lz])) ?_
          refine WPL.p (PS.assign rfl) ?_
          refine WPL.nil ?_
          refine WP.ret ?_
          refine toB (toQ ?_)
          refine RetQ.end (.inr rfl) (sub_all) ⟨_, (res1 (resA rfl (InR.there InR.here) (View.take_whole (by rfl))) (res1 (resT rfl) res0)), ?_⟩
          exact ⟨by rw [ofBytes, he]; rfl, rfl⟩
        · intro h3
          rw [cellsEq_u8] at h3
          have hL : (ofKey k p a n (x ++ y ++ z)).length = 25 := ofKey_length ln (by simp [lx, ly, lz])
          have hM : ((ofKey k p a n (x ++ y ++ z)).map u8).length = 25 := by rw [List.length_map]; exact hL
          have he : ofErr k p a n x y z = 0 := by simp only [ofErr, h0, h1, h2, h3]; rfl
          have hb' : ofBytes k p a n x y z = ofKey k p a n (x ++ y ++ z) := by rw [ofBytes, he]; rfl
          have hk : 0 ≤ k ∧ k ≤ 255 ∧ 0 ≤ p ∧ p ≤ 255 ∧ ((uAt k : Int) > 0 → 0 ≤ a ∧ a ≤ 255) := by
            simp only [Bool.or_eq_false_iff, Bool.and_eq_false_iff, decide_eq_false_iff_not] at h0 h1
            have hu : uAt k ≤ 16 := by unfold uAt; split <;> (try split) <;> omega
            omega
          refine WP.skip ?_
          refine WP.seq ?_
          refine WP.region rfl ?_
          refine WPL.p (PS.move rfl) ?_
          refine WPL.p (PS.convInt rfl) ?_
          rw [byteOf_val hk.1 hk.2.1]
          refine WPL.p (PS.move rfl) ?_
          refine WPL.p (PS.convInt rfl) ?_
          rw [byteOf_val hk.2.2.1 hk.2.2.2.1]
          refine WPL.p (PS.build (cs := ([byteOf k, byteOf p, 0] ++ List.replicate 12 0 ++ List.replicate 10 0).map u8) rfl rfl) ?_
          refine WPL.nw NS.alloc ?_
          intro b13
          refine WPL.s (m := 25) rfl rfl UpdR.here rfl (one_u8 _) (View.write_whole rfl) ?_
          refine WPL.nil ?_
          refine WP.cutP (fun l' G' L' => l' = [(0, .int .i64 k), (1, .int .i64 p), (2, .int .i64 a), (8, ptr b8 0), (9, ptr b9 0), (10, ptr b10 0), (11, num 0), (12, ptr b12 0), (13, ptr b13 0)] ∧ H = G' ∧ L' = [(b13, .cells (([byteOf k, byteOf p, bif decide ((uAt k : Int) > 0) then byteOf a else 0] ++ List.replicate 12 0 ++ List.replicate 10 0).map u8) 30), (b12, .cells [num (uAt k), .bool (uName k), .bool (uTag k)] 167), (b10, .cells ((List.replicate 25 (0 : UInt8)).map u8) 30), (b9, .cells ((x ++ y ++ z).map u8) 28), (b8, .cells (n.map u8) 24)]) ?_ ?_
          · refine WP.seq ?_
            refine WP.region rfl ?_
            refine WPL.p (PS.fieldAddr rfl) ?_
            refine WPL.p (PS.load rfl (InR.there InR.here) rfl) ?_
            refine WPL.p (PS.binInt rfl rfl rfl) ?_
            refine WPL.nil ?_
            refine WP.ifs rfl ?_ ?_
            · intro h4
              refine WP.region rfl ?_
              refine WPL.p (PS.move rfl) ?_
              refine WPL.p (PS.convInt rfl) ?_
              rw [byteOf_val (hk.2.2.2.2 (of_decide_eq_true h4)).1 (hk.2.2.2.2 (of_decide_eq_true h4)).2]
              refine WPL.p (PS.fieldAddr rfl) ?_
              refine WPL.s rfl rfl UpdR.here rfl rfl (View.write_one (by simp)) ?_
              refine WPL.nil ?_
              refine ⟨rfl, rfl, [(0, .int .i64 k), (1, .int .i64 p), (2, .int .i64 a), (8, ptr b8 0), (9, ptr b9 0), (10, ptr b10 0), (11, num 0), (12, ptr b12 0), (13, ptr b13 0)], ⟨rfl, rfl, rfl, rfl, rfl, rfl, rfl, rfl, rfl, trivial⟩, rfl, rfl, ?_⟩
              simp only [h4]; rfl
            · intro h4
              refine WP.skip ?_
              refine ⟨rfl, rfl, [(0, .int .i64 k), (1, .int .i64 p), (2, .int .i64 a), (8, ptr b8 0), (9, ptr b9 0), (10, ptr b10 0), (11, num 0), (12, ptr b12 0), (13, ptr b13 0)], ⟨rfl, rfl, rfl, rfl, rfl, rfl, rfl, rfl, rfl, trivial⟩, rfl, rfl, ?_⟩
              simp only [h4]; rfl
          · rintro l' G' L' ⟨rfl, hG, rfl⟩
            subst hG
            refine WP.cutP (fun l' G' L' => l' = [(0, .int .i64 k), (1, .int .i64 p), (2, .int .i64 a), (8, ptr b8 0), (9, ptr b9 0), (10, ptr b10 0), (11, num 0), (12, ptr b12 0), (13, ptr b13 0)] ∧ H = G' ∧ L' = [(b13, .cells (([byteOf k, byteOf p, bif decide ((uAt k : Int) > 0) then byteOf a else 0] ++ (bif uName k then n else List.replicate 12 0) ++ List.replicate 10 0).map u8) 30), (b12, .cells [num (uAt k), .bool (uName k), .bool (uTag k)] 167), (b10, .cells ((List.replicate 25 (0 : UInt8)).map u8) 30), (b9, .cells ((x ++ y ++ z).map u8) 28), (b8, .cells (n.map u8) 24)]) ?_ ?_
            · refine WP.seq ?_
              refine WP.region rfl ?_
              refine WPL.p (PS.fieldAddr rfl) ?_
              refine WPL.p (PS.load rfl (InR.there InR.here) rfl) ?_
              refine WPL.nil ?_
              refine WP.ifs rfl ?_ ?_
              · intro h5
                refine WP.region rfl ?_
                refine WPL.p (PS.loadAgg rfl (InR.there (InR.there (InR.there (InR.there InR.here)))) (by first | rfl | exact View.take_whole (by simp [ln, lx, ly, lz]))) ?_
                refine WPL.p (PS.fieldAddr rfl) ?_
                refine WPL.s (m := 12) rfl rfl UpdR.here (by simp [ln]) (one_u8 _) (write_name (a := [_, _, _]) (t := List.replicate 10 0) rfl ln rfl) ?_
                refine WPL.nil ?_
                refine ⟨rfl, rfl, [(0, .int .i64 k), (1, .int .i64 p), (2, .int .i64 a), (8, ptr b8 0), (9, ptr b9 0), (10, ptr b10 0), (11, num 0), (12, ptr b12 0), (13, ptr b13 0)], ⟨rfl, rfl, rfl, rfl, rfl, rfl, rfl, rfl, rfl, trivial⟩, rfl, rfl, ?_⟩
                simp only [h5]; rfl
              · intro h5
                refine WP.skip ?_
                refine ⟨rfl, rfl, [(0, .int .i64 k), (1, .int .i64 p), (2, .int .i64 a), (8, ptr b8 0), (9, ptr b9 0), (10, ptr b10 0), (11, num 0), (12, ptr b12 0), (13, ptr b13 0)], ⟨rfl, rfl, rfl, rfl, rfl, rfl, rfl, rfl, rfl, trivial⟩, rfl, rfl, ?_⟩
                simp only [h5]; rfl
            · rintro l' G' L' ⟨rfl, hG, rfl⟩
              subst hG
              refine WP.cutP (fun l' G' L' => l' = [(0, .int .i64 k), (1, .int .i64 p), (2, .int .i64 a), (8, ptr b8 0), (9, ptr b9 0), (10, ptr b10 0), (11, num 0), (12, ptr b12 0), (13, ptr b13 0)] ∧ H = G' ∧ L' = [(b13, .cells ((ofKey k p a n (x ++ y ++ z)).map u8) 30), (b12, .cells [num (uAt k), .bool (uName k), .bool (uTag k)] 167), (b10, .cells ((List.replicate 25 (0 : UInt8)).map u8) 30), (b9, .cells ((x ++ y ++ z).map u8) 28), (b8, .cells (n.map u8) 24)]) ?_ ?_
              · refine WP.seq ?_
                refine WP.region rfl ?_
                refine WPL.p (PS.fieldAddr rfl) ?_
                refine WPL.p (PS.load rfl (InR.there InR.here) rfl) ?_
                refine WPL.nil ?_
                refine WP.ifs rfl ?_ ?_
                · intro h6
                  refine WP.region rfl ?_
                  refine WPL.p (PS.loadAgg rfl (InR.there (InR.there (InR.there InR.here))) (by first | rfl | exact View.take_whole (by simp [ln, lx, ly, lz]))) ?_
                  refine WPL.p (PS.fieldAddr rfl) ?_
                  refine WPL.s (m := 10) rfl rfl UpdR.here (by simp [lx, ly, lz]) (one_u8 _) (write_tag (by simp; cases uName k <;> simp [ln]) (by simp [lx, ly, lz])) ?_
                  refine WPL.nil ?_
                  refine ⟨rfl, rfl, [(0, .int .i64 k), (1, .int .i64 p), (2, .int .i64 a), (8, ptr b8 0), (9, ptr b9 0), (10, ptr b10 0), (11, num 0), (12, ptr b12 0), (13, ptr b13 0)], ⟨rfl, rfl, rfl, rfl, rfl, rfl, rfl, rfl, rfl, trivial⟩, rfl, rfl, ?_⟩
                  simp only [ofKey, h6]; rfl
                · intro h6
                  refine WP.skip ?_
                  refine ⟨rfl, rfl, [(0, .int .i64 k), (1, .int .i64 p), (2, .int .i64 a), (8, ptr b8 0), (9, ptr b9 0), (10, ptr b10 0), (11, num 0), (12, ptr b12 0), (13, ptr b13 0)], ⟨rfl, rfl, rfl, rfl, rfl, rfl, rfl, rfl, rfl, trivial⟩, rfl, rfl, ?_⟩
                  simp only [ofKey, h6]; rfl
              · rintro l' G' L' ⟨rfl, hG, rfl⟩
                subst hG
                refine WP.seq ?_
                refine WP.region rfl ?_
                refine WPL.p (PS.loadAgg rfl InR.here (View.take_whole hM)) ?_
                refine WPL.s (m := 25) rfl rfl (UpdR.there (UpdR.there UpdR.here)) hM (one_u8 _) (View.write_whole hM) ?_
                refine WPL.p (PS.assign rfl) ?_
                refine WPL.nil ?_
                refine WP.ret ?_
                refine RetQ.end (.inr rfl) (sub_all) ⟨_, (res1 (resA rfl (InR.there (InR.there InR.here)) (View.take_whole hM)) (res1 (resT rfl) res0)), ?_⟩
                exact ⟨by rw [he, hb']; rfl, rfl⟩

end Go.Proofs.YtfoakjdnopljmaaGreatDoor

set_option linter.unusedVariables false
set_option linter.unusedSimpArgs false
set_option maxRecDepth 100000
namespace Go.Proofs.YtfoakjdnopljmaaGreatDoor
open Go Go.Proofs

theorem c138 (k p a : UInt8) (n x y z : List UInt8) (ln : n.length = 12) (lx : x.length = 3) (ly : y.length = 4) (lz : z.length = 3) (H : Heap) : EvP Tryz.prog 37 [nm (keyOfL k p a n x y z)] H (.bool (rightKey k p a n x y z)) := by
  refine Ev.enter Tryz.func37 rfl ent37 ?_
  refine WP.seq ?_
  refine WP.region rfl ?_
  refine WPL.nw (NS.boxA rfl) ?_
  intro b1
  refine WPL.p (PS.assign rfl) ?_
  refine WPL.nil ?_
  refine WP.seq ?_
  refine WP.region rfl ?_
  refine WPL.p (PS.fieldAddr rfl) ?_
  have ht := key_take (k := k) (p := p) (a := a) (e := 30) ln lx ly lz
  have hL := keyOfL_length (k := k) (p := p) (a := a) ln lx ly lz
  have hM : ((keyOfL k p a n x y z).map u8).length = 25 := by rw [List.length_map]; exact hL
  have hB : (ofBytes k.toNat p.toNat a.toNat n x y z).length = 25 := ofBytes_length ln (by simp [lx, ly, lz])
  have hC : ((ofBytes k.toNat p.toNat a.toNat n x y z).map u8).length = 25 := by rw [List.length_map]; exact hB
  refine WPL.p (PS.load (v := u8 k) rfl InR.here rfl) ?_
  refine WPL.p (PS.convInt rfl) ?_
  rw [conv_u8]
  refine WPL.p (PS.fieldAddr rfl) ?_
  refine WPL.p (PS.load (v := u8 p) rfl InR.here rfl) ?_
  refine WPL.p (PS.convInt rfl) ?_
  rw [conv_u8]
  refine WPL.p (PS.fieldAddr rfl) ?_
  refine WPL.p (PS.load (v := u8 a) rfl InR.here rfl) ?_
  refine WPL.p (PS.convInt rfl) ?_
  rw [conv_u8]
  refine WPL.p (PS.fieldAddr rfl) ?_
  refine WPL.p (PS.loadAgg (n := 12) rfl InR.here ht.1) ?_
  refine WPL.p (PS.fieldAddr rfl) ?_
  refine WPL.p (PS.loadAgg (n := 10) rfl InR.here ht.2) ?_
  refine WPL.cl rfl rfl (fun wf => c97 _ _ _ n x y z ln lx ly lz _) ?_
  refine WPL.p (PS.move rfl) ?_
  refine WPL.p (PS.extract rfl rfl) ?_
  refine WPL.p (PS.extract rfl rfl) ?_
  refine WPL.nw NS.alloc ?_
  intro b3
  refine WPL.sA (m := 25) rfl rfl UpdR.here hC (one_u8 _) (View.write_whole hC) ?_
  refine WPL.p (PS.assign rfl) ?_
  refine WPL.nil ?_
  refine WP.seq ?_
  refine WP.region rfl ?_
  refine WPL.p (PS.move rfl) ?_
  refine WPL.p (PS.binInt rfl rfl rfl) ?_
  refine WPL.p (PS.move rfl) ?_
  refine WPL.c (Wants.yes rfl rfl rfl) (fun hb => (PS.loadAgg rfl InR.here (View.take_whole hC))) ?_
  refine WPL.c (Wants.yes rfl rfl rfl) (fun hb => (PS.loadAgg rfl (InR.there InR.here) (View.take_whole hM))) ?_
  refine WPL.c (Wants.yes rfl rfl rfl) (fun hb => (PS.eqFlat (gt hb rfl) (gt hb rfl) (fits_u8' (n := 25) hB) (fits_u8' (n := 25) hL))) ?_
  refine WPL.p (PS.pickAnd rfl (fun hc => gt hc rfl) rfl) ?_
  refine WPL.p (PS.assign rfl) ?_
  refine WPL.nil ?_
  refine WP.ret ?_
  refine RetQ.end (.inr rfl) (sub_all) ⟨_, (res1 (resT rfl) res0), ?_⟩
  refine ⟨?_, rfl⟩
  simp only [tupled, rightKey, cellsEq_u8, ofBytes]
  have e : ((ofErr k.toNat p.toNat a.toNat n x y z : Int) == 0) = (ofErr k.toNat p.toNat a.toNat n x y z == 0) := by rw [Bool.eq_iff_iff]; simp
  rw [e]
  cases ofErr k.toNat p.toNat a.toNat n x y z == 0 <;> simp

theorem c261 (x y z : List UInt8) (lx : x.length = 3) (ly : y.length = 4) (lz : z.length = 3) (H : Heap) : EvP Tryz.prog 95 [nm (x ++ y ++ z)] H (nm (x ++ y ++ z)) := by
  refine Ev.enter Tryz.func95 rfl ent95 ?_
  refine WP.seq ?_
  refine WP.region rfl ?_
  refine WPL.nw (NS.boxA rfl) ?_
  intro b1
  refine WPL.nw NS.alloc ?_
  intro b2
  refine WPL.nil ?_
  refine WP.seq ?_
  refine WP.region rfl ?_
  have ht := tag_take (e := 28) lx ly lz
  have hM : ((x ++ y ++ z).map u8).length = 10 := by simp [lx, ly, lz]
  refine WPL.nw (V := .cells ((List.replicate 10 (0 : UInt8)).map u8) 49) (NS.allocL (by rfl)) ?_
  intro b3
  refine WPL.nil ?_
  refine WP.seq ?_
  refine WP.drawK 4 mixed (by kernel_rfl) rfl ?_
  refine ScrK.p0 (i := 0) rfl rfl rfl rfl (PS.slArr (b := b3) (off := 0) (len := 10) (i := 0) (j := 3) (n := 1) rfl Bnd.none (Bnd.some rfl rfl) Bnd.none (by omega) (by omega) (by omega) (by simp)) ?_
  refine ScrK.p0 (i := 1) rfl rfl rfl rfl (PS.fieldAddr rfl) ?_
  refine ScrK.p0 (i := 2) rfl rfl rfl rfl (PS.slArr (b := b1) (off := 0) (len := 3) (n := 1) rfl Bnd.none Bnd.none Bnd.none (by omega) (by omega) (by omega) (by simp)) ?_
  refine ScrK.upd (i := 3) rfl rfl rfl rfl (GS.copy (m := 3) (n := 1) rfl rfl rfl (InR.there (InR.there InR.here)) ht.1 UpdR.here (write_to (S := (List.replicate 10 (0 : UInt8))) (R := (x ++ (List.replicate 4 (0 : UInt8)) ++ (List.replicate 3 (0 : UInt8)))) (A := []) (M := (List.replicate 3 (0 : UInt8))) (N := x) (Z := (List.replicate 7 (0 : UInt8))) (o := 0) (by first | rfl | simp) (by first | rfl | simp) (by simp [lx, ly, lz]) (by simp [lx, ly, lz])) (one_u8 _)) late0 ?_
  refine ScrK.end ?_
  refine WPL.nil ?_
  refine WP.seq ?_
  refine WP.drawK 4 mixed (by kernel_rfl) rfl ?_
  refine ScrK.p0 (i := 0) rfl rfl rfl rfl (PS.slArr (b := b3) (off := 0) (len := 10) (i := 3) (j := 7) (n := 1) rfl (Bnd.some rfl rfl) (Bnd.some rfl rfl) Bnd.none (by omega) (by omega) (by omega) (by simp)) ?_
  refine ScrK.p0 (i := 1) rfl rfl rfl rfl (PS.fieldAddr rfl) ?_
  refine ScrK.p0 (i := 2) rfl rfl rfl rfl (PS.slArr (b := b1) (off := 3) (len := 4) (n := 1) rfl Bnd.none Bnd.none Bnd.none (by omega) (by omega) (by omega) (by simp)) ?_
  refine ScrK.upd (i := 3) rfl rfl rfl rfl (GS.copy (m := 4) (n := 1) rfl rfl rfl (InR.there (InR.there InR.here)) ht.2.1 UpdR.here (write_to (S := (x ++ (List.replicate 4 (0 : UInt8)) ++ (List.replicate 3 (0 : UInt8)))) (R := ((x ++ y) ++ (List.replicate 3 (0 : UInt8)) ++ [])) (A := x) (M := (List.replicate 4 (0 : UInt8))) (N := y) (Z := (List.replicate 3 (0 : UInt8))) (o := 3) (by first | rfl | simp) (by first | rfl | simp) (by simp [lx, ly, lz]) (by simp [lx, ly, lz])) (one_u8 _)) late0 ?_
  refine ScrK.end ?_
  refine WPL.nil ?_
  refine WP.seq ?_
  refine WP.drawK 4 mixed (by kernel_rfl) rfl ?_
  refine ScrK.p0 (i := 0) rfl rfl rfl rfl (PS.slArr (b := b3) (off := 0) (len := 10) (i := 7) (j := 10) (n := 1) rfl (Bnd.some rfl rfl) Bnd.none Bnd.none (by omega) (by omega) (by omega) (by simp)) ?_
  refine ScrK.p0 (i := 1) rfl rfl rfl rfl (PS.fieldAddr rfl) ?_
  refine ScrK.p0 (i := 2) rfl rfl rfl rfl (PS.slArr (b := b1) (off := 7) (len := 3) (n := 1) rfl Bnd.none Bnd.none Bnd.none (by omega) (by omega) (by omega) (by simp)) ?_
  refine ScrK.upd (i := 3) rfl rfl rfl rfl (GS.copy (m := 3) (n := 1) rfl rfl rfl (InR.there (InR.there InR.here)) ht.2.2 UpdR.here (write_to (S := ((x ++ y) ++ (List.replicate 3 (0 : UInt8)) ++ [])) (R := (x ++ y ++ z)) (A := (x ++ y)) (M := (List.replicate 3 (0 : UInt8))) (N := z) (Z := []) (o := 7) (by first | rfl | simp) (by first | rfl | simp) (by simp [lx, ly, lz]) (by simp [lx, ly, lz])) (one_u8 _)) late0 ?_
  refine ScrK.end ?_
  refine WPL.nil ?_
  refine WP.seq ?_
  refine WP.region rfl ?_
  refine WPL.p (PS.loadAgg rfl InR.here (View.take_whole hM)) ?_
  refine WPL.sA (m := 10) rfl rfl (UpdR.there UpdR.here) hM (one_u8 _) (View.write_whole hM) ?_
  refine WPL.nil ?_
  refine WP.ret ?_
  refine RetQ.end (.inr rfl) (sub_all) ⟨_, (res1 (resA rfl (InR.there InR.here) (View.take_whole hM)) res0), ?_⟩
  exact ⟨rfl, rfl⟩

theorem c196 (k p a : UInt8) (n x y z : List UInt8) (ln : n.length = 12) (lx : x.length = 3) (ly : y.length = 4) (lz : z.length = 3) (H : Heap) : EvP Tryz.prog 66 [nm (keyOfL k p a n x y z)] H (nm (keyOfL k p a n x y z)) := by
  refine Ev.enter Tryz.func66 rfl ent66 ?_
  refine WP.seq ?_
  refine WP.region rfl ?_
  refine WPL.nw (NS.boxA rfl) ?_
  intro b1
  refine WPL.nw NS.alloc ?_
  intro b2
  refine WPL.nil ?_
  refine WP.seq ?_
  refine WP.region rfl ?_
  refine WPL.p (PS.fieldAddr rfl) ?_
  have ht := key_take (k := k) (p := p) (a := a) (e := 30) ln lx ly lz
  have hL := keyOfL_length (k := k) (p := p) (a := a) ln lx ly lz
  have hM : ((keyOfL k p a n x y z).map u8).length = 25 := by rw [List.length_map]; exact hL
  have hT : ((x ++ y ++ z).map u8).length = 10 := by simp [lx, ly, lz]
  refine WPL.p (PS.load (v := u8 k) rfl (InR.there InR.here) rfl) ?_
  refine WPL.p (PS.fieldAddr rfl) ?_
  refine WPL.p (PS.load (v := u8 p) rfl (InR.there InR.here) rfl) ?_
  refine WPL.p (PS.fieldAddr rfl) ?_
  refine WPL.p (PS.load (v := u8 a) rfl (InR.there InR.here) rfl) ?_
  refine WPL.p (PS.build (cs := (([k, p, a] ++ (List.replicate 12 (0 : UInt8)) ++ (List.replicate 10 (0 : UInt8)))).map u8) rfl rfl) ?_
  refine WPL.nw NS.alloc ?_
  intro b3
  refine WPL.sA (m := 25) rfl rfl UpdR.here rfl (one_u8 _) (View.write_whole rfl) ?_
  refine WPL.nil ?_
  refine WP.seq ?_
  refine WP.region rfl ?_
  refine WPL.p (PS.fieldAddr rfl) ?_
  refine WPL.p (PS.loadAgg (n := 10) rfl (InR.there (InR.there InR.here)) ht.2) ?_
  refine WPL.cl rfl rfl (fun wf => c261 x y z lx ly lz _) ?_
  refine WPL.nw NS.alloc ?_
  intro b4
  refine WPL.sA (m := 10) rfl rfl UpdR.here hT (one_u8 _) (View.write_whole hT) ?_
  refine WPL.nil ?_
  refine WP.seq ?_
  refine WP.drawK 4 mixed (by kernel_rfl) rfl ?_
  refine ScrK.p0 (i := 0) rfl rfl rfl rfl (PS.slArr (b := b3) (off := 0) (len := 25) (i := 3) (j := 15) (n := 1) rfl (Bnd.some rfl rfl) (Bnd.some rfl rfl) Bnd.none (by omega) (by omega) (by omega) (by simp)) ?_
  refine ScrK.p0 (i := 1) rfl rfl rfl rfl (PS.fieldAddr rfl) ?_
  refine ScrK.p0 (i := 2) rfl rfl rfl rfl (PS.slArr (b := b1) (off := 3) (len := 12) (n := 1) rfl Bnd.none Bnd.none Bnd.none (by omega) (by omega) (by omega) (by simp)) ?_
  refine ScrK.upd (i := 3) rfl rfl rfl rfl (GS.copy (m := 12) (n := 1) rfl rfl rfl (InR.there (InR.there (InR.there InR.here))) ht.1 (UpdR.there UpdR.here) (write_to (S := ([k, p, a] ++ (List.replicate 12 (0 : UInt8)) ++ (List.replicate 10 (0 : UInt8)))) (R := (([k, p, a] ++ n) ++ (List.replicate 10 (0 : UInt8)) ++ [])) (A := [k, p, a]) (M := (List.replicate 12 (0 : UInt8))) (N := n) (Z := (List.replicate 10 (0 : UInt8))) (o := 3) (by first | rfl | simp) (by first | rfl | simp [keyOfL]) (by simp [ln]) (by simp [ln, lx, ly, lz])) (one_u8 _)) late0 ?_
  refine ScrK.end ?_
  refine WPL.nil ?_
  refine WP.seq ?_
  refine WP.drawK 2 mixed (by kernel_rfl) rfl ?_
  refine ScrK.p0 (i := 0) rfl rfl rfl rfl (PS.slArr (b := b3) (off := 0) (len := 25) (i := 15) (j := 25) (n := 1) rfl (Bnd.some rfl rfl) Bnd.none Bnd.none (by omega) (by omega) (by omega) (by simp)) ?_
  refine ScrK.p0 (i := 1) rfl rfl rfl rfl (PS.slArr (b := b4) (off := 0) (len := 10) (n := 1) rfl Bnd.none Bnd.none Bnd.none (by omega) (by omega) (by omega) (by simp)) ?_
  refine ScrK.end ?_
  refine WPL.upd rfl (GS.copy (m := 10) (n := 1) rfl rfl rfl InR.here (View.take_whole hT) (UpdR.there UpdR.here) (write_to (S := (([k, p, a] ++ n) ++ (List.replicate 10 (0 : UInt8)) ++ [])) (R := (keyOfL k p a n x y z)) (A := ([k, p, a] ++ n)) (M := (List.replicate 10 (0 : UInt8))) (N := (x ++ y ++ z)) (Z := []) (o := 15) (by first | rfl | simp) (by first | rfl | simp [keyOfL]) (by simp [ln]) (by simp [ln, lx, ly, lz])) (one_u8 _)) ?_
  refine WPL.nil ?_
  refine WP.seq ?_
  refine WP.region rfl ?_
  refine WPL.p (PS.loadAgg rfl (InR.there InR.here) (View.take_whole hM)) ?_
  refine WPL.sA (m := 25) rfl rfl (UpdR.there (UpdR.there UpdR.here)) hM (one_u8 _) (View.write_whole hM) ?_
  refine WPL.nil ?_
  refine WP.ret ?_
  refine RetQ.end (.inr rfl) (sub_all) ⟨_, (res1 (resA rfl (InR.there (InR.there InR.here)) (View.take_whole hM)) res0), ?_⟩
  exact ⟨rfl, rfl⟩

theorem x301 {u v : Value} {s t : List UInt8} {H : Heap} (h1 : BytesAt H u s) (h2 : BytesAt H v t) : Xv Tryz.prog 96 [u, v] H (.int .i64 (Lib.compareBytes s t)) :=
  Xv.of (e := Extern.BytealgCompare.compare) Tryz.func96 (by kernel_rfl) (by kernel_rfl) (by kernel_rfl) (by kernel_rfl) fun w hw => compare_run (h1.run hw) (h2.run hw)

theorem c239 (u v : Value) (s t : List UInt8) (H : Heap) (h1 : BytesAt H u s) (h2 : BytesAt H v t) : EvP Tryz.prog 67 [u, v] H (.int .i64 (Lib.compareBytes s t)) := by
  refine Ev.enter Tryz.func67 rfl ent67 ?_
  refine WP.seq ?_
  refine WP.region rfl ?_
  refine WPL.p (PS.assign rfl) ?_
  refine WPL.nil ?_
  refine WP.seq ?_
  refine WP.region rfl ?_
  refine WPL.p (PS.move rfl) ?_
  refine WPL.p (PS.move rfl) ?_
  refine WPL.p (PS.ext rfl rfl (fun wf => x301 h1 h2)) ?_
  refine WPL.p (PS.assign rfl) ?_
  refine WPL.nil ?_
  refine WP.ret ?_
  refine RetQ.end (.inr rfl) (sub_all) ⟨_, (res1 (resT rfl) res0), ?_⟩
  exact ⟨rfl, rfl⟩

theorem c163 (k p a k' p' a' : UInt8) (n x y z n' x' y' z' : List UInt8) (ln : n.length = 12) (lx : x.length = 3) (ly : y.length = 4) (lz : z.length = 3) (ln' : n'.length = 12) (lx' : x'.length = 3) (ly' : y'.length = 4) (lz' : z'.length = 3) (H : Heap) : EvP Tryz.prog 47 [nm (keyOfL k p a n x y z), nm (keyOfL k' p' a' n' x' y' z')] H (.bool (decide (Lib.compareBytes (keyOfL k p a n x y z) (keyOfL k' p' a' n' x' y' z') < 0))) := by
  refine Ev.enter Tryz.func47 rfl ent47 ?_
  refine WP.seq ?_
  refine WP.region rfl ?_
  refine WPL.nw (NS.boxA rfl) ?_
  intro b2
  refine WPL.nw (NS.boxA rfl) ?_
  intro b3
  refine WPL.p (PS.assign rfl) ?_
  refine WPL.nil ?_
  refine WP.seq ?_
  refine WP.drawK 7 mixed (by kernel_rfl) rfl ?_
  have hL := keyOfL_length (k := k) (p := p) (a := a) ln lx ly lz
  have hL' := keyOfL_length (k := k') (p := p') (a := a') ln' lx' ly' lz'
  have hM : ((keyOfL k p a n x y z).map u8).length = 25 := by rw [List.length_map]; exact hL
  have hM' : ((keyOfL k' p' a' n' x' y' z').map u8).length = 25 := by rw [List.length_map]; exact hL'
  refine ScrK.ps (i := 0) rfl rfl rfl rfl (PS.loadAgg rfl (InR.there InR.here) (View.take_whole hM)) ?_
  refine ScrK.ps (i := 2) rfl rfl rfl rfl (PS.loadAgg rfl InR.here (View.take_whole hM')) ?_
  refine ScrK.late (i := 4) rfl rfl rfl rfl NS.alloc rfl ?_
  refine ScrK.late (i := 5) rfl rfl rfl rfl NS.alloc rfl ?_
  refine ScrK.clS (i := 1) rfl rfl rfl rfl rfl (fun wf => c196 k p a n x y z ln lx ly lz _) (lateC rfl rfl (lateC rfl rfl late0)) ?_
  refine ScrK.clS (i := 3) rfl rfl rfl rfl rfl (fun wf => c196 k' p' a' n' x' y' z' ln' lx' ly' lz' _) (lateC rfl rfl (lateC rfl rfl late0)) ?_
  refine ScrK.updX2 (i := 6) rfl rfl rfl rfl rfl (lateC rfl rfl (lateC rfl rfl late0)) (fun b6 b5 => ⟨_, _, GS.store (n := 25) rfl rfl UpdR.here hM (one_u8 _) (View.write_whole hM), List.Sublist.cons _ (List.Sublist.cons _ (List.Sublist.refl _)), ?_⟩)
  refine ScrK.end ?_
  refine WPL.sA (m := 25) rfl rfl (UpdR.there UpdR.here) hM' (one_u8 _) (View.write_whole hM') ?_
  refine WPL.nil ?_
  refine WP.seq ?_
  refine WP.draw 4 mixed (by kernel_rfl) rfl ?_
  refine Scr.ps (i := 0) rfl rfl rfl rfl (PS.slArr (b := b5) (off := 0) (len := 25) (i := 0) (j := 25) (n := 1) rfl Bnd.none Bnd.none Bnd.none (by omega) (by omega) (by omega) (by simp)) ?_
  refine Scr.ps (i := 1) rfl rfl rfl rfl (PS.slArr (b := b6) (off := 0) (len := 25) (i := 0) (j := 25) (n := 1) rfl Bnd.none Bnd.none Bnd.none (by omega) (by omega) (by omega) (by simp)) ?_
  refine Scr.cl (i := 2) rfl rfl rfl rfl rfl (fun wf => c239 _ _ (keyOfL k p a n x y z) (keyOfL k' p' a' n' x' y' z') _ (.inl ⟨b5, 0, 25, _, by rw [hL]; rfl, InR.here wf, by rw [hL]; exact View.take_whole hM⟩) (.inl ⟨b6, 0, 25, _, by rw [hL']; rfl, (InR.there InR.here) wf, by rw [hL']; exact View.take_whole hM'⟩)) late0 ?_
  refine Scr.ps (i := 3) rfl rfl rfl rfl (PS.binInt rfl rfl rfl) ?_
  refine Scr.end ?_
  refine WPL.p (PS.assign rfl) ?_
  refine WPL.nil ?_
  refine WP.ret ?_
  refine RetQ.end (.inr rfl) (sub_all) ⟨_, (res1 (resT rfl) res0), ?_⟩
  exact ⟨rfl, rfl⟩

end Go.Proofs.YtfoakjdnopljmaaGreatDoor

set_option linter.unusedVariables false
set_option linter.unusedSimpArgs false
set_option maxRecDepth 100000
namespace Go.Proofs.YtfoakjdnopljmaaGreatDoor
open Go Go.Proofs

theorem c147 (s : List UInt8) (hs : s.length ≤ 1000000) (H : Heap) : EvP Tryz.prog 135 [str s] H (num (kindOf s)) := by
  refine Ev.enter Tryz.func135 rfl ent135 ?_
  refine WP.seq ?_
  refine WP.region rfl ?_
  refine WPL.p (PS.assign rfl) ?_
  refine WPL.nil ?_
  refine WP.seq ?_
  refine WP.region rfl ?_
  refine WPL.p (PS.assign rfl) ?_
  refine WPL.p (PS.assign rfl) ?_
  refine WPL.nil ?_
  refine WP.seq ?_
  refine WP.seq ?_
  refine WP.region rfl ?_
  refine WPL.p (PS.assign rfl) ?_
  refine WPL.nil ?_
  refine WP.block ?_
  refine WP.while (ι := Nat) (fun i => [(0, str s), (2, num 0), (3, num ((s.take i).countP tLetter)), (4, num ((s.take i).countP tDigit)), (5, num i)]) (fun _ => H)
    (fun i => []) (fun i => i ≤ s.length) (fun i => s.length - i) 0 ⟨rfl, rfl, rfl, rfl, rfl, trivial⟩ (by omega) rfl rfl ?_
  intro i hi
  have hc1 := countP_le tLetter s i
  have hc2 := countP_le tDigit s i
  refine WP.seq ?_
  refine WP.seq ?_
  refine WP.region rfl ?_
  refine WPL.p (PS.move rfl) ?_
  refine WPL.p (PS.move rfl) ?_
  refine WPL.p (PS.sLen rfl) ?_
  refine WPL.p (PS.binInt rfl rfl rfl) ?_
  refine WPL.nil ?_
  refine WP.ifs rfl ?_ ?_
  · intro h0
    have q1 : i < s.length := by have := of_decide_eq_true h0; omega
    have e1 := countP_take (p := tLetter) q1
    have e2 := countP_take (p := tDigit) q1
    refine WP.skip ?_
    refine WP.seq ?_
    refine WP.block ?_
    refine WP.seq ?_
    refine WP.region rfl ?_
    refine WPL.p (PS.move rfl) ?_
    refine WPL.p (PS.move rfl) ?_
    refine WPL.p (PS.sIndex (m := i) rfl rfl rfl q1) ?_
    refine WPL.p (PS.assign rfl) ?_
    refine WPL.nil ?_
    refine WP.cutP (fun l' G' L' => l' = [(0, str s), (2, num 0), (3, num ((s.take (i + 1)).countP tLetter)), (4, num ((s.take i).countP tDigit)), (5, num i), (6, u8 (s.getD i 0))] ∧ H = G' ∧ L' = []) ?_ ?_
    · refine WP.seq ?_
      refine WP.region rfl ?_
      refine WPL.p (PS.move rfl) ?_
      refine WPL.p (PS.binInt rfl rfl rfl) ?_
      refine WPL.p (PS.move rfl) ?_
      refine WPL.c (Wants.yes rfl rfl rfl) (fun hb => (PS.move rfl)) ?_
      refine WPL.c (Wants.yes rfl rfl rfl) (fun hb => (PS.binInt (gt hb rfl) rfl rfl)) ?_
      refine WPL.p (PS.pickAnd rfl (fun hc => gt hc rfl) rfl) ?_
      refine WPL.p (PS.move rfl) ?_
      refine WPL.c (Wants.no rfl rfl rfl) (fun hb => (PS.move rfl)) ?_
      refine WPL.c (Wants.no rfl rfl rfl) (fun hb => (PS.binInt (gt hb rfl) rfl rfl)) ?_
      refine WPL.c (Wants.no rfl rfl rfl) (fun hb => (PS.move (gt hb rfl))) ?_
      refine WPL.c (Wants.yesG rfl rfl rfl) (fun hb => (PS.move rfl)) ?_
      refine WPL.c (Wants.yesG rfl rfl rfl) (fun hb => (PS.binInt (gt hb rfl) rfl rfl)) ?_
      refine WPL.c (Wants.no rfl rfl rfl) (fun hb => (PS.pickAnd (gt hb rfl) (fun hc => gt (andI hb hc) rfl) rfl)) ?_
      refine WPL.p (PS.pickOr rfl rfl (fun hc => gt (by rw [hc]; rfl) rfl)) ?_
      refine WPL.nil ?_
      refine WP.ifs rfl ?_ ?_
      · intro h1
        have e3 : (((s.take (i + 1)).countP tLetter : Nat) : Int) = ((s.take i).countP tLetter : Int) + 1 := by
          rw [e1, if_pos (by rw [← rLetter_eq]; exact h1)]; rfl
        refine WP.region rfl ?_
        refine WPL.p (PS.move rfl) ?_
        refine WPL.p (PS.arith rfl rfl (.inl ⟨rfl, rfl⟩) (wrap_i64 (by omega) (by omega))) ?_
        refine WPL.p (PS.assign rfl) ?_
        refine WPL.nil ?_
        exact ⟨rfl, rfl, [(0, str s), (2, num 0), (3, num ((s.take (i + 1)).countP tLetter)), (4, num ((s.take i).countP tDigit)), (5, num i), (6, u8 (s.getD i 0))], ⟨rfl, rfl, congrArg (fun x : Int => some (Value.int .i64 x)) e3.symm, rfl, rfl, rfl, trivial⟩, rfl, rfl, rfl⟩
      · intro h1
        have e3 : (((s.take (i + 1)).countP tLetter : Nat) : Int) = ((s.take i).countP tLetter : Int) := by
          rw [e1, if_neg (by rw [← rLetter_eq, Bool.not_eq_true]; exact h1)]; rfl
        refine WP.skip ?_
        exact ⟨rfl, rfl, [(0, str s), (2, num 0), (3, num ((s.take (i + 1)).countP tLetter)), (4, num ((s.take i).countP tDigit)), (5, num i), (6, u8 (s.getD i 0))], ⟨rfl, rfl, congrArg (fun x : Int => some (Value.int .i64 x)) e3.symm, rfl, rfl, rfl, trivial⟩, rfl, rfl, rfl⟩
    · rintro l' G' L' ⟨rfl, hG, rfl⟩
      subst hG
      refine WP.seq ?_
      refine WP.region rfl ?_
      refine WPL.p (PS.move rfl) ?_
      refine WPL.p (PS.binInt rfl rfl rfl) ?_
      refine WPL.p (PS.move rfl) ?_
      refine WPL.c (Wants.yes rfl rfl rfl) (fun hb => (PS.move rfl)) ?_
      refine WPL.c (Wants.yes rfl rfl rfl) (fun hb => (PS.binInt (gt hb rfl) rfl rfl)) ?_
      refine WPL.p (PS.pickAnd rfl (fun hc => gt hc rfl) rfl) ?_
      refine WPL.nil ?_
      refine WP.ifs rfl ?_ ?_
      · intro h2
        have e4 : (((s.take (i + 1)).countP tDigit : Nat) : Int) = ((s.take i).countP tDigit : Int) + 1 := by
          rw [e2, if_pos (by rw [← rDigit_eq]; exact h2)]; rfl
        refine WP.region rfl ?_
        refine WPL.p (PS.move rfl) ?_
        refine WPL.p (PS.arith rfl rfl (.inl ⟨rfl, rfl⟩) (wrap_i64 (by omega) (by omega))) ?_
        refine WPL.p (PS.assign rfl) ?_
        refine WPL.nil ?_
        refine WP.region rfl ?_
        refine WPL.p (PS.move rfl) ?_
        refine WPL.p (PS.arith rfl rfl (.inl ⟨rfl, rfl⟩) (wrap_i64 (by omega) (by omega))) ?_
        refine WPL.p (PS.assign rfl) ?_
        refine WPL.nil ?_
        exact ⟨i + 1, by omega, by omega, rfl, rfl, ⟨rfl, rfl, rfl, congrArg (fun x : Int => some (Value.int .i64 x)) e4.symm, rfl, trivial⟩, rfl, rfl⟩
      · intro h2
        have e4 : (((s.take (i + 1)).countP tDigit : Nat) : Int) = ((s.take i).countP tDigit : Int) := by
          rw [e2, if_neg (by rw [← rDigit_eq, Bool.not_eq_true]; exact h2)]; rfl
        refine WP.skip ?_
        refine WP.region rfl ?_
        refine WPL.p (PS.move rfl) ?_
        refine WPL.p (PS.arith rfl rfl (.inl ⟨rfl, rfl⟩) (wrap_i64 (by omega) (by omega))) ?_
        refine WPL.p (PS.assign rfl) ?_
        refine WPL.nil ?_
        exact ⟨i + 1, by omega, by omega, rfl, rfl, ⟨rfl, rfl, rfl, congrArg (fun x : Int => some (Value.int .i64 x)) e4.symm, rfl, trivial⟩, rfl, rfl⟩
  · intro h0
    have q1 : i = s.length := by have := of_decide_eq_false h0; omega
    subst q1
    rw [List.take_length]
    refine WP.exit ?_
    refine WP.seq ?_
    refine WP.seq ?_
    refine WP.region rfl ?_
    refine WPL.p (PS.move rfl) ?_
    refine WPL.p (PS.move rfl) ?_
    refine WPL.p (PS.sLen rfl) ?_
    refine WPL.p (PS.binInt rfl rfl rfl) ?_
    refine WPL.nil ?_
    refine WP.ifs rfl ?_ ?_
    · intro h3
      rw [count_all] at h3
      refine WP.seq ?_
      refine WP.region rfl ?_
      refine WPL.p (PS.assign rfl) ?_
      refine WPL.nil ?_
      refine WP.ret ?_
      refine toQ ?_
      refine RetQ.end (.inr rfl) (sub_all) ⟨_, (res1 (resT rfl) res0), ?_⟩
      exact ⟨by simp only [kindOf, h3]; rfl, rfl⟩
    · intro h3
      rw [count_all] at h3
      refine WP.skip ?_
      refine WP.seq ?_
      refine WP.seq ?_
      refine WP.region rfl ?_
      refine WPL.p (PS.move rfl) ?_
      refine WPL.p (PS.move rfl) ?_
      refine WPL.p (PS.sLen rfl) ?_
      refine WPL.p (PS.binInt rfl rfl rfl) ?_
      refine WPL.nil ?_
      refine WP.ifs rfl ?_ ?_
      · intro h4
        rw [count_all] at h4
        refine WP.seq ?_
        refine WP.region rfl ?_
        refine WPL.p (PS.assign rfl) ?_
        refine WPL.nil ?_
        refine WP.ret ?_
        refine toQ ?_
        refine RetQ.end (.inr rfl) (sub_all) ⟨_, (res1 (resT rfl) res0), ?_⟩
        exact ⟨by simp only [kindOf, h3, h4]; rfl, rfl⟩
      · intro h4
        rw [count_all] at h4
        refine WP.skip ?_
        refine WP.seq ?_
        refine WP.region rfl ?_
        refine WPL.p (PS.assign rfl) ?_
        refine WPL.nil ?_
        refine WP.ret ?_
        refine RetQ.end (.inr rfl) (sub_all) ⟨_, (res1 (resT rfl) res0), ?_⟩
        exact ⟨by simp only [kindOf, h3, h4]; rfl, rfl⟩

theorem c148 (s : List UInt8) (g : Bool) (hs : s.length ≤ 1000000) (H : Heap) : EvP Tryz.prog 136 [str s, .bool g] H (str (s.map (turnTo g))) := by
  refine Ev.enter Tryz.func136 rfl ent136 ?_
  refine WP.seq ?_
  refine WP.region rfl ?_
  refine WPL.p (PS.assign rfl) ?_
  refine WPL.nil ?_
  refine WP.seq ?_
  refine WP.region rfl ?_
  refine WPL.p (PS.assign rfl) ?_
  refine WPL.nil ?_
  refine WP.seq ?_
  refine WP.seq ?_
  refine WP.region rfl ?_
  refine WPL.p (PS.assign rfl) ?_
  refine WPL.nil ?_
  refine WP.block ?_
  refine WP.while (ι := Nat × Value) (fun i => [(0, str s), (1, .bool g), (4, str []), (5, i.2), (6, num i.1)]) (fun _ => H)
    (fun i => slL i.2 (((s.take i.1).map (turnTo g)).map u8) 5 1 ++ []) (fun i => i.1 ≤ s.length ∧ Own i.2 (((s.take i.1).map (turnTo g)).map u8) 1 i.1) (fun i => s.length - i.1) (0, .slice none 0 0) ⟨rfl, rfl, rfl, rfl, rfl, trivial⟩ ⟨by simp, Own.nil⟩ rfl rfl ?_
  rintro ⟨i, v⟩ ⟨hi, ho⟩
  simp only at hi ho ⊢
  refine WP.seq ?_
  refine WP.seq ?_
  refine WP.region rfl ?_
  refine WPL.p (PS.move rfl) ?_
  refine WPL.p (PS.move rfl) ?_
  refine WPL.p (PS.sLen rfl) ?_
  refine WPL.p (PS.binInt rfl rfl rfl) ?_
  refine WPL.nil ?_
  refine WP.ifs rfl ?_ ?_
  · intro h0
    have q1 : i < s.length := by have := of_decide_eq_true h0; omega
    refine WP.skip ?_
    refine WP.seq ?_
    refine WP.block ?_
    refine WP.seq ?_
    refine WP.region rfl ?_
    refine WPL.p (PS.move rfl) ?_
    refine WPL.p (PS.move rfl) ?_
    refine WPL.p (PS.sIndex (m := i) rfl rfl rfl q1) ?_
    refine WPL.p (PS.assign rfl) ?_
    refine WPL.nil ?_
    refine WP.cutP (fun l' G' L' => l' = [(0, str s), (1, .bool g), (4, str []), (5, v), (6, num i), (7, u8 (bif (decide (((s.getD i 0).toNat : Int) > 64) && decide (((s.getD i 0).toNat : Int) < 91)) && !g then s.getD i 0 + 32 else s.getD i 0))] ∧ H = G' ∧ L' = slL v (((s.take i).map (turnTo g)).map u8) 5 1 ++ []) ?_ ?_
    · refine WP.seq ?_
      refine WP.region rfl ?_
      refine WPL.p (PS.move rfl) ?_
      refine WPL.p (PS.binInt rfl rfl rfl) ?_
      refine WPL.p (PS.move rfl) ?_
      refine WPL.c (Wants.yes rfl rfl rfl) (fun hb => (PS.move rfl)) ?_
      refine WPL.c (Wants.yes rfl rfl rfl) (fun hb => (PS.binInt (gt hb rfl) rfl rfl)) ?_
      refine WPL.p (PS.pickAnd rfl (fun hc => gt hc rfl) rfl) ?_
      refine WPL.p (PS.move rfl) ?_
      refine WPL.c (Wants.yes rfl rfl rfl) (fun hb => (PS.move rfl)) ?_
      refine WPL.c (Wants.yes rfl rfl rfl) (fun hb => (PS.not (gt hb rfl))) ?_
      refine WPL.p (PS.pickAnd rfl (fun hc => gt hc rfl) rfl) ?_
      refine WPL.nil ?_
      refine WP.ifs rfl ?_ ?_
      · intro h1
        have e3 : some (Value.int .u8 (IntKind.u8.wrap (((s.getD i 0).toNat : Int) + 32))) = some (u8 (bif (decide (((s.getD i 0).toNat : Int) > 64) && decide (((s.getD i 0).toNat : Int) < 91)) && !g then s.getD i 0 + 32 else s.getD i 0)) := by
          rw [h1]; simp only [Bool.and_eq_true] at h1; rw [u8_add (up_range h1.1)]; simp only [tLower, up_range h1.1]
        refine WP.region rfl ?_
        refine WPL.p (PS.move rfl) ?_
        refine WPL.p (PS.binInt rfl rfl rfl) ?_
        refine WPL.p (PS.assign rfl) ?_
        refine WPL.nil ?_
        exact ⟨rfl, rfl, [(0, str s), (1, .bool g), (4, str []), (5, v), (6, num i), (7, u8 (bif (decide (((s.getD i 0).toNat : Int) > 64) && decide (((s.getD i 0).toNat : Int) < 91)) && !g then s.getD i 0 + 32 else s.getD i 0))], ⟨rfl, rfl, rfl, rfl, rfl, e3, trivial⟩, rfl, rfl, rfl⟩
      · intro h1
        have e3 : some (u8 (s.getD i 0)) = some (u8 (bif (decide (((s.getD i 0).toNat : Int) > 64) && decide (((s.getD i 0).toNat : Int) < 91)) && !g then s.getD i 0 + 32 else s.getD i 0)) := by rw [h1]; rfl
        refine WP.skip ?_
        exact ⟨rfl, rfl, [(0, str s), (1, .bool g), (4, str []), (5, v), (6, num i), (7, u8 (bif (decide (((s.getD i 0).toNat : Int) > 64) && decide (((s.getD i 0).toNat : Int) < 91)) && !g then s.getD i 0 + 32 else s.getD i 0))], ⟨rfl, rfl, rfl, rfl, rfl, e3, trivial⟩, rfl, rfl, rfl⟩
    · rintro l' G' L' ⟨rfl, hG, rfl⟩
      subst hG
      have hts := turn_step g (s.getD i 0)
      generalize (bif (decide (((s.getD i 0).toNat : Int) > 64) && decide (((s.getD i 0).toNat : Int) < 91)) && !g then s.getD i 0 + 32 else s.getD i 0) = c1 at hts ⊢
      refine WP.cutP (fun l' G' L' => l' = [(0, str s), (1, .bool g), (4, str []), (5, v), (6, num i), (7, u8 (turnTo g (s.getD i 0)))] ∧ H = G' ∧ L' = slL v (((s.take i).map (turnTo g)).map u8) 5 1 ++ []) ?_ ?_
      · refine WP.seq ?_
        refine WP.region rfl ?_
        refine WPL.p (PS.move rfl) ?_
        refine WPL.p (PS.binInt rfl rfl rfl) ?_
        refine WPL.p (PS.move rfl) ?_
        refine WPL.c (Wants.yes rfl rfl rfl) (fun hb => (PS.move rfl)) ?_
        refine WPL.c (Wants.yes rfl rfl rfl) (fun hb => (PS.binInt (gt hb rfl) rfl rfl)) ?_
        refine WPL.p (PS.pickAnd rfl (fun hc => gt hc rfl) rfl) ?_
        refine WPL.p (PS.move rfl) ?_
        refine WPL.c (Wants.yes rfl rfl rfl) (fun hb => (PS.move rfl)) ?_
        refine WPL.p (PS.pickAnd rfl (fun hc => gt hc rfl) rfl) ?_
        refine WPL.nil ?_
        refine WP.ifs rfl ?_ ?_
        · intro h2
          have e4 : some (Value.int .u8 (IntKind.u8.wrap ((c1.toNat : Int) - 32))) = some (u8 (turnTo g (s.getD i 0))) := by
            rw [← hts, h2]; simp only [Bool.and_eq_true] at h2; rw [u8_sub (low_range h2.1)]; simp only [tUpper, low_range h2.1]
          refine WP.region rfl ?_
          refine WPL.p (PS.move rfl) ?_
          refine WPL.p (PS.binInt rfl rfl rfl) ?_
          refine WPL.p (PS.assign rfl) ?_
          refine WPL.nil ?_
          exact ⟨rfl, rfl, [(0, str s), (1, .bool g), (4, str []), (5, v), (6, num i), (7, u8 (turnTo g (s.getD i 0)))], ⟨rfl, rfl, rfl, rfl, rfl, e4, trivial⟩, rfl, rfl, rfl⟩
        · intro h2
          have e4 : some (u8 c1) = some (u8 (turnTo g (s.getD i 0))) := by rw [← hts, h2]; rfl
          refine WP.skip ?_
          exact ⟨rfl, rfl, [(0, str s), (1, .bool g), (4, str []), (5, v), (6, num i), (7, u8 (turnTo g (s.getD i 0)))], ⟨rfl, rfl, rfl, rfl, rfl, e4, trivial⟩, rfl, rfl, rfl⟩
      · rintro l' G' L' ⟨rfl, hG, rfl⟩
        subst hG
        refine WP.region rfl ?_
        refine WPL.p (PS.move rfl) ?_
        refine WPL.p (PS.move rfl) ?_
        refine WPL.nw (NS.buildSlice (n := 1) rfl (by decide) (by rfl) rfl) ?_
        intro b42
        refine WPL.app (m := i) (m2 := 1) (news := [u8 (turnTo g (s.getD i 0))]) [(b42, .row 0 [u8 (turnTo g (s.getD i 0))] 5 (1 * 1))] [] rfl rfl ho rfl (.inl ⟨b42, 0, 1, _, rfl, InR.here, rfl⟩) rfl (by decide) (by omega) ?_
        intro v' ho'
        rw [turn_snoc q1] at ho' ⊢
        refine WPL.p (PS.assign rfl) ?_
        refine WPL.nil ?_
        refine WP.views (wf_sublist (List.sublist_append_right [_] _)) ?_
        refine WP.region rfl ?_
        refine WPL.p (PS.move rfl) ?_
        refine WPL.p (PS.arith rfl rfl (.inl ⟨rfl, rfl⟩) (wrap_i64 (by omega) (by omega))) ?_
        refine WPL.p (PS.assign rfl) ?_
        refine WPL.nil ?_
        exact ⟨(i + 1, v'), by simp; omega, ⟨by simp; omega, ho'⟩, rfl, rfl, ⟨rfl, rfl, rfl, rfl, rfl, trivial⟩, rfl, rfl⟩
  · intro h0
    have q1 : i = s.length := by have := of_decide_eq_false h0; omega
    subst q1
    rw [List.take_length] at ho ⊢
    refine WP.exit ?_
    refine WP.seq ?_
    refine WP.region rfl ?_
    refine WPL.p (PS.move rfl) ?_
    refine WPL.p (PS.b2sOwn (A := []) (B := []) rfl ho rfl) ?_
    refine WPL.p (PS.assign rfl) ?_
    refine WPL.nil ?_
    refine WP.ret ?_
    refine RetQ.end (.inr rfl) (sub_all) ⟨_, (res1 (resT rfl) res0), ?_⟩
    exact ⟨rfl, rfl⟩

theorem c146 (s : List UInt8) (hs : s.length ≤ 1000000) (H : Heap) : EvP Tryz.prog 134 [str s] H (.tuple ⟨[str (cutP s), str (cutR s), .bool (cutM s)]⟩) := by
  refine Ev.enter Tryz.func134 rfl ent134 ?_
  refine WP.seq ?_
  refine WP.region rfl ?_
  refine WPL.p (PS.assign rfl) ?_
  refine WPL.p (PS.assign rfl) ?_
  refine WPL.p (PS.assign rfl) ?_
  refine WPL.nil ?_
  refine WP.seq ?_
  refine WP.seq ?_
  refine WP.region rfl ?_
  refine WPL.p (PS.assign rfl) ?_
  refine WPL.nil ?_
  refine WP.block ?_
  refine WP.while (ι := Nat) (fun i => [(0, str s), (2, str []), (3, str []), (4, .bool false), (5, num i)]) (fun _ => H)
    (fun i => []) (fun i => i ≤ s.length ∧ ∀ j, j < i → s.getD j 0 ≠ 45) (fun i => s.length - i) 0 ⟨rfl, rfl, rfl, rfl, rfl, trivial⟩ ⟨by omega, fun j h => by omega⟩ rfl rfl ?_
  rintro i ⟨hi, hn⟩
  refine WP.seq ?_
  refine WP.seq ?_
  refine WP.region rfl ?_
  refine WPL.p (PS.move rfl) ?_
  refine WPL.p (PS.move rfl) ?_
  refine WPL.p (PS.sLen rfl) ?_
  refine WPL.p (PS.binInt rfl rfl rfl) ?_
  refine WPL.nil ?_
  refine WP.ifs rfl ?_ ?_
  · intro h0
    have q1 : i < s.length := by have := of_decide_eq_true h0; omega
    refine WP.skip ?_
    refine WP.seq ?_
    refine WP.block ?_
    refine WP.seq ?_
    refine WP.region rfl ?_
    refine WPL.p (PS.move rfl) ?_
    refine WPL.p (PS.move rfl) ?_
    refine WPL.p (PS.sIndex (m := i) rfl rfl rfl q1) ?_
    refine WPL.p (PS.binInt rfl rfl rfl) ?_
    refine WPL.nil ?_
    refine WP.ifs rfl ?_ ?_
    · intro h1
      have q2 : s.getD i 0 = 45 := UInt8.toNat_inj.1 (by have h3 := eq_of_beq h1; have : (45 : UInt8).toNat = 45 := rfl; omega)
      have hx : Lib.indexByte s 45 = i := index_first q1 hn q2
      refine WP.seq ?_
      refine WP.draw 8 mixed (by kernel_rfl) rfl ?_
      refine Scr.ps (i := 0) rfl rfl rfl rfl (PS.move rfl) ?_
      refine Scr.ps (i := 1) rfl rfl rfl rfl (PS.move rfl) ?_
      refine Scr.ps (i := 2) rfl rfl rfl rfl (PS.sSlice (i := 0) (j := i) rfl Bnd.none (Bnd.some rfl rfl) (by omega) (by omega)) ?_
      refine Scr.ps (i := 3) rfl rfl rfl rfl (PS.move rfl) ?_
      refine Scr.ps (i := 4) rfl rfl rfl rfl (PS.move rfl) ?_
      refine Scr.ps (i := 5) rfl rfl rfl rfl (PS.arith (c := ((i + 1 : Nat) : Int)) rfl rfl (.inl ⟨rfl, rfl⟩) (wrap_i64 (by omega) (by omega))) ?_
      refine Scr.ps (i := 6) rfl rfl rfl rfl (PS.sSlice (i := i + 1) (j := s.length) rfl (Bnd.some rfl rfl) Bnd.none (by omega) (by omega)) ?_
      refine Scr.ps (i := 7) rfl rfl rfl rfl (PS.assign rfl) ?_
      refine Scr.end ?_
      refine WPL.p (PS.assign rfl) ?_
      refine WPL.p (PS.assign rfl) ?_
      refine WPL.nil ?_
      refine WP.ret ?_
      refine toB (toQ (toQ (toB (toQ ?_))))
      refine RetQ.end (.inr rfl) (sub_all) ⟨_, (res1 (resT rfl) (res1 (resT rfl) (res1 (resT rfl) res0))), ?_⟩
      have hd : decide ((i : Int) < 0) = false := decide_eq_false (by omega)
      exact ⟨by simp [tupled, cutP, cutR, cutM, hx, hd, List.take_length], rfl⟩
    · intro h1
      have q2 : s.getD i 0 ≠ 45 := fun e => by rw [e] at h1; cases h1
      refine WP.skip ?_
      refine WP.region rfl ?_
      refine WPL.p (PS.move rfl) ?_
      refine WPL.p (PS.arith rfl rfl (.inl ⟨rfl, rfl⟩) (wrap_i64 (by omega) (by omega))) ?_
      refine WPL.p (PS.assign rfl) ?_
      refine WPL.nil ?_
      exact ⟨i + 1, by omega, ⟨by omega, fun j hj => (Nat.lt_succ_iff_lt_or_eq.1 hj).elim (hn j) (fun e => by subst e; exact q2)⟩, rfl, rfl, ⟨rfl, rfl, rfl, rfl, rfl, trivial⟩, rfl, rfl⟩
  · intro h0
    have q1 : i = s.length := by have := of_decide_eq_false h0; omega
    have hx : Lib.indexByte s 45 = -1 := index_none (fun j hj => hn j (by omega))
    refine WP.exit ?_
    refine WP.seq ?_
    refine WP.region rfl ?_
    refine WPL.p (PS.move rfl) ?_
    refine WPL.p (PS.assign rfl) ?_
    refine WPL.p (PS.assign rfl) ?_
    refine WPL.p (PS.assign rfl) ?_
    refine WPL.nil ?_
    refine WP.ret ?_
    refine RetQ.end (.inr rfl) (sub_all) ⟨_, (res1 (resT rfl) (res1 (resT rfl) (res1 (resT rfl) res0))), ?_⟩
    exact ⟨by simp [tupled, cutP, cutR, cutM, hx], rfl⟩

theorem c217 (b off len cap : Nat) (V : View) (s : List UInt8) (H : Heap) (hb : H b = some V) (hs : V.take off len = some (s.map u8)) (hlen : s.length = len) (hl : s.length ≤ 1000000) (hcap : len ≤ cap) : EvP Tryz.prog 110 [.slice (some ⟨b, off, none⟩) len cap] H (str (trimR 0 s)) := by
  refine Ev.enter Tryz.func110 rfl ent110 ?_
  refine WP.seq ?_
  refine WP.region rfl ?_
  refine WPL.p (PS.assign rfl) ?_
  refine WPL.nil ?_
  refine WP.seq ?_
  refine WP.region rfl ?_
  refine WPL.p (PS.move rfl) ?_
  refine WPL.p (PS.lenSlice rfl) ?_
  refine WPL.p (PS.assign rfl) ?_
  refine WPL.nil ?_
  refine WP.seq ?_
  refine WP.block ?_
  refine WP.while (ι := Nat) (fun k => [(0, .slice (some ⟨b, off, none⟩) len cap), (2, str []), (3, num k)]) (fun _ => H)
    (fun _ => []) (fun k => k ≤ s.length ∧ trimR 0 (s.take k) = trimR 0 s) (fun k => k) len ⟨rfl, rfl, rfl, trivial⟩ ⟨by omega, by rw [List.take_of_length_le (by omega)]⟩ rfl rfl ?_
  rintro k ⟨hi, hn⟩
  have hcell := (View.take_spec hs).2
  have q0 : (decide ((k : Int) > 0)) = true → 0 < k := fun h => by have := of_decide_eq_true h; omega
  refine WP.seq ?_
  refine WP.seq ?_
  refine WP.region rfl ?_
  refine WPL.p (PS.move rfl) ?_
  refine WPL.p (PS.binInt rfl rfl rfl) ?_
  refine WPL.p (PS.move rfl) ?_
  refine WPL.c (Wants.yes rfl rfl rfl) (fun hb => (PS.move rfl)) ?_
  refine WPL.c (Wants.yes rfl rfl rfl) (fun hb => (PS.move rfl)) ?_
  refine WPL.c (Wants.yes rfl rfl rfl) (fun hb' => (PS.arith (c := ((k - 1 : Nat) : Int)) (gt hb' rfl) rfl (.inr (.inl ⟨rfl, by have := q0 hb'; omega⟩)) (wrap_i64 (by omega) (by omega)))) ?_
  refine WPL.c (Wants.yes rfl rfl rfl) (fun hb' => (PS.indexAddr (gt hb' rfl) (gt hb' rfl) (by omega) (by have := q0 hb'; omega))) ?_
  refine WPL.c (Wants.yes rfl rfl rfl) (fun hb' => (PS.load (v := u8 (s.getD (k - 1) 0)) (gt hb' rfl) (InR.base hb) (by have h5 := q0 hb'; have := hcell (k - 1) (u8 (s.getD (k - 1) 0)) (by simp [List.getD_eq_getElem?_getD, show k - 1 < s.length by omega]); simpa using this))) ?_
  refine WPL.c (Wants.yes rfl rfl rfl) (fun hb => (PS.binInt (gt hb rfl) rfl rfl)) ?_
  refine WPL.p (PS.pickAnd rfl (fun hc => gt hc rfl) rfl) ?_
  refine WPL.nil ?_
  refine WP.ifs rfl ?_ ?_
  · intro h0
    have q1 : 0 < k ∧ s.getD (k - 1) 0 = 0 := by
      simp only [Bool.and_eq_true, decide_eq_true_eq, beq_iff_eq] at h0
      exact ⟨by omega, UInt8.toNat_inj.1 (by have : (0 : UInt8).toNat = 0 := rfl; omega)⟩
    refine WP.skip ?_
    refine WP.block ?_
    refine WP.region rfl ?_
    refine WPL.p (PS.move rfl) ?_
    refine WPL.p (PS.arith (c := ((k - 1 : Nat) : Int)) rfl rfl (.inr (.inl ⟨rfl, by omega⟩)) (wrap_i64 (by omega) (by omega))) ?_
    refine WPL.p (PS.assign rfl) ?_
    refine WPL.nil ?_
    exact ⟨k - 1, by omega, ⟨by omega, by rw [trimR_take q1.1 hi q1.2]; exact hn⟩, rfl, rfl, ⟨rfl, rfl, rfl, trivial⟩, rfl, rfl⟩
  · intro h0
    have q1 : trimR 0 (s.take k) = s.take k := by
      refine trimR_at hi ?_
      simp only [Bool.and_eq_false_iff, decide_eq_false_iff_not] at h0
      exact h0.imp (fun h => by omega) (fun h e => by rw [e] at h; cases h)
    refine WP.exit ?_
    refine WP.seq ?_
    refine WP.region rfl ?_
    refine WPL.p (PS.move rfl) ?_
    refine WPL.p (PS.move rfl) ?_
    refine WPL.p (PS.slSlice (b := b) (off := off) (i := 0) (j := k) (n := 1) rfl Bnd.none (Bnd.some rfl rfl) Bnd.none (by omega) (by omega) (by omega) (by simp)) ?_
    have hsub : sub b off 0 cap 1 = some ⟨b, off, none⟩ := by unfold sub; split <;> simp
    rw [hsub]
    refine WPL.p (PS.b2s (s := s.take k) rfl (InR.base hb) (take_less hs (by omega))) ?_
    refine WPL.p (PS.assign rfl) ?_
    refine WPL.nil ?_
    refine WP.ret ?_
    refine RetQ.end (.inr rfl) (sub_all) ⟨_, (res1 (resT rfl) res0), ?_⟩
    exact ⟨by rw [← hn, q1]; rfl, rfl⟩

theorem c218 (a b c : List UInt8) (ha : a.length ≤ 1000000) (hb : b.length ≤ 1000000) (hc : c.length ≤ 1000000) (H : Heap) : EvP Tryz.prog 112 [tv a b c] H (str (textOf a b c)) := by
  refine Ev.enter Tryz.func112 rfl ent112 ?_
  refine WP.seq ?_
  refine WP.region rfl ?_
  refine WPL.nw (NS.boxA rfl) ?_
  intro b1
  refine WPL.p (PS.assign rfl) ?_
  refine WPL.nil ?_
  refine WP.seq ?_
  refine WP.seq ?_
  refine WP.region rfl ?_
  refine WPL.p (PS.fieldAddr rfl) ?_
  refine WPL.p (PS.load rfl InR.here rfl) ?_
  refine WPL.p (PS.sEq rfl rfl) ?_
  refine WPL.nil ?_
  refine WP.ifs rfl ?_ ?_
  · intro h0
    refine WP.seq ?_
    refine WP.region rfl ?_
    refine WPL.p (PS.assign rfl) ?_
    refine WPL.nil ?_
    refine WP.ret ?_
    refine toQ ?_
    refine RetQ.end (.inr rfl) (sub_all) ⟨_, (res1 (resT rfl) res0), ?_⟩
    exact ⟨by simp only [textOf, h0]; rfl, rfl⟩
  · intro h0
    refine WP.skip ?_
    refine WP.seq ?_
    refine WP.region rfl ?_
    refine WPL.p (PS.fieldAddr rfl) ?_
    refine WPL.p (PS.load rfl InR.here rfl) ?_
    refine WPL.p (PS.assign rfl) ?_
    refine WPL.nil ?_
    refine WP.cutP (fun l' G' L' => l' = [(1, ptr b1 0), (3, str (a ++ ext b))] ∧ H = G' ∧ L' = [(b1, .cells [str a, str b, str c] 163)]) ?_ ?_
    · refine WP.seq ?_
      refine WP.region rfl ?_
      refine WPL.p (PS.fieldAddr rfl) ?_
      refine WPL.p (PS.load rfl InR.here rfl) ?_
      refine WPL.p (PS.sNe rfl rfl) ?_
      refine WPL.nil ?_
      refine WP.ifs rfl ?_ ?_
      · intro h1
        have hx := ext_yes h1
        refine WP.region rfl ?_
        refine WPL.p (PS.move rfl) ?_
        refine WPL.p (PS.sCat rfl rfl (by simp <;> omega)) ?_
        refine WPL.p (PS.fieldAddr rfl) ?_
        refine WPL.p (PS.load rfl InR.here rfl) ?_
        refine WPL.p (PS.sCat rfl rfl (by simp <;> omega)) ?_
        refine WPL.p (PS.assign rfl) ?_
        refine WPL.nil ?_
        exact ⟨rfl, rfl, [(1, ptr b1 0), (3, str (a ++ ext b))], ⟨rfl, congrArg (fun x => some (str x)) (by rw [hx]; simp), trivial⟩, rfl, rfl, rfl⟩
      · intro h1
        have hx := ext_no h1
        refine WP.skip ?_
        exact ⟨rfl, rfl, [(1, ptr b1 0), (3, str (a ++ ext b))], ⟨rfl, congrArg (fun x => some (str x)) (by rw [hx]; simp), trivial⟩, rfl, rfl, rfl⟩
    · rintro l' G' L' ⟨rfl, hG, rfl⟩
      subst hG
      refine WP.cutP (fun l' G' L' => l' = [(1, ptr b1 0), (3, str ((a ++ ext b) ++ ext c))] ∧ H = G' ∧ L' = [(b1, .cells [str a, str b, str c] 163)]) ?_ ?_
      · refine WP.seq ?_
        refine WP.region rfl ?_
        refine WPL.p (PS.fieldAddr rfl) ?_
        refine WPL.p (PS.load rfl InR.here rfl) ?_
        refine WPL.p (PS.sNe rfl rfl) ?_
        refine WPL.nil ?_
        refine WP.ifs rfl ?_ ?_
        · intro h2
          have hx := ext_yes h2
          have he := ext_le b
          refine WP.region rfl ?_
          refine WPL.p (PS.move rfl) ?_
          refine WPL.p (PS.sCat rfl rfl (by simp <;> omega)) ?_
          refine WPL.p (PS.fieldAddr rfl) ?_
          refine WPL.p (PS.load rfl InR.here rfl) ?_
          refine WPL.p (PS.sCat rfl rfl (by simp <;> omega)) ?_
          refine WPL.p (PS.assign rfl) ?_
          refine WPL.nil ?_
          exact ⟨rfl, rfl, [(1, ptr b1 0), (3, str ((a ++ ext b) ++ ext c))], ⟨rfl, congrArg (fun x => some (str x)) (by rw [hx]; simp), trivial⟩, rfl, rfl, rfl⟩
        · intro h2
          have hx := ext_no h2
          refine WP.skip ?_
          exact ⟨rfl, rfl, [(1, ptr b1 0), (3, str ((a ++ ext b) ++ ext c))], ⟨rfl, congrArg (fun x => some (str x)) (by rw [hx]; simp), trivial⟩, rfl, rfl, rfl⟩
      · rintro l' G' L' ⟨rfl, hG, rfl⟩
        subst hG
        refine WP.seq ?_
        refine WP.region rfl ?_
        refine WPL.p (PS.move rfl) ?_
        refine WPL.p (PS.assign rfl) ?_
        refine WPL.nil ?_
        refine WP.ret ?_
        refine RetQ.end (.inr rfl) (sub_all) ⟨_, (res1 (resT rfl) res0), ?_⟩
        exact ⟨by simp only [textOf, h0]; rfl, rfl⟩

end Go.Proofs.YtfoakjdnopljmaaGreatDoor

set_option linter.unusedVariables false
set_option linter.unusedSimpArgs false
set_option maxRecDepth 100000
namespace Go.Proofs.YtfoakjdnopljmaaGreatDoor
open Go Go.Proofs

set_option maxHeartbeats 1000000 in
theorem c65 (s : List UInt8) (hs : s.length ≤ 1000000) (H : Heap) : EvP Tryz.prog 111 [str s] H (.tuple ⟨[optT (parseRef s), .bool (parseRef s).isSome]⟩) := by
  refine Ev.enter Tryz.func111 rfl ent111 ?_
  refine WP.seq ?_
  refine WP.region rfl ?_
  refine WPL.nw NS.alloc ?_
  intro b2
  refine WPL.p (PS.assign rfl) ?_
  refine WPL.nil ?_
  refine WP.seq ?_
  refine WP.seq ?_
  refine WP.region rfl ?_
  refine WPL.p (PS.move rfl) ?_
  refine WPL.p (PS.sEq rfl rfl) ?_
  refine WPL.nil ?_
  refine WP.ifs rfl ?_ ?_
  · intro h0
    have hv : parseRef s = some ([], [], []) := by simp only [parseRef, rootS, h0]; rfl
    refine WP.seq ?_
    refine WP.region rfl ?_
    refine WPL.p (PS.build rfl rfl) ?_
    refine WPL.s rfl rfl UpdR.here rfl rfl rfl ?_
    refine WPL.p (PS.assign rfl) ?_
    refine WPL.nil ?_
    refine WP.ret ?_
    refine toQ ?_
    refine RetQ.end (.inr rfl) (sub_all) ⟨_, (res1 (resA rfl InR.here rfl) (res1 (resT rfl) res0)), ?_⟩
    exact ⟨by rw [hv]; rfl, rfl⟩
  · intro h0
    refine WP.skip ?_
    refine WP.seq ?_
    refine WP.region rfl ?_
    refine WPL.p (PS.move rfl) ?_
    refine WPL.cl rfl rfl (fun wf => c146 _ (by omega) _) ?_
    refine WPL.p (PS.move rfl) ?_
    refine WPL.p (PS.extract rfl rfl) ?_
    refine WPL.p (PS.extract rfl rfl) ?_
    refine WPL.p (PS.extract rfl rfl) ?_
    refine WPL.p (PS.assign rfl) ?_
    refine WPL.p (PS.assign rfl) ?_
    refine WPL.p (PS.assign rfl) ?_
    refine WPL.nil ?_
    refine WP.seq ?_
    refine WP.seq ?_
    have lp := cutP_le s
    have lr := cutR_le s
    refine WP.region rfl ?_
    refine WPL.p (PS.move rfl) ?_
    refine WPL.cl rfl rfl (fun wf => c147 _ (by omega) _) ?_
    refine WPL.p (PS.binInt rfl rfl rfl) ?_
    refine WPL.p (PS.move rfl) ?_
    refine WPL.c (Wants.no rfl rfl rfl) (fun hb => (PS.move rfl)) ?_
    refine WPL.c (Wants.no rfl rfl rfl) (fun hb => (PS.sLen (gt hb rfl))) ?_
    refine WPL.c (Wants.no rfl rfl rfl) (fun hb => (PS.binInt (gt hb rfl) rfl rfl)) ?_
    refine WPL.p (PS.pickOr rfl rfl (fun hc => gt (by rw [hc]; rfl) rfl)) ?_
    refine WPL.p (PS.move rfl) ?_
    refine WPL.c (Wants.no rfl rfl rfl) (fun hb => (PS.move rfl)) ?_
    refine WPL.c (Wants.no rfl rfl rfl) (fun hb => (PS.sLen (gt hb rfl))) ?_
    refine WPL.c (Wants.no rfl rfl rfl) (fun hb => (PS.binInt (gt hb rfl) rfl rfl)) ?_
    refine WPL.p (PS.pickOr rfl rfl (fun hc => gt (by rw [hc]; rfl) rfl)) ?_
    refine WPL.nil ?_
    refine WP.ifs rfl ?_ ?_
    · intro h1
      have hv : parseRef s = none := by simp only [parseRef, rootS, h0, h1]; rfl
      refine WP.seq ?_
      refine WP.region rfl ?_
      refine WPL.p (PS.build rfl rfl) ?_
      refine WPL.s rfl rfl UpdR.here rfl rfl rfl ?_
      refine WPL.p (PS.assign rfl) ?_
      refine WPL.nil ?_
      refine WP.ret ?_
      refine toQ ?_
      refine RetQ.end (.inr rfl) (sub_all) ⟨_, (res1 (resA rfl InR.here rfl) (res1 (resT rfl) res0)), ?_⟩
      exact ⟨by rw [hv]; rfl, rfl⟩
    · intro h1
      have hp3 : (cutP s).length ≤ 3 := by
        simp only [Bool.or_eq_false_iff, decide_eq_false_iff_not] at h1; omega
      have hpr : parseRef s = (rloop [] [] (moreParts (cutM s) (cutR s))).map fun x => ((cutP s).map (turnTo false), x.1, x.2) := by simp only [parseRef, rootS, h0, h1]; rfl
      refine WP.skip ?_
      refine WP.seq ?_
      refine WP.region rfl ?_
      refine WPL.p (PS.move rfl) ?_
      refine WPL.cl rfl rfl (fun wf => c148 _ false (by omega) _) ?_
      refine WPL.p (PS.build (cs := [str ((cutP s).map (turnTo false)), str [], str []]) rfl rfl) ?_
      refine WPL.nw NS.alloc ?_
      intro b7
      refine WPL.s rfl rfl UpdR.here rfl rfl rfl ?_
      refine WPL.nil ?_
      refine WP.seq ?_
      refine WP.block ?_
      generalize (cutP s).map (turnTo false) = lg at hpr ⊢
      generalize hr0 : rloop [] [] (moreParts (cutM s) (cutR s)) = res at hpr
      refine WP.while (ι := (Bool × List UInt8) × List UInt8 × List UInt8) (fun i => [(2, ptr b2 0), (3, .bool false), (5, str i.1.2), (6, .bool i.1.1), (7, ptr b7 0)]) (fun _ => H)
        (fun i => [(b7, .cells [str lg, str i.2.1, str i.2.2] 163), (b2, .cells [str [], str [], str []] 163)]) (fun i => rloop i.2.1 i.2.2 (moreParts i.1.1 i.1.2) = res ∧ i.1.2.length ≤ 1000000) (fun i => bif i.1.1 then i.1.2.length + 1 else 0) ((cutM s, cutR s), ([], [])) ⟨rfl, rfl, rfl, rfl, rfl, trivial⟩ ⟨hr0, by show (cutR s).length ≤ 1000000; omega⟩ rfl rfl ?_
      rintro ⟨⟨mo, rs⟩, ⟨sc, rg⟩⟩ ⟨hR, hl⟩
      simp only at hR hl ⊢
      have lp' := cutP_le rs
      have lr' := cutR_le rs
      refine WP.seq ?_
      refine WP.seq ?_
      refine WP.region rfl ?_
      refine WPL.p (PS.move rfl) ?_
      refine WPL.nil ?_
      refine WP.ifs rfl ?_ ?_
      · intro h2
        subst h2
        have hsp : moreParts true rs = cutP rs :: moreParts (cutM rs) (cutR rs) := split_cut rs
        have hms : (bif cutM rs then (cutR rs).length + 1 else 0) < (bif true then rs.length + 1 else 0) := by
          cases hm : cutM rs with
          | true => have := cutR_lt hm; simp; omega
          | false => simp
        refine WP.skip ?_
        refine WP.block ?_
        refine WP.seq ?_
        refine WP.region rfl ?_
        refine WPL.p (PS.move rfl) ?_
        refine WPL.cl rfl rfl (fun wf => c146 _ (by omega) _) ?_
        refine WPL.p (PS.move rfl) ?_
        refine WPL.p (PS.extract rfl rfl) ?_
        refine WPL.p (PS.extract rfl rfl) ?_
        refine WPL.p (PS.extract rfl rfl) ?_
        refine WPL.p (PS.assign rfl) ?_
        refine WPL.p (PS.assign rfl) ?_
        refine WPL.p (PS.assign rfl) ?_
        refine WPL.nil ?_
        refine WP.seq ?_
        refine WP.region rfl ?_
        refine WPL.p (PS.move rfl) ?_
        refine WPL.cl rfl rfl (fun wf => c147 _ (by omega) _) ?_
        refine WPL.p (PS.binInt rfl rfl rfl) ?_
        refine WPL.p (PS.move rfl) ?_
        refine WPL.c (Wants.yes rfl rfl rfl) (fun hb => (PS.move rfl)) ?_
        refine WPL.c (Wants.yes rfl rfl rfl) (fun hb => (PS.sLen (gt hb rfl))) ?_
        refine WPL.c (Wants.yes rfl rfl rfl) (fun hb => (PS.binInt (gt hb rfl) rfl rfl)) ?_
        refine WPL.p (PS.pickAnd rfl (fun hc => gt hc rfl) rfl) ?_
        refine WPL.p (PS.assign rfl) ?_
        refine WPL.nil ?_
        refine WP.seq ?_
        refine WP.region rfl ?_
        refine WPL.p (PS.move rfl) ?_
        refine WPL.cl rfl rfl (fun wf => c147 _ (by omega) _) ?_
        refine WPL.p (PS.binInt rfl rfl rfl) ?_
        refine WPL.p (PS.move rfl) ?_
        refine WPL.c (Wants.yes rfl rfl rfl) (fun hb => (PS.move rfl)) ?_
        refine WPL.c (Wants.yes rfl rfl rfl) (fun hb => (PS.sLen (gt hb rfl))) ?_
        refine WPL.c (Wants.yes rfl rfl rfl) (fun hb => (PS.binInt (gt hb rfl) rfl rfl)) ?_
        refine WPL.p (PS.pickAnd rfl (fun hc => gt hc rfl) rfl) ?_
        refine WPL.p (PS.move rfl) ?_
        refine WPL.c (Wants.no rfl rfl rfl) (fun hb => (PS.move rfl)) ?_
        refine WPL.clc (Wants.no rfl rfl rfl) (fun hb => rfl) (fun hb => (evsC (gt hb rfl) rfl)) (fun hb wf => c147 _ (by omega) _) ?_
        refine WPL.c (Wants.no rfl rfl rfl) (fun hb => (PS.binInt (gt hb rfl) rfl rfl)) ?_
        refine WPL.c (Wants.no rfl rfl rfl) (fun hb => (PS.move (gt hb rfl))) ?_
        refine WPL.c (Wants.yesG rfl rfl rfl) (fun hb => (PS.move rfl)) ?_
        refine WPL.c (Wants.yesG rfl rfl rfl) (fun hb => (PS.sLen (gt hb rfl))) ?_
        refine WPL.c (Wants.yesG rfl rfl rfl) (fun hb => (PS.binInt (gt hb rfl) rfl rfl)) ?_
        refine WPL.c (Wants.no rfl rfl rfl) (fun hb => (PS.pickAnd (gt hb rfl) (fun hc => gt (andI hb hc) rfl) rfl)) ?_
        refine WPL.p (PS.pickOr rfl rfl (fun hc => gt (by rw [hc]; rfl) rfl)) ?_
        refine WPL.p (PS.assign rfl) ?_
        refine WPL.nil ?_
        refine WP.seq ?_
        refine WP.region rfl ?_
        refine WPL.p (PS.move rfl) ?_
        refine WPL.p (PS.move rfl) ?_
        refine WPL.c (Wants.yes rfl rfl rfl) (fun hb => (PS.fieldAddr rfl)) ?_
        refine WPL.c (Wants.yes rfl rfl rfl) (fun hb => (PS.load (gt hb rfl) InR.here rfl)) ?_
        refine WPL.c (Wants.yes rfl rfl rfl) (fun hb => (PS.sEq (gt hb rfl) rfl)) ?_
        refine WPL.p (PS.pickAnd rfl (fun hc => gt hc rfl) rfl) ?_
        refine WPL.p (PS.move rfl) ?_
        refine WPL.c (Wants.yes rfl rfl rfl) (fun hb => (PS.fieldAddr rfl)) ?_
        refine WPL.c (Wants.yes rfl rfl rfl) (fun hb => (PS.load (gt hb rfl) InR.here rfl)) ?_
        refine WPL.c (Wants.yes rfl rfl rfl) (fun hb => (PS.sEq (gt hb rfl) rfl)) ?_
        refine WPL.p (PS.pickAnd rfl (fun hc => gt hc rfl) rfl) ?_
        refine WPL.nil ?_
        refine WP.ifs rfl ?_ ?_
        · intro h3
          have h3 : ((scrP (cutP rs) && (sc == [])) && (rg == [])) = true := h3
          have hq : (cutP rs).length = 4 := by
            simp only [scrP, Bool.and_eq_true, beq_iff_eq] at h3; omega
          refine WP.draw 7 mixed (by kernel_rfl) rfl ?_
          refine Scr.ps (i := 0) rfl rfl rfl rfl (PS.move rfl) ?_
          refine Scr.ps (i := 1) rfl rfl rfl rfl (PS.sSlice (i := 0) (j := 1) rfl Bnd.none (Bnd.some rfl rfl) (by omega) (by omega)) ?_
          refine Scr.ps (i := 3) rfl rfl rfl rfl (PS.move rfl) ?_
          refine Scr.ps (i := 4) rfl rfl rfl rfl (PS.sSlice (s := cutP rs) (i := 1) (j := (cutP rs).length) rfl (Bnd.some rfl rfl) Bnd.none (by omega) (by omega)) ?_
          refine Scr.cl (i := 2) rfl rfl rfl rfl rfl (fun wf => c148 ((cutP rs).take 1) true (by simp <;> omega) _) late0 ?_
          refine Scr.cl (i := 5) rfl rfl rfl rfl rfl (fun wf => by rw [List.take_length]; exact c148 ((cutP rs).drop 1) false (by simp <;> omega) _) late0 ?_
          refine Scr.ps (i := 6) rfl rfl rfl rfl (PS.sCat rfl rfl (by simp <;> omega)) ?_
          refine Scr.end ?_
          refine WPL.p (PS.fieldAddr rfl) ?_
          refine WPL.s rfl rfl UpdR.here rfl rfl rfl ?_
          refine WPL.nil ?_
          exact ⟨((cutM rs, cutR rs), (scrT (cutP rs), rg)), hms, ⟨by rw [← hR, hsp]; simp only [rloop, h3]; rfl, by show (cutR rs).length ≤ 1000000; omega⟩, rfl, rfl, ⟨rfl, rfl, rfl, rfl, rfl, trivial⟩, rfl, rfl⟩
        · intro h3
          have h3 : ((scrP (cutP rs) && (sc == [])) && (rg == [])) = false := h3
          refine WP.seq ?_
          refine WP.region rfl ?_
          refine WPL.p (PS.move rfl) ?_
          refine WPL.p (PS.move rfl) ?_
          refine WPL.c (Wants.yes rfl rfl rfl) (fun hb => (PS.fieldAddr rfl)) ?_
          refine WPL.c (Wants.yes rfl rfl rfl) (fun hb => (PS.load (gt hb rfl) InR.here rfl)) ?_
          refine WPL.c (Wants.yes rfl rfl rfl) (fun hb => (PS.sEq (gt hb rfl) rfl)) ?_
          refine WPL.p (PS.pickAnd rfl (fun hc => gt hc rfl) rfl) ?_
          refine WPL.nil ?_
          refine WP.ifs rfl ?_ ?_
          · intro h4
            have h4 : (regP (cutP rs) && (rg == [])) = true := h4
            refine WP.region rfl ?_
            refine WPL.p (PS.move rfl) ?_
            refine WPL.cl rfl rfl (fun wf => c148 (cutP rs) true (by omega) _) ?_
            refine WPL.p (PS.fieldAddr rfl) ?_
            refine WPL.s rfl rfl UpdR.here rfl rfl rfl ?_
            refine WPL.nil ?_
            exact ⟨((cutM rs, cutR rs), (sc, (cutP rs).map (turnTo true))), hms, ⟨by rw [← hR, hsp]; simp only [rloop, h3, h4]; rfl, by show (cutR rs).length ≤ 1000000; omega⟩, rfl, rfl, ⟨rfl, rfl, rfl, rfl, rfl, trivial⟩, rfl, rfl⟩
          · intro h4
            have h4 : (regP (cutP rs) && (rg == [])) = false := h4
            have hres : res = none := by rw [← hR, hsp]; simp only [rloop, h3, h4]; rfl
            have hv : parseRef s = none := by rw [hpr, hres]; rfl
            refine WP.seq ?_
            refine WP.region rfl ?_
            refine WPL.p (PS.build rfl rfl) ?_
            refine WPL.s rfl rfl (UpdR.there UpdR.here) rfl rfl rfl ?_
            refine WPL.p (PS.assign rfl) ?_
            refine WPL.nil ?_
            refine WP.ret ?_
            refine toB (toQ (toB (toQ ?_)))
            refine RetQ.end (.inr rfl) (sub_all) ⟨_, (res1 (resA rfl (InR.there InR.here) rfl) (res1 (resT rfl) res0)), ?_⟩
            exact ⟨by rw [hv]; rfl, rfl⟩
      · intro h2
        subst h2
        have hres : res = some (sc, rg) := by rw [← hR]; rfl
        have hv : parseRef s = some (lg, sc, rg) := by rw [hpr, hres]; rfl
        refine WP.exit ?_
        refine WP.seq ?_
        refine WP.region rfl ?_
        refine WPL.p (PS.loadAgg rfl InR.here rfl) ?_
        refine WPL.s rfl rfl (UpdR.there UpdR.here) rfl rfl rfl ?_
        refine WPL.p (PS.assign rfl) ?_
        refine WPL.nil ?_
        refine WP.ret ?_
        refine RetQ.end (.inr rfl) (sub_all) ⟨_, (res1 (resA rfl (InR.there InR.here) rfl) (res1 (resT rfl) res0)), ?_⟩
        exact ⟨by rw [hv]; rfl, rfl⟩

end Go.Proofs.YtfoakjdnopljmaaGreatDoor

set_option linter.unusedVariables false
set_option linter.unusedSimpArgs false
set_option maxRecDepth 100000
namespace Go.Proofs.YtfoakjdnopljmaaGreatDoor
open Go Go.Proofs

theorem c69 (s : List UInt8) (hs : s.length ≤ 9223372036854775807) (H : Heap) : EvP Tryz.prog 109 [str s] H (nm (pad 12 (s.take 12))) := by
  refine Ev.enter Tryz.func109 rfl ent109 ?_
  refine WP.seq ?_
  refine WP.region rfl ?_
  refine WPL.nw NS.alloc ?_
  intro b2
  refine WPL.nil ?_
  refine WP.seq ?_
  refine WP.region rfl ?_
  refine WPL.nw NS.alloc ?_
  intro b3
  refine WPL.nil ?_
  refine WP.seq ?_
  refine WP.seq ?_
  refine WP.region rfl ?_
  refine WPL.p (PS.assign rfl) ?_
  refine WPL.nil ?_
  refine WP.block ?_
  refine WP.while (ι := Nat) (fun i => [(0, str s), (2, ptr b2 0), (3, ptr b3 0), (4, num i)]) (fun _ => H)
    (fun i => [(b3, .cells ((pad 12 (s.take i)).map u8) 23), (b2, .cells ((List.replicate 12 (0 : UInt8)).map u8) 23)])
    (fun i => i ≤ s.length ∧ i ≤ 12) (fun i => 12 - i) 0 ⟨rfl, rfl, rfl, rfl, trivial⟩ ⟨by omega, by omega⟩ rfl rfl ?_
  rintro i ⟨hi, ha⟩
  refine WP.seq ?_
  refine WP.seq ?_
  refine WP.region rfl ?_
  refine WPL.p (PS.move rfl) ?_
  refine WPL.p (PS.move rfl) ?_
  refine WPL.p (PS.sLen rfl) ?_
  refine WPL.p (PS.binInt rfl rfl rfl) ?_
  refine WPL.p (PS.move rfl) ?_
  refine WPL.c (Wants.yes rfl rfl rfl) (fun hb => (PS.move rfl)) ?_
  refine WPL.c (Wants.yes rfl rfl rfl) (fun hb => (PS.binInt (gt hb rfl) rfl rfl)) ?_
  refine WPL.p (PS.pickAnd rfl (fun hc => gt hc rfl) rfl) ?_
  refine WPL.nil ?_
  refine WP.ifs rfl ?_ ?_
  · intro h0
    have q1 : i < s.length ∧ i < 12 := by simp only [Bool.and_eq_true, decide_eq_true_eq] at h0; omega
    refine WP.skip ?_
    refine WP.seq ?_
    refine WP.block ?_
    refine WP.region rfl ?_
    refine WPL.p (PS.move rfl) ?_
    refine WPL.p (PS.move rfl) ?_
    refine WPL.p (PS.move rfl) ?_
    refine WPL.p (PS.sIndex (m := i) rfl rfl rfl q1.1) ?_
    refine WPL.p (PS.indexAddrArr rfl rfl (by omega) (by omega)) ?_
    refine WPL.s rfl rfl UpdR.here rfl rfl (View.write_one (by simp [pad]; omega)) ?_
    refine WPL.nil ?_
    refine WP.region rfl ?_
    refine WPL.p (PS.move rfl) ?_
    refine WPL.p (PS.arith rfl rfl (.inl ⟨rfl, rfl⟩) (wrap_i64 (by omega) (by omega))) ?_
    refine WPL.p (PS.assign rfl) ?_
    refine WPL.nil ?_
    exact ⟨i + 1, by omega, ⟨by omega, by omega⟩, rfl, rfl, ⟨rfl, rfl, rfl, rfl, trivial⟩, rfl, by simp only [Int.toNat_natCast, Nat.mul_one, Nat.zero_add, map_set, pad_set12 q1.1 q1.2]⟩
  · intro h0
    have q1 : s.take i = s.take 12 := by
      simp only [Bool.and_eq_false_iff, decide_eq_false_iff_not] at h0
      rcases h0 with h0 | h0
      · rw [List.take_of_length_le (by omega), List.take_of_length_le (by omega)]
      · rw [show i = 12 by omega]
    refine WP.exit ?_
    refine WP.seq ?_
    refine WP.region rfl ?_
    refine WPL.p (PS.loadAgg rfl InR.here (View.take_whole (by simp [pad]; omega))) ?_
    refine WPL.s rfl rfl (UpdR.there UpdR.here) (by simp [pad]; omega) (one_u8 _) (View.write_whole (by simp [pad]; omega)) ?_
    refine WPL.nil ?_
    refine WP.ret ?_
    refine RetQ.end (.inr rfl) (sub_all) ⟨_, (res1 (resA rfl (InR.there InR.here) (View.take_whole (by simp [pad]; omega))) res0), ?_⟩
    exact ⟨by simp only [tupled, agg_toList, q1], rfl⟩

theorem c129 (n : List UInt8) (hn : n.length = 12) (H : Heap) : EvP Tryz.prog 73 [nm n] H (str (nameText n)) := by
  refine Ev.enter Tryz.func73 rfl ent73 ?_
  refine WP.seq ?_
  refine WP.region rfl ?_
  refine WPL.nw (NS.boxA rfl) ?_
  intro b1
  refine WPL.p (PS.assign rfl) ?_
  refine WPL.nil ?_
  refine WP.seq ?_
  refine WP.region rfl ?_
  refine WPL.p (PS.assign rfl) ?_
  refine WPL.nil ?_
  refine WP.seq ?_
  refine WP.block ?_
  refine WP.while (ι := Nat) (fun i => [(0, nm n), (1, ptr b1 0), (2, str []), (3, num i)]) (fun _ => H)
    (fun i => [(b1, .cells (n.map u8) 23)]) (fun i => i ≤ (front n).length) (fun i => 12 - i) 0 ⟨rfl, rfl, rfl, rfl, trivial⟩ (by omega) rfl rfl ?_
  intro i hi
  have hf := front_le n
  refine WP.seq ?_
  refine WP.seq ?_
  refine WP.region rfl ?_
  refine WPL.p (PS.move rfl) ?_
  refine WPL.p (PS.binInt rfl rfl rfl) ?_
  refine WPL.p (PS.move rfl) ?_
  refine WPL.c (Wants.yes rfl rfl rfl) (fun hb => (PS.move rfl)) ?_
  refine WPL.c (Wants.yes rfl rfl rfl) (fun hb => (PS.indexAddrArr rfl (gt hb rfl) (by omega) (by simp at hb; omega))) ?_
  refine WPL.c (Wants.yes rfl rfl rfl) (fun hb => (PS.load (off := 0 + (i : Int).toNat * 1) (v := u8 (n.getD i 0)) (gt hb rfl) InR.here (cell_u8 (by simp at hb; omega)))) ?_
  refine WPL.c (Wants.yes rfl rfl rfl) (fun hb => (PS.binInt (gt hb rfl) rfl rfl)) ?_
  refine WPL.p (PS.pickAnd rfl (fun hc => gt hc rfl) rfl) ?_
  refine WPL.nil ?_
  refine WP.ifs rfl ?_ ?_
  · intro h0
    have q1 : i + 1 ≤ (front n).length := by
      simp only [Bool.and_eq_true, decide_eq_true_eq] at h0
      exact front_step hi (by omega) h0.2
    refine WP.skip ?_
    refine WP.block ?_
    refine WP.region rfl ?_
    refine WPL.p (PS.move rfl) ?_
    refine WPL.p (PS.arith rfl rfl (.inl ⟨rfl, rfl⟩) (wrap_i64 (by omega) (by omega))) ?_
    refine WPL.p (PS.assign rfl) ?_
    refine WPL.nil ?_
    exact ⟨i + 1, by omega, q1, rfl, rfl, ⟨rfl, rfl, rfl, rfl, trivial⟩, rfl, rfl⟩
  · intro h0
    have q1 : i = (front n).length := by
      simp only [Bool.and_eq_false_iff, decide_eq_false_iff_not] at h0
      exact front_stop hi hn (h0.imp (fun h => by omega) id)
    refine WP.exit ?_
    refine WP.seq ?_
    refine WP.region rfl ?_
    refine WPL.p (PS.move rfl) ?_
    refine WPL.p (PS.slArr (b := b1) (off := 0) (len := 12) (n := 1) rfl Bnd.none (Bnd.some rfl rfl) Bnd.none (by omega) (by omega) (by omega) (by simp)) ?_
    refine WPL.p (PS.b2s (b := b1) (off := 0) (s := front n) rfl InR.here (by rw [q1]; have := View.take_cells (cs := n.map u8) (e := 23) (o := 0) (n := (front n).length) (by simp; omega); rw [List.drop_zero, ← List.map_take, front_take] at this; exact this)) ?_
    refine WPL.p (PS.assign rfl) ?_
    refine WPL.nil ?_
    refine WP.seq ?_
    refine WP.seq ?_
    refine WP.draw 9 mixed (by kernel_rfl) rfl ?_
    refine Scr.ps (i := 0) rfl rfl rfl rfl (PS.move rfl) ?_
    refine Scr.cl (i := 1) rfl rfl rfl rfl rfl (fun wf => c68 _ _) late0 ?_
    refine Scr.ps (i := 2) rfl rfl rfl rfl (PS.not rfl) ?_
    refine Scr.ps (i := 3) rfl rfl rfl rfl (PS.move rfl) ?_
    refine Scr.c (i := 4) rfl rfl rfl (Wants.no rfl rfl rfl) (fun hb => (PS.move rfl)) ?_
    refine Scr.c (i := 6) rfl rfl rfl (Wants.no rfl rfl rfl) (fun hb => (PS.loadAgg rfl InR.here (View.take_whole (by simp [hn])))) ?_
    refine Scr.clc (i := 5) rfl rfl rfl rfl (Wants.no rfl rfl rfl) (fun hb => rfl) (fun hb => (evsC (gt hb rfl) rfl)) (fun hb wf => c69 _ (by omega) _) late0 ?_
    refine Scr.c (i := 7) rfl rfl rfl (Wants.no rfl rfl rfl) (fun hb => (PS.eqFlatN (gt hb rfl) (gt hb rfl) (fits_u8' (n := 12) (pad_length (by simp; omega))) (fits_u8' (n := 12) hn))) ?_
    refine Scr.ps (i := 8) rfl rfl rfl rfl (PS.pickOr rfl rfl (fun hc => gt (by rw [hc]; rfl) rfl)) ?_
    refine Scr.end ?_
    refine WPL.nil ?_
    refine WP.ifs rfl ?_ ?_
    · intro h1
      have hv : rightName n = false := by
        rw [cellsEq_u8, List.take_of_length_le (by omega)] at h1
        simp only [rightName]
        cases hv : validName (front n) <;> simp [hv] at h1 ⊢; exact h1
      refine WP.seq ?_
      refine WP.region rfl ?_
      refine WPL.p (PS.assign rfl) ?_
      refine WPL.nil ?_
      refine WP.ret ?_
      refine toQ ?_
      refine RetQ.end (.inr rfl) (sub_all) ⟨_, (res1 (resT rfl) res0), ?_⟩
      exact ⟨by simp only [tupled, nameText, hv]; rfl, rfl⟩
    · intro h1
      have hv : rightName n = true := by
        rw [cellsEq_u8, List.take_of_length_le (by omega)] at h1
        simp only [rightName]
        cases hv : validName (front n) <;> simp [hv] at h1 ⊢; exact h1
      refine WP.skip ?_
      refine WP.seq ?_
      refine WP.region rfl ?_
      refine WPL.p (PS.move rfl) ?_
      refine WPL.p (PS.assign rfl) ?_
      refine WPL.nil ?_
      refine WP.ret ?_
      refine RetQ.end (.inr rfl) (sub_all) ⟨_, (res1 (resT rfl) res0), ?_⟩
      exact ⟨by simp only [tupled, nameText, hv]; rfl, rfl⟩

end Go.Proofs.YtfoakjdnopljmaaGreatDoor
