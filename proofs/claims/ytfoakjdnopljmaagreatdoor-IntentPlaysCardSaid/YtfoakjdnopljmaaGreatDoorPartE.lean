/-
  Lemmas for this claim: WRef6, WRef6b, WInt1, WInt2, WInt3, WInt4, WInt5, WInt6, WInt7, WInt8, WInt9.
-/
import Derived.Test.YtfoakjdnopljmaaGreatDoorPartD

set_option linter.unusedVariables false
set_option linter.unusedSimpArgs false
set_option maxRecDepth 100000
namespace Go.Proofs.YtfoakjdnopljmaaGreatDoor
open Go Go.Proofs

set_option maxHeartbeats 2000000 in
theorem c130 (x y z : List UInt8) (lx : x.length = 3) (ly : y.length = 4) (lz : z.length = 3) (H : Heap) : EvP Tryz.prog 74 [nm (x ++ y ++ z)] H (.tuple ⟨[refT x y z, .bool (okRef x y z)]⟩) := by
  refine Ev.enter Tryz.func74 rfl ent74 ?_
  refine WP.seq ?_
  refine WP.region rfl ?_
  have ht := tag_take (e := 49) lx ly lz
  have la := trimR_le 0 x
  have lb := trimR_le 0 y
  have lc := trimR_le 0 z
  refine WPL.nw (NS.boxA rfl) ?_
  intro b1
  refine WPL.nw NS.alloc ?_
  intro b2
  refine WPL.p (PS.assign rfl) ?_
  refine WPL.nil ?_
  refine WP.seq ?_
  refine WP.draw 8 mixed (by kernel_rfl) rfl ?_
  refine Scr.ps (i := 0) rfl rfl rfl rfl (PS.slArr (off := 0) (len := 10) (n := 1) (i := 0) (j := 3) rfl Bnd.none (Bnd.some rfl rfl) Bnd.none (by omega) (by omega) (by omega) (by simp)) ?_
  refine Scr.ps (i := 2) rfl rfl rfl rfl (PS.slArr (off := 0) (len := 10) (n := 1) (i := 3) (j := 7) rfl (Bnd.some rfl rfl) (Bnd.some rfl rfl) Bnd.none (by omega) (by omega) (by omega) (by simp)) ?_
  refine Scr.ps (i := 4) rfl rfl rfl rfl (PS.slArr (off := 0) (len := 10) (n := 1) (i := 7) (j := 10) rfl (Bnd.some rfl rfl) Bnd.none Bnd.none (by omega) (by omega) (by omega) (by simp)) ?_
  refine Scr.late (i := 7) rfl rfl rfl rfl NS.alloc rfl ?_
  refine Scr.cl (i := 1) rfl rfl rfl rfl rfl (fun wf => by have := c217 b1 0 3 10 _ x _ ((InR.there InR.here) wf) ht.1 (by omega) (by omega) (by omega); exact this) (lateC rfl rfl late0) ?_
  refine Scr.cl (i := 3) rfl rfl rfl rfl rfl (fun wf => by have := c217 b1 3 4 7 _ y _ ((InR.there InR.here) wf) ht.2.1 (by omega) (by omega) (by omega); exact this) (lateC rfl rfl late0) ?_
  refine Scr.cl (i := 5) rfl rfl rfl rfl rfl (fun wf => by have := c217 b1 7 3 3 _ z _ ((InR.there InR.here) wf) ht.2.2 (by omega) (by omega) (by omega); exact this) (lateC rfl rfl late0) ?_
  refine Scr.ps (i := 6) rfl rfl rfl rfl (PS.build rfl rfl) ?_
  refine Scr.done1 (lateC rfl rfl late0) (fun b4 => ?_)
  refine WPL.s rfl rfl UpdR.here rfl rfl rfl ?_
  refine WPL.nil ?_
  refine WP.seq ?_
  refine WP.seq ?_
  refine WP.region rfl ?_
  refine WPL.p (PS.fieldAddr rfl) ?_
  refine WPL.p (PS.load rfl InR.here rfl) ?_
  refine WPL.p (PS.sEq rfl rfl) ?_
  refine WPL.nil ?_
  refine WP.ifs rfl ?_ ?_
  · intro h0
    refine WP.seq ?_
    refine WP.drawK 5 mixed (by kernel_rfl) rfl ?_
    refine ScrK.keep (List.Sublist.cons_cons _ (List.Sublist.cons _ (List.Sublist.cons _ List.Sublist.slnil))) ?_
    refine ScrK.psK (List.Sublist.cons_cons _ (List.Sublist.cons _ (List.Sublist.cons _ List.Sublist.slnil))) (i := 0) rfl rfl rfl rfl (PS.build rfl rfl) ?_
    refine ScrK.psK (List.Sublist.cons_cons _ (List.Sublist.cons _ (List.Sublist.cons _ List.Sublist.slnil))) (i := 1) rfl rfl rfl rfl (PS.loadAgg rfl InR.here rfl) ?_
    refine ScrK.psK (List.Sublist.cons_cons _ (List.Sublist.cons _ (List.Sublist.cons _ List.Sublist.slnil))) (i := 2) rfl rfl rfl rfl (PS.build rfl rfl) ?_
    refine ScrK.psK (List.Sublist.cons_cons _ (List.Sublist.cons _ (List.Sublist.cons _ List.Sublist.slnil))) (i := 3) rfl rfl rfl rfl (PS.eqFlat rfl rfl rfl rfl) ?_
    refine ScrK.stK (i := 4) (m := 3) rfl rfl rfl rfl rfl (UpdR.there UpdR.here) rfl (by first | rfl | exact one_u8 _) rfl late0 (List.Sublist.cons_cons _ (List.Sublist.cons _ (List.Sublist.cons _ List.Sublist.slnil))) ?_
    refine ScrK.end ?_
    refine WPL.p (PS.assign rfl) ?_
    refine WPL.nil ?_
    refine WP.ret ?_
    refine toQ ?_
    refine RetQ.end (.inr rfl) (sub_all) ⟨_, (res1 (resA rfl (InR.there InR.here) rfl) (res1 (resT rfl) res0)), ?_⟩
    exact ⟨by rw [refT_nil h0, okRef_nil h0, ← cellsEq_tv]; rfl, rfl⟩
  · intro h0
    refine WP.skip ?_
    refine WP.seq ?_
    refine WP.region rfl ?_
    obtain ⟨a', b', c', hT, hE⟩ := parse_cases (textOf (trimR 0 x) (trimR 0 y) (trimR 0 z))
    have hle := textOf_le (a := trimR 0 x) (b := trimR 0 y) (c := trimR 0 z)
    refine WPL.p (PS.loadAgg rfl InR.here rfl) ?_
    refine WPL.cl rfl rfl (fun wf => c218 _ _ _ (by omega) (by omega) (by omega) _) ?_
    refine WPL.cl rfl rfl (fun wf => by have := c65 (textOf (trimR 0 x) (trimR 0 y) (trimR 0 z)) (by omega); rw [hT] at this; exact this _) ?_
    refine WPL.p (PS.move rfl) ?_
    refine WPL.p (PS.extract rfl rfl) ?_
    refine WPL.p (PS.extract rfl rfl) ?_
    refine WPL.nw NS.alloc ?_
    intro b5
    refine WPL.s rfl rfl UpdR.here rfl rfl rfl ?_
    refine WPL.p (PS.assign rfl) ?_
    refine WPL.nil ?_
    refine WP.seq ?_
    refine WP.seq ?_
    refine WP.region rfl ?_
    refine WPL.p (PS.move rfl) ?_
    refine WPL.p (PS.not rfl) ?_
    refine WPL.p (PS.move rfl) ?_
    refine WPL.c (Wants.no rfl rfl rfl) (fun hb => (PS.loadAgg rfl InR.here rfl)) ?_
    refine WPL.c (Wants.no rfl rfl rfl) (fun hb => (PS.loadAgg rfl (InR.there InR.here) rfl)) ?_
    refine WPL.c (Wants.no rfl rfl rfl) (fun hb => (PS.eqFlatN (gt hb rfl) (gt hb rfl) rfl rfl)) ?_
    refine WPL.p (PS.pickOr rfl rfl (fun hc => gt (by rw [hc]; rfl) rfl)) ?_
    refine WPL.nil ?_
    refine WP.ifs rfl ?_ ?_
    · intro h1
      have h1 : _ = true := h1
      rw [okRef_cons h0 hE] at h1
      have hk : okRef x y z = false := by simpa using h1
      refine WP.seq ?_
      refine WP.region rfl ?_
      refine WPL.p (PS.build rfl rfl) ?_
      refine WPL.s rfl rfl (UpdR.there (UpdR.there UpdR.here)) rfl rfl rfl ?_
      refine WPL.p (PS.assign rfl) ?_
      refine WPL.nil ?_
      refine WP.ret ?_
      refine toQ ?_
      refine RetQ.end (.inr rfl) (sub_all) ⟨_, (res1 (resA rfl (InR.there (InR.there InR.here)) rfl) (res1 (resT rfl) res0)), ?_⟩
      exact ⟨by simp only [refT, hk]; rfl, rfl⟩
    · intro h1
      have h1 : _ = false := h1
      rw [okRef_cons h0 hE] at h1
      have hk : okRef x y z = true := by simpa using h1
      refine WP.skip ?_
      refine WP.seq ?_
      refine WP.region rfl ?_
      refine WPL.p (PS.loadAgg rfl (InR.there InR.here) rfl) ?_
      refine WPL.s rfl rfl (UpdR.there (UpdR.there UpdR.here)) rfl rfl rfl ?_
      refine WPL.p (PS.assign rfl) ?_
      refine WPL.nil ?_
      refine WP.ret ?_
      refine RetQ.end (.inr rfl) (sub_all) ⟨_, (res1 (resA rfl (InR.there (InR.there InR.here)) rfl) (res1 (resT rfl) res0)), ?_⟩
      exact ⟨by simp only [refT, hk]; rfl, rfl⟩

theorem cvulgateref06_Uses (k : Int) (H : Heap) : EvP Tryz.prog 72 [.int .i64 k] H (.tuple ⟨[num (uAt k), .bool (uName k), .bool (uTag k)]⟩) := by
  refine Ev.enter Tryz.func72 rfl ent72 ?_
  refine WP.seq ?_
  refine WP.region rfl ?_
  refine WPL.p (PS.assign rfl) ?_
  refine WPL.p (PS.assign rfl) ?_
  refine WPL.p (PS.assign rfl) ?_
  refine WPL.nil ?_
  refine WP.seq ?_
  refine WP.seq ?_
  refine WP.region rfl ?_
  refine WPL.p (PS.move rfl) ?_
  refine WPL.nil ?_
  refine WP.block ?_
  refine WP.seq ?_
  refine WP.region rfl ?_
  refine WPL.p (PS.binInt rfl rfl rfl) ?_
  refine WPL.p (PS.assign rfl) ?_
  refine WPL.nil ?_
  refine WP.ifs rfl ?_ ?_
  · intro h0
    have hk : k = 2 := eq_of_beq h0
    subst hk
    refine WP.seq ?_
    refine WP.region rfl ?_
    refine WPL.p (PS.assign rfl) ?_
    refine WPL.p (PS.assign rfl) ?_
    refine WPL.p (PS.assign rfl) ?_
    refine WPL.nil ?_
    refine WP.ret ?_
    refine toB (toQ ?_)
    refine RetQ.end (.inr rfl) (sub_all) ⟨_, (res1 (resT rfl) (res1 (resT rfl) (res1 (resT rfl) res0))), ?_⟩
    exact ⟨rfl, rfl⟩
  · intro h0
    refine WP.seq ?_
    refine WP.region rfl ?_
    refine WPL.p (PS.binInt rfl rfl rfl) ?_
    refine WPL.p (PS.assign rfl) ?_
    refine WPL.nil ?_
    refine WP.ifs rfl ?_ ?_
    · intro h1
      have hk : k = 3 := eq_of_beq h1
      subst hk
      refine WP.seq ?_
      refine WP.region rfl ?_
      refine WPL.p (PS.assign rfl) ?_
      refine WPL.p (PS.assign rfl) ?_
      refine WPL.p (PS.assign rfl) ?_
      refine WPL.nil ?_
      refine WP.ret ?_
      refine toB (toQ ?_)
      refine RetQ.end (.inr rfl) (sub_all) ⟨_, (res1 (resT rfl) (res1 (resT rfl) (res1 (resT rfl) res0))), ?_⟩
      exact ⟨rfl, rfl⟩
    · intro h1
      refine WP.seq ?_
      refine WP.region rfl ?_
      refine WPL.p (PS.binInt rfl rfl rfl) ?_
      refine WPL.p (PS.assign rfl) ?_
      refine WPL.nil ?_
      refine WP.ifs rfl ?_ ?_
      · intro h2
        have hk : k = 4 := eq_of_beq h2
        subst hk
        refine WP.seq ?_
        refine WP.region rfl ?_
        refine WPL.p (PS.assign rfl) ?_
        refine WPL.p (PS.assign rfl) ?_
        refine WPL.p (PS.assign rfl) ?_
        refine WPL.nil ?_
        refine WP.ret ?_
        refine toB (toQ ?_)
        refine RetQ.end (.inr rfl) (sub_all) ⟨_, (res1 (resT rfl) (res1 (resT rfl) (res1 (resT rfl) res0))), ?_⟩
        exact ⟨rfl, rfl⟩
      · intro h2
        refine WP.seq ?_
        refine WP.region rfl ?_
        refine WPL.p (PS.binInt rfl rfl rfl) ?_
        refine WPL.p (PS.assign rfl) ?_
        refine WPL.nil ?_
        refine WP.ifs rfl ?_ ?_
        · intro h3
          have hk : k = 5 := eq_of_beq h3
          subst hk
          refine WP.seq ?_
          refine WP.region rfl ?_
          refine WPL.p (PS.assign rfl) ?_
          refine WPL.p (PS.assign rfl) ?_
          refine WPL.p (PS.assign rfl) ?_
          refine WPL.nil ?_
          refine WP.ret ?_
          refine toB (toQ ?_)
          refine RetQ.end (.inr rfl) (sub_all) ⟨_, (res1 (resT rfl) (res1 (resT rfl) (res1 (resT rfl) res0))), ?_⟩
          exact ⟨rfl, rfl⟩
        · intro h3
          refine WP.seq ?_
          refine WP.region rfl ?_
          refine WPL.p (PS.binInt rfl rfl rfl) ?_
          refine WPL.p (PS.assign rfl) ?_
          refine WPL.nil ?_
          refine WP.ifs rfl ?_ ?_
          · intro h4
            have hk : k = 6 := eq_of_beq h4
            subst hk
            refine WP.seq ?_
            refine WP.region rfl ?_
            refine WPL.p (PS.assign rfl) ?_
            refine WPL.p (PS.assign rfl) ?_
            refine WPL.p (PS.assign rfl) ?_
            refine WPL.nil ?_
            refine WP.ret ?_
            refine toB (toQ ?_)
            refine RetQ.end (.inr rfl) (sub_all) ⟨_, (res1 (resT rfl) (res1 (resT rfl) (res1 (resT rfl) res0))), ?_⟩
            exact ⟨rfl, rfl⟩
          · intro h4
            refine WP.skip ?_
            refine WP.seq ?_
            refine WP.region rfl ?_
            refine WPL.p (PS.assign rfl) ?_
            refine WPL.p (PS.assign rfl) ?_
            refine WPL.p (PS.assign rfl) ?_
            refine WPL.nil ?_
            refine WP.ret ?_
            refine RetQ.end (.inr rfl) (sub_all) ⟨_, (res1 (resT rfl) (res1 (resT rfl) (res1 (resT rfl) res0))), ?_⟩
            exact ⟨by simp only [beq_eq_false_iff_ne] at h0 h1 h2 h3 h4; simp [tupled, uAt, uName, uTag, h0, h1, h2, h3, h4], rfl⟩

set_option maxHeartbeats 1000000 in
theorem cvulgateref06_Of (k p a : Int) (n x y z : List UInt8) (ln : n.length = 12) (lx : x.length = 3) (ly : y.length = 4) (lz : z.length = 3) (H : Heap) : EvP Tryz.prog 53 [.agg ⟨rk k p a n (x ++ y ++ z)⟩] H (.tuple ⟨[.agg ⟨refOf k p a n x y z⟩, num (refErr k p a n x y z)]⟩) := by
  refine Ev.enter Tryz.func53 rfl ent53 ?_
  refine WP.seq ?_
  refine WP.region rfl ?_
  refine WPL.nw (NS.boxA rfl) ?_
  intro b1
  refine WPL.nw (V := .cells (rk 0 0 0 (List.replicate 12 0) (List.replicate 10 0)) 51) (NS.allocL (by rfl)) ?_
  intro b2
  have hK : (rk k p a n (x ++ y ++ z)).length = 25 := rk_length ln (by simp [lx, ly, lz])
  have hn : (View.cells (rk k p a n (x ++ y ++ z)) 51).take 3 12 = some (n.map u8) := by
    have := take_mid (A := [.int .i64 k, .int .i64 p, .int .i64 a]) (M := n.map u8) (Z := (x ++ y ++ z).map u8) (o := 3) (n := 12) (e := 51) rfl (by simp [ln])
    rwa [List.append_assoc] at this
  have htg : (View.cells (rk k p a n (x ++ y ++ z)) 51).take 15 10 = some ((x ++ y ++ z).map u8) := by
    have := take_mid (A := [.int .i64 k, .int .i64 p, .int .i64 a] ++ n.map u8) (M := (x ++ y ++ z).map u8) (Z := []) (o := 15) (n := 10) (e := 51) (by simp [ln]) (by simp [lx, ly, lz])
    rw [List.append_nil, List.append_assoc] at this; exact this
  refine WPL.p (PS.assign rfl) ?_
  refine WPL.nil ?_
  refine WP.seq ?_
  refine WP.region rfl ?_
  refine WPL.p (PS.fieldAddr rfl) ?_
  refine WPL.p (PS.load rfl (InR.there InR.here) rfl) ?_
  refine WPL.cl rfl rfl (fun wf => by apply cvulgateref06_Uses <;> first | assumption | omega) ?_
  refine WPL.p (PS.move rfl) ?_
  refine WPL.p (PS.extract rfl rfl) ?_
  refine WPL.p (PS.extract rfl rfl) ?_
  refine WPL.p (PS.extract rfl rfl) ?_
  refine WPL.p (PS.assign rfl) ?_
  refine WPL.p (PS.assign rfl) ?_
  refine WPL.p (PS.assign rfl) ?_
  refine WPL.nil ?_
  refine WP.seq ?_
  refine WP.seq ?_
  refine WP.region rfl ?_
  refine WPL.p (PS.fieldAddr rfl) ?_
  refine WPL.p (PS.load rfl (InR.there InR.here) rfl) ?_
  refine WPL.p (PS.binInt rfl rfl rfl) ?_
  refine WPL.p (PS.move rfl) ?_
  refine WPL.c (Wants.no rfl rfl rfl) (fun hb => (PS.fieldAddr rfl)) ?_
  refine WPL.c (Wants.no rfl rfl rfl) (fun hb => (PS.load (gt hb rfl) (InR.there InR.here) rfl)) ?_
  refine WPL.c (Wants.no rfl rfl rfl) (fun hb => (PS.binInt (gt hb rfl) rfl rfl)) ?_
  refine WPL.p (PS.pickOr rfl rfl (fun hc => gt (by rw [hc]; rfl) rfl)) ?_
  refine WPL.nil ?_
  refine WP.ifs rfl ?_ ?_
  · intro h0
    have he : refErr k p a n x y z = 16 := by simp only [refErr, h0]; rfl
    refine WP.seq ?_
    refine WP.region rfl ?_
    refine WPL.p (PS.build rfl rfl) ?_
    refine WPL.sA (m := 25) rfl rfl UpdR.here (by first | rfl | simp [ln, lx, ly, lz]) (by first | rfl | exact one_u8 _) (by first | rfl | exact View.write_whole (by simp [ln, lx, ly, lz])) ?_
    refine WPL.p (PS.assign rfl) ?_
    refine WPL.nil ?_
    refine WP.ret ?_
    refine toQ ?_
    refine RetQ.end (.inr rfl) (sub_all) ⟨_, (res1 (resA rfl InR.here (View.take_whole (by rfl))) (res1 (resT rfl) res0)), ?_⟩
    exact ⟨by rw [refOf, he]; rfl, rfl⟩
  · intro h0
    refine WP.skip ?_
    refine WP.seq ?_
    refine WP.seq ?_
    refine WP.region rfl ?_
    refine WPL.p (PS.fieldAddr rfl) ?_
    refine WPL.p (PS.load rfl (InR.there InR.here) rfl) ?_
    refine WPL.p (PS.binInt rfl rfl rfl) ?_
    refine WPL.p (PS.move rfl) ?_
    refine WPL.c (Wants.no rfl rfl rfl) (fun hb => (PS.fieldAddr rfl)) ?_
    refine WPL.c (Wants.no rfl rfl rfl) (fun hb => (PS.load (gt hb rfl) (InR.there InR.here) rfl)) ?_
    refine WPL.c (Wants.no rfl rfl rfl) (fun hb => (PS.binInt (gt hb rfl) rfl rfl)) ?_
    refine WPL.p (PS.pickOr rfl rfl (fun hc => gt (by rw [hc]; rfl) rfl)) ?_
    refine WPL.p (PS.move rfl) ?_
    refine WPL.c (Wants.no rfl rfl rfl) (fun hb => (PS.move rfl)) ?_
    refine WPL.c (Wants.no rfl rfl rfl) (fun hb => (PS.binInt (gt hb rfl) rfl rfl)) ?_
    refine WPL.c (Wants.no rfl rfl rfl) (fun hb => (PS.move (gt hb rfl))) ?_
    refine WPL.c (Wants.yesG rfl rfl rfl) (fun hb => (PS.fieldAddr rfl)) ?_
    refine WPL.c (Wants.yesG rfl rfl rfl) (fun hb => (PS.load (gt hb rfl) (InR.there InR.here) rfl)) ?_
    refine WPL.c (Wants.yesG rfl rfl rfl) (fun hb => (PS.binInt (gt hb rfl) rfl rfl)) ?_
    refine WPL.c (Wants.yesG rfl rfl rfl) (fun hb => (PS.move (gt hb rfl))) ?_
    refine WPL.c (Wants.noG rfl rfl rfl) (fun hb => (PS.fieldAddr rfl)) ?_
    refine WPL.c (Wants.noG rfl rfl rfl) (fun hb => (PS.load (gt hb rfl) (InR.there InR.here) rfl)) ?_
    refine WPL.c (Wants.noG rfl rfl rfl) (fun hb => (PS.move rfl)) ?_
    refine WPL.c (Wants.noG rfl rfl rfl) (fun hb => (PS.binInt (gt hb rfl) (gt hb rfl) rfl)) ?_
    refine WPL.c (Wants.yesG rfl rfl rfl) (fun hb => (PS.pickOr (gt hb rfl) rfl (fun hc => gt (andI hb (notI hc)) rfl))) ?_
    refine WPL.c (Wants.no rfl rfl rfl) (fun hb => (PS.pickAnd (gt hb rfl) (fun hc => gt (andI hb hc) rfl) rfl)) ?_
    refine WPL.p (PS.pickOr rfl rfl (fun hc => gt (by rw [hc]; rfl) rfl)) ?_
    refine WPL.nil ?_
    refine WP.ifs rfl ?_ ?_
    · intro h1
      have he : refErr k p a n x y z = 5 := by simp only [refErr, h0, h1]; rfl
      refine WP.seq ?_
      refine WP.region rfl ?_
      refine WPL.p (PS.build rfl rfl) ?_
      refine WPL.sA (m := 25) rfl rfl UpdR.here (by first | rfl | simp [ln, lx, ly, lz]) (by first | rfl | exact one_u8 _) (by first | rfl | exact View.write_whole (by simp [ln, lx, ly, lz])) ?_
      refine WPL.p (PS.assign rfl) ?_
      refine WPL.nil ?_
      refine WP.ret ?_
      refine toQ ?_
      refine RetQ.end (.inr rfl) (sub_all) ⟨_, (res1 (resA rfl InR.here (View.take_whole (by rfl))) (res1 (resT rfl) res0)), ?_⟩
      exact ⟨by rw [refOf, he]; rfl, rfl⟩
    · intro h1
      refine WP.skip ?_
      refine WP.seq ?_
      refine WP.seq ?_
      refine WP.region rfl ?_
      refine WPL.p (PS.move rfl) ?_
      refine WPL.p (PS.move rfl) ?_
      refine WPL.c (Wants.yes rfl rfl rfl) (fun hb => (PS.fieldAddr rfl)) ?_
      refine WPL.c (Wants.yes rfl rfl rfl) (fun hb => (PS.loadAgg (n := 12) (gt hb rfl) (InR.there InR.here) hn)) ?_
      refine WPL.clc (Wants.yes rfl rfl rfl) (fun hb => rfl) (fun hb => (evsC (gt hb rfl) rfl)) (fun hb wf => c129 n ln _) ?_
      refine WPL.c (Wants.yes rfl rfl rfl) (fun hb => (PS.sEq (gt hb rfl) rfl)) ?_
      refine WPL.p (PS.pickAnd rfl (fun hc => gt hc rfl) rfl) ?_
      refine WPL.nil ?_
      refine WP.ifs rfl ?_ ?_
      · intro h2
        have he : refErr k p a n x y z = 15 := by simp only [refErr, h0, h1, h2]; rfl
        refine WP.seq ?_
        refine WP.region rfl ?_
        refine WPL.p (PS.build rfl rfl) ?_
        refine WPL.sA (m := 25) rfl rfl UpdR.here (by first | rfl | simp [ln, lx, ly, lz]) (by first | rfl | exact one_u8 _) (by first | rfl | exact View.write_whole (by simp [ln, lx, ly, lz])) ?_
        refine WPL.p (PS.assign rfl) ?_
        refine WPL.nil ?_
        refine WP.ret ?_
        refine toQ ?_
        refine RetQ.end (.inr rfl) (sub_all) ⟨_, (res1 (resA rfl InR.here (View.take_whole (by rfl))) (res1 (resT rfl) res0)), ?_⟩
        exact ⟨by rw [refOf, he]; rfl, rfl⟩
      · intro h2
        refine WP.skip ?_
        refine WP.seq ?_
        refine WP.region rfl ?_
        obtain ⟨u1, u2, u3, hu, hue⟩ := refT_cases x y z
        refine WPL.p (PS.fieldAddr rfl) ?_
        refine WPL.p (PS.loadAgg (n := 10) rfl (InR.there InR.here) htg) ?_
        refine WPL.cl rfl rfl (fun wf => by have := c130 x y z lx ly lz; rw [hu] at this; exact this _) ?_
        refine WPL.p (PS.move rfl) ?_
        refine WPL.p (PS.extract rfl rfl) ?_
        refine WPL.p (PS.extract rfl rfl) ?_
        refine WPL.nw NS.alloc ?_
        intro b7
        refine WPL.s rfl rfl UpdR.here rfl rfl rfl ?_
        refine WPL.p (PS.assign rfl) ?_
        refine WPL.nil ?_
        refine WP.seq ?_
        refine WP.seq ?_
        refine WP.region rfl ?_
        refine WPL.p (PS.move rfl) ?_
        refine WPL.p (PS.move rfl) ?_
        refine WPL.c (Wants.yes rfl rfl rfl) (fun hb => (PS.move rfl)) ?_
        refine WPL.c (Wants.yes rfl rfl rfl) (fun hb => (PS.not (gt hb rfl))) ?_
        refine WPL.c (Wants.yes rfl rfl rfl) (fun hb => (PS.move (gt hb rfl))) ?_
        refine WPL.c (Wants.noG rfl rfl rfl) (fun hb => (PS.fieldAddr rfl)) ?_
        refine WPL.c (Wants.noG rfl rfl rfl) (fun hb => (PS.load (gt hb rfl) InR.here rfl)) ?_
        refine WPL.c (Wants.noG rfl rfl rfl) (fun hb => (PS.sEq (gt hb rfl) rfl)) ?_
        refine WPL.c (Wants.yes rfl rfl rfl) (fun hb => (PS.pickOr (gt hb rfl) rfl (fun hc => gt (andI hb (notI hc)) rfl))) ?_
        refine WPL.p (PS.pickAnd rfl (fun hc => gt hc rfl) rfl) ?_
        refine WPL.nil ?_
        refine WP.ifs rfl ?_ ?_
        · intro h3
          rw [hue] at h3
          have he : refErr k p a n x y z = 14 := by simp only [refErr, h0, h1, h2, h3]; rfl
          refine WP.seq ?_
          refine WP.region rfl ?_
          refine WPL.p (PS.build rfl rfl) ?_
          refine WPL.sA (m := 25) rfl rfl (UpdR.there UpdR.here) (by first | rfl | simp [ln, lx, ly, lz]) (by first | rfl | exact one_u8 _) (by first | rfl | exact View.write_whole (by simp [ln, lx, ly, lz])) ?_
          refine WPL.p (PS.assign rfl) ?_
          refine WPL.nil ?_
          refine WP.ret ?_
          refine toQ ?_
          refine RetQ.end (.inr rfl) (sub_all) ⟨_, (res1 (resA rfl (InR.there InR.here) (View.take_whole (by rfl))) (res1 (resT rfl) res0)), ?_⟩
          exact ⟨by rw [refOf, he]; rfl, rfl⟩
        · intro h3
          rw [hue] at h3
          have he : refErr k p a n x y z = 0 := by simp only [refErr, h0, h1, h2, h3]; rfl
          refine WP.skip ?_
          refine WP.cutP (fun l' G' L' => l' = [(1, ptr b1 0), (2, ptr b2 0), (3, num 0), (4, num (uAt k)), (5, .bool (uName k)), (6, .bool (uTag k))] ∧ H = G' ∧ ∃ V, L' = [(b7, V), (b2, .cells (rk 0 0 0 (List.replicate 12 0) (List.replicate 10 0)) 51), (b1, .cells (rk k p (bif decide ((uAt k : Int) > 0) then a else 0) n (x ++ y ++ z)) 51)]) ?_ ?_
          · refine WP.seq ?_
            refine WP.region rfl ?_
            refine WPL.p (PS.move rfl) ?_
            refine WPL.p (PS.binInt rfl rfl rfl) ?_
            refine WPL.nil ?_
            refine WP.ifs rfl ?_ ?_
            · intro h4
              have h4' : decide ((uAt k : Int) > 0) = false := by have := eq_of_beq h4; simp; omega
              refine WP.region rfl ?_
              refine WPL.p (PS.fieldAddr rfl) ?_
              refine WPL.s rfl rfl (UpdR.there (UpdR.there UpdR.here)) rfl rfl (View.write_one (by simp [rk])) ?_
              refine WPL.nil ?_
              refine ⟨rfl, rfl, [(1, ptr b1 0), (2, ptr b2 0), (3, num 0), (4, num (uAt k)), (5, .bool (uName k)), (6, .bool (uTag k))], ⟨rfl, rfl, rfl, rfl, rfl, rfl, trivial⟩, rfl, rfl, ?V1, ?_⟩
              rotate_left
              simp only [h4']; rfl
            · intro h4
              have h4' : decide ((uAt k : Int) > 0) = true := by simp at h4 ⊢; omega
              refine WP.skip ?_
              refine ⟨rfl, rfl, [(1, ptr b1 0), (2, ptr b2 0), (3, num 0), (4, num (uAt k)), (5, .bool (uName k)), (6, .bool (uTag k))], ⟨rfl, rfl, rfl, rfl, rfl, rfl, trivial⟩, rfl, rfl, ?V2, ?_⟩
              rotate_left
              simp only [h4']; rfl
          · rintro l' G' L' ⟨rfl, hG, V7, rfl⟩
            subst hG
            refine WP.cutP (fun l' G' L' => l' = [(1, ptr b1 0), (2, ptr b2 0), (3, num 0), (4, num (uAt k)), (5, .bool (uName k)), (6, .bool (uTag k))] ∧ H = G' ∧ ∃ V, L' = [(b7, V), (b2, .cells (rk 0 0 0 (List.replicate 12 0) (List.replicate 10 0)) 51), (b1, .cells (rk k p (bif decide ((uAt k : Int) > 0) then a else 0) (bif uName k then n else List.replicate 12 0) (x ++ y ++ z)) 51)]) ?_ ?_
            · refine WP.seq ?_
              refine WP.region rfl ?_
              refine WPL.p (PS.move rfl) ?_
              refine WPL.p (PS.not rfl) ?_
              refine WPL.nil ?_
              refine WP.ifs rfl ?_ ?_
              · intro h5
                have h5' : uName k = false := by simpa using h5
                refine WP.region rfl ?_
                refine WPL.p (PS.build (cs := (List.replicate 12 (0 : UInt8)).map u8) rfl rfl) ?_
                refine WPL.p (PS.fieldAddr rfl) ?_
                refine WPL.s (m := 12) rfl rfl (UpdR.there (UpdR.there UpdR.here)) rfl (one_u8 _) (write_rn ln rfl) ?_
                refine WPL.nil ?_
                refine ⟨rfl, rfl, [(1, ptr b1 0), (2, ptr b2 0), (3, num 0), (4, num (uAt k)), (5, .bool (uName k)), (6, .bool (uTag k))], ⟨rfl, rfl, rfl, rfl, rfl, rfl, trivial⟩, rfl, rfl, ?V3, ?_⟩
                rotate_left
                simp only [h5']; rfl
              · intro h5
                have h5' : uName k = true := by simpa using h5
                
                refine WP.skip ?_
                refine ⟨rfl, rfl, [(1, ptr b1 0), (2, ptr b2 0), (3, num 0), (4, num (uAt k)), (5, .bool (uName k)), (6, .bool (uTag k))], ⟨rfl, rfl, rfl, rfl, rfl, rfl, trivial⟩, rfl, rfl, ?V4, ?_⟩
                rotate_left
                simp only [h5']; rfl
            · rintro l' G' L' ⟨rfl, hG, V7, rfl⟩
              subst hG
              refine WP.cutP (fun l' G' L' => l' = [(1, ptr b1 0), (2, ptr b2 0), (3, num 0), (4, num (uAt k)), (5, .bool (uName k)), (6, .bool (uTag k))] ∧ H = G' ∧ ∃ V, L' = [(b7, V), (b2, .cells (rk 0 0 0 (List.replicate 12 0) (List.replicate 10 0)) 51), (b1, .cells (refKey k p a n (x ++ y ++ z)) 51)]) ?_ ?_
              · refine WP.seq ?_
                refine WP.region rfl ?_
                refine WPL.p (PS.move rfl) ?_
                refine WPL.p (PS.not rfl) ?_
                refine WPL.nil ?_
                refine WP.ifs rfl ?_ ?_
                · intro h6
                  have h6' : uTag k = false := by simpa using h6
                  refine WP.region rfl ?_
                  refine WPL.p (PS.build (cs := (List.replicate 10 (0 : UInt8)).map u8) rfl rfl) ?_
                  refine WPL.p (PS.fieldAddr rfl) ?_
                  refine WPL.s (m := 10) rfl rfl (UpdR.there (UpdR.there UpdR.here)) rfl (one_u8 _) (write_rt (by cases uName k <;> simp [ln]) (by simp [lx, ly, lz])) ?_
                  refine WPL.nil ?_
                  refine ⟨rfl, rfl, [(1, ptr b1 0), (2, ptr b2 0), (3, num 0), (4, num (uAt k)), (5, .bool (uName k)), (6, .bool (uTag k))], ⟨rfl, rfl, rfl, rfl, rfl, rfl, trivial⟩, rfl, rfl, ?V5, ?_⟩
                  rotate_left
                  simp only [refKey, h6']; rfl
                · intro h6
                  have h6' : uTag k = true := by simpa using h6
                  refine WP.skip ?_
                  refine ⟨rfl, rfl, [(1, ptr b1 0), (2, ptr b2 0), (3, num 0), (4, num (uAt k)), (5, .bool (uName k)), (6, .bool (uTag k))], ⟨rfl, rfl, rfl, rfl, rfl, rfl, trivial⟩, rfl, rfl, ?V6, ?_⟩
                  rotate_left
                  simp only [refKey, h6']; rfl
              · rintro l' G' L' ⟨rfl, hG, V7, rfl⟩
                subst hG
                refine WP.seq ?_
                refine WP.region rfl ?_
                have hM : (refKey k p a n (x ++ y ++ z)).length = 25 := by simp only [refKey]; exact rk_length (by cases uName k <;> simp [ln]) (by cases uTag k <;> simp [lx, ly, lz])
                have hO : (refKey k p a n (x ++ y ++ z)).all (·.oneCell') = true := one_rk _ _ _ _ _
                refine WPL.p (PS.loadAgg rfl (InR.there (InR.there InR.here)) (View.take_whole hM)) ?_
                refine WPL.s (m := 25) rfl rfl (UpdR.there UpdR.here) hM hO (View.write_whole hM) ?_
                refine WPL.p (PS.assign rfl) ?_
                refine WPL.nil ?_
                refine WP.ret ?_
                refine RetQ.end (.inr rfl) (sub_all) ⟨_, (res1 (resA rfl (InR.there InR.here) (View.take_whole hM)) (res1 (resT rfl) res0)), ?_⟩
                exact ⟨by rw [refOf, he]; rfl, rfl⟩

theorem key_take_b {b : List UInt8} {e : TypeId} (h : b.length = 25) : (View.cells (rkb b) e).take 0 25 = some (rkb b) := View.take_whole (rkb_length h)

theorem cvulgateref06_Right (k p a : Int) (n x y z : List UInt8) (ln : n.length = 12) (lx : x.length = 3) (ly : y.length = 4) (lz : z.length = 3) (H : Heap) : EvP Tryz.prog 36 [.agg ⟨rk k p a n (x ++ y ++ z)⟩] H (.bool (refRight k p a n x y z)) := by
  refine Ev.enter Tryz.func36 rfl ent36 ?_
  refine WP.seq ?_
  refine WP.region rfl ?_
  have hK : (rk k p a n (x ++ y ++ z)).length = 25 := rk_length ln (by simp [lx, ly, lz])
  have hO : (refOf k p a n x y z).length = 25 := refOf_length ln (by simp [lx, ly, lz])
  refine WPL.nw (NS.boxA rfl) ?_
  intro b1
  refine WPL.p (PS.assign rfl) ?_
  refine WPL.nil ?_
  refine WP.seq ?_
  refine WP.region rfl ?_
  refine WPL.p (PS.loadAgg rfl InR.here (View.take_whole hK)) ?_
  refine WPL.cl rfl rfl (fun wf => by apply cvulgateref06_Of <;> first | assumption | omega) ?_
  refine WPL.p (PS.move rfl) ?_
  refine WPL.p (PS.extract rfl rfl) ?_
  refine WPL.p (PS.extract rfl rfl) ?_
  refine WPL.nw NS.alloc ?_
  intro b3
  refine WPL.sA (m := 25) rfl rfl UpdR.here hO (refOf_one _ _ _ _ _ _ _) (View.write_whole (by rw [hO]; rfl)) ?_
  refine WPL.p (PS.assign rfl) ?_
  refine WPL.nil ?_
  refine WP.seq ?_
  refine WP.region rfl ?_
  refine WPL.p (PS.move rfl) ?_
  refine WPL.p (PS.binInt rfl rfl rfl) ?_
  refine WPL.p (PS.move rfl) ?_
  refine WPL.c (Wants.yes rfl rfl rfl) (fun hb => (PS.loadAgg rfl InR.here (View.take_whole hO))) ?_
  refine WPL.c (Wants.yes rfl rfl rfl) (fun hb => (PS.loadAgg rfl (InR.there InR.here) (View.take_whole hK))) ?_
  refine WPL.c (Wants.yes rfl rfl rfl) (fun hb => (PS.eqFlat (gt hb rfl) (gt hb rfl) (refOf_fits ln (by simp [lx, ly, lz])) (fits_rk ln (by simp [lx, ly, lz])))) ?_
  refine WPL.p (PS.pickAnd rfl (fun hc => gt hc rfl) rfl) ?_
  refine WPL.p (PS.assign rfl) ?_
  refine WPL.nil ?_
  refine WP.ret ?_
  refine RetQ.end (.inr rfl) (sub_all) ⟨_, (res1 (resT rfl) res0), ?_⟩
  refine ⟨?_, rfl⟩
  have e : ((refErr k p a n x y z : Int) == 0) = (refErr k p a n x y z == 0) := by rw [Bool.eq_iff_iff]; simp
  simp only [tupled, refRight, e, refOf]
  cases refErr k p a n x y z == 0 <;> simp

theorem cvulgateref06_Bytes (b : List UInt8) (hb : b.length = 25) (H : Heap) : EvP Tryz.prog 51 [.agg ⟨rkb b⟩] H (nm b) := by
  refine Ev.enter Tryz.func51 rfl ent51 ?_
  refine WP.seq ?_
  refine WP.region rfl ?_
  refine WPL.nw (NS.boxA rfl) ?_
  intro b1
  refine WPL.nw (V := .cells ((List.replicate 25 (0 : UInt8)).map u8) 134) (NS.allocL (by rfl)) ?_
  intro b2
  refine WPL.nil ?_
  refine WP.seq ?_
  refine WP.region rfl ?_
  refine WPL.nw (V := .cells ((List.replicate 25 (0 : UInt8)).map u8) 134) (NS.allocL (by rfl)) ?_
  intro b3
  refine WPL.nil ?_
  refine WP.seq ?_
  refine WP.drawK 13 mixed (by kernel_rfl) rfl ?_
  refine ScrK.keep (List.Sublist.cons _ (List.Sublist.cons _ (List.Sublist.cons_cons _ List.Sublist.slnil))) ?_
  refine ScrK.psK (List.Sublist.cons _ (List.Sublist.cons _ (List.Sublist.cons_cons _ List.Sublist.slnil))) (i := 0) rfl rfl rfl rfl (PS.fieldAddr rfl) ?_
  refine ScrK.psK (List.Sublist.cons _ (List.Sublist.cons _ (List.Sublist.cons_cons _ List.Sublist.slnil))) (i := 1) rfl rfl rfl rfl (PS.load rfl InR.here rfl) ?_
  refine ScrK.psK (List.Sublist.cons _ (List.Sublist.cons _ (List.Sublist.cons_cons _ List.Sublist.slnil))) (i := 2) rfl rfl rfl rfl (PS.convInt rfl) ?_
  rw [num_wrap]
  refine ScrK.psK (List.Sublist.cons _ (List.Sublist.cons _ (List.Sublist.cons_cons _ List.Sublist.slnil))) (i := 3) rfl rfl rfl rfl (PS.fieldAddr rfl) ?_
  refine ScrK.psK (List.Sublist.cons _ (List.Sublist.cons _ (List.Sublist.cons_cons _ List.Sublist.slnil))) (i := 4) rfl rfl rfl rfl (PS.load rfl InR.here rfl) ?_
  refine ScrK.psK (List.Sublist.cons _ (List.Sublist.cons _ (List.Sublist.cons_cons _ List.Sublist.slnil))) (i := 5) rfl rfl rfl rfl (PS.convInt rfl) ?_
  rw [num_wrap]
  refine ScrK.psK (List.Sublist.cons _ (List.Sublist.cons _ (List.Sublist.cons_cons _ List.Sublist.slnil))) (i := 6) rfl rfl rfl rfl (PS.fieldAddr rfl) ?_
  refine ScrK.psK (List.Sublist.cons _ (List.Sublist.cons _ (List.Sublist.cons_cons _ List.Sublist.slnil))) (i := 7) rfl rfl rfl rfl (PS.load rfl InR.here rfl) ?_
  refine ScrK.psK (List.Sublist.cons _ (List.Sublist.cons _ (List.Sublist.cons_cons _ List.Sublist.slnil))) (i := 8) rfl rfl rfl rfl (PS.convInt rfl) ?_
  rw [num_wrap]
  refine ScrK.psK (List.Sublist.cons _ (List.Sublist.cons _ (List.Sublist.cons_cons _ List.Sublist.slnil))) (i := 9) rfl rfl rfl rfl (PS.indexAddrArr rfl rfl (by omega) (by omega)) ?_
  refine ScrK.stK (i := 10) (m := 1) rfl rfl rfl rfl rfl UpdR.here rfl (by first | rfl | exact one_u8 _) rfl late0 (List.Sublist.cons _ (List.Sublist.cons _ (List.Sublist.cons_cons _ List.Sublist.slnil))) ?_
  refine ScrK.psK (List.Sublist.cons _ (List.Sublist.cons _ (List.Sublist.cons_cons _ List.Sublist.slnil))) (i := 11) rfl rfl rfl rfl (PS.indexAddrArr rfl rfl (by omega) (by omega)) ?_
  refine ScrK.stK (i := 12) (m := 1) rfl rfl rfl rfl rfl UpdR.here rfl (by first | rfl | exact one_u8 _) rfl late0 (List.Sublist.cons _ (List.Sublist.cons _ (List.Sublist.cons_cons _ List.Sublist.slnil))) ?_
  refine ScrK.end ?_
  refine WPL.p (PS.indexAddrArr rfl rfl (by omega) (by omega)) ?_
  refine WPL.s rfl rfl UpdR.here rfl rfl rfl ?_
  refine WPL.nil ?_
  refine WP.seq ?_
  refine WP.seq ?_
  refine WP.region rfl ?_
  refine WPL.p (PS.assign rfl) ?_
  refine WPL.nil ?_
  refine WP.block ?_
  refine WP.while (ι := Nat) (fun i => [(1, ptr b1 0), (2, ptr b2 0), (3, ptr b3 0), (4, num i)]) (fun _ => H) (fun i => [(b3, .cells ((fillB 25 b (3 + i)).map u8) 134), (b2, .cells ((List.replicate 25 (0 : UInt8)).map u8) 134), (b1, .cells (rkb b) 51)])
    (fun i => i ≤ 12) (fun i => 12 - i) 0 ⟨rfl, rfl, rfl, rfl, trivial⟩ (by omega) rfl (by rw [Nat.add_zero, fill3 hb]; rfl) ?_
  rintro i hi
  refine WP.seq ?_
  refine WP.seq ?_
  refine WP.region rfl ?_
  refine WPL.p (PS.move rfl) ?_
  refine WPL.p (PS.binInt rfl rfl rfl) ?_
  refine WPL.nil ?_
  refine WP.ifs rfl ?_ ?_
  · intro h0
    have q : i < 12 := by have := of_decide_eq_true h0; omega
    refine WP.skip ?_
    refine WP.seq ?_
    refine WP.block ?_
    refine WP.region rfl ?_
    refine WPL.p (PS.move rfl) ?_
    refine WPL.p (PS.arith rfl rfl (.inl ⟨rfl, rfl⟩) (wrap_i64 (by omega) (by omega))) ?_
    refine WPL.p (PS.move rfl) ?_
    refine WPL.p (PS.fieldAddr rfl) ?_
    refine WPL.p (PS.indexAddrArr rfl rfl (by omega) (by omega)) ?_
    refine WPL.p (PS.load (v := u8 (b.getD (3 + i) 0)) rfl (InR.there (InR.there InR.here)) (by rw [show 0 + 3 + (i : Int).toNat * 1 = 3 + i by simp]; exact rkb_cell (by omega) (by omega))) ?_
    refine WPL.p (PS.indexAddrArr rfl rfl (by omega) (by omega)) ?_
    refine WPL.s rfl rfl UpdR.here rfl rfl (View.write_one (by rw [List.length_map, fillB_length hb (by omega)]; omega)) ?_
    refine WPL.nil ?_
    refine WP.region rfl ?_
    refine WPL.p (PS.move rfl) ?_
    refine WPL.p (PS.arith rfl rfl (.inl ⟨rfl, rfl⟩) (wrap_i64 (by omega) (by omega))) ?_
    refine WPL.p (PS.assign rfl) ?_
    refine WPL.nil ?_
    exact ⟨i + 1, by omega, by omega, rfl, rfl, ⟨rfl, rfl, rfl, rfl, trivial⟩, rfl, by rw [show 0 + (3 + (i : Int)).toNat * 1 = 3 + i by omega, map_set, fillB_set hb (by omega)]; rfl⟩
  · intro h0
    have q : i = 12 := by have := of_decide_eq_false h0; omega
    subst q
    refine WP.exit ?_
    refine WP.seq ?_
    refine WP.seq ?_
    refine WP.region rfl ?_
    refine WPL.p (PS.assign rfl) ?_
    refine WPL.nil ?_
    refine WP.block ?_
    refine WP.while (ι := Nat) (fun i => [(1, ptr b1 0), (2, ptr b2 0), (3, ptr b3 0), (5, num i)]) (fun _ => H) (fun i => [(b3, .cells ((fillB 25 b (15 + i)).map u8) 134), (b2, .cells ((List.replicate 25 (0 : UInt8)).map u8) 134), (b1, .cells (rkb b) 51)])
      (fun i => i ≤ 10) (fun i => 10 - i) 0 ⟨rfl, rfl, rfl, rfl, trivial⟩ (by omega) rfl rfl ?_
    rintro i hi
    refine WP.seq ?_
    refine WP.seq ?_
    refine WP.region rfl ?_
    refine WPL.p (PS.move rfl) ?_
    refine WPL.p (PS.binInt rfl rfl rfl) ?_
    refine WPL.nil ?_
    refine WP.ifs rfl ?_ ?_
    · intro h1
      have q : i < 10 := by have := of_decide_eq_true h1; omega
      refine WP.skip ?_
      refine WP.seq ?_
      refine WP.block ?_
      refine WP.region rfl ?_
      refine WPL.p (PS.move rfl) ?_
      refine WPL.p (PS.arith rfl rfl (.inl ⟨rfl, rfl⟩) (wrap_i64 (by omega) (by omega))) ?_
      refine WPL.p (PS.move rfl) ?_
      refine WPL.p (PS.fieldAddr rfl) ?_
      refine WPL.p (PS.indexAddrArr rfl rfl (by omega) (by omega)) ?_
      refine WPL.p (PS.load (v := u8 (b.getD (15 + i) 0)) rfl (InR.there (InR.there InR.here)) (by rw [show 0 + 15 + (i : Int).toNat * 1 = 15 + i by simp]; exact rkb_cell (by omega) (by omega))) ?_
      refine WPL.p (PS.indexAddrArr rfl rfl (by omega) (by omega)) ?_
      refine WPL.s rfl rfl UpdR.here rfl rfl (View.write_one (by rw [List.length_map, fillB_length hb (by omega)]; omega)) ?_
      refine WPL.nil ?_
      refine WP.region rfl ?_
      refine WPL.p (PS.move rfl) ?_
      refine WPL.p (PS.arith rfl rfl (.inl ⟨rfl, rfl⟩) (wrap_i64 (by omega) (by omega))) ?_
      refine WPL.p (PS.assign rfl) ?_
      refine WPL.nil ?_
      exact ⟨i + 1, by omega, by omega, rfl, rfl, ⟨rfl, rfl, rfl, rfl, trivial⟩, rfl, by rw [show 0 + (15 + (i : Int)).toNat * 1 = 15 + i by omega, map_set, fillB_set hb (by omega)]; rfl⟩
    · intro h1
      have q : i = 10 := by have := of_decide_eq_false h1; omega
      subst q
      have hF : fillB 25 b (15 + 10) = b := fillB_full hb
      rw [hF]
      have hM : (b.map u8).length = 25 := by simp [hb]
      refine WP.exit ?_
      refine WP.seq ?_
      refine WP.region rfl ?_
      refine WPL.p (PS.loadAgg rfl InR.here (View.take_whole hM)) ?_
      refine WPL.sA (m := 25) rfl rfl (UpdR.there UpdR.here) hM (one_u8 _) (View.write_whole (by rw [hM]; rfl)) ?_
      refine WPL.nil ?_
      refine WP.ret ?_
      refine RetQ.end (.inr rfl) (sub_all) ⟨_, (res1 (resA rfl (InR.there InR.here) (View.take_whole hM)) res0), ?_⟩
      exact ⟨rfl, rfl⟩

end Go.Proofs.YtfoakjdnopljmaaGreatDoor

set_option linter.unusedVariables false
set_option linter.unusedSimpArgs false
set_option maxRecDepth 100000
namespace Go.Proofs.YtfoakjdnopljmaaGreatDoor
open Go Go.Proofs

theorem cvulgateref06_Less (b c : List UInt8) (hb : b.length = 25) (hc : c.length = 25) (H : Heap) : EvP Tryz.prog 33 [.agg ⟨rkb b⟩, .agg ⟨rkb c⟩] H (.bool (ltB b c)) := by
  refine Ev.enter Tryz.func33 rfl ent33 ?_
  refine WP.seq ?_
  refine WP.region rfl ?_
  have hB := rkb_length hb
  have hC := rkb_length hc
  have hb' : (b.map u8).length = 25 := by simp [hb]
  have hc' : (c.map u8).length = 25 := by simp [hc]
  refine WPL.nw (NS.boxA rfl) ?_
  intro b2
  refine WPL.nw (NS.boxA rfl) ?_
  intro b3
  refine WPL.p (PS.assign rfl) ?_
  refine WPL.nil ?_
  refine WP.seq ?_
  refine WP.drawK 7 mixed (by kernel_rfl) rfl ?_
  refine ScrK.ps (i := 0) rfl rfl rfl rfl (PS.loadAgg rfl (InR.there InR.here) (View.take_whole hB)) ?_
  refine ScrK.ps (i := 2) rfl rfl rfl rfl (PS.loadAgg rfl InR.here (View.take_whole hC)) ?_
  refine ScrK.late (i := 4) rfl rfl rfl rfl NS.alloc rfl ?_
  refine ScrK.late (i := 5) rfl rfl rfl rfl NS.alloc rfl ?_
  refine ScrK.clS (i := 1) rfl rfl rfl rfl rfl (fun wf => cvulgateref06_Bytes b hb _) (lateC rfl rfl (lateC rfl rfl late0)) ?_
  refine ScrK.clS (i := 3) rfl rfl rfl rfl rfl (fun wf => cvulgateref06_Bytes c hc _) (lateC rfl rfl (lateC rfl rfl late0)) ?_
  refine ScrK.updX2 (i := 6) rfl rfl rfl rfl rfl (lateC rfl rfl (lateC rfl rfl late0)) (fun b6 b5 => ⟨_, _, GS.store (n := 25) rfl rfl UpdR.here hb' (one_u8 _) (View.write_whole hb'), List.Sublist.cons _ (List.Sublist.cons _ (List.Sublist.refl _)), ?_⟩)
  refine ScrK.end ?_
  refine WPL.sA (m := 25) rfl rfl (UpdR.there UpdR.here) hc' (one_u8 _) (View.write_whole hc') ?_
  refine WPL.nil ?_
  refine WP.seq ?_
  refine WP.seq ?_
  refine WP.region rfl ?_
  refine WPL.p (PS.assign rfl) ?_
  refine WPL.nil ?_
  refine WP.block ?_
  refine WP.while (ι := Nat) (fun i => [(5, ptr b5 0), (6, ptr b6 0), (4, .bool false), (7, num i)]) (fun _ => H) (fun i => [(b5, .cells (b.map u8) 134), (b6, .cells (c.map u8) 134), (b3, .cells (rkb c) 51), (b2, .cells (rkb b) 51)])
    (fun i => i ≤ 25 ∧ b.take i = c.take i) (fun i => 25 - i) 0 ⟨rfl, rfl, rfl, rfl, trivial⟩ ⟨by omega, rfl⟩ rfl rfl ?_
  rintro i ⟨hi, ht⟩
  refine WP.seq ?_
  refine WP.seq ?_
  refine WP.region rfl ?_
  refine WPL.p (PS.move rfl) ?_
  refine WPL.p (PS.binInt rfl rfl rfl) ?_
  refine WPL.nil ?_
  refine WP.ifs rfl ?_ ?_
  · intro h0
    have q : i < 25 := by have := of_decide_eq_true h0; omega
    refine WP.skip ?_
    refine WP.seq ?_
    refine WP.block ?_
    refine WP.seq ?_
    refine WP.draw 7 mixed (by kernel_rfl) rfl ?_
    refine Scr.ps (i := 0) rfl rfl rfl rfl (PS.move rfl) ?_
    refine Scr.ps (i := 1) rfl rfl rfl rfl (PS.indexAddrArr rfl rfl (by omega) (by omega)) ?_
    refine Scr.ps (i := 2) rfl rfl rfl rfl (PS.load (v := u8 (b.getD i 0)) rfl InR.here (cell_u8 (by omega))) ?_
    refine Scr.ps (i := 3) rfl rfl rfl rfl (PS.move rfl) ?_
    refine Scr.ps (i := 4) rfl rfl rfl rfl (PS.indexAddrArr rfl rfl (by omega) (by omega)) ?_
    refine Scr.ps (i := 5) rfl rfl rfl rfl (PS.load (v := u8 (c.getD i 0)) rfl (InR.there InR.here) (cell_u8 (by omega))) ?_
    refine Scr.ps (i := 6) rfl rfl rfl rfl (PS.binInt rfl rfl rfl) ?_
    refine Scr.end ?_
    refine WPL.nil ?_
    refine WP.ifs rfl ?_ ?_
    · intro h1
      have hn : b.getD i 0 ≠ c.getD i 0 := fun e => by rw [e] at h1; simp at h1
      refine WP.seq ?_
      refine WP.draw 7 mixed (by kernel_rfl) rfl ?_
      refine Scr.ps (i := 0) rfl rfl rfl rfl (PS.move rfl) ?_
      refine Scr.ps (i := 1) rfl rfl rfl rfl (PS.indexAddrArr rfl rfl (by omega) (by omega)) ?_
      refine Scr.ps (i := 2) rfl rfl rfl rfl (PS.load (v := u8 (b.getD i 0)) rfl InR.here (cell_u8 (by omega))) ?_
      refine Scr.ps (i := 3) rfl rfl rfl rfl (PS.move rfl) ?_
      refine Scr.ps (i := 4) rfl rfl rfl rfl (PS.indexAddrArr rfl rfl (by omega) (by omega)) ?_
      refine Scr.ps (i := 5) rfl rfl rfl rfl (PS.load (v := u8 (c.getD i 0)) rfl (InR.there InR.here) (cell_u8 (by omega))) ?_
      refine Scr.ps (i := 6) rfl rfl rfl rfl (PS.binInt rfl rfl rfl) ?_
      refine Scr.end ?_
      refine WPL.p (PS.assign rfl) ?_
      refine WPL.nil ?_
      refine WP.ret ?_
      refine toB (toQ (toQ (toB (toQ ?_))))
      refine RetQ.end (.inr rfl) (sub_all) ⟨_, (res1 (resT rfl) res0), ?_⟩
      exact ⟨by rw [ltB_step ht (by omega) (by omega) hn]; simp only [tupled]; congr 1; rw [Bool.eq_iff_iff]; simp, rfl⟩
    · intro h1
      refine WP.skip ?_
      refine WP.region rfl ?_
      refine WPL.p (PS.move rfl) ?_
      refine WPL.p (PS.arith rfl rfl (.inl ⟨rfl, rfl⟩) (wrap_i64 (by omega) (by omega))) ?_
      refine WPL.p (PS.assign rfl) ?_
      refine WPL.nil ?_
      exact ⟨i + 1, by omega, ⟨by omega, by rw [List.take_succ_eq_append_getElem (by omega), List.take_succ_eq_append_getElem (by omega), ht]; rw [eq_getD h1 (by omega) (by omega)]⟩, rfl, rfl, ⟨rfl, rfl, rfl, rfl, trivial⟩, rfl, rfl⟩
  · intro h0
    have q : i = 25 := by have := of_decide_eq_false h0; omega
    have hbc : b = c := by subst q; rw [List.take_of_length_le (by omega), List.take_of_length_le (by omega)] at ht; exact ht
    refine WP.exit ?_
    refine WP.seq ?_
    refine WP.region rfl ?_
    refine WPL.p (PS.assign rfl) ?_
    refine WPL.nil ?_
    refine WP.ret ?_
    refine RetQ.end (.inr rfl) (sub_all) ⟨_, (res1 (resT rfl) res0), ?_⟩
    exact ⟨by rw [hbc, ltB_same]; rfl, rfl⟩

theorem cvulgatelaw06_Of (b : List UInt8) (hb : b.length = 25) (H : Heap) : EvP Tryz.prog 10 [nm b] H (.agg ⟨rkb b⟩) := by
  refine Ev.enter Tryz.func10 rfl ent10 ?_
  obtain ⟨k, p, a, n, x, y, z, ln, lx, ly, lz, hbb⟩ := key_parts hb
  have ht : (x ++ y ++ z).length = 10 := by simp [lx, ly, lz]
  rw [hbb, rkb_keyOfL]
  clear hbb
  unfold keyOfL
  generalize x ++ y ++ z = t at ht ⊢
  obtain ⟨c0, c1, c2, c3, c4, c5, c6, c7, c8, c9, c10, c11, rfl⟩ := list12 ln
  clear ln
  have hBL : ([k, p, a] ++ [c0, c1, c2, c3, c4, c5, c6, c7, c8, c9, c10, c11] ++ t).length = 25 := by simp [ht]
  have hRK : (rk k.toNat p.toNat a.toNat [c0, c1, c2, c3, c4, c5, c6, c7, c8, c9, c10, c11] t).length = 25 := rk_length rfl ht
  refine WP.seq ?_
  refine WP.region rfl ?_
  refine WPL.nw (NS.boxA rfl) ?_
  intro b1
  refine WPL.nw (V := .cells (rk 0 0 0 (List.replicate 12 0) (List.replicate 10 0)) 51) (NS.allocL (by rfl)) ?_
  intro b2
  refine WPL.nil ?_
  refine WP.seq ?_
  refine WP.region rfl ?_
  refine WPL.p (PS.fieldAddr rfl) ?_
  refine WPL.p (PS.load rfl (InR.there InR.here) rfl) ?_
  refine WPL.p (PS.convInt rfl) ?_
  rw [conv_u8]
  refine WPL.p (PS.fieldAddr rfl) ?_
  refine WPL.p (PS.load rfl (InR.there InR.here) rfl) ?_
  refine WPL.p (PS.convInt rfl) ?_
  rw [conv_u8]
  refine WPL.p (PS.fieldAddr rfl) ?_
  refine WPL.p (PS.load rfl (InR.there InR.here) rfl) ?_
  refine WPL.p (PS.convInt rfl) ?_
  rw [conv_u8]
  refine WPL.p (PS.fieldAddr rfl) ?_
  have hn0 : (View.cells (([k, p, a] ++ [c0, c1, c2, c3, c4, c5, c6, c7, c8, c9, c10, c11] ++ t).map u8) 30).take 3 12 = some ([c0, c1, c2, c3, c4, c5, c6, c7, c8, c9, c10, c11].map u8) := rfl
  refine WPL.p (PS.loadAgg (n := 12) rfl (InR.there InR.here) hn0) ?_
  have hR0 : (rk k.toNat p.toNat a.toNat [c0, c1, c2, c3, c4, c5, c6, c7, c8, c9, c10, c11] (List.replicate 10 0)).length = 25 := rfl
  refine WPL.p (PS.build (cs := rk k.toNat p.toNat a.toNat [c0, c1, c2, c3, c4, c5, c6, c7, c8, c9, c10, c11] (List.replicate 10 0)) rfl rfl) ?_
  refine WPL.nw (V := .cells (rk 0 0 0 (List.replicate 12 0) (List.replicate 10 0)) 51) (NS.allocL (by rfl)) ?_
  intro b3
  refine WPL.sA (m := 25) rfl rfl UpdR.here hR0 (one_rk _ _ _ _ _) (View.write_whole rfl) ?_
  refine WPL.nil ?_
  refine WP.seq ?_
  refine WP.seq ?_
  refine WP.region rfl ?_
  refine WPL.p (PS.assign rfl) ?_
  refine WPL.nil ?_
  refine WP.block ?_
  refine WP.while (ι := Nat) (fun i => [(1, ptr b1 0), (2, ptr b2 0), (3, ptr b3 0), (4, num i)]) (fun _ => H) (fun i => [(b3, .cells (rk k.toNat p.toNat a.toNat [c0, c1, c2, c3, c4, c5, c6, c7, c8, c9, c10, c11] (fillB 10 t i)) 51), (b2, .cells (rk 0 0 0 (List.replicate 12 0) (List.replicate 10 0)) 51), (b1, .cells (([k, p, a] ++ [c0, c1, c2, c3, c4, c5, c6, c7, c8, c9, c10, c11] ++ t).map u8) 30)])
    (fun i => i ≤ 10) (fun i => 10 - i) 0 ⟨rfl, rfl, rfl, rfl, trivial⟩ (by omega) rfl rfl ?_
  rintro i hi
  refine WP.seq ?_
  refine WP.seq ?_
  refine WP.region rfl ?_
  refine WPL.p (PS.move rfl) ?_
  refine WPL.p (PS.binInt rfl rfl rfl) ?_
  refine WPL.nil ?_
  refine WP.ifs rfl ?_ ?_
  · intro h0
    have q : i < 10 := by have := of_decide_eq_true h0; omega
    refine WP.skip ?_
    refine WP.seq ?_
    refine WP.block ?_
    refine WP.seq ?_
    refine WP.region rfl ?_
    refine WPL.p (PS.move rfl) ?_
    refine WPL.p (PS.binInt rfl rfl rfl) ?_
    refine WPL.nil ?_
    refine WP.ifs rfl ?_ ?_
    · intro h1
      have q1 : i < 3 := by have := of_decide_eq_true h1; omega
      refine WP.region rfl ?_
      refine WPL.p (PS.move rfl) ?_
      refine WPL.p (PS.move rfl) ?_
      refine WPL.p (PS.fieldAddr rfl) ?_
      refine WPL.p (PS.fieldAddr rfl) ?_
      refine WPL.p (PS.indexAddrArr rfl rfl (by omega) (by omega)) ?_
      refine WPL.p (PS.load (v := u8 (t.getD i 0)) rfl (InR.there (InR.there InR.here)) (tag_cell rfl (by omega) (by omega))) ?_
      refine WPL.p (PS.fieldAddr rfl) ?_
      refine WPL.p (PS.indexAddrArr rfl rfl (by omega) (by omega)) ?_
      refine WPL.s rfl rfl UpdR.here rfl rfl (View.write_one (by rw [rk_length rfl (fillB_length ht (by omega))]; omega)) ?_
      refine WPL.nil ?_
      refine WP.region rfl ?_
      refine WPL.p (PS.move rfl) ?_
      refine WPL.p (PS.arith rfl rfl (.inl ⟨rfl, rfl⟩) (wrap_i64 (by omega) (by omega))) ?_
      refine WPL.p (PS.assign rfl) ?_
      refine WPL.nil ?_
      exact ⟨i + 1, by omega, by omega, rfl, rfl, ⟨rfl, rfl, rfl, rfl, trivial⟩, rfl, by rw [show 0 + 15 + (i : Int).toNat * 1 = 15 + i by omega, rk_set rfl, fillB_set ht (by omega)]⟩
    · intro h1
      have q1 : ¬ i < 3 := by have := of_decide_eq_false h1; omega
      refine WP.seq ?_
      refine WP.region rfl ?_
      refine WPL.p (PS.move rfl) ?_
      refine WPL.p (PS.binInt rfl rfl rfl) ?_
      refine WPL.nil ?_
      refine WP.ifs rfl ?_ ?_
      · intro h2
        have q2 : i < 7 := by have := of_decide_eq_true h2; omega
        refine WP.region rfl ?_
        refine WPL.p (PS.move rfl) ?_
        refine WPL.p (PS.move rfl) ?_
        refine WPL.p (PS.arith rfl rfl (.inr (.inl ⟨rfl, rfl⟩)) (wrap_i64 (by omega) (by omega))) ?_
        refine WPL.p (PS.fieldAddr rfl) ?_
        refine WPL.p (PS.fieldAddr rfl) ?_
        refine WPL.p (PS.indexAddrArr rfl rfl (by omega) (by omega)) ?_
        refine WPL.p (PS.load (v := u8 (t.getD i 0)) rfl (InR.there (InR.there InR.here)) (tag_cell rfl (by omega) (by omega))) ?_
        refine WPL.p (PS.fieldAddr rfl) ?_
        refine WPL.p (PS.indexAddrArr rfl rfl (by omega) (by omega)) ?_
        refine WPL.s rfl rfl UpdR.here rfl rfl (View.write_one (by rw [rk_length rfl (fillB_length ht (by omega))]; omega)) ?_
        refine WPL.nil ?_
        refine WP.region rfl ?_
        refine WPL.p (PS.move rfl) ?_
        refine WPL.p (PS.arith rfl rfl (.inl ⟨rfl, rfl⟩) (wrap_i64 (by omega) (by omega))) ?_
        refine WPL.p (PS.assign rfl) ?_
        refine WPL.nil ?_
        exact ⟨i + 1, by omega, by omega, rfl, rfl, ⟨rfl, rfl, rfl, rfl, trivial⟩, rfl, by rw [show 0 + 15 + (i : Int).toNat * 1 = 15 + i by omega, rk_set rfl, fillB_set ht (by omega)]⟩
      · intro h2
        have q2 : ¬ i < 7 := by have := of_decide_eq_false h2; omega
        refine WP.region rfl ?_
        refine WPL.p (PS.move rfl) ?_
        refine WPL.p (PS.move rfl) ?_
        refine WPL.p (PS.arith rfl rfl (.inr (.inl ⟨rfl, rfl⟩)) (wrap_i64 (by omega) (by omega))) ?_
        refine WPL.p (PS.fieldAddr rfl) ?_
        refine WPL.p (PS.fieldAddr rfl) ?_
        refine WPL.p (PS.indexAddrArr rfl rfl (by omega) (by omega)) ?_
        refine WPL.p (PS.load (v := u8 (t.getD i 0)) rfl (InR.there (InR.there InR.here)) (tag_cell rfl (by omega) (by omega))) ?_
        refine WPL.p (PS.fieldAddr rfl) ?_
        refine WPL.p (PS.indexAddrArr rfl rfl (by omega) (by omega)) ?_
        refine WPL.s rfl rfl UpdR.here rfl rfl (View.write_one (by rw [rk_length rfl (fillB_length ht (by omega))]; omega)) ?_
        refine WPL.nil ?_
        refine WP.region rfl ?_
        refine WPL.p (PS.move rfl) ?_
        refine WPL.p (PS.arith rfl rfl (.inl ⟨rfl, rfl⟩) (wrap_i64 (by omega) (by omega))) ?_
        refine WPL.p (PS.assign rfl) ?_
        refine WPL.nil ?_
        exact ⟨i + 1, by omega, by omega, rfl, rfl, ⟨rfl, rfl, rfl, rfl, trivial⟩, rfl, by rw [show 0 + 15 + (i : Int).toNat * 1 = 15 + i by omega, rk_set rfl, fillB_set ht (by omega)]⟩
  · intro h0
    have q : i = 10 := by have := of_decide_eq_false h0; omega
    subst q
    rw [fillB_full ht]
    refine WP.exit ?_
    refine WP.seq ?_
    refine WP.region rfl ?_
    refine WPL.p (PS.loadAgg rfl InR.here (View.take_whole hRK)) ?_
    refine WPL.sA (m := 25) rfl rfl (UpdR.there UpdR.here) hRK (one_rk _ _ _ _ _) (View.write_whole (by rw [hRK]; rfl)) ?_
    refine WPL.nil ?_
    refine WP.ret ?_
    refine RetQ.end (.inr rfl) (sub_all) ⟨_, (res1 (resA rfl (InR.there InR.here) (View.take_whole hRK)) res0), ?_⟩
    exact ⟨rfl, rfl⟩

end Go.Proofs.YtfoakjdnopljmaaGreatDoor

set_option linter.unusedVariables false
set_option linter.unusedSimpArgs false
set_option maxRecDepth 100000
namespace Go.Proofs.YtfoakjdnopljmaaGreatDoor
open Go Go.Proofs

/-! ### Keys as 25 bytes -/
def okK (b : List UInt8) : Prop := b.length = 25
theorem keyLaw : KeyLaw Tryz.prog 30 nm okK :=
  KeyLaw.flat (enc := List.map u8) (ks := List.replicate 25 (.i .u8)) (fun a ha => fits_u8' ha) (fun a b _ _ => cellsEq_u8 a b) (fun a b _ _ h => by rw [eq_of_beq h])

theorem cKeyRight (b : List UInt8) (hb : b.length = 25) (H : Heap) : EvP Tryz.prog 37 [nm b] H (.bool (rightB b)) := by
  obtain ⟨k, p, a, n, x, y, z, ln, lx, ly, lz, rfl⟩ := key_parts hb
  rw [rightB_of ln lx ly lz]
  exact c138 k p a n x y z ln lx ly lz H
theorem cRefRight (b : List UInt8) (hb : b.length = 25) (H : Heap) : EvP Tryz.prog 36 [.agg ⟨rkb b⟩] H (.bool (rightB b)) := by
  rw [← right_same hb]
  obtain ⟨k, p, a, n, x, y, z, ln, lx, ly, lz, rfl⟩ := key_parts hb
  rw [refRightB_of ln lx ly lz, rkb_keyOfL]
  exact cvulgateref06_Right _ _ _ n x y z ln lx ly lz H
theorem cmp_lt : ∀ (s t : List UInt8), s.length = t.length → decide (Lib.compareBytes s t < 0) = ltB s t
  | [], [], _ => by rfl
  | x :: s, y :: t, h => by
    have ih := cmp_lt s t (by simpa using h)
    simp only [Lib.compareBytes, ltB]
    by_cases h1 : x = y
    · subst h1; simp [ih]
    · by_cases h2 : x.toNat < y.toNat
      · simp [h1, h2, UInt8.lt_iff_toNat_lt]
      · have h3 : x.toNat ≠ y.toNat := fun e => h1 (UInt8.toNat_inj.1 e)
        have h4 : y.toNat < x.toNat := by omega
        simp [h1, h2, h4, UInt8.lt_iff_toNat_lt]
  | [], _ :: _, h => by simp at h
  | _ :: _, [], h => by simp at h
theorem cKeyLess (b c : List UInt8) (hb : b.length = 25) (hc : c.length = 25) (H : Heap) : EvP Tryz.prog 47 [nm b, nm c] H (.bool (ltB b c)) := by
  rw [← cmp_lt b c (by rw [hb, hc])]
  obtain ⟨k, p, a, n, x, y, z, ln, lx, ly, lz, rfl⟩ := key_parts hb
  obtain ⟨k', p', a', n', x', y', z', ln', lx', ly', lz', rfl⟩ := key_parts hc
  apply c163 <;> assumption

/-! ### A table -/
def tabT (T : List (List UInt8 × Int)) : View := mapV nm (T.map fun x => (x.1, Value.int .i64 x.2))
structure TabIn (H : Heap) (bt : Nat) (o : Option Nat) (T : List (List UInt8 × Int)) : Prop where
  s : H bt = some (.cells [.map o] 86)
  m : ∀ bm, o = some bm → H bm = some (tabT T)
  z : o = none → T = []
  k : ∀ x ∈ T, okK x.1
def setTab (H : Heap) (bt : Nat) (o : Option Nat) (T : List (List UInt8 × Int)) : Heap :=
  match o with
  | none => H
  | some bm => (H.set bt (.cells [.map (some bm)] 86)).set bm (tabT T)

theorem TabIn.same {H : Heap} {bt : Nat} {o : Option Nat} {T : List (List UInt8 × Int)} (h : TabIn H bt o T) : setTab H bt o T = H := by
  cases o with
  | none => rfl
  | some bm => simp only [setTab]; rw [Heap.set_same h.s, Heap.set_same (h.m bm rfl)]
theorem TabIn.ne {H : Heap} {bt : Nat} {o : Option Nat} {T : List (List UInt8 × Int)} (h : TabIn H bt o T) {bm : Nat} (ho : o = some bm ∨ H bm = none) : bm ≠ bt := by
  rintro rfl
  rcases ho with rfl | ho
  · have := h.m bm rfl; rw [h.s] at this; cases this
  · rw [h.s] at ho; cases ho
theorem TabIn.set {H : Heap} {bt : Nat} {o : Option Nat} {T T' : List (List UInt8 × Int)} (h : TabIn H bt o T) {bm : Nat} (ho : o = some bm ∨ H bm = none) (hk : ∀ x ∈ T', okK x.1) : TabIn (setTab H bt (some bm) T') bt (some bm) T' := by
  have hne := h.ne ho
  refine ⟨?_, ?_, (fun h => by cases h), hk⟩
  · simp only [setTab, Heap.set, if_neg (Ne.symm hne)]; simp
  · intro b' e; cases e; simp [setTab, Heap.set]
theorem setTab_set {H : Heap} {bt bm : Nat} {T T' : List (List UInt8 × Int)} : (setTab H bt (some bm) T).set bm (tabT T') = setTab H bt (some bm) T' := by
  simp only [setTab]; rw [Heap.set_set]
theorem setTab_other {H : Heap} {bt bm b : Nat} {T' : List (List UInt8 × Int)} (h1 : b ≠ bt) (h2 : b ≠ bm) : setTab H bt (some bm) T' b = H b := by
  simp [setTab, Heap.set, h1, h2]
theorem tabT_keys {T : List (List UInt8 × Int)} (h : ∀ x ∈ T, okK x.1) : ∀ x ∈ T.map fun x => (x.1, Value.int .i64 x.2), okK x.1 := by
  intro x hx; obtain ⟨y, hy, rfl⟩ := List.mem_map.1 hx; exact h y hy
theorem aget_map {α β γ : Type} [BEq α] (f : β → γ) (a : α) : ∀ (T : List (α × β)), aget a (T.map fun x => (x.1, f x.2)) = (aget a T).map f
  | [] => rfl
  | x :: T => by simp only [List.map_cons, aget]; cases a == x.1 <;> simp [aget_map f a T]
theorem aput_map {α β γ : Type} [BEq α] (f : β → γ) (a : α) (v : β) : ∀ (T : List (α × β)), aput a (f v) (T.map fun x => (x.1, f x.2)) = (aput a v T).map fun x => (x.1, f x.2)
  | [] => rfl
  | x :: T => by simp only [List.map_cons, aput]; cases a == x.1 <;> simp [aput_map f a v T]
theorem adel_map {α β γ : Type} [BEq α] (f : β → γ) (a : α) : ∀ (T : List (α × β)), adel a (T.map fun x => (x.1, f x.2)) = (adel a T).map fun x => (x.1, f x.2)
  | [] => rfl
  | x :: T => by simp only [List.map_cons, adel]; cases a == x.1 <;> simp [adel_map f a T]
theorem aput_keys {β : Type} {ok : List UInt8 → Prop} {a : List UInt8} {v : β} (ha : ok a) : ∀ {T : List (List UInt8 × β)}, (∀ x ∈ T, ok x.1) → ∀ x ∈ aput a v T, ok x.1
  | [], _, x, hx => by simp only [aput, List.mem_singleton] at hx; rw [hx]; exact ha
  | y :: T, h, x, hx => by
    simp only [aput] at hx
    cases he : a == y.1 with
    | true =>
      rw [he] at hx
      rcases List.mem_cons.1 hx with rfl | hx
      · exact ha
      · exact h x (List.mem_cons_of_mem _ hx)
    | false =>
      rw [he] at hx
      rcases List.mem_cons.1 hx with rfl | hx
      · exact h _ (List.mem_cons_self ..)
      · exact aput_keys ha (fun z hz => h z (List.mem_cons_of_mem _ hz)) x hx
theorem adel_sub {β : Type} {a : List UInt8} : ∀ {T : List (List UInt8 × β)}, ∀ x ∈ adel a T, x ∈ T
  | [], x, hx => by cases hx
  | y :: T, x, hx => by
    simp only [adel] at hx
    cases he : a == y.1 with
    | true => rw [he] at hx; exact List.mem_cons_of_mem _ hx
    | false =>
      rw [he] at hx
      rcases List.mem_cons.1 hx with rfl | hx
      · exact List.mem_cons_self ..
      · exact List.mem_cons_of_mem _ (adel_sub x hx)

def gotI (o : Option Int) : Value := .tuple ⟨[.int .i64 (o.getD 0), .bool o.isSome]⟩
theorem got_int (o : Option Int) : got (o.map (Value.int .i64)) (.int .i64 0) true = gotI o := by cases o <;> rfl

theorem cOwner (bt : Nat) (o : Option Nat) (T : List (List UInt8 × Int)) (k : List UInt8) (hk : okK k) (H : Heap) (ht : TabIn H bt o T) : EvP Tryz.prog 23 [ptr bt 0, nm k] H (gotI (aget k T)) := by
  refine Ev.enter Tryz.func23 rfl ent23 ?_
  refine WP.seq ?_
  refine WP.region rfl ?_
  refine WPL.nw (NS.boxA rfl) ?_
  intro b3
  refine WPL.p (PS.assign rfl) ?_
  refine WPL.p (PS.assign rfl) ?_
  refine WPL.nil ?_
  refine WP.seq ?_
  refine WP.seq ?_
  refine WP.region rfl ?_
  refine WPL.p (PS.move rfl) ?_
  refine WPL.p (PS.eqNil rfl rfl rfl rfl) ?_
  refine WPL.nil ?_
  refine WP.nope rfl ?_
  refine WP.skip ?_
  refine WP.seq ?_
  refine WP.draw 10 mixed (by kernel_rfl) rfl ?_
  refine Scr.ps (i := 0) rfl rfl rfl rfl (PS.move rfl) ?_
  refine Scr.ps (i := 1) rfl rfl rfl rfl (PS.nilCheck rfl rfl) ?_
  refine Scr.ps (i := 2) rfl rfl rfl rfl (PS.fieldAddr rfl) ?_
  refine Scr.ps (i := 3) rfl rfl rfl rfl (PS.load rfl (InR.base ht.s) rfl) ?_
  refine Scr.ps (i := 4) rfl rfl rfl rfl (PS.loadAgg rfl InR.here (View.take_whole (by simpa [okK] using hk))) ?_
  refine Scr.ps (i := 5) (v := gotI (aget k T)) rfl rfl rfl rfl ?_ ?_
  · cases o with
    | none => rw [ht.z rfl]; exact PS.mapGetNil keyLaw rfl rfl hk
    | some bm => rw [← got_int, ← aget_map]; exact PS.mapGet keyLaw rfl rfl (InR.base (ht.m bm rfl)) hk (tabT_keys ht.k)
  refine Scr.ps (i := 6) rfl rfl rfl rfl (PS.move rfl) ?_
  refine Scr.ps (i := 7) rfl rfl rfl rfl (PS.extract rfl rfl) ?_
  refine Scr.ps (i := 8) rfl rfl rfl rfl (PS.extract rfl rfl) ?_
  refine Scr.ps (i := 9) rfl rfl rfl rfl (PS.assign rfl) ?_
  refine Scr.end ?_
  refine WPL.p (PS.assign rfl) ?_
  refine WPL.nil ?_
  refine WP.seq ?_
  refine WP.region rfl ?_
  refine WPL.p (PS.move rfl) ?_
  refine WPL.p (PS.move rfl) ?_
  refine WPL.p (PS.assign rfl) ?_
  refine WPL.p (PS.assign rfl) ?_
  refine WPL.nil ?_
  refine WP.ret ?_
  refine RetQ.end (.inr rfl) (sub_all) ⟨_, (res1 (resT rfl) (res1 (resT rfl) res0)), ?_⟩
  exact ⟨rfl, rfl⟩

end Go.Proofs.YtfoakjdnopljmaaGreatDoor

set_option linter.unusedVariables false
set_option linter.unusedSimpArgs false
set_option maxRecDepth 100000
namespace Go.Proofs.YtfoakjdnopljmaaGreatDoor
open Go Go.Proofs

theorem flat_len {α β : Type} {f : α → List β} {m : Nat} : ∀ {l : List α}, (∀ x ∈ l, (f x).length = m) → (l.flatMap f).length = l.length * m
  | [], _ => by simp
  | x :: l, h => by
    have h1 := h x (List.mem_cons_self ..)
    have h2 := flat_len (l := l) fun y hy => h y (List.mem_cons_of_mem _ hy)
    simp only [List.flatMap_cons, List.length_append, List.length_cons, h1, h2, Nat.succ_mul]; omega
theorem flat_at {α β : Type} {f : α → List β} {m : Nat} {d : α} : ∀ {l : List α} {i : Nat}, (∀ x ∈ l, (f x).length = m) → i < l.length → ((l.flatMap f).drop (i * m)).take m = f (l.getD i d)
  | [], _, _, h => by simp at h
  | x :: l, 0, h, _ => by
    have h1 := h x (List.mem_cons_self ..)
    simp [List.take_left' h1]
  | x :: l, i + 1, h, hi => by
    have h1 := h x (List.mem_cons_self ..)
    have := flat_at (d := d) (l := l) (i := i) (fun y hy => h y (List.mem_cons_of_mem _ hy)) (by simpa using hi)
    rw [List.flatMap_cons, Nat.succ_mul, Nat.add_comm, ← List.drop_drop, List.drop_left' h1, this]
    simp
/-- The cells of some keys in a row. -/
def keysC (ks : List (List UInt8)) : List Value := ks.flatMap fun k => k.map u8
theorem keys_take {ks : List (List UInt8)} {e : TypeId} {N i : Nat} (hk : ∀ k ∈ ks, okK k) (h : i < ks.length) : (View.row 0 (keysC ks) e N).take (0 + (i : Int).toNat * 25) 25 = some ((ks.getD i []).map u8) := by
  have hu : ∀ x ∈ ks, (x.map u8).length = 25 := fun x hx => by simpa [okK] using hk x hx
  have hl := flat_len (f := fun k : List UInt8 => k.map u8) hu
  rw [View.take_row (by omega) (by simp only [keysC, hl]; have := Nat.mul_le_mul_right 25 (show i + 1 ≤ ks.length from h); rw [Nat.add_mul] at this; simp; omega)]
  have := flat_at (f := fun k : List UInt8 => k.map u8) (d := []) hu h
  simp only [Int.toNat_natCast, Nat.zero_add, Nat.sub_zero, keysC]
  rw [this]
theorem getD_mem {α : Type} {l : List α} {i : Nat} {d : α} (h : i < l.length) : l.getD i d ∈ l := by
  rw [List.getD_eq_getElem?_getD, List.getElem?_eq_getElem h]; exact List.getElem_mem h
theorem drop_get {α : Type} {l : List α} {i : Nat} {d : α} (h : i < l.length) : l.drop i = l.getD i d :: l.drop (i + 1) := by
  rw [List.drop_eq_getElem_cons h, List.getD_eq_getElem?_getD, List.getElem?_eq_getElem h]; rfl

theorem TabIn.up {H : Heap} {L : Locs} {bt : Nat} {o : Option Nat} {T : List (List UInt8 × Int)} (wf : Wf H L) (h : TabIn H bt o T) : TabIn (ov H L) bt o T :=
  ⟨InR.base h.s wf, fun bm ho => InR.base (h.m bm ho) wf, h.z, h.k⟩

def takeS (owner : Int) : List (List UInt8 × Int) → List (List UInt8) → Nat → List (List UInt8 × Int) × Nat × Nat
  | T, [], n => (T, n, 0)
  | T, k :: ks, n => bif rightB k then
      (match aget k T with
       | none => takeS owner (aput k owner T) ks (n + 1)
       | some o => bif o != owner then (T, n, 11) else takeS owner T ks n)
    else (T, n, 3)

theorem cTakeBad (bt : Nat) (owner : Int) (v : Value) (ho : owner < 1) (H : Heap) : EvP Tryz.prog 22 [ptr bt 0, .int .i64 owner, v] H (.tuple ⟨[num 0, num 5]⟩) := by
  refine Ev.enter Tryz.func22 rfl ent22 ?_
  refine WP.seq ?_
  refine WP.region rfl ?_
  refine WPL.p (PS.assign rfl) ?_
  refine WPL.p (PS.assign rfl) ?_
  refine WPL.nil ?_
  refine WP.seq ?_
  refine WP.block ?_
  refine WP.seq ?_
  refine WP.region rfl ?_
  refine WPL.p (PS.move rfl) ?_
  refine WPL.p (PS.eqNil rfl rfl rfl rfl) ?_
  refine WPL.p (PS.assign rfl) ?_
  refine WPL.nil ?_
  refine WP.nope rfl ?_
  refine WP.seq ?_
  refine WP.region rfl ?_
  refine WPL.p (PS.move rfl) ?_
  refine WPL.p (PS.binInt rfl rfl rfl) ?_
  refine WPL.p (PS.assign rfl) ?_
  refine WPL.nil ?_
  refine WP.ifs rfl ?_ ?_
  · intro h1
    refine WP.seq ?_
    refine WP.region rfl ?_
    refine WPL.p (PS.assign rfl) ?_
    refine WPL.p (PS.assign rfl) ?_
    refine WPL.nil ?_
    refine WP.ret ?_
    refine toB (toQ ?_)
    refine RetQ.end (.inr rfl) (sub_all) ⟨_, (res1 (resT rfl) (res1 (resT rfl) res0)), ?_⟩
    exact ⟨rfl, rfl⟩
  · intro h1
    exact absurd ho (of_decide_eq_false h1)

theorem cTakeS (bt : Nat) (o : Option Nat) (T : List (List UInt8 × Int)) (owner : Int) (ks : List (List UInt8)) (bs N cap : Nat) (hks : ∀ k ∈ ks, okK k) (hn : ks.length ≤ 1000000) (H : Heap) (ht : TabIn H bt o T) (ho : ¬ owner < 1) (bm : Nat) (hob : o = some bm) (hr : H bs = some (.row 0 (keysC ks) 30 N)) : Ev Tryz.prog 22 [ptr bt 0, .int .i64 owner, .slice (some ⟨bs, 0, none⟩) ks.length cap] H (fun v H' => v = .tuple ⟨[num (takeS owner T ks 0).2.1, num (takeS owner T ks 0).2.2]⟩ ∧ H' = setTab H bt (some bm) (takeS owner T ks 0).1) := by
  refine Ev.enter Tryz.func22 rfl ent22 ?_
  subst hob
  have hb1 : bs ≠ bt := fun e => by subst e; rw [ht.s] at hr; cases hr
  have hb2 : bs ≠ bm := fun e => by subst e; rw [ht.m _ rfl] at hr; cases hr
  have hbm : some bm = some bm ∨ H bm = none := .inl rfl
  generalize hRdef : takeS owner T ks 0 = R
  refine WP.seq ?_
  refine WP.region rfl ?_
  refine WPL.p (PS.assign rfl) ?_
  refine WPL.p (PS.assign rfl) ?_
  refine WPL.nil ?_
  refine WP.seq ?_
  refine WP.block ?_
  refine WP.seq ?_
  refine WP.region rfl ?_
  refine WPL.p (PS.move rfl) ?_
  refine WPL.p (PS.eqNil rfl rfl rfl rfl) ?_
  refine WPL.p (PS.assign rfl) ?_
  refine WPL.nil ?_
  refine WP.nope rfl ?_
  refine WP.seq ?_
  refine WP.region rfl ?_
  refine WPL.p (PS.move rfl) ?_
  refine WPL.p (PS.binInt rfl rfl rfl) ?_
  refine WPL.p (PS.assign rfl) ?_
  refine WPL.nil ?_
  refine WP.ifs rfl ?_ ?_
  · intro h1
    exact absurd (of_decide_eq_true h1) ho
  · intro h1
    refine WP.seq ?_
    refine WP.region rfl ?_
    refine WPL.p (PS.move rfl) ?_
    refine WPL.p (PS.nilCheck rfl rfl) ?_
    refine WPL.p (PS.fieldAddr rfl) ?_
    refine WPL.p (PS.load rfl (InR.base ht.s) rfl) ?_
    refine WPL.p (PS.eqNilMap rfl rfl rfl rfl) ?_
    refine WPL.p (PS.assign rfl) ?_
    refine WPL.nil ?_
    refine WP.nope rfl ?_
    refine WP.skip ?_
    refine WP.seq ?_
    refine WP.region rfl ?_
    refine WPL.p (PS.assign rfl) ?_
    refine WPL.nil ?_
    refine WP.seq ?_
    refine WP.seq ?_
    refine WP.region rfl ?_
    refine WPL.p (PS.move rfl) ?_
    refine WPL.p (PS.lenSlice rfl) ?_
    refine WPL.p (PS.move rfl) ?_
    refine WPL.nil ?_
    refine WP.block ?_
    refine WP.while (ι := Nat × List (List UInt8 × Int) × Nat) (fun i => [(0, ptr bt 0), (1, .int .i64 owner), (8, num i.2.2), (29, .slice (some ⟨bs, 0, none⟩) ks.length cap), (30, num ks.length), (31, num i.1)]) (fun i => setTab H bt (some bm) i.2.1) (fun i => [])
      (fun i => i.1 ≤ ks.length ∧ takeS owner i.2.1 (ks.drop i.1) i.2.2 = R ∧ (∀ x ∈ i.2.1, okK x.1) ∧ i.2.2 ≤ i.1) (fun i => ks.length - i.1) (0, T, 0) ⟨rfl, rfl, rfl, rfl, rfl, rfl, trivial⟩ ⟨by omega, hRdef, ht.k, by simp⟩ ht.same rfl ?_
    rintro ⟨i, Ti, n⟩ ⟨hi, hR, hT, hni⟩
    simp only at hi hR hT hni ⊢
    have hI := ht.set hbm hT
    have hrow : setTab H bt (some bm) Ti bs = some (.row 0 (keysC ks) 30 N) := by rw [setTab_other hb1 hb2]; exact hr
    refine WP.seq ?_
    refine WP.region rfl ?_
    refine WPL.p (PS.binInt rfl rfl rfl) ?_
    refine WPL.nil ?_
    refine WP.seq ?_
    refine WP.ifs rfl ?_ ?_
    · intro h3
      have q : i < ks.length := by have := of_decide_eq_true h3; omega
      have hk : okK (ks.getD i []) := hks _ (getD_mem q)
      rw [drop_get (d := []) q] at hR
      simp only [takeS] at hR
      refine WP.skip ?_
      refine WP.seq ?_
      refine WP.block ?_
      refine WP.seq ?_
      refine WP.region rfl ?_
      refine WPL.p (PS.indexAddr rfl rfl (by omega) (by omega)) ?_
      refine WPL.p (PS.loadAgg rfl (InR.base hrow) (keys_take hks q)) ?_
      refine WPL.nw NS.alloc ?_
      intro b10
      refine WPL.sA (m := 25) rfl rfl UpdR.here (by simpa [okK] using hk) (one_u8 _) (View.write_whole (by simpa [okK] using hk)) ?_
      refine WPL.nil ?_
      refine WP.seq ?_
      refine WP.seq ?_
      refine WP.region rfl ?_
      refine WPL.p (PS.loadAgg rfl InR.here (View.take_whole (by simpa [okK] using hk))) ?_
      refine WPL.cl rfl rfl (fun wf => cKeyRight _ hk _) ?_
      refine WPL.p (PS.not rfl) ?_
      refine WPL.nil ?_
      refine WP.ifs rfl ?_ ?_
      · intro h4
        have h4' : rightB (ks.getD i []) = false := by simpa using h4
        rw [h4'] at hR
        refine WP.seq ?_
        refine WP.region rfl ?_
        refine WPL.p (PS.move rfl) ?_
        refine WPL.p (PS.assign rfl) ?_
        refine WPL.p (PS.assign rfl) ?_
        refine WPL.nil ?_
        refine WP.ret ?_
        refine toQ (toB (toQ (toQ (toB (toQ ?_)))))
        refine RetQ.end (.inr rfl) (sub_all) ⟨_, (res1 (resT rfl) (res1 (resT rfl) res0)), ?_⟩
        exact ⟨by rw [← hR] <;> rfl, by rw [← hR] <;> rfl⟩
      · intro h4
        have h4' : rightB (ks.getD i []) = true := by simpa using h4
        rw [h4'] at hR; simp only [cond_true] at hR
        refine WP.skip ?_
        refine WP.seq ?_
        refine WP.region rfl ?_
        refine WPL.p (PS.move rfl) ?_
        refine WPL.p (PS.loadAgg rfl InR.here (View.take_whole (by simpa [okK] using hk))) ?_
        refine WPL.cl rfl rfl (fun wf => cOwner bt (some bm) Ti _ hk _ (hI.up wf)) ?_
        refine WPL.p (PS.move rfl) ?_
        refine WPL.p (PS.extract rfl rfl) ?_
        refine WPL.p (PS.extract rfl rfl) ?_
        refine WPL.p (PS.assign rfl) ?_
        refine WPL.p (PS.assign rfl) ?_
        refine WPL.nil ?_
        refine WP.block ?_
        refine WP.seq ?_
        refine WP.region rfl ?_
        refine WPL.p (PS.move rfl) ?_
        refine WPL.p (PS.not rfl) ?_
        refine WPL.p (PS.assign rfl) ?_
        refine WPL.nil ?_
        refine WP.ifs rfl ?_ ?_
        · intro h5
          have hg : aget (ks.getD i []) Ti = none := by
            cases hg : aget (ks.getD i []) Ti with
            | none => rfl
            | some x => rw [hg] at h5; cases h5
          rw [hg] at hR
          have hR' : takeS owner (aput (ks.getD i []) owner Ti) (ks.drop (i + 1)) (n + 1) = R := hR
          have hU : ∀ L, UpdR (setTab H bt (some bm) Ti) L bm (tabT Ti) (mapV nm (aput (ks.getD i []) (.int .i64 owner) (Ti.map fun x => (x.1, Value.int .i64 x.2)))) (setTab H bt (some bm) (aput (ks.getD i []) owner Ti)) L := by
            intro L
            rw [aput_map]
            have := UpdR.base (L := L) (V' := tabT (aput (ks.getD i []) owner Ti)) (hI.m bm rfl)
            rwa [setTab_set] at this
          refine WP.seq ?_
          refine WP.draw 6 mixed (by kernel_rfl) rfl ?_
          refine Scr.ps (i := 0) rfl rfl rfl rfl (PS.move rfl) ?_
          refine Scr.ps (i := 1) rfl rfl rfl rfl (PS.nilCheck rfl rfl) ?_
          refine Scr.ps (i := 2) rfl rfl rfl rfl (PS.fieldAddr rfl) ?_
          refine Scr.ps (i := 3) rfl rfl rfl rfl (PS.load rfl (InR.base hI.s) rfl) ?_
          refine Scr.ps (i := 4) rfl rfl rfl rfl (PS.loadAgg rfl InR.here (View.take_whole (by simpa [okK] using hk))) ?_
          refine Scr.ps (i := 5) rfl rfl rfl rfl (PS.move rfl) ?_
          refine Scr.end ?_
          refine WPL.upd rfl (GS.mapPut keyLaw rfl rfl rfl (hU _) hk (tabT_keys hT)) ?_
          refine WPL.nil ?_
          refine WP.region rfl ?_
          refine WPL.p (PS.move rfl) ?_
          refine WPL.p (PS.arith rfl rfl (.inl ⟨rfl, rfl⟩) (wrap_i64 (by omega) (by omega))) ?_
          refine WPL.p (PS.assign rfl) ?_
          refine WPL.nil ?_
          refine WP.drop (List.nil_sublist _) ?_
          refine WP.region rfl ?_
          refine WPL.p (PS.arith rfl rfl (.inl ⟨rfl, rfl⟩) (wrap_i64 (by omega) (by omega))) ?_
          refine WPL.p (PS.move rfl) ?_
          refine WPL.nil ?_
          exact ⟨(i + 1, aput (ks.getD i []) owner Ti, n + 1), by simp <;> omega, ⟨by simp <;> omega, hR', aput_keys hk hT, by simp <;> omega⟩, rfl, rfl, ⟨rfl, rfl, rfl, rfl, rfl, rfl, trivial⟩, rfl, rfl⟩
        · intro h5
          obtain ⟨x, hg⟩ : ∃ x, aget (ks.getD i []) Ti = some x := by
            cases hg : aget (ks.getD i []) Ti with
            | none => rw [hg] at h5; cases h5
            | some x => exact ⟨x, rfl⟩
          rw [hg] at hR
          refine WP.seq ?_
          refine WP.region rfl ?_
          refine WPL.p (PS.move rfl) ?_
          refine WPL.p (PS.move rfl) ?_
          refine WPL.p (PS.binInt rfl rfl rfl) ?_
          refine WPL.p (PS.assign rfl) ?_
          refine WPL.nil ?_
          refine WP.ifs rfl ?_ ?_
          · intro h6
            have h6' : (x != owner) = true := by rw [hg] at h6; exact h6
            have hR : (bif x != owner then (Ti, n, 11) else takeS owner Ti (ks.drop (i + 1)) n) = R := hR
            rw [h6'] at hR
            refine WP.seq ?_
            refine WP.region rfl ?_
            refine WPL.p (PS.move rfl) ?_
            refine WPL.p (PS.assign rfl) ?_
            refine WPL.p (PS.assign rfl) ?_
            refine WPL.nil ?_
            refine WP.ret ?_
            refine toB (toB (toQ (toQ (toB (toQ ?_)))))
            refine RetQ.end (.inr rfl) (sub_all) ⟨_, (res1 (resT rfl) (res1 (resT rfl) res0)), ?_⟩
            exact ⟨by rw [← hR] <;> rfl, by rw [← hR] <;> rfl⟩
          · intro h6
            have h6' : (x != owner) = false := by rw [hg] at h6; exact h6
            have hR : (bif x != owner then (Ti, n, 11) else takeS owner Ti (ks.drop (i + 1)) n) = R := hR
            rw [h6'] at hR
            have hR' : takeS owner Ti (ks.drop (i + 1)) n = R := hR
            refine WP.skip ?_
            refine WP.drop (List.nil_sublist _) ?_
            refine WP.region rfl ?_
            refine WPL.p (PS.arith rfl rfl (.inl ⟨rfl, rfl⟩) (wrap_i64 (by omega) (by omega))) ?_
            refine WPL.p (PS.move rfl) ?_
            refine WPL.nil ?_
            exact ⟨(i + 1, Ti, n), by simp <;> omega, ⟨by simp <;> omega, hR', hT, by simp <;> omega⟩, rfl, rfl, ⟨rfl, rfl, rfl, rfl, rfl, rfl, trivial⟩, rfl, rfl⟩
    · intro h3
      have q : i = ks.length := by have := of_decide_eq_false h3; omega
      rw [q, List.drop_length] at hR
      simp only [takeS] at hR
      refine WP.exit ?_
      refine WP.seq ?_
      refine WP.region rfl ?_
      refine WPL.p (PS.move rfl) ?_
      refine WPL.p (PS.assign rfl) ?_
      refine WPL.p (PS.assign rfl) ?_
      refine WPL.nil ?_
      refine WP.ret ?_
      refine RetQ.end (.inr rfl) (sub_all) ⟨_, (res1 (resT rfl) (res1 (resT rfl) res0)), ?_⟩
      exact ⟨by rw [← hR] <;> rfl, by rw [← hR] <;> rfl⟩

theorem cTakeN (bt : Nat) (o : Option Nat) (T : List (List UInt8 × Int)) (owner : Int) (ks : List (List UInt8)) (bs N cap : Nat) (hks : ∀ k ∈ ks, okK k) (hn : ks.length ≤ 1000000) (H : Heap) (ht : TabIn H bt o T) (ho : ¬ owner < 1) (hob : o = none) (hr : H bs = some (.row 0 (keysC ks) 30 N)) : Ev Tryz.prog 22 [ptr bt 0, .int .i64 owner, .slice (some ⟨bs, 0, none⟩) ks.length cap] H (fun v H' => ∃ bm, H bm = none ∧ v = .tuple ⟨[num (takeS owner T ks 0).2.1, num (takeS owner T ks 0).2.2]⟩ ∧ H' = setTab H bt (some bm) (takeS owner T ks 0).1) := by
  refine Ev.enter Tryz.func22 rfl ent22 ?_
  subst hob
  have hb1 : bs ≠ bt := fun e => by subst e; rw [ht.s] at hr; cases hr
  generalize hRdef : takeS owner T ks 0 = R
  refine WP.seq ?_
  refine WP.region rfl ?_
  refine WPL.p (PS.assign rfl) ?_
  refine WPL.p (PS.assign rfl) ?_
  refine WPL.nil ?_
  refine WP.seq ?_
  refine WP.block ?_
  refine WP.seq ?_
  refine WP.region rfl ?_
  refine WPL.p (PS.move rfl) ?_
  refine WPL.p (PS.eqNil rfl rfl rfl rfl) ?_
  refine WPL.p (PS.assign rfl) ?_
  refine WPL.nil ?_
  refine WP.nope rfl ?_
  refine WP.seq ?_
  refine WP.region rfl ?_
  refine WPL.p (PS.move rfl) ?_
  refine WPL.p (PS.binInt rfl rfl rfl) ?_
  refine WPL.p (PS.assign rfl) ?_
  refine WPL.nil ?_
  refine WP.ifs rfl ?_ ?_
  · intro h1
    exact absurd (of_decide_eq_true h1) ho
  · intro h1
    refine WP.seq ?_
    refine WP.region rfl ?_
    refine WPL.p (PS.move rfl) ?_
    refine WPL.p (PS.nilCheck rfl rfl) ?_
    refine WPL.p (PS.fieldAddr rfl) ?_
    refine WPL.p (PS.load rfl (InR.base ht.s) rfl) ?_
    refine WPL.p (PS.eqNilMap rfl rfl rfl rfl) ?_
    refine WPL.p (PS.assign rfl) ?_
    refine WPL.nil ?_
    refine WP.yes rfl ?_
    refine WP.region rfl ?_
    refine WPL.p (PS.move rfl) ?_
    refine WPL.nw NS.makeMap ?_
    intro b26
    refine WPL.p (PS.nilCheck rfl rfl) ?_
    refine WPL.p (PS.fieldAddr rfl) ?_
    refine WPL.s rfl rfl (UpdR.there (UpdR.base ht.s)) rfl rfl rfl ?_
    refine WPL.nil ?_
    refine WP.seq ?_
    refine WP.absorb (fun hf => ?_)
    generalize b26 = bm at hf ⊢
    have hH : H bm = none := by
      simp only [Heap.set] at hf; split at hf
      · cases hf
      · exact hf
    have hb2 : bs ≠ bm := fun e => by subst e; rw [hr] at hH; cases hH
    have hbm : (none : Option Nat) = some bm ∨ H bm = none := .inr hH
    have hT0 : T = [] := ht.z rfl
    refine WP.region rfl ?_
    refine WPL.p (PS.assign rfl) ?_
    refine WPL.nil ?_
    refine WP.seq ?_
    refine WP.seq ?_
    refine WP.region rfl ?_
    refine WPL.p (PS.move rfl) ?_
    refine WPL.p (PS.lenSlice rfl) ?_
    refine WPL.p (PS.move rfl) ?_
    refine WPL.nil ?_
    refine WP.block ?_
    refine WP.while (ι := Nat × List (List UInt8 × Int) × Nat) (fun i => [(0, ptr bt 0), (1, .int .i64 owner), (8, num i.2.2), (29, .slice (some ⟨bs, 0, none⟩) ks.length cap), (30, num ks.length), (31, num i.1)]) (fun i => setTab H bt (some bm) i.2.1) (fun i => [])
      (fun i => i.1 ≤ ks.length ∧ takeS owner i.2.1 (ks.drop i.1) i.2.2 = R ∧ (∀ x ∈ i.2.1, okK x.1) ∧ i.2.2 ≤ i.1) (fun i => ks.length - i.1) (0, T, 0) ⟨rfl, rfl, rfl, rfl, rfl, rfl, trivial⟩ ⟨by omega, hRdef, ht.k, by simp⟩ (by rw [hT0]; rfl) rfl ?_
    rintro ⟨i, Ti, n⟩ ⟨hi, hR, hT, hni⟩
    simp only at hi hR hT hni ⊢
    have hI := ht.set hbm hT
    have hrow : setTab H bt (some bm) Ti bs = some (.row 0 (keysC ks) 30 N) := by rw [setTab_other hb1 hb2]; exact hr
    refine WP.seq ?_
    refine WP.region rfl ?_
    refine WPL.p (PS.binInt rfl rfl rfl) ?_
    refine WPL.nil ?_
    refine WP.seq ?_
    refine WP.ifs rfl ?_ ?_
    · intro h3
      have q : i < ks.length := by have := of_decide_eq_true h3; omega
      have hk : okK (ks.getD i []) := hks _ (getD_mem q)
      rw [drop_get (d := []) q] at hR
      simp only [takeS] at hR
      refine WP.skip ?_
      refine WP.seq ?_
      refine WP.block ?_
      refine WP.seq ?_
      refine WP.region rfl ?_
      refine WPL.p (PS.indexAddr rfl rfl (by omega) (by omega)) ?_
      refine WPL.p (PS.loadAgg rfl (InR.base hrow) (keys_take hks q)) ?_
      refine WPL.nw NS.alloc ?_
      intro b10
      refine WPL.sA (m := 25) rfl rfl UpdR.here (by simpa [okK] using hk) (one_u8 _) (View.write_whole (by simpa [okK] using hk)) ?_
      refine WPL.nil ?_
      refine WP.seq ?_
      refine WP.seq ?_
      refine WP.region rfl ?_
      refine WPL.p (PS.loadAgg rfl InR.here (View.take_whole (by simpa [okK] using hk))) ?_
      refine WPL.cl rfl rfl (fun wf => cKeyRight _ hk _) ?_
      refine WPL.p (PS.not rfl) ?_
      refine WPL.nil ?_
      refine WP.ifs rfl ?_ ?_
      · intro h4
        have h4' : rightB (ks.getD i []) = false := by simpa using h4
        rw [h4'] at hR
        refine WP.seq ?_
        refine WP.region rfl ?_
        refine WPL.p (PS.move rfl) ?_
        refine WPL.p (PS.assign rfl) ?_
        refine WPL.p (PS.assign rfl) ?_
        refine WPL.nil ?_
        refine WP.ret ?_
        refine toQ (toB (toQ (toQ (toB (toQ ?_)))))
        refine RetQ.end (.inr rfl) (sub_all) ⟨_, (res1 (resT rfl) (res1 (resT rfl) res0)), ?_⟩
        exact ⟨bm, hH, by rw [← hR] <;> rfl, by rw [← hR] <;> rfl⟩
      · intro h4
        have h4' : rightB (ks.getD i []) = true := by simpa using h4
        rw [h4'] at hR; simp only [cond_true] at hR
        refine WP.skip ?_
        refine WP.seq ?_
        refine WP.region rfl ?_
        refine WPL.p (PS.move rfl) ?_
        refine WPL.p (PS.loadAgg rfl InR.here (View.take_whole (by simpa [okK] using hk))) ?_
        refine WPL.cl rfl rfl (fun wf => cOwner bt (some bm) Ti _ hk _ (hI.up wf)) ?_
        refine WPL.p (PS.move rfl) ?_
        refine WPL.p (PS.extract rfl rfl) ?_
        refine WPL.p (PS.extract rfl rfl) ?_
        refine WPL.p (PS.assign rfl) ?_
        refine WPL.p (PS.assign rfl) ?_
        refine WPL.nil ?_
        refine WP.block ?_
        refine WP.seq ?_
        refine WP.region rfl ?_
        refine WPL.p (PS.move rfl) ?_
        refine WPL.p (PS.not rfl) ?_
        refine WPL.p (PS.assign rfl) ?_
        refine WPL.nil ?_
        refine WP.ifs rfl ?_ ?_
        · intro h5
          have hg : aget (ks.getD i []) Ti = none := by
            cases hg : aget (ks.getD i []) Ti with
            | none => rfl
            | some x => rw [hg] at h5; cases h5
          rw [hg] at hR
          have hR' : takeS owner (aput (ks.getD i []) owner Ti) (ks.drop (i + 1)) (n + 1) = R := hR
          have hU : ∀ L, UpdR (setTab H bt (some bm) Ti) L bm (tabT Ti) (mapV nm (aput (ks.getD i []) (.int .i64 owner) (Ti.map fun x => (x.1, Value.int .i64 x.2)))) (setTab H bt (some bm) (aput (ks.getD i []) owner Ti)) L := by
            intro L
            rw [aput_map]
            have := UpdR.base (L := L) (V' := tabT (aput (ks.getD i []) owner Ti)) (hI.m bm rfl)
            rwa [setTab_set] at this
          refine WP.seq ?_
          refine WP.draw 6 mixed (by kernel_rfl) rfl ?_
          refine Scr.ps (i := 0) rfl rfl rfl rfl (PS.move rfl) ?_
          refine Scr.ps (i := 1) rfl rfl rfl rfl (PS.nilCheck rfl rfl) ?_
          refine Scr.ps (i := 2) rfl rfl rfl rfl (PS.fieldAddr rfl) ?_
          refine Scr.ps (i := 3) rfl rfl rfl rfl (PS.load rfl (InR.base hI.s) rfl) ?_
          refine Scr.ps (i := 4) rfl rfl rfl rfl (PS.loadAgg rfl InR.here (View.take_whole (by simpa [okK] using hk))) ?_
          refine Scr.ps (i := 5) rfl rfl rfl rfl (PS.move rfl) ?_
          refine Scr.end ?_
          refine WPL.upd rfl (GS.mapPut keyLaw rfl rfl rfl (hU _) hk (tabT_keys hT)) ?_
          refine WPL.nil ?_
          refine WP.region rfl ?_
          refine WPL.p (PS.move rfl) ?_
          refine WPL.p (PS.arith rfl rfl (.inl ⟨rfl, rfl⟩) (wrap_i64 (by omega) (by omega))) ?_
          refine WPL.p (PS.assign rfl) ?_
          refine WPL.nil ?_
          refine WP.drop (List.nil_sublist _) ?_
          refine WP.region rfl ?_
          refine WPL.p (PS.arith rfl rfl (.inl ⟨rfl, rfl⟩) (wrap_i64 (by omega) (by omega))) ?_
          refine WPL.p (PS.move rfl) ?_
          refine WPL.nil ?_
          exact ⟨(i + 1, aput (ks.getD i []) owner Ti, n + 1), by simp <;> omega, ⟨by simp <;> omega, hR', aput_keys hk hT, by simp <;> omega⟩, rfl, rfl, ⟨rfl, rfl, rfl, rfl, rfl, rfl, trivial⟩, rfl, rfl⟩
        · intro h5
          obtain ⟨x, hg⟩ : ∃ x, aget (ks.getD i []) Ti = some x := by
            cases hg : aget (ks.getD i []) Ti with
            | none => rw [hg] at h5; cases h5
            | some x => exact ⟨x, rfl⟩
          rw [hg] at hR
          refine WP.seq ?_
          refine WP.region rfl ?_
          refine WPL.p (PS.move rfl) ?_
          refine WPL.p (PS.move rfl) ?_
          refine WPL.p (PS.binInt rfl rfl rfl) ?_
          refine WPL.p (PS.assign rfl) ?_
          refine WPL.nil ?_
          refine WP.ifs rfl ?_ ?_
          · intro h6
            have h6' : (x != owner) = true := by rw [hg] at h6; exact h6
            have hR : (bif x != owner then (Ti, n, 11) else takeS owner Ti (ks.drop (i + 1)) n) = R := hR
            rw [h6'] at hR
            refine WP.seq ?_
            refine WP.region rfl ?_
            refine WPL.p (PS.move rfl) ?_
            refine WPL.p (PS.assign rfl) ?_
            refine WPL.p (PS.assign rfl) ?_
            refine WPL.nil ?_
            refine WP.ret ?_
            refine toB (toB (toQ (toQ (toB (toQ ?_)))))
            refine RetQ.end (.inr rfl) (sub_all) ⟨_, (res1 (resT rfl) (res1 (resT rfl) res0)), ?_⟩
            exact ⟨bm, hH, by rw [← hR] <;> rfl, by rw [← hR] <;> rfl⟩
          · intro h6
            have h6' : (x != owner) = false := by rw [hg] at h6; exact h6
            have hR : (bif x != owner then (Ti, n, 11) else takeS owner Ti (ks.drop (i + 1)) n) = R := hR
            rw [h6'] at hR
            have hR' : takeS owner Ti (ks.drop (i + 1)) n = R := hR
            refine WP.skip ?_
            refine WP.drop (List.nil_sublist _) ?_
            refine WP.region rfl ?_
            refine WPL.p (PS.arith rfl rfl (.inl ⟨rfl, rfl⟩) (wrap_i64 (by omega) (by omega))) ?_
            refine WPL.p (PS.move rfl) ?_
            refine WPL.nil ?_
            exact ⟨(i + 1, Ti, n), by simp <;> omega, ⟨by simp <;> omega, hR', hT, by simp <;> omega⟩, rfl, rfl, ⟨rfl, rfl, rfl, rfl, rfl, rfl, trivial⟩, rfl, rfl⟩
    · intro h3
      have q : i = ks.length := by have := of_decide_eq_false h3; omega
      rw [q, List.drop_length] at hR
      simp only [takeS] at hR
      refine WP.exit ?_
      refine WP.seq ?_
      refine WP.region rfl ?_
      refine WPL.p (PS.move rfl) ?_
      refine WPL.p (PS.assign rfl) ?_
      refine WPL.p (PS.assign rfl) ?_
      refine WPL.nil ?_
      refine WP.ret ?_
      refine RetQ.end (.inr rfl) (sub_all) ⟨_, (res1 (resT rfl) (res1 (resT rfl) res0)), ?_⟩
      exact ⟨bm, hH, by rw [← hR] <;> rfl, by rw [← hR] <;> rfl⟩

end Go.Proofs.YtfoakjdnopljmaaGreatDoor

set_option linter.unusedVariables false
set_option linter.unusedSimpArgs false
set_option maxRecDepth 100000
namespace Go.Proofs.YtfoakjdnopljmaaGreatDoor
open Go Go.Proofs

def dropS (owner : Int) : List (List UInt8 × Int) → List (List UInt8) → Nat → List (List UInt8 × Int) × Nat
  | T, [], n => (T, n)
  | T, k :: ks, n => bif aget k T == some owner then dropS owner (adel k T) ks (n + 1) else dropS owner T ks n
theorem TabIn.set2 {H : Heap} {bt : Nat} {o : Option Nat} {T T' : List (List UInt8 × Int)} (h : TabIn H bt o T) (hk : ∀ x ∈ T', okK x.1) (hz : o = none → T' = []) : TabIn (setTab H bt o T') bt o T' := by
  cases o with
  | none => exact ⟨h.s, (fun bm e => by cases e), hz, hk⟩
  | some bm => exact h.set (.inl rfl) hk
theorem TabIn.row {H : Heap} {bt bs : Nat} {o : Option Nat} {T T' : List (List UInt8 × Int)} {cs : List Value} {N : Nat} {e : TypeId} (h : TabIn H bt o T) (hr : H bs = some (.row 0 cs e N)) : setTab H bt o T' bs = some (.row 0 cs e N) := by
  have hb1 : bs ≠ bt := fun e => by subst e; rw [h.s] at hr; cases hr
  cases o with
  | none => exact hr
  | some bm =>
    have hb2 : bs ≠ bm := fun e => by subst e; rw [h.m _ rfl] at hr; cases hr
    rw [setTab_other hb1 hb2]; exact hr
theorem own_eq (g : Option Int) (owner : Int) : (g.isSome && (g.getD 0 == owner)) = (g == some owner) := by cases g <;> rfl

theorem cDrop (bt : Nat) (o : Option Nat) (T : List (List UInt8 × Int)) (owner : Int) (ks : List (List UInt8)) (bs N cap : Nat) (hks : ∀ k ∈ ks, okK k) (hn : ks.length ≤ 1000000) (H : Heap) (ht : TabIn H bt o T) (hr : H bs = some (.row 0 (keysC ks) 30 N)) : Ev Tryz.prog 21 [ptr bt 0, .int .i64 owner, .slice (some ⟨bs, 0, none⟩) ks.length cap] H (fun v H' => v = num (dropS owner T ks 0).2 ∧ H' = setTab H bt o (dropS owner T ks 0).1) := by
  refine Ev.enter Tryz.func21 rfl ent21 ?_
  generalize hRdef : dropS owner T ks 0 = R
  refine WP.seq ?_
  refine WP.region rfl ?_
  refine WPL.p (PS.assign rfl) ?_
  refine WPL.nil ?_
  refine WP.seq ?_
  refine WP.region rfl ?_
  refine WPL.p (PS.assign rfl) ?_
  refine WPL.nil ?_
  refine WP.seq ?_
  refine WP.seq ?_
  refine WP.region rfl ?_
  refine WPL.p (PS.move rfl) ?_
  refine WPL.p (PS.lenSlice rfl) ?_
  refine WPL.p (PS.move rfl) ?_
  refine WPL.nil ?_
  refine WP.block ?_
  refine WP.while (ι := Nat × List (List UInt8 × Int) × Nat) (fun i => [(0, ptr bt 0), (1, .int .i64 owner), (7, num i.2.2), (12, .slice (some ⟨bs, 0, none⟩) ks.length cap), (13, num ks.length), (14, num i.1)]) (fun i => setTab H bt o i.2.1) (fun i => [])
    (fun i => i.1 ≤ ks.length ∧ dropS owner i.2.1 (ks.drop i.1) i.2.2 = R ∧ (∀ x ∈ i.2.1, okK x.1) ∧ i.2.2 ≤ i.1 ∧ (o = none → i.2.1 = [])) (fun i => ks.length - i.1) (0, T, 0) ⟨rfl, rfl, rfl, rfl, rfl, rfl, trivial⟩ ⟨by omega, hRdef, ht.k, by simp, ht.z⟩ ht.same rfl ?_
  rintro ⟨i, Ti, n⟩ ⟨hi, hR, hT, hni, hz⟩
  simp only at hi hR hT hni hz ⊢
  have hI := ht.set2 hT hz
  have hrow := ht.row (T' := Ti) hr
  refine WP.seq ?_
  refine WP.region rfl ?_
  refine WPL.p (PS.binInt rfl rfl rfl) ?_
  refine WPL.nil ?_
  refine WP.seq ?_
  refine WP.ifs rfl ?_ ?_
  · intro h0
    have q : i < ks.length := by have := of_decide_eq_true h0; omega
    have hk : okK (ks.getD i []) := hks _ (getD_mem q)
    rw [drop_get (d := []) q] at hR
    simp only [dropS] at hR
    refine WP.skip ?_
    refine WP.seq ?_
    refine WP.block ?_
    refine WP.seq ?_
    refine WP.region rfl ?_
    refine WPL.p (PS.indexAddr rfl rfl (by omega) (by omega)) ?_
    refine WPL.p (PS.loadAgg rfl (InR.base hrow) (keys_take hks q)) ?_
    refine WPL.nw NS.alloc ?_
    intro b9
    refine WPL.sA (m := 25) rfl rfl UpdR.here (by simpa [okK] using hk) (one_u8 _) (View.write_whole (by simpa [okK] using hk)) ?_
    refine WPL.nil ?_
    refine WP.seq ?_
    refine WP.region rfl ?_
    refine WPL.p (PS.move rfl) ?_
    refine WPL.p (PS.loadAgg rfl InR.here (View.take_whole (by simpa [okK] using hk))) ?_
    refine WPL.cl rfl rfl (fun wf => cOwner bt o Ti _ hk _ (hI.up wf)) ?_
    refine WPL.p (PS.move rfl) ?_
    refine WPL.p (PS.extract rfl rfl) ?_
    refine WPL.p (PS.extract rfl rfl) ?_
    refine WPL.p (PS.assign rfl) ?_
    refine WPL.p (PS.assign rfl) ?_
    refine WPL.nil ?_
    refine WP.seq ?_
    refine WP.region rfl ?_
    refine WPL.p (PS.move rfl) ?_
    refine WPL.p (PS.move rfl) ?_
    refine WPL.c (Wants.yes rfl rfl rfl) (fun hb => (PS.move rfl)) ?_
    refine WPL.c (Wants.yes rfl rfl rfl) (fun hb => (PS.move rfl)) ?_
    refine WPL.c (Wants.yes rfl rfl rfl) (fun hb => (PS.binInt (gt hb rfl) (gt hb rfl) rfl)) ?_
    refine WPL.p (PS.pickAnd rfl (fun hc => gt hc rfl) rfl) ?_
    refine WPL.nil ?_
    refine WP.ifs rfl ?_ ?_
    · intro h1
      have h1 : ((aget (ks.getD i []) Ti).isSome && ((aget (ks.getD i []) Ti).getD 0 == owner)) = true := h1
      rw [own_eq] at h1
      rw [h1] at hR
      obtain ⟨bm, rfl⟩ : ∃ bm, o = some bm := by
        cases o with
        | some bm => exact ⟨bm, rfl⟩
        | none => rw [hz rfl] at h1; cases h1
      have hR' : dropS owner (adel (ks.getD i []) Ti) (ks.drop (i + 1)) (n + 1) = R := hR
      have hU : ∀ L, UpdR (setTab H bt (some bm) Ti) L bm (tabT Ti) (mapV nm (adel (ks.getD i []) (Ti.map fun x => (x.1, Value.int .i64 x.2)))) (setTab H bt (some bm) (adel (ks.getD i []) Ti)) L := by
        intro L
        rw [adel_map]
        have := UpdR.base (L := L) (V' := tabT (adel (ks.getD i []) Ti)) (hI.m bm rfl)
        rwa [setTab_set] at this
      refine WP.seq ?_
      refine WP.drawK 6 mixed (by kernel_rfl) rfl ?_
      refine ScrK.keep2 (G0 := (setTab H bt (some bm) Ti).del bm) (L0 := [(b9, .cells ((ks.getD i []).map u8) 30)]) (fun _ => sub_del) ?_
      refine ScrK.psK2 (fun wf => wf_del wf) (i := 0) rfl rfl rfl rfl (PS.move rfl) ?_
      refine ScrK.psK2 (fun wf => wf_del wf) (i := 1) rfl rfl rfl rfl (PS.nilCheck rfl rfl) ?_
      refine ScrK.psK2 (fun wf => wf_del wf) (i := 2) rfl rfl rfl rfl (PS.fieldAddr rfl) ?_
      refine ScrK.psK2 (fun wf => wf_del wf) (i := 3) rfl rfl rfl rfl (PS.load rfl (InR.base (by rw [Heap.del_ne (Ne.symm (hI.ne (.inl rfl)))]; exact hI.s)) rfl) ?_
      refine ScrK.psK2 (fun wf => wf_del wf) (i := 4) rfl rfl rfl rfl (PS.loadAgg rfl InR.here (View.take_whole (by simpa [okK] using hk))) ?_
      refine ScrK.updK2 (i := 5) rfl rfl rfl rfl (GS.mapDel keyLaw rfl rfl (hU _) hk (tabT_keys hT)) late0 (fun _ _ => by have := fun L => sub_del_set (G := setTab H bt (some bm) Ti) (b := bm) (V := tabT (adel (ks.getD i []) Ti)) (L := L); simp only [setTab_set] at this; exact this _) ?_
      refine ScrK.end ?_
      refine WPL.nil ?_
      refine WP.region rfl ?_
      refine WPL.p (PS.move rfl) ?_
      refine WPL.p (PS.arith rfl rfl (.inl ⟨rfl, rfl⟩) (wrap_i64 (by omega) (by omega))) ?_
      refine WPL.p (PS.assign rfl) ?_
      refine WPL.nil ?_
      refine WP.drop (List.nil_sublist _) ?_
      refine WP.region rfl ?_
      refine WPL.p (PS.arith rfl rfl (.inl ⟨rfl, rfl⟩) (wrap_i64 (by omega) (by omega))) ?_
      refine WPL.p (PS.move rfl) ?_
      refine WPL.nil ?_
      exact ⟨(i + 1, adel (ks.getD i []) Ti, n + 1), by simp <;> omega, ⟨by simp <;> omega, hR', fun x hx => hT x (adel_sub x hx), by simp <;> omega, fun e => by cases e⟩, rfl, rfl, ⟨rfl, rfl, rfl, rfl, rfl, rfl, trivial⟩, rfl, rfl⟩
    · intro h1
      have h1 : ((aget (ks.getD i []) Ti).isSome && ((aget (ks.getD i []) Ti).getD 0 == owner)) = false := h1
      rw [own_eq] at h1
      rw [h1] at hR
      have hR' : dropS owner Ti (ks.drop (i + 1)) n = R := hR
      refine WP.skip ?_
      refine WP.drop (List.nil_sublist _) ?_
      refine WP.region rfl ?_
      refine WPL.p (PS.arith rfl rfl (.inl ⟨rfl, rfl⟩) (wrap_i64 (by omega) (by omega))) ?_
      refine WPL.p (PS.move rfl) ?_
      refine WPL.nil ?_
      exact ⟨(i + 1, Ti, n), by simp <;> omega, ⟨by simp <;> omega, hR', hT, by simp <;> omega, hz⟩, rfl, rfl, ⟨rfl, rfl, rfl, rfl, rfl, rfl, trivial⟩, rfl, rfl⟩
  · intro h0
    have q : i = ks.length := by have := of_decide_eq_false h0; omega
    rw [q, List.drop_length] at hR
    simp only [dropS] at hR
    refine WP.exit ?_
    refine WP.seq ?_
    refine WP.region rfl ?_
    refine WPL.p (PS.move rfl) ?_
    refine WPL.p (PS.assign rfl) ?_
    refine WPL.nil ?_
    refine WP.ret ?_
    refine RetQ.end (.inr rfl) (sub_all) ⟨_, (res1 (resT rfl) res0), ?_⟩
    exact ⟨by rw [← hR] <;> rfl, by rw [← hR] <;> rfl⟩

theorem cLen (bt : Nat) (o : Option Nat) (T : List (List UInt8 × Int)) (H : Heap) (ht : TabIn H bt o T) : EvP Tryz.prog 29 [ptr bt 0] H (num T.length) := by
  refine Ev.enter Tryz.func29 rfl ent29 ?_
  refine WP.seq ?_
  refine WP.region rfl ?_
  refine WPL.p (PS.assign rfl) ?_
  refine WPL.nil ?_
  refine WP.seq ?_
  refine WP.seq ?_
  refine WP.region rfl ?_
  refine WPL.p (PS.move rfl) ?_
  refine WPL.p (PS.eqNil rfl rfl rfl rfl) ?_
  refine WPL.nil ?_
  refine WP.nope rfl ?_
  refine WP.skip ?_
  refine WP.seq ?_
  refine WP.region rfl ?_
  refine WPL.p (PS.move rfl) ?_
  refine WPL.p (PS.nilCheck rfl rfl) ?_
  refine WPL.p (PS.fieldAddr rfl) ?_
  refine WPL.p (PS.load rfl (InR.base ht.s) rfl) ?_
  refine WPL.p (v := num T.length) ?_ ?_
  · cases o with
    | none => rw [ht.z rfl]; exact PS.lenMapNil rfl
    | some bm =>
      have e : T.length = ((T.map fun x => (x.1, Value.int .i64 x.2)).map fun x => (nm x.1, x.2)).length := by simp
      rw [e]
      exact PS.lenMap rfl (InR.base (ht.m bm rfl))
  refine WPL.p (PS.assign rfl) ?_
  refine WPL.nil ?_
  refine WP.ret ?_
  refine RetQ.end (.inr rfl) (sub_all) ⟨_, (res1 (resT rfl) res0), ?_⟩
  exact ⟨rfl, rfl⟩

end Go.Proofs.YtfoakjdnopljmaaGreatDoor

set_option linter.unusedVariables false
set_option linter.unusedSimpArgs false
set_option maxRecDepth 100000
namespace Go.Proofs.YtfoakjdnopljmaaGreatDoor
open Go Go.Proofs

/-! ### Keys in their order -/
theorem ltB_trans : ∀ {x y z : List UInt8}, x.length = y.length → y.length = z.length → ltB x y = true → ltB y z = true → ltB x z = true
  | [], _, _, _, _, h, _ => by simp [ltB] at h
  | a :: x, [], _, h, _, _, _ => by simp at h
  | a :: x, b :: y, [], _, h, _, _ => by simp at h
  | a :: x, b :: y, c :: z, h1, h2, h3, h4 => by
    simp only [List.length_cons, Nat.add_right_cancel_iff] at h1 h2
    simp only [ltB] at h3 h4 ⊢
    cases e1 : a == b <;> cases e2 : b == c <;> rw [e1] at h3 <;> rw [e2] at h4
    · simp only [cond_false, decide_eq_true_eq] at h3 h4
      have : (a == c) = false := by
        cases e : a == c with
        | false => rfl
        | true => have := eq_of_beq e; subst this; omega
      rw [this]; simp only [cond_false, decide_eq_true_eq]; omega
    · have := eq_of_beq e2; subst this; rw [e1]; exact h3
    · have := eq_of_beq e1; subst this; rw [e2]; exact h4
    · have := eq_of_beq e1; subst this; rw [e2]; exact ltB_trans h1 h2 h3 h4
theorem ltB_total : ∀ {x y : List UInt8}, x.length = y.length → ltB x y = false → ltB y x = false → x = y
  | [], [], _, _, _ => rfl
  | [], _ :: _, h, _, _ => by simp at h
  | _ :: _, [], h, _, _ => by simp at h
  | a :: x, b :: y, h, h1, h2 => by
    simp only [List.length_cons, Nat.add_right_cancel_iff] at h
    simp only [ltB] at h1 h2
    cases e : a == b with
    | true =>
      have := eq_of_beq e; subst this
      rw [e] at h1 h2
      rw [ltB_total h h1 h2]
    | false =>
      have e' : (b == a) = false := by
        cases e' : b == a with
        | false => rfl
        | true => rw [eq_of_beq e'] at e; simp at e
      rw [e] at h1; rw [e'] at h2
      simp only [cond_false, decide_eq_false_iff_not] at h1 h2
      have : a = b := UInt8.toNat_inj.1 (by omega)
      rw [this] at e; simp at e
abbrev K25 := { b : List UInt8 // b.length = 25 }
instance : Inhabited K25 := ⟨⟨List.replicate 25 0, rfl⟩⟩
def cmpB (x y : K25) : Int := bif ltB x.1 y.1 then -1 else 1
theorem cmpB_lt (x y : K25) : Go.Proofs.ltOf cmpB x y = ltB x.1 y.1 := by
  unfold Go.Proofs.ltOf cmpB; cases ltB x.1 y.1 <;> rfl
theorem swoB : Go.Sort.SWO (Go.Proofs.ltOf cmpB) where
  irrefl x := by rw [cmpB_lt]; exact ltB_same _
  trans x y z h1 h2 := by rw [cmpB_lt] at *; exact ltB_trans (by rw [x.2, y.2]) (by rw [y.2, z.2]) h1 h2
  ntrans x y z h1 h2 := by
    rw [cmpB_lt] at *
    cases h : ltB x.1 z.1 with
    | false => rfl
    | true =>
      cases h3 : ltB y.1 x.1 with
      | false => rw [ltB_total (by rw [x.2, y.2]) h1 h3] at h; rw [h] at h2; cases h2
      | true => rw [ltB_trans (by rw [y.2, x.2]) (by rw [x.2, z.2]) h3 h] at h2; cases h2
theorem keysC_k25 (l : List K25) : (l.flatMap fun x => x.1.map u8) = keysC (l.map (·.1)) := by simp [keysC, List.flatMap_map]
theorem k25_of : ∀ {ks : List (List UInt8)}, (∀ k ∈ ks, okK k) → ∃ l : List K25, l.map (·.1) = ks
  | [], _ => ⟨[], rfl⟩
  | k :: ks, h => by
    obtain ⟨l, hl⟩ := k25_of (ks := ks) fun x hx => h x (List.mem_cons_of_mem _ hx)
    exact ⟨⟨k, h k (List.mem_cons_self ..)⟩ :: l, by simp [hl]⟩
theorem keysC_snoc (ks : List (List UInt8)) (k : List UInt8) : keysC (ks ++ [k]) = keysC ks ++ k.map u8 := by simp [keysC]
theorem fill_one {n : Nat} {cs z : List Value} (h : cs.length = n) (hz : z.length = n) : fillL ((List.range 1).map fun i => (i * n, n)) z [(0, .agg ⟨cs⟩)] = some cs := by
  show (if (Value.agg ⟨cs⟩).cells.size = n ∧ 0 * n + n ≤ z.length then fillL _ (wr z (0 * n) (Value.agg ⟨cs⟩).cells.toList) [] else none) = _
  rw [if_pos ⟨h, by omega⟩, Nat.zero_mul]
  show some (wr z 0 cs) = some cs
  rw [wr_split cs z 0 (by omega)]
  simp [h, hz]

theorem key_row1 {k : List UInt8} {e : TypeId} {N : Nat} (hk : okK k) : (View.row 0 (k.map u8) e N).take 0 (1 * 25) = some (k.map u8) := by
  have hl : (k.map u8).length = 25 := by simpa [okK] using hk
  rw [View.take_row (Nat.le_refl _) (by omega)]
  simp only [Nat.sub_self, List.drop_zero, Nat.one_mul]
  rw [List.take_of_length_le (by omega)]
theorem u8_mapInj {a b : List UInt8} (h : a.map u8 = b.map u8) : a = b := by
  have := cellsEq_u8 a b
  rw [h, cellsEq_u8 b b] at this
  simp at this; exact this
def tabE (x : List UInt8 × Int) : Value × Value := (nm x.1, .int .i64 x.2)
theorem tabE_inj {x y : List UInt8 × Int} (h : tabE x = tabE y) : x = y := by
  simp only [tabE, Prod.mk.injEq, Value.agg.injEq, Value.int.injEq, true_and] at h
  exact Prod.ext (u8_mapInj (congrArg Array.toList h.1)) h.2
theorem map_inj {α β : Type} {f : α → β} (hf : ∀ x y, f x = f y → x = y) : ∀ {l l' : List α}, l.map f = l'.map f → l = l'
  | [], [], _ => rfl
  | [], _ :: _, h => by simp at h
  | _ :: _, [], h => by simp at h
  | x :: l, y :: l', h => by
    simp only [List.map_cons, List.cons.injEq] at h
    rw [hf x y h.1, map_inj hf h.2]
theorem tabT_es (T : List (List UInt8 × Int)) : ((T.map fun x => (x.1, Value.int .i64 x.2)).map fun x => (nm x.1, x.2)) = T.map tabE := by simp [tabE, Function.comp_def]
/-- The entries that have been handed out are these. -/
def Gone (D : List MapEntry) (TD : List (List UInt8 × Int)) : Prop := D.map (fun e => (e.key, e.val)) = TD.map tabE
theorem Gone.perm {T : List (List UInt8 × Int)} {en : Array MapEntry} {ck : Nat} {D : List MapEntry} {TD : List (List UInt8 × Int)} (ho : MapObj (T.map tabE) en ck) (h : Gone D TD) (hp : D.Perm en.toList) : TD.Perm T := by
  have h1 : (TD.map tabE).Perm (T.map tabE) := by rw [← h, ← ho.kv]; exact hp.map _
  obtain ⟨T', h2, h3⟩ := perm_map_inv h1 rfl
  rwa [map_inj (fun x y => tabE_inj) h3] at h2
theorem entry_of {T : List (List UInt8 × Int)} {en : Array MapEntry} {ck : Nat} {e : MapEntry} (ho : MapObj (T.map tabE) en ck) (he : e ∈ en.toList) : ∃ x ∈ T, e.key = nm x.1 ∧ e.val = .int .i64 x.2 := by
  have : (e.key, e.val) ∈ T.map tabE := by rw [← ho.kv]; exact List.mem_map_of_mem (f := fun x : MapEntry => (x.key, x.val)) he
  obtain ⟨x, hx, h⟩ := List.mem_map.1 this
  simp only [tabE, Prod.mk.injEq] at h
  exact ⟨x, hx, h.1.symm, h.2.symm⟩
theorem Gone.snoc {D : List MapEntry} {TD : List (List UInt8 × Int)} (h : Gone D TD) {e : MapEntry} {x : List UInt8 × Int} (h1 : e.key = nm x.1) (h2 : e.val = .int .i64 x.2) : Gone (D ++ [e]) (TD ++ [x]) := by
  unfold Gone at h ⊢
  simp [h, h1, h2, tabE]
theorem Gone.len {D : List MapEntry} {TD : List (List UInt8 × Int)} (h : Gone D TD) : D.length = TD.length := by
  have := congrArg List.length h; simpa using this
def owned (owner : Int) (T : List (List UInt8 × Int)) : List (List UInt8) := (T.filter fun x => x.2 == owner).map (·.1)
theorem owned_le (owner : Int) (T : List (List UInt8 × Int)) : (owned owner T).length ≤ T.length := by simp only [owned, List.length_map]; exact List.length_filter_le _ _
theorem owned_snoc (owner : Int) (T : List (List UInt8 × Int)) (x : List UInt8 × Int) : owned owner (T ++ [x]) = owned owner T ++ (bif x.2 == owner then [x.1] else []) := by
  simp only [owned, List.filter_append, List.map_append]
  congr 1
  cases h : x.2 == owner <;> simp [List.filter, h]

theorem cOf1 (a b : List UInt8) (ha : a.length = 25) (hb : b.length = 25) (H : Heap) : EvP Tryz.prog 46 [nm a, nm b] H (.int .i64 (bif ltB a b then -1 else 1)) := by
  refine Ev.enter Tryz.func46 rfl ent46 ?_
  refine WP.seq ?_
  refine WP.region rfl ?_
  refine WPL.nw (NS.boxA rfl) ?_
  intro b2
  refine WPL.nw (NS.boxA rfl) ?_
  intro b3
  refine WPL.p (PS.assign rfl) ?_
  refine WPL.nil ?_
  refine WP.seq ?_
  refine WP.seq ?_
  refine WP.region rfl ?_
  refine WPL.p (PS.loadAgg rfl (InR.there InR.here) (View.take_whole (by simp [ha]))) ?_
  refine WPL.p (PS.loadAgg rfl InR.here (View.take_whole (by simp [hb]))) ?_
  refine WPL.cl rfl rfl (fun wf => cKeyLess a b ha hb _) ?_
  refine WPL.nil ?_
  refine WP.ifs rfl ?_ ?_
  · intro h0
    refine WP.seq ?_
    refine WP.region rfl ?_
    refine WPL.p (PS.assign rfl) ?_
    refine WPL.nil ?_
    refine WP.ret ?_
    refine toQ ?_
    refine RetQ.end (.inr rfl) (sub_all) ⟨_, (res1 (resT rfl) res0), ?_⟩
    exact ⟨by rw [h0]; rfl, rfl⟩
  · intro h0
    refine WP.skip ?_
    refine WP.seq ?_
    refine WP.region rfl ?_
    refine WPL.p (PS.assign rfl) ?_
    refine WPL.nil ?_
    refine WP.ret ?_
    refine RetQ.end (.inr rfl) (sub_all) ⟨_, (res1 (resT rfl) res0), ?_⟩
    exact ⟨by rw [h0]; rfl, rfl⟩

def OfR (owner : Int) (T : List (List UInt8 × Int)) (v : Value) (cs : List Value) (m : Nat) : Prop :=
  ∃ ks : List (List UInt8), cs = keysC ks ∧ m = ks.length ∧ ks.Perm (owned owner T) ∧ ks.Pairwise (fun x y => ltB y x = false)
theorem sortedK {ks : List (List UInt8)} {l l' : List K25} (h : l.map (·.1) = ks) (hp : l'.Perm l) (hs : l'.Pairwise fun x y => Go.Proofs.ltOf cmpB y x = false) : (l'.map (·.1)).Perm ks ∧ (l'.map (·.1)).Pairwise (fun x y => ltB y x = false) := by
  refine ⟨by rw [← h]; exact hp.map _, ?_⟩
  rw [List.pairwise_map]
  exact hs.imp fun {x y} h => by rw [cmpB_lt] at h; exact h

theorem cOfN (bt : Nat) (T : List (List UInt8 × Int)) (owner : Int) (H : Heap) (ht : TabIn H bt none T) : EvS Tryz.prog 28 [ptr bt 0, .int .i64 owner] H 30 25 (OfR owner T) := by
  refine Ev.enter Tryz.func28 rfl ent28 ?_
  refine WP.seq ?_
  refine WP.region rfl ?_
  refine WPL.p (PS.assign rfl) ?_
  refine WPL.nil ?_
  refine WP.seq ?_
  refine WP.seq ?_
  refine WP.region rfl ?_
  refine WPL.p (PS.move rfl) ?_
  refine WPL.p (PS.eqNil rfl rfl rfl rfl) ?_
  refine WPL.nil ?_
  refine WP.nope rfl ?_
  refine WP.skip ?_
  refine WP.seq ?_
  refine WP.region rfl ?_
  refine WPL.p (PS.assign rfl) ?_
  refine WPL.nil ?_
  refine WP.seq ?_
  refine WP.seq ?_
  refine WP.region rfl ?_
  refine WPL.p (PS.move rfl) ?_
  refine WPL.p (PS.nilCheck rfl rfl) ?_
  refine WPL.p (PS.fieldAddr rfl) ?_
  refine WPL.p (PS.load rfl (InR.base ht.s) rfl) ?_
  refine WPL.rangeNil rfl ?_
  intro b14
  refine WPL.nil ?_
  refine WP.block ?_
  refine WP.while (ι := Unit) (fun i => [(1, .int .i64 owner), (5, .slice none 0 0), (14, ptr b14 0)]) (fun _ => H) (fun _ => [(b14, .obj (.mapIter none 0 #[] 0))]) (fun _ => True) (fun _ => 0) () ⟨rfl, rfl, rfl, trivial⟩ trivial rfl rfl ?_
  rintro _ _
  refine WP.seq ?_
  refine WP.region rfl ?_
  refine WPL.p (PS.nextNil rfl InR.here) ?_
  refine WPL.p (PS.extract rfl rfl) ?_
  refine WPL.nil ?_
  refine WP.seq ?_
  refine WP.nope rfl ?_
  refine WP.exit ?_
  refine WP.seq ?_
  refine WP.region rfl ?_
  refine WPL.p (PS.move rfl) ?_
  generalize hlst : ([] : List K25) = lst
  have hO : Own (.slice none 0 0) (lst.flatMap fun x => x.1.map u8) 25 lst.length := by rw [← hlst]; exact Own.nil
  refine WPL.sortSl Tryz.sortK (k := 25) Tryz.isAgg30 Tryz.sizeOf30 (fun x : K25 => x.1.map u8) (fun x => by simp [x.2]) (fun x => List.all_eq_true.1 (one_u8 x.1)) cmpB swoB 46 [] (fun x y => (cOf1 x.1 y.1 x.2 y.2 _).mono fun _ _ h => h.1) default ent45 (e := 30) (lst := lst) (A := [(b14, _)]) (B := []) rfl rfl rfl rfl hO rfl (by rw [← hlst]; decide) ?_
  intro lst' hp hs hO2
  refine WPL.nil ?_
  refine WP.seq ?_
  refine WP.region rfl ?_
  refine WPL.p (PS.move rfl) ?_
  refine WPL.wf (fun wf => ?_)
  refine WPL.p (PS.assign rfl) ?_
  refine WPL.nil ?_
  refine WP.ret ?_
  refine RetQ.endS (.inr rfl) wf (List.Sublist.cons _ (by rw [List.append_nil]; exact List.Sublist.refl _)) hO2 ⟨_, (res1 (resT rfl) res0), rfl, ?_⟩
  exact ⟨[], by rw [List.length_eq_zero_iff.1 (hp.length_eq.trans (by rw [← hlst]; rfl))]; rfl, by rw [← hlst]; rfl, by rw [ht.z rfl]; exact List.Perm.refl _, List.Pairwise.nil⟩

theorem owned_mem {owner : Int} {T : List (List UInt8 × Int)} (h : ∀ x ∈ T, okK x.1) : ∀ k ∈ owned owner T, okK k := by
  intro k hk
  obtain ⟨x, hx, rfl⟩ := List.mem_map.1 hk
  exact h x (List.mem_filter.1 hx).1

set_option maxHeartbeats 400000 in
theorem cOfS (bt bm : Nat) (T : List (List UInt8 × Int)) (owner : Int) (hn : T.length ≤ 1000000) (H : Heap) (ht : TabIn H bt (some bm) T) : EvS Tryz.prog 28 [ptr bt 0, .int .i64 owner] H 30 25 (OfR owner T) := by
  refine Ev.enter Tryz.func28 rfl ent28 ?_
  refine WP.seq ?_
  refine WP.region rfl ?_
  refine WPL.p (PS.assign rfl) ?_
  refine WPL.nil ?_
  refine WP.seq ?_
  refine WP.seq ?_
  refine WP.region rfl ?_
  refine WPL.p (PS.move rfl) ?_
  refine WPL.p (PS.eqNil rfl rfl rfl rfl) ?_
  refine WPL.nil ?_
  refine WP.nope rfl ?_
  refine WP.skip ?_
  refine WP.seq ?_
  refine WP.region rfl ?_
  refine WPL.p (PS.assign rfl) ?_
  refine WPL.nil ?_
  refine WP.seq ?_
  refine WP.seq ?_
  have hm := ht.m bm rfl
  refine WP.expose (fun en ck => UpdR.base hm) ?_
  intro en ck ho0
  have ho : MapObj (T.map tabE) en ck := by rw [← tabT_es]; exact ho0
  clear ho0
  have hbt : (H.set bm (.obj (.map en ck))) bt = some (.cells [.map (some bm)] 86) := by
    have hne := ht.ne (.inl rfl)
    simp only [Heap.set, if_neg (Ne.symm hne)]; exact ht.s
  have hsz : en.size = T.length := by have := congrArg List.length ho.kv; simpa using this
  refine WP.region rfl ?_
  refine WPL.p (PS.move rfl) ?_
  refine WPL.p (PS.nilCheck rfl rfl) ?_
  refine WPL.p (PS.fieldAddr rfl) ?_
  refine WPL.p (PS.load rfl (InR.base hbt) rfl) ?_
  refine WPL.rangeM rfl (InR.base Heap.set_at) ?_
  intro b14
  refine WPL.nil ?_
  refine WP.block ?_
  refine WP.whileV (ι := List MapEntry × Value × List (List UInt8 × Int)) (fun i => [(1, .int .i64 owner), (5, i.2.1), (14, ptr b14 0)]) (fun _ => H.set bm (.obj (.map en ck))) (fun i => (b14, iterO bm ck i.1) :: (slL i.2.1 (keysC (owned owner i.2.2)) 30 25 ++ []))
    (fun i => Sel en i.1 ∧ Own i.2.1 (keysC (owned owner i.2.2)) 25 (owned owner i.2.2).length ∧ Gone i.1 i.2.2 ∧ (∀ x ∈ i.2.2, x ∈ T)) (fun i => en.size - i.1.length) ([], .slice none 0 0, []) ⟨rfl, rfl, rfl, trivial⟩ ⟨Sel.nil, Own.nil, rfl, by simp⟩ wf_same ?_
  rintro ⟨D, v, TD⟩ ⟨hS, hO, hG, hTD⟩
  simp only at hS hO hG hTD ⊢
  refine WP.seq ?_
  refine WP.region rfl ?_
  refine WPL.next (b := bm) (bi := b14) rfl (InR.base Heap.set_at) (fun V' => UpdR.here) ho hS ?_
  intro c vs D' hS' hc hf
  refine WPL.p (PS.extract rfl rfl) ?_
  refine WPL.nil ?_
  refine WP.seq ?_
  refine WP.ifs rfl ?_ ?_
  · intro h1
    obtain ⟨e, hDe, he, hlt⟩ := hc h1
    subst hDe
    obtain ⟨x, hx, hek, hev⟩ := entry_of ho he
    have hk : okK x.1 := ht.k x hx
    have hG' := hG.snoc hek hev
    have hTD' : ∀ y ∈ TD ++ [x], y ∈ T := by
      intro y hy
      rcases List.mem_append.1 hy with hy | hy
      · exact hTD y hy
      · rw [List.mem_singleton.1 hy]; exact hx
    have hon := owned_snoc owner TD x
    have hle := owned_le owner TD
    have hlen := hG.len
    refine WP.skip ?_
    refine WP.block ?_
    refine WP.seq ?_
    refine WP.region rfl ?_
    refine WPL.p (PS.entry (e := e) rfl (InR.base Heap.set_at) InR.here ho he) ?_
    rw [hek, hev]
    refine WPL.p (PS.extract rfl rfl) ?_
    refine WPL.p (PS.extract rfl rfl) ?_
    refine WPL.nw NS.alloc ?_
    intro b6
    refine WPL.sA (m := 25) rfl rfl UpdR.here (by simpa [okK] using hk) (one_u8 _) (View.write_whole (by simpa [okK] using hk)) ?_
    refine WPL.p (PS.assign rfl) ?_
    refine WPL.nil ?_
    refine WP.seq ?_
    refine WP.region rfl ?_
    refine WPL.p (PS.move rfl) ?_
    refine WPL.p (PS.move rfl) ?_
    refine WPL.p (PS.binInt rfl rfl rfl) ?_
    refine WPL.nil ?_
    refine WP.ifs rfl ?_ ?_
    · intro h2
      have h2 : (x.2 == owner) = true := h2
      rw [h2] at hon
      simp only [cond_true] at hon
      refine WP.region rfl ?_
      refine WPL.p (PS.move rfl) ?_
      refine WPL.p (PS.loadAgg rfl InR.here (View.take_whole (by simpa [okK] using hk))) ?_
      refine WPL.nw (NS.buildSlice (n := 25) rfl (by decide) (by rfl) (fill_one (by simpa [okK] using hk) (by rfl))) ?_
      intro b25
      have hO0 : Own v (keysC (owned owner TD)) 25 (owned owner TD).length := hO
      refine WPL.app [_, _, _] [] rfl rfl hO0 rfl (m2 := 1) (news := x.1.map u8) (.inl ⟨b25, 0, 1, _, rfl, InR.here, key_row1 hk⟩) (one_u8 _) (by decide) (by omega) ?_
      intro v' hO'
      refine WPL.p (PS.assign rfl) ?_
      refine WPL.nil ?_
      exact ⟨(D ++ [e], v', TD ++ [x]), by simp <;> omega, ⟨hS', by rw [hon, keysC_snoc]; simpa using hO', hG', hTD'⟩, rfl, rfl, ⟨rfl, rfl, rfl, trivial⟩, by rw [hon, keysC_snoc]; exact wf_sub (List.Sublist.cons _ (List.Sublist.cons _ (List.Sublist.refl _)))⟩
    · intro h2
      have h2 : (x.2 == owner) = false := h2
      rw [h2] at hon
      simp only [cond_false, List.append_nil] at hon
      refine WP.skip ?_
      exact ⟨(D ++ [e], v, TD ++ [x]), by simp <;> omega, ⟨hS', by rw [hon]; exact hO, hG', hTD'⟩, rfl, rfl, ⟨rfl, rfl, rfl, trivial⟩, by rw [hon]; exact wf_sub (List.Sublist.cons _ (List.Sublist.refl _))⟩
  · intro h1
    obtain ⟨hDD, hp⟩ := hf h1
    subst hDD
    have hP := hG.perm ho hp
    refine WP.exit ?_
    refine WP.seq ?_
    refine WP.turn (UpdR.base Heap.set_at) (V' := tabT T) (fun o h => by have h : o = .map en ck := h; subst h; have := ho.ok; rw [← tabT_es] at this; exact this) ?_
    rw [Heap.set_back hm]
    refine WP.region rfl ?_
    refine WPL.p (PS.move rfl) ?_
    obtain ⟨lst, hlst⟩ := k25_of (owned_mem (owner := owner) (T := TD) fun x hx => ht.k x (hTD x hx))
    have hkl := keysC_k25 lst
    rw [hlst] at hkl
    have hll : lst.length = (owned owner TD).length := by rw [← hlst]; simp
    have hO1 : Own v (keysC (owned owner TD)) 25 lst.length := by rw [hll]; exact hO
    have hle := owned_le owner TD
    have hle2 := hP.length_eq
    refine WPL.sortSl Tryz.sortK (k := 25) Tryz.isAgg30 Tryz.sizeOf30 (fun x : K25 => x.1.map u8) (fun x => by simp [x.2]) (fun x => List.all_eq_true.1 (one_u8 x.1)) cmpB swoB 46 [] (fun x y => (cOf1 x.1 y.1 x.2 y.2 _).mono fun _ _ h => h.1) default ent45 (e := 30) (lst := lst) (A := [(b14, _)]) (B := []) rfl rfl rfl hkl.symm hO1 rfl (by omega) ?_
    intro lst' hp hs hO2
    refine WPL.nil ?_
    refine WP.seq ?_
    refine WP.region rfl ?_
    refine WPL.p (PS.move rfl) ?_
    refine WPL.wf (fun wf => ?_)
    obtain ⟨hp1, hs1⟩ := sortedK hlst hp hs
    refine WPL.p (PS.assign rfl) ?_
    refine WPL.nil ?_
    refine WP.ret ?_
    refine RetQ.endS (.inr rfl) wf (List.Sublist.cons _ (by rw [List.append_nil]; exact List.Sublist.refl _)) hO2 ⟨_, (res1 (resT rfl) res0), rfl, ?_⟩
    exact ⟨lst'.map (·.1), keysC_k25 lst', by simp [hp.length_eq], hp1.trans ((hP.filter _).map _), hs1⟩

end Go.Proofs.YtfoakjdnopljmaaGreatDoor

set_option linter.unusedVariables false
set_option linter.unusedSimpArgs false
set_option maxRecDepth 100000
namespace Go.Proofs.YtfoakjdnopljmaaGreatDoor
open Go Go.Proofs

/-! ### The document's list of intents -/
def itC (x : List UInt8 × Int) : List Value := rkb x.1 ++ [.int .i64 x.2]
def isC (l : List (List UInt8 × Int)) : List Value := l.flatMap itC
theorem it_len {x : List UInt8 × Int} (h : okK x.1) : (itC x).length = 26 := by simp [itC, rkb_length h]
theorem isC_len {l : List (List UInt8 × Int)} (h : ∀ x ∈ l, okK x.1) : (isC l).length = l.length * 26 := flat_len fun x hx => it_len (h x hx)
theorem is_at {l : List (List UInt8 × Int)} (h : ∀ x ∈ l, okK x.1) {i : Nat} (hi : i < l.length) : ((isC l).drop (i * 26)).take 26 = itC (l.getD i ([], 0)) := flat_at (fun x hx => it_len (h x hx)) hi
theorem is_key {l : List (List UInt8 × Int)} {e : TypeId} {N i : Nat} (h : ∀ x ∈ l, okK x.1) (hi : i < l.length) : (View.row 0 (isC l) e N).take (0 + (i : Int).toNat * 26 + 0) 25 = some (rkb (l.getD i ([], 0)).1) := by
  have hl := isC_len h
  have hm := Nat.mul_le_mul_right 26 (show i + 1 ≤ l.length from hi)
  rw [View.take_row (by omega) (by simp only [Int.toNat_natCast]; omega)]
  have e1 := is_at h hi
  have e2 := congrArg (List.take 25) e1
  rw [List.take_take] at e2
  have hk : (rkb (l.getD i ([], 0)).1).length = 25 := rkb_length (h _ (getD_mem hi))
  simp only [itC] at e2
  rw [List.take_left' hk] at e2
  simp only [Int.toNat_natCast, Nat.zero_add, Nat.add_zero, Nat.sub_zero]
  rw [← e2]; rfl
theorem is_own {l : List (List UInt8 × Int)} {e : TypeId} {N i : Nat} (h : ∀ x ∈ l, okK x.1) (hi : i < l.length) : (View.row 0 (isC l) e N).cell (0 + (i : Int).toNat * 26 + 25) = some (.int .i64 (l.getD i ([], 0)).2) := by
  have hl := isC_len h
  have e1 := is_at h hi
  have hk : (rkb (l.getD i ([], 0)).1).length = 25 := rkb_length (h _ (getD_mem hi))
  have e2 := congrArg (fun s => s[25]?) e1
  simp only [itC] at e2
  rw [List.getElem?_append_right (by omega), hk, List.getElem?_take, if_pos (by omega), List.getElem?_drop] at e2
  simp only [View.cell, Nat.zero_le, if_true, Int.toNat_natCast, Nat.zero_add, Nat.sub_zero]
  rw [e2]; rfl
theorem fits_rkb {b : List UInt8} (h : okK b) : fitsL rkKinds (rkb b) = true := by
  obtain ⟨k, p, a, n, x, y, z, ln, lx, ly, lz, rfl⟩ := key_parts h
  rw [rkb_keyOfL]; exact fits_rk ln (by simp [lx, ly, lz])
theorem one_rkb (b : List UInt8) : (rkb b).all (·.oneCell') = true := by
  have := one_u8 (b.drop 3)
  simp only [rkb, List.all_append, this]; rfl
theorem cellsEq_rkb {b c : List UInt8} (hb : okK b) (hc : okK c) : cellsEq (rkb b) (rkb c) = (b == c) := by
  obtain ⟨k, p, a, n, x, y, z, ln, lx, ly, lz, rfl⟩ := key_parts hb
  obtain ⟨k', p', a', n', x', y', z', ln', lx', ly', lz', rfl⟩ := key_parts hc
  rw [rkb_keyOfL, rkb_keyOfL, cellsEq_rk (by rw [ln, ln'])]
  rw [Bool.eq_iff_iff]
  simp only [Bool.and_eq_true, beq_iff_eq]
  constructor
  · rintro ⟨⟨h1, h2, h3⟩, h4, h5⟩
    have e1 : k = k' := UInt8.toNat_inj.1 (by omega)
    have e2 : p = p' := UInt8.toNat_inj.1 (by omega)
    have e3 : a = a' := UInt8.toNat_inj.1 (by omega)
    simp only [keyOfL, e1, e2, e3, h4, h5]
  · intro h
    simp only [keyOfL, List.cons_append, List.nil_append, List.cons.injEq] at h
    obtain ⟨h1, h2, h3, h4⟩ := h
    have e3 := congrArg (List.take 12) h4
    rw [List.take_left' ln, List.take_left' ln'] at e3
    have e4 := congrArg (List.drop 12) h4
    rw [List.drop_left' ln, List.drop_left' ln'] at e4
    exact ⟨⟨by rw [h1], by rw [h2], by rw [h3]⟩, e3, e4⟩
theorem aget_drop {l : List (List UInt8 × Int)} {k : List UInt8} {i : Nat} (hi : i < l.length) : aget k (l.drop i) = bif k == (l.getD i ([], 0)).1 then some (l.getD i ([], 0)).2 else aget k (l.drop (i + 1)) := by
  rw [drop_get (d := ([], 0)) hi]; rfl
theorem beq_swap {α : Type} [BEq α] [LawfulBEq α] (a b : α) : (a == b) = (b == a) := by rw [Bool.eq_iff_iff]; simp; exact ⟨Eq.symm, Eq.symm⟩

theorem cROwner (a : Option Addr) (b c : Nat) (l : List (List UInt8 × Int)) (hlk : ∀ x ∈ l, okK x.1) (hn : l.length ≤ 1000000) (k : List UInt8) (hk : okK k) (H : Heap) (hs : SlIn H a b c (isC l) 126 26 l.length) : EvP Tryz.prog 24 [.slice a l.length c, .agg ⟨rkb k⟩] H (.int .i64 ((aget k l).getD 0)) := by
  refine Ev.enter Tryz.func24 rfl ent24 ?_
  refine WP.seq ?_
  refine WP.region rfl ?_
  refine WPL.nw (NS.boxA rfl) ?_
  intro b3
  refine WPL.p (PS.assign rfl) ?_
  refine WPL.nil ?_
  refine WP.seq ?_
  refine WP.seq ?_
  refine WP.region rfl ?_
  refine WPL.p (PS.assign rfl) ?_
  refine WPL.nil ?_
  refine WP.block ?_
  refine WP.while (ι := Nat) (fun i => [(0, .slice a l.length c), (3, ptr b3 0), (5, num i)]) (fun _ => H) (fun i => [(b3, .cells (rkb k) 51)])
    (fun i => i ≤ l.length ∧ aget k (l.drop i) = aget k l) (fun i => l.length - i) 0 ⟨rfl, rfl, rfl, trivial⟩ ⟨by omega, rfl⟩ rfl rfl ?_
  rintro i ⟨hi, hg⟩
  refine WP.seq ?_
  refine WP.seq ?_
  refine WP.region rfl ?_
  refine WPL.p (PS.move rfl) ?_
  refine WPL.p (PS.move rfl) ?_
  refine WPL.p (PS.lenSlice rfl) ?_
  refine WPL.p (PS.binInt rfl rfl rfl) ?_
  refine WPL.nil ?_
  refine WP.ifs rfl ?_ ?_
  · intro h0
    have q : i < l.length := by have := of_decide_eq_true h0; omega
    obtain ⟨ha, hc, hrow⟩ := hs.at (by omega)
    subst ha
    refine WP.skip ?_
    refine WP.seq ?_
    refine WP.block ?_
    refine WP.seq ?_
    refine WP.draw 7 mixed (by kernel_rfl) rfl ?_
    refine Scr.ps (i := 0) rfl rfl rfl rfl (PS.move rfl) ?_
    refine Scr.ps (i := 1) rfl rfl rfl rfl (PS.move rfl) ?_
    refine Scr.ps (i := 2) rfl rfl rfl rfl (PS.indexAddr rfl rfl (by omega) (by omega)) ?_
    refine Scr.ps (i := 3) rfl rfl rfl rfl (PS.fieldAddr rfl) ?_
    refine Scr.ps (i := 4) rfl rfl rfl rfl (PS.loadAgg rfl (InR.base hrow) (is_key hlk q)) ?_
    refine Scr.ps (i := 5) rfl rfl rfl rfl (PS.loadAgg rfl InR.here (View.take_whole (rkb_length hk))) ?_
    refine Scr.ps (i := 6) rfl rfl rfl rfl (PS.eqFlat rfl rfl (fits_rkb (hlk _ (getD_mem q))) (fits_rkb hk)) ?_
    refine Scr.end ?_
    refine WPL.nil ?_
    refine WP.ifs rfl ?_ ?_
    · intro h1
      have h1' := h1
      rw [cellsEq_rkb (hlk _ (getD_mem q)) hk] at h1'
      refine WP.seq ?_
      refine WP.region rfl ?_
      refine WPL.p (PS.move rfl) ?_
      refine WPL.p (PS.move rfl) ?_
      refine WPL.p (PS.indexAddr rfl rfl (by omega) (by omega)) ?_
      refine WPL.p (PS.fieldAddr rfl) ?_
      refine WPL.p (PS.load rfl (InR.base hrow) (is_own hlk q)) ?_
      refine WPL.p (PS.assign rfl) ?_
      refine WPL.nil ?_
      refine WP.ret ?_
      refine toB (toQ (toQ (toB (toQ ?_))))
      refine RetQ.end (.inr rfl) (sub_all) ⟨_, (res1 (resT rfl) res0), ?_⟩
      exact ⟨by rw [← hg, aget_drop q, beq_swap, h1']; rfl, rfl⟩
    · intro h1
      have h1' := h1
      rw [cellsEq_rkb (hlk _ (getD_mem q)) hk] at h1'
      refine WP.skip ?_
      refine WP.region rfl ?_
      refine WPL.p (PS.move rfl) ?_
      refine WPL.p (PS.arith rfl rfl (.inl ⟨rfl, rfl⟩) (wrap_i64 (by omega) (by omega))) ?_
      refine WPL.p (PS.assign rfl) ?_
      refine WPL.nil ?_
      exact ⟨i + 1, by omega, ⟨by omega, by rw [← hg, aget_drop q, beq_swap, h1']; rfl⟩, rfl, rfl, ⟨rfl, rfl, rfl, trivial⟩, rfl, rfl⟩
  · intro h0
    have q : i = l.length := by have := of_decide_eq_false h0; omega
    refine WP.exit ?_
    refine WP.seq ?_
    refine WP.region rfl ?_
    refine WPL.p (PS.assign rfl) ?_
    refine WPL.nil ?_
    refine WP.ret ?_
    refine RetQ.end (.inr rfl) (sub_all) ⟨_, (res1 (resT rfl) res0), ?_⟩
    exact ⟨by rw [← hg, q, List.drop_length]; rfl, rfl⟩

def ROfR (owner : Int) (l : List (List UInt8 × Int)) (v : Value) (cs : List Value) (m : Nat) : Prop := cs = (owned owner l).flatMap rkb ∧ m = (owned owner l).length
theorem rkb_row1 {k : List UInt8} {e : TypeId} {N : Nat} (hk : okK k) : (View.row 0 (rkb k) e N).take 0 (1 * 25) = some (rkb k) := by
  have hl := rkb_length hk
  rw [View.take_row (Nat.le_refl _) (by omega)]
  simp only [Nat.sub_self, List.drop_zero, Nat.one_mul]
  rw [List.take_of_length_le (by omega)]
theorem take_snoc {α : Type} {l : List α} {i : Nat} {d : α} (h : i < l.length) : l.take (i + 1) = l.take i ++ [l.getD i d] := by
  rw [List.take_succ_eq_append_getElem h, List.getD_eq_getElem?_getD, List.getElem?_eq_getElem h]; rfl
theorem mem_take {α : Type} {l : List α} {i : Nat} {x : α} (h : x ∈ l.take i) : x ∈ l := List.mem_of_mem_take h

theorem cROf (a : Option Addr) (b c : Nat) (l : List (List UInt8 × Int)) (hlk : ∀ x ∈ l, okK x.1) (hn : l.length ≤ 1000000) (owner : Int) (H : Heap) (hs : SlIn H a b c (isC l) 126 26 l.length) : EvS Tryz.prog 26 [.slice a l.length c, .int .i64 owner] H 51 25 (ROfR owner l) := by
  refine Ev.enter Tryz.func26 rfl ent26 ?_
  refine WP.seq ?_
  refine WP.region rfl ?_
  refine WPL.p (PS.assign rfl) ?_
  refine WPL.nil ?_
  refine WP.seq ?_
  refine WP.region rfl ?_
  refine WPL.p (PS.assign rfl) ?_
  refine WPL.nil ?_
  refine WP.seq ?_
  refine WP.seq ?_
  refine WP.region rfl ?_
  refine WPL.p (PS.assign rfl) ?_
  refine WPL.nil ?_
  refine WP.block ?_
  refine WP.whileV (ι := Nat × Value) (fun i => [(0, .slice a l.length c), (1, .int .i64 owner), (5, i.2), (6, num i.1)]) (fun _ => H) (fun i => slL i.2 ((owned owner (l.take i.1)).flatMap rkb) 51 25 ++ [])
    (fun i => i.1 ≤ l.length ∧ Own i.2 ((owned owner (l.take i.1)).flatMap rkb) 25 (owned owner (l.take i.1)).length) (fun i => l.length - i.1) (0, .slice none 0 0) ⟨rfl, rfl, rfl, rfl, trivial⟩ ⟨by simp, Own.nil⟩ wf_same ?_
  rintro ⟨i, v⟩ ⟨hi, hO⟩
  simp only at hi hO ⊢
  refine WP.seq ?_
  refine WP.seq ?_
  refine WP.region rfl ?_
  refine WPL.p (PS.move rfl) ?_
  refine WPL.p (PS.move rfl) ?_
  refine WPL.p (PS.lenSlice rfl) ?_
  refine WPL.p (PS.binInt rfl rfl rfl) ?_
  refine WPL.nil ?_
  refine WP.ifs rfl ?_ ?_
  · intro h0
    have q : i < l.length := by have := of_decide_eq_true h0; omega
    obtain ⟨ha, hc, hrow⟩ := hs.at (by omega)
    subst ha
    have hts := take_snoc (d := (([], 0) : List UInt8 × Int)) q
    have hon := owned_snoc owner (l.take i) (l.getD i ([], 0))
    have hle := owned_le owner (l.take i)
    have hlt : (l.take i).length = i := by simp; omega
    have hk : okK (l.getD i ([], 0)).1 := hlk _ (getD_mem q)
    refine WP.skip ?_
    refine WP.seq ?_
    refine WP.block ?_
    refine WP.seq ?_
    refine WP.region rfl ?_
    refine WPL.p (PS.move rfl) ?_
    refine WPL.p (PS.move rfl) ?_
    refine WPL.p (PS.indexAddr rfl rfl (by omega) (by omega)) ?_
    refine WPL.p (PS.fieldAddr rfl) ?_
    refine WPL.p (PS.load rfl (InR.base hrow) (is_own hlk q)) ?_
    refine WPL.p (PS.move rfl) ?_
    refine WPL.p (PS.binInt rfl rfl rfl) ?_
    refine WPL.nil ?_
    refine WP.ifs rfl ?_ ?_
    · intro h1
      have h1 : ((l.getD i ([], 0)).2 == owner) = true := h1
      rw [h1] at hon
      simp only [cond_true] at hon
      refine WP.region rfl ?_
      refine WPL.p (PS.move rfl) ?_
      refine WPL.p (PS.move rfl) ?_
      refine WPL.p (PS.move rfl) ?_
      refine WPL.p (PS.indexAddr rfl rfl (by omega) (by omega)) ?_
      refine WPL.p (PS.fieldAddr rfl) ?_
      refine WPL.p (PS.loadAgg rfl (InR.base hrow) (is_key hlk q)) ?_
      refine WPL.nw (NS.buildSlice (n := 25) rfl (by decide) (by rfl) (fill_one (rkb_length hk) (by rfl))) ?_
      intro b26
      refine WPL.app [_] [] rfl rfl hO rfl (m2 := 1) (news := rkb (l.getD i ([], 0)).1) (.inl ⟨b26, 0, 1, _, rfl, InR.here, rkb_row1 hk⟩) (one_rkb _) (by decide) (by omega) ?_
      intro v' hO'
      refine WPL.p (PS.assign rfl) ?_
      refine WPL.nil ?_
      refine WP.region rfl ?_
      refine WPL.p (PS.move rfl) ?_
      refine WPL.p (PS.arith rfl rfl (.inl ⟨rfl, rfl⟩) (wrap_i64 (by omega) (by omega))) ?_
      refine WPL.p (PS.assign rfl) ?_
      refine WPL.nil ?_
      exact ⟨(i + 1, v'), by simp <;> omega, ⟨by simp <;> omega, by rw [hts, hon]; simpa using hO'⟩, rfl, rfl, ⟨rfl, rfl, rfl, rfl, trivial⟩, by rw [hts, hon, List.flatMap_append]; simpa using wf_sub (List.Sublist.cons _ (List.Sublist.refl _))⟩
    · intro h1
      have h1 : ((l.getD i ([], 0)).2 == owner) = false := h1
      rw [h1] at hon
      simp only [cond_false, List.append_nil] at hon
      refine WP.skip ?_
      refine WP.region rfl ?_
      refine WPL.p (PS.move rfl) ?_
      refine WPL.p (PS.arith rfl rfl (.inl ⟨rfl, rfl⟩) (wrap_i64 (by omega) (by omega))) ?_
      refine WPL.p (PS.assign rfl) ?_
      refine WPL.nil ?_
      exact ⟨(i + 1, v), by simp <;> omega, ⟨by simp <;> omega, by rw [hts, hon]; exact hO⟩, rfl, rfl, ⟨rfl, rfl, rfl, rfl, trivial⟩, by rw [hts, hon]; exact wf_same⟩
  · intro h0
    have q : i = l.length := by have := of_decide_eq_false h0; omega
    subst q
    rw [List.take_length] at hO ⊢
    refine WP.exit ?_
    refine WP.seq ?_
    refine WP.region rfl ?_
    refine WPL.p (PS.move rfl) ?_
    refine WPL.wf (fun wf => ?_)
    refine WPL.p (PS.assign rfl) ?_
    refine WPL.nil ?_
    refine WP.ret ?_
    refine RetQ.endS (.inr rfl) wf (by rw [List.append_nil]; exact List.Sublist.refl _) hO ⟨_, (res1 (resT rfl) res0), rfl, ?_⟩
    exact ⟨rfl, rfl⟩

end Go.Proofs.YtfoakjdnopljmaaGreatDoor

set_option linter.unusedVariables false
set_option linter.unusedSimpArgs false
set_option maxRecDepth 100000
namespace Go.Proofs.YtfoakjdnopljmaaGreatDoor
open Go Go.Proofs

def insI (l : List (List UInt8 × Int)) (owner : Int) (k : List UInt8) : List (List UInt8 × Int) := l.takeWhile (fun x => ltB x.1 k) ++ (k, owner) :: l.dropWhile (fun x => ltB x.1 k)
def rTake (l : List (List UInt8 × Int)) (owner : Int) (k : List UInt8) : List (List UInt8 × Int) × Bool × Nat :=
  bif !rightB k then (l, false, 3) else bif (aget k l).getD 0 == owner then (l, false, 0) else bif decide ((aget k l).getD 0 > 0) then (l, false, 11) else (insI l owner k, true, 0)
/-- What a call hands back that may make a new list, or leave the old one. -/
def NewL (H H' : Heap) (a : Option Addr) (c : Nat) (l l' : List (List UInt8 × Int)) (is : Bool) (sv : Value) : Prop :=
  (is = false ∧ l' = l ∧ sv = .slice a l.length c ∧ H' = H) ∨ (is = true ∧ Own sv (isC l') 26 l'.length ∧ Wf H (slL sv (isC l') 126 26) ∧ H' = ov H (slL sv (isC l') 126 26))
theorem while_at {l : List (List UInt8 × Int)} {p : List UInt8 × Int → Bool} : ∀ {i : Nat}, i ≤ l.length → (l.take i).all p = true → (i = l.length ∨ p (l.getD i ([], 0)) = false) → l.takeWhile p = l.take i ∧ l.dropWhile p = l.drop i := by
  induction l with
  | nil => intro i hi _ _; simp at hi; subst hi; exact ⟨rfl, rfl⟩
  | cons x l ih =>
    intro i hi ha hp
    cases i with
    | zero =>
      rcases hp with hp | hp
      · simp at hp
      · have hp : p x = false := by simpa using hp
        simp [List.takeWhile_cons, List.dropWhile_cons, hp]
    | succ i =>
      simp only [List.take_succ_cons, List.all_cons, Bool.and_eq_true] at ha
      obtain ⟨h1, h2⟩ := ih (i := i) (by simpa using hi) ha.2 (by simpa using hp)
      simp [List.takeWhile_cons, List.dropWhile_cons, ha.1, h1, h2]
theorem fill_pair {cs z : List Value} {v : Value} {n : Nat} (h : cs.length = n) (hv : v.cells.toList = [v]) (hz : z.length = n + 1) : fillL [(0, n), (n, 1)] z [(0, .agg ⟨cs⟩), (1, v)] = some (cs ++ [v]) := by
  have hs : v.cells.size = 1 := by have := congrArg List.length hv; simpa using this
  show (if (Value.agg ⟨cs⟩).cells.size = n ∧ 0 + n ≤ z.length then fillL _ (wr z 0 (Value.agg ⟨cs⟩).cells.toList) [(1, v)] else none) = _
  rw [if_pos ⟨h, by omega⟩]
  show fillL [(0, n), (n, 1)] (wr z 0 cs) [(1, v)] = _
  have hw : (wr z 0 cs).length = n + 1 := by rw [wr_split cs z 0 (by omega)]; simp; omega
  show (if v.cells.size = 1 ∧ n + 1 ≤ (wr z 0 cs).length then fillL _ (wr (wr z 0 cs) n v.cells.toList) [] else none) = _
  rw [if_pos ⟨hs, by omega⟩, hv]
  show some (wr (wr z 0 cs) n [v]) = _
  rw [wr_split [v] _ n (by simp; omega), wr_split cs z 0 (by omega)]
  simp only [Nat.zero_add, List.take_zero, List.nil_append]
  rw [List.take_left' h, List.drop_append, List.drop_of_length_le (show cs.length ≤ n + [v].length by simp; omega), List.drop_of_length_le (by simp; omega)]
  simp
theorem isC_take {l : List (List UInt8 × Int)} (h : ∀ x ∈ l, okK x.1) {i : Nat} (hi : i ≤ l.length) : (isC l).take (i * 26) = isC (l.take i) ∧ (isC l).drop (i * 26) = isC (l.drop i) := by
  have e : isC l = isC (l.take i) ++ isC (l.drop i) := by rw [isC, isC, isC, ← List.flatMap_append, List.take_append_drop]
  have hl : (isC (l.take i)).length = i * 26 := by rw [isC_len fun x hx => h x (mem_take hx)]; simp [Nat.min_eq_left hi]
  constructor
  · rw [e, List.take_left' hl]
  · rw [e, List.drop_left' hl]
theorem isC_app (l l' : List (List UInt8 × Int)) : isC (l ++ l') = isC l ++ isC l' := by simp [isC]
theorem one_it (x : List UInt8 × Int) : (itC x).all (·.oneCell') = true := by simp only [itC, List.all_append, one_rkb]; rfl
theorem one_isC : ∀ (l : List (List UInt8 × Int)), (isC l).all (·.oneCell') = true
  | [] => rfl
  | x :: l => by
    have := one_isC l
    simp only [isC, List.flatMap_cons, List.all_append, one_it, Bool.true_and] at this ⊢; exact this
theorem it_row1 {x : List UInt8 × Int} {e : TypeId} {N : Nat} (hk : okK x.1) : (View.row 0 (itC x) e N).take 0 (1 * 26) = some (itC x) := by
  have hl := it_len hk
  rw [View.take_row (Nat.le_refl _) (by omega)]
  simp only [Nat.sub_self, List.drop_zero, Nat.one_mul]
  rw [List.take_of_length_le (by omega)]

set_option maxHeartbeats 400000 in
theorem cRTake (a : Option Addr) (b c : Nat) (l : List (List UInt8 × Int)) (hlk : ∀ x ∈ l, okK x.1) (hn : l.length ≤ 1000000) (owner : Int) (k : List UInt8) (hk : okK k) (H : Heap) (hs : SlIn H a b c (isC l) 126 26 l.length) : Ev Tryz.prog 20 [.slice a l.length c, .int .i64 owner, .agg ⟨rkb k⟩] H (fun v H' => ∃ sv, v = .tuple ⟨[sv, .bool (rTake l owner k).2.1, num (rTake l owner k).2.2]⟩ ∧ NewL H H' a c l (rTake l owner k).1 (rTake l owner k).2.1 sv) := by
  refine Ev.enter Tryz.func20 rfl ent20 ?_
  refine WP.seq ?_
  refine WP.region rfl ?_
  refine WPL.nw (NS.boxA rfl) ?_
  intro b5
  refine WPL.p (PS.assign rfl) ?_
  refine WPL.p (PS.assign rfl) ?_
  refine WPL.p (PS.assign rfl) ?_
  refine WPL.nil ?_
  refine WP.seq ?_
  refine WP.seq ?_
  refine WP.region rfl ?_
  refine WPL.p (PS.loadAgg rfl InR.here (View.take_whole (rkb_length hk))) ?_
  refine WPL.cl rfl rfl (fun wf => cRefRight k hk _) ?_
  refine WPL.p (PS.not rfl) ?_
  refine WPL.nil ?_
  refine WP.ifs rfl ?_ ?_
  · intro h0
    have hr : rTake l owner k = (l, false, 3) := by simp only [rTake, h0]; rfl
    refine WP.seq ?_
    refine WP.region rfl ?_
    refine WPL.p (PS.move rfl) ?_
    refine WPL.p (PS.assign rfl) ?_
    refine WPL.p (PS.assign rfl) ?_
    refine WPL.p (PS.assign rfl) ?_
    refine WPL.nil ?_
    refine WP.ret ?_
    refine toQ ?_
    refine RetQ.end (.inr rfl) (sub_all) ⟨_, (res1 (resT rfl) (res1 (resT rfl) (res1 (resT rfl) res0))), ?_⟩
    exact ⟨.slice a l.length c, by rw [hr]; rfl, .inl ⟨by rw [hr], by rw [hr], rfl, rfl⟩⟩
  · intro h0
    refine WP.skip ?_
    refine WP.seq ?_
    refine WP.region rfl ?_
    refine WPL.p (PS.move rfl) ?_
    refine WPL.p (PS.loadAgg rfl InR.here (View.take_whole (rkb_length hk))) ?_
    refine WPL.cl rfl rfl (fun wf => cROwner a b c l hlk hn k hk _ (hs.up wf)) ?_
    refine WPL.p (PS.assign rfl) ?_
    refine WPL.nil ?_
    refine WP.seq ?_
    refine WP.seq ?_
    refine WP.region rfl ?_
    refine WPL.p (PS.move rfl) ?_
    refine WPL.p (PS.move rfl) ?_
    refine WPL.p (PS.binInt rfl rfl rfl) ?_
    refine WPL.nil ?_
    refine WP.ifs rfl ?_ ?_
    · intro h1
      have h1 : ((aget k l).getD 0 == owner) = true := h1
      have hr : rTake l owner k = (l, false, 0) := by simp only [rTake, h0, h1]; rfl
      refine WP.seq ?_
      refine WP.region rfl ?_
      refine WPL.p (PS.move rfl) ?_
      refine WPL.p (PS.assign rfl) ?_
      refine WPL.p (PS.assign rfl) ?_
      refine WPL.p (PS.assign rfl) ?_
      refine WPL.nil ?_
      refine WP.ret ?_
      refine toQ ?_
      refine RetQ.end (.inr rfl) (sub_all) ⟨_, (res1 (resT rfl) (res1 (resT rfl) (res1 (resT rfl) res0))), ?_⟩
      exact ⟨.slice a l.length c, by rw [hr]; rfl, .inl ⟨by rw [hr], by rw [hr], rfl, rfl⟩⟩
    · intro h1
      have h1 : ((aget k l).getD 0 == owner) = false := h1
      refine WP.skip ?_
      refine WP.seq ?_
      refine WP.seq ?_
      refine WP.region rfl ?_
      refine WPL.p (PS.move rfl) ?_
      refine WPL.p (PS.binInt rfl rfl rfl) ?_
      refine WPL.nil ?_
      refine WP.ifs rfl ?_ ?_
      · intro h2
        have h2 : decide ((aget k l).getD 0 > 0) = true := h2
        have hr : rTake l owner k = (l, false, 11) := by simp only [rTake, h0, h1, h2]; rfl
        refine WP.seq ?_
        refine WP.region rfl ?_
        refine WPL.p (PS.move rfl) ?_
        refine WPL.p (PS.assign rfl) ?_
        refine WPL.p (PS.assign rfl) ?_
        refine WPL.p (PS.assign rfl) ?_
        refine WPL.nil ?_
        refine WP.ret ?_
        refine toQ ?_
        refine RetQ.end (.inr rfl) (sub_all) ⟨_, (res1 (resT rfl) (res1 (resT rfl) (res1 (resT rfl) res0))), ?_⟩
        exact ⟨.slice a l.length c, by rw [hr]; rfl, .inl ⟨by rw [hr], by rw [hr], rfl, rfl⟩⟩
      · intro h2
        have h2 : decide ((aget k l).getD 0 > 0) = false := h2
        have hr : rTake l owner k = (insI l owner k, true, 0) := by simp only [rTake, h0, h1, h2]; rfl
        refine WP.skip ?_
        refine WP.seq ?_
        refine WP.region rfl ?_
        refine WPL.p (PS.assign rfl) ?_
        refine WPL.nil ?_
        refine WP.seq ?_
        refine WP.block ?_
        refine WP.while (ι := Nat) (fun i => [(0, .slice a l.length c), (1, .int .i64 owner), (5, ptr b5 0), (10, num i)]) (fun _ => H) (fun i => [(b5, .cells (rkb k) 51)])
          (fun i => i ≤ l.length ∧ (l.take i).all (fun x => ltB x.1 k) = true) (fun i => l.length - i) 0 ⟨rfl, rfl, rfl, rfl, trivial⟩ ⟨by omega, rfl⟩ rfl rfl ?_
        rintro i ⟨hi, hal⟩
        refine WP.seq ?_
        refine WP.seq ?_
        refine WP.draw 13 mixed (by kernel_rfl) rfl ?_
        refine Scr.ps (i := 0) rfl rfl rfl rfl (PS.move rfl) ?_
        refine Scr.ps (i := 1) rfl rfl rfl rfl (PS.move rfl) ?_
        refine Scr.ps (i := 2) rfl rfl rfl rfl (PS.lenSlice rfl) ?_
        refine Scr.ps (i := 3) rfl rfl rfl rfl (PS.binInt rfl rfl rfl) ?_
        refine Scr.ps (i := 4) rfl rfl rfl rfl (PS.move rfl) ?_
        refine Scr.c (i := 5) rfl rfl rfl (Wants.yes rfl rfl rfl) (fun hb => (PS.move rfl)) ?_
        refine Scr.c (i := 6) rfl rfl rfl (Wants.yes rfl rfl rfl) (fun hb => (PS.move rfl)) ?_
        refine Scr.c (i := 7) (v := ptr b (0 + (i : Int).toNat * 26)) rfl rfl rfl (Wants.yes rfl rfl rfl) (fun hb => ?_) ?_
        · have q : i < l.length := by have := of_decide_eq_true hb; omega
          obtain ⟨ha, hc, hrow⟩ := hs.at (by omega)
          subst ha
          exact PS.indexAddr (gt hb rfl) (gt hb rfl) (by omega) (by omega)
        refine Scr.c (i := 8) rfl rfl rfl (Wants.yes rfl rfl rfl) (fun hb => (PS.fieldAddr (gt hb rfl))) ?_
        refine Scr.c (i := 9) (v := .agg ⟨rkb (l.getD i ([], 0)).1⟩) rfl rfl rfl (Wants.yes rfl rfl rfl) (fun hb => ?_) ?_
        · have q : i < l.length := by have := of_decide_eq_true hb; omega
          obtain ⟨ha, hc, hrow⟩ := hs.at (by omega)
          subst ha
          exact PS.loadAgg (gt hb rfl) (InR.base hrow) (is_key hlk q)
        refine Scr.c (i := 10) rfl rfl rfl (Wants.yes rfl rfl rfl) (fun hb => (PS.loadAgg rfl InR.here (View.take_whole (rkb_length hk)))) ?_
        refine Scr.clc (i := 11) rfl rfl rfl rfl (Wants.yes rfl rfl rfl) (fun hb => rfl) (fun hb => (evsC (gt hb rfl) (evsC (gt hb rfl) rfl))) (fun hb wf => cvulgateref06_Less (l.getD i ([], 0)).1 k (hlk _ (getD_mem (by have := of_decide_eq_true hb; omega))) hk _) late0 ?_
        refine Scr.ps (i := 12) rfl rfl rfl rfl (PS.pickAnd rfl (fun hc => gt hc rfl) rfl) ?_
        refine Scr.end ?_
        refine WPL.nil ?_
        refine WP.ifs rfl ?_ ?_
        · intro h3
          have h3 : decide ((i : Int) < (l.length : Int)) = true ∧ ltB (l.getD i ([], 0)).1 k = true := by simpa using h3
          have q : i < l.length := by have := of_decide_eq_true h3.1; omega
          refine WP.skip ?_
          refine WP.block ?_
          refine WP.region rfl ?_
          refine WPL.p (PS.move rfl) ?_
          refine WPL.p (PS.arith rfl rfl (.inl ⟨rfl, rfl⟩) (wrap_i64 (by omega) (by omega))) ?_
          refine WPL.p (PS.assign rfl) ?_
          refine WPL.nil ?_
          exact ⟨i + 1, by omega, ⟨by omega, by rw [take_snoc (d := (([], 0) : List UInt8 × Int)) q]; simp only [List.all_append, hal, List.all_cons, List.all_nil]; rw [h3.2]; rfl⟩, rfl, rfl, ⟨rfl, rfl, rfl, rfl, trivial⟩, rfl, rfl⟩
        · intro h3
          have h3 : (decide ((i : Int) < (l.length : Int)) && ltB (l.getD i ([], 0)).1 k) = false := h3
          have hor : i = l.length ∨ ltB (l.getD i ([], 0)).1 k = false := by
            simp only [Bool.and_eq_false_iff, decide_eq_false_iff_not] at h3
            rcases h3 with h3 | h3
            · left; omega
            · right; exact h3
          obtain ⟨hw1, hw2⟩ := while_at (p := fun x => ltB x.1 k) hi hal hor
          obtain ⟨hi1, hi2⟩ := isC_take hlk hi
          have htl : (isC (l.drop i)).take ((l.length - i) * 26) = isC (l.drop i) := List.take_of_length_le (by have := isC_len (l := l.drop i) (fun x hx => hlk x (List.mem_of_mem_drop hx)); rw [this]; simp)
          refine WP.exit ?_
          refine WP.seq ?_
          refine WP.drawK 10 mixed (by kernel_rfl) rfl ?_
          refine ScrK.keep (List.Sublist.cons_cons _ List.Sublist.slnil) ?_
          refine ScrK.psK (List.Sublist.cons_cons _ List.Sublist.slnil) (i := 1) rfl rfl rfl rfl (PS.move rfl) ?_
          refine ScrK.psK (List.Sublist.cons_cons _ List.Sublist.slnil) (i := 2) rfl rfl rfl rfl (PS.move rfl) ?_
          refine ScrK.psK (List.Sublist.refl _) (i := 3) rfl rfl rfl rfl (PS.slAny (i := 0) (j := i) hs rfl Bnd.none (Bnd.some rfl rfl) (by omega) (by omega)) ?_
          refine ScrK.psK (List.Sublist.refl _) (i := 5) rfl rfl rfl rfl (PS.loadAgg rfl InR.here (View.take_whole (rkb_length hk))) ?_
          refine ScrK.psK (List.Sublist.cons_cons _ List.Sublist.slnil) (i := 6) rfl rfl rfl rfl (PS.move rfl) ?_
          refine ScrK.psK (List.Sublist.refl _) (i := 7) rfl rfl rfl rfl (PS.build (cs := itC (k, owner)) rfl (fill_pair (rkb_length hk) rfl (by rfl))) ?_
          refine ScrK.late (i := 8) rfl rfl rfl rfl (NS.buildSlice (n := 26) rfl (by decide) (by rfl) (fill_one (it_len (x := (k, owner)) hk) (by rfl))) rfl ?_
          refine ScrK.nw (List.Sublist.refl _) (i := 0) rfl rfl rfl rfl (NS.buildSlice (n := 26) (cs := []) rfl (by decide) (by rfl) rfl) (lateC rfl rfl late0) ?_
          intro b41
          refine ScrK.app (i := 4) [] [_] rfl rfl rfl (v := .slice (some ⟨b41, 0, none⟩) 0 0) (cs := []) (m := 0) (m2 := i - 0) rfl rfl ⟨rfl, .inr ⟨b41, 0, rfl, Nat.le_refl _⟩⟩ rfl (fun S => List.sublist_append_right _ _) (srcAny hs (by omega) (by omega)) (by rw [Nat.sub_zero, Nat.zero_mul, List.drop_zero, hi1]; exact one_isC _) (by decide) (by omega) (lateC rfl rfl late0) ?_
          intro v45 hO45
          refine ScrK.appX (i := 9) [] [_] rfl rfl rfl rfl (m2 := 1) (news := itC (k, owner)) (fun b => rfl) (fun b => rfl) hO45 rfl (fun S => List.sublist_append_right _ _) (fun b => .inl ⟨b, 0, 1, _, rfl, InR.here, it_row1 (x := (k, owner)) hk⟩) (one_it _) (by decide) (by omega) (lateC rfl rfl late0) ?_
          intro b49 v50 hO50
          refine ScrK.end ?_
          refine WPL.p (PS.assign rfl) ?_
          refine WPL.nil ?_
          refine WP.seq ?_
          refine WP.region rfl ?_
          refine WPL.p (PS.move rfl) ?_
          refine WPL.p (PS.move rfl) ?_
          refine WPL.p (PS.move rfl) ?_
          refine WPL.p (PS.slAny (i := i) (j := l.length) hs rfl (Bnd.some rfl rfl) Bnd.none (by omega) (by omega)) ?_
          refine WPL.app [_] [_] rfl rfl hO50 rfl (m2 := l.length - i) (srcAny hs (by omega) (by omega)) (by rw [hi2, htl]; exact one_isC _) (by decide) (by omega) ?_
          intro v55 hO55
          refine WPL.p (PS.assign rfl) ?_
          refine WPL.p (PS.assign rfl) ?_
          refine WPL.wf (fun wf => ?_)
          refine WPL.p (PS.assign rfl) ?_
          refine WPL.nil ?_
          refine WP.ret ?_
          have hfin : ((([] ++ ((isC l).drop (0 * 26)).take ((i - 0) * 26)) ++ itC (k, owner)) ++ ((isC l).drop (i * 26)).take ((l.length - i) * 26)) = isC (insI l owner k) := by
            rw [Nat.sub_zero, Nat.zero_mul, List.drop_zero, hi1, hi2, htl, insI, hw1, hw2, isC_app, List.nil_append]
            simp [isC]
          have hm : 0 + (i - 0) + 1 + (l.length - i) = (insI l owner k).length := by rw [insI, hw1, hw2]; simp; omega
          have hOf : Own v55 (isC (insI l owner k)) 26 (insI l owner k).length := by rw [← hfin, ← hm]; exact hO55
          rw [hfin] at wf ⊢
          have hsub : (slL v55 (isC (insI l owner k)) 126 26).Sublist ([(b49, .row 0 (itC (k, owner)) 126 (1 * 26))] ++ (slL v55 (isC (insI l owner k)) 126 26 ++ [(b5, .cells (rkb k) 51)])) := (List.sublist_append_left _ _).trans (List.sublist_append_right _ _)
          refine ⟨.inr rfl, _, ov H (slL v55 (isC (insI l owner k)) 126 26), (res1 (resT rfl) (res1 (resT rfl) (res1 (resT rfl) res0))), fun wf => (wf_sublist hsub wf).2, by simp, by simp, v55, ?_, .inr ⟨by rw [hr], by rw [hr]; exact hOf, by rw [hr]; exact (wf_sublist hsub wf).1, by rw [hr]⟩⟩
          rw [hr]; rfl

end Go.Proofs.YtfoakjdnopljmaaGreatDoor

set_option linter.unusedVariables false
set_option linter.unusedSimpArgs false
set_option maxRecDepth 100000
namespace Go.Proofs.YtfoakjdnopljmaaGreatDoor
open Go Go.Proofs

def rDrop (owner : Int) (k : List UInt8) : List (List UInt8 × Int) → List (List UInt8 × Int) × Bool
  | [] => ([], false)
  | x :: l => bif (x.1 == k) && (x.2 == owner) then (l, true) else (x :: (rDrop owner k l).1, (rDrop owner k l).2)
theorem rDrop_no {owner : Int} {k : List UInt8} : ∀ {l : List (List UInt8 × Int)}, l.all (fun x => !((x.1 == k) && (x.2 == owner))) = true → rDrop owner k l = (l, false)
  | [], _ => rfl
  | x :: l, h => by
    simp only [List.all_cons, Bool.and_eq_true, Bool.not_eq_true'] at h
    simp only [rDrop, h.1, cond_false, rDrop_no h.2]
theorem rDrop_at {owner : Int} {k : List UInt8} : ∀ {l : List (List UInt8 × Int)} {i : Nat}, i < l.length → (l.take i).all (fun x => !((x.1 == k) && (x.2 == owner))) = true → (((l.getD i ([], 0)).1 == k) && ((l.getD i ([], 0)).2 == owner)) = true → rDrop owner k l = (l.take i ++ l.drop (i + 1), true)
  | [], _, h, _, _ => by simp at h
  | x :: l, 0, _, _, h => by
    have h : ((x.1 == k) && (x.2 == owner)) = true := by simpa using h
    simp [rDrop, h]
  | x :: l, i + 1, hi, ha, h => by
    simp only [List.take_succ_cons, List.all_cons, Bool.and_eq_true, Bool.not_eq_true'] at ha
    have := rDrop_at (l := l) (i := i) (by simpa using hi) ha.2 (by simpa using h)
    simp only [rDrop, ha.1, cond_false, this]
    simp

set_option maxHeartbeats 400000 in
theorem cRDrop (a : Option Addr) (b c : Nat) (l : List (List UInt8 × Int)) (hlk : ∀ x ∈ l, okK x.1) (hn : l.length ≤ 1000000) (owner : Int) (k : List UInt8) (hk : okK k) (H : Heap) (hs : SlIn H a b c (isC l) 126 26 l.length) : Ev Tryz.prog 19 [.slice a l.length c, .int .i64 owner, .agg ⟨rkb k⟩] H (fun v H' => ∃ sv, v = .tuple ⟨[sv, .bool (rDrop owner k l).2]⟩ ∧ NewL H H' a c l (rDrop owner k l).1 (rDrop owner k l).2 sv) := by
  refine Ev.enter Tryz.func19 rfl ent19 ?_
  refine WP.seq ?_
  refine WP.region rfl ?_
  refine WPL.nw (NS.boxA rfl) ?_
  intro b5
  refine WPL.p (PS.assign rfl) ?_
  refine WPL.p (PS.assign rfl) ?_
  refine WPL.nil ?_
  refine WP.seq ?_
  refine WP.seq ?_
  refine WP.region rfl ?_
  refine WPL.p (PS.assign rfl) ?_
  refine WPL.nil ?_
  refine WP.block ?_
  refine WP.while (ι := Nat) (fun i => [(0, .slice a l.length c), (1, .int .i64 owner), (5, ptr b5 0), (8, num i)]) (fun _ => H) (fun i => [(b5, .cells (rkb k) 51)])
    (fun i => i ≤ l.length ∧ (l.take i).all (fun x => !((x.1 == k) && (x.2 == owner))) = true) (fun i => l.length - i) 0 ⟨rfl, rfl, rfl, rfl, trivial⟩ ⟨by omega, rfl⟩ rfl rfl ?_
  rintro i ⟨hi, hal⟩
  refine WP.seq ?_
  refine WP.seq ?_
  refine WP.region rfl ?_
  refine WPL.p (PS.move rfl) ?_
  refine WPL.p (PS.move rfl) ?_
  refine WPL.p (PS.lenSlice rfl) ?_
  refine WPL.p (PS.binInt rfl rfl rfl) ?_
  refine WPL.nil ?_
  refine WP.ifs rfl ?_ ?_
  · intro h0
    have q : i < l.length := by have := of_decide_eq_true h0; omega
    obtain ⟨ha, hc, hrow⟩ := hs.at (by omega)
    subst ha
    refine WP.skip ?_
    refine WP.seq ?_
    refine WP.block ?_
    refine WP.seq ?_
    refine WP.draw 16 mixed (by kernel_rfl) rfl ?_
    refine Scr.ps (i := 0) rfl rfl rfl rfl (PS.move rfl) ?_
    refine Scr.ps (i := 1) rfl rfl rfl rfl (PS.move rfl) ?_
    refine Scr.ps (i := 2) rfl rfl rfl rfl (PS.indexAddr rfl rfl (by omega) (by omega)) ?_
    refine Scr.ps (i := 3) rfl rfl rfl rfl (PS.fieldAddr rfl) ?_
    refine Scr.ps (i := 4) rfl rfl rfl rfl (PS.loadAgg rfl (InR.base hrow) (is_key hlk q)) ?_
    refine Scr.ps (i := 5) rfl rfl rfl rfl (PS.loadAgg rfl InR.here (View.take_whole (rkb_length hk))) ?_
    refine Scr.ps (i := 6) rfl rfl rfl rfl (PS.eqFlat rfl rfl (fits_rkb (hlk _ (getD_mem q))) (fits_rkb hk)) ?_
    refine Scr.ps (i := 7) rfl rfl rfl rfl (PS.move rfl) ?_
    refine Scr.c (i := 8) rfl rfl rfl (Wants.yes rfl rfl rfl) (fun hb => (PS.move rfl)) ?_
    refine Scr.c (i := 9) rfl rfl rfl (Wants.yes rfl rfl rfl) (fun hb => (PS.move rfl)) ?_
    refine Scr.c (i := 10) rfl rfl rfl (Wants.yes rfl rfl rfl) (fun hb => PS.indexAddr (gt hb rfl) (gt hb rfl) (by omega) (by omega)) ?_
    refine Scr.c (i := 11) rfl rfl rfl (Wants.yes rfl rfl rfl) (fun hb => (PS.fieldAddr (gt hb rfl))) ?_
    refine Scr.c (i := 12) rfl rfl rfl (Wants.yes rfl rfl rfl) (fun hb => PS.load (gt hb rfl) (InR.base hrow) (is_own hlk q)) ?_
    refine Scr.c (i := 13) rfl rfl rfl (Wants.yes rfl rfl rfl) (fun hb => (PS.move rfl)) ?_
    refine Scr.c (i := 14) rfl rfl rfl (Wants.yes rfl rfl rfl) (fun hb => (PS.binInt (gt hb rfl) (gt hb rfl) rfl)) ?_
    refine Scr.ps (i := 15) rfl rfl rfl rfl (PS.pickAnd rfl (fun hc => gt hc rfl) rfl) ?_
    refine Scr.end ?_
    refine WPL.nil ?_
    refine WP.ifs rfl ?_ ?_
    · intro h1
      have h1' := h1
      simp only [cellsEq_rkb (hlk _ (getD_mem q)) hk] at h1'
      have h1' : (((l.getD i ([], 0)).1 == k) && ((l.getD i ([], 0)).2 == owner)) = true := h1'
      have hr := rDrop_at q hal h1'
      obtain ⟨hi1, -⟩ := isC_take hlk hi
      obtain ⟨-, hi2⟩ := isC_take hlk (show i + 1 ≤ l.length from q)
      have htl : (isC (l.drop (i + 1))).take ((l.length - (i + 1)) * 26) = isC (l.drop (i + 1)) := List.take_of_length_le (by have := isC_len (l := l.drop (i + 1)) (fun x hx => hlk x (List.mem_of_mem_drop hx)); rw [this]; simp)
      refine WP.seq ?_
      refine WP.drawK 10 mixed (by kernel_rfl) rfl ?_
      refine ScrK.keep (List.Sublist.cons_cons _ List.Sublist.slnil) ?_
      refine ScrK.psK (List.Sublist.cons_cons _ List.Sublist.slnil) (i := 1) rfl rfl rfl rfl (PS.move rfl) ?_
      refine ScrK.psK (List.Sublist.cons_cons _ List.Sublist.slnil) (i := 2) rfl rfl rfl rfl (PS.move rfl) ?_
      refine ScrK.psK (List.Sublist.refl _) (i := 3) rfl rfl rfl rfl (PS.slAny (i := 0) (j := i) hs rfl Bnd.none (Bnd.some rfl rfl) (by omega) (by omega)) ?_
      refine ScrK.psK (List.Sublist.cons_cons _ List.Sublist.slnil) (i := 5) rfl rfl rfl rfl (PS.move rfl) ?_
      refine ScrK.psK (List.Sublist.cons_cons _ List.Sublist.slnil) (i := 6) rfl rfl rfl rfl (PS.move rfl) ?_
      refine ScrK.psK (List.Sublist.cons_cons _ List.Sublist.slnil) (i := 7) rfl rfl rfl rfl (PS.arith rfl rfl (.inl ⟨rfl, rfl⟩) (wrap_i64 (by omega) (by omega))) ?_
      refine ScrK.psK (List.Sublist.refl _) (i := 8) rfl rfl rfl rfl (PS.slAny (i := i + 1) (j := l.length) hs rfl (Bnd.some rfl (by omega)) Bnd.none (by omega) (by omega)) ?_
      refine ScrK.nw (List.Sublist.refl _) (i := 0) rfl rfl rfl rfl (NS.buildSlice (n := 26) (cs := []) rfl (by decide) (by rfl) rfl) late0 ?_
      intro b31
      refine ScrK.app (i := 4) [] [_] rfl rfl rfl (v := .slice (some ⟨b31, 0, none⟩) 0 0) (cs := []) (m := 0) (m2 := i - 0) rfl rfl ⟨rfl, .inr ⟨b31, 0, rfl, Nat.le_refl _⟩⟩ rfl (fun S => List.sublist_append_right _ _) (srcAny hs (by omega) (by omega)) (by rw [Nat.sub_zero, Nat.zero_mul, List.drop_zero, hi1]; exact one_isC _) (by decide) (by omega) late0 ?_
      intro v35 hO35
      refine ScrK.app (i := 9) [] [_] rfl rfl rfl (m2 := l.length - (i + 1)) rfl rfl hO35 rfl (fun S => List.sublist_append_right _ _) (srcAny hs (by omega) (by omega)) (by rw [hi2, htl]; exact one_isC _) (by decide) (by omega) late0 ?_
      intro v40 hO40
      refine ScrK.end ?_
      refine WPL.p (PS.assign rfl) ?_
      refine WPL.wf (fun wf => ?_)
      refine WPL.p (PS.assign rfl) ?_
      refine WPL.nil ?_
      refine WP.ret ?_
      refine toB (toQ (toQ (toB (toQ ?_))))
      have hfin : (([] ++ ((isC l).drop (0 * 26)).take ((i - 0) * 26)) ++ ((isC l).drop ((i + 1) * 26)).take ((l.length - (i + 1)) * 26)) = isC (l.take i ++ l.drop (i + 1)) := by
        rw [Nat.sub_zero, Nat.zero_mul, List.drop_zero, hi1, hi2, htl, isC_app, List.nil_append]
      have hm : 0 + (i - 0) + (l.length - (i + 1)) = (l.take i ++ l.drop (i + 1)).length := by simp; omega
      have hOf : Own v40 (isC (l.take i ++ l.drop (i + 1))) 26 (l.take i ++ l.drop (i + 1)).length := by rw [← hfin, ← hm]; exact hO40
      rw [hfin] at wf ⊢
      have hsub : (slL v40 (isC (l.take i ++ l.drop (i + 1))) 126 26).Sublist ([] ++ (slL v40 (isC (l.take i ++ l.drop (i + 1))) 126 26 ++ [(b5, .cells (rkb k) 51)])) := (List.sublist_append_left _ _).trans (List.sublist_append_right _ _)
      refine ⟨.inr rfl, _, ov H (slL v40 (isC (l.take i ++ l.drop (i + 1))) 126 26), (res1 (resT rfl) (res1 (resT rfl) res0)), fun wf => (wf_sublist hsub wf).2, by simp, by simp, v40, ?_, .inr ⟨by rw [hr], by rw [hr]; exact hOf, by rw [hr]; exact (wf_sublist hsub wf).1, by rw [hr]⟩⟩
      rw [hr]; rfl
    · intro h1
      have h1' := h1
      simp only [cellsEq_rkb (hlk _ (getD_mem q)) hk] at h1'
      have h1' : (((l.getD i ([], 0)).1 == k) && ((l.getD i ([], 0)).2 == owner)) = false := h1'
      refine WP.skip ?_
      refine WP.region rfl ?_
      refine WPL.p (PS.move rfl) ?_
      refine WPL.p (PS.arith rfl rfl (.inl ⟨rfl, rfl⟩) (wrap_i64 (by omega) (by omega))) ?_
      refine WPL.p (PS.assign rfl) ?_
      refine WPL.nil ?_
      exact ⟨i + 1, by omega, ⟨by omega, by rw [take_snoc (d := (([], 0) : List UInt8 × Int)) q]; simp only [List.all_append, hal, List.all_cons, List.all_nil]; rw [h1']; rfl⟩, rfl, rfl, ⟨rfl, rfl, rfl, rfl, trivial⟩, rfl, rfl⟩
  · intro h0
    have q : i = l.length := by have := of_decide_eq_false h0; omega
    rw [q, List.take_length] at hal
    have hr := rDrop_no hal
    refine WP.exit ?_
    refine WP.seq ?_
    refine WP.region rfl ?_
    refine WPL.p (PS.move rfl) ?_
    refine WPL.p (PS.assign rfl) ?_
    refine WPL.p (PS.assign rfl) ?_
    refine WPL.nil ?_
    refine WP.ret ?_
    refine RetQ.end (.inr rfl) (sub_all) ⟨_, (res1 (resT rfl) (res1 (resT rfl) res0)), ?_⟩
    exact ⟨.slice a l.length c, by rw [hr]; rfl, .inl ⟨by rw [hr], by rw [hr], rfl, rfl⟩⟩

end Go.Proofs.YtfoakjdnopljmaaGreatDoor

set_option linter.unusedVariables false
set_option linter.unusedSimpArgs false
set_option maxRecDepth 100000
namespace Go.Proofs.YtfoakjdnopljmaaGreatDoor
open Go Go.Proofs

theorem cOf (bt : Nat) (o : Option Nat) (T : List (List UInt8 × Int)) (owner : Int) (hn : T.length ≤ 1000000) (H : Heap) (ht : TabIn H bt o T) : EvS Tryz.prog 28 [ptr bt 0, .int .i64 owner] H 30 25 (OfR owner T) := by
  cases o with
  | none => exact cOfN bt T owner H ht
  | some bm => exact cOfS bt bm T owner hn H ht
def OwnersR (T : List (List UInt8 × Int)) (v : Value) (cs : List Value) (m : Nat) : Prop :=
  ∃ os : List Int, os.Perm (T.map (·.2)) ∧ cs = (Lib.compact (os.mergeSort fun x y => decide (x ≤ y))).map (Value.int .i64) ∧ m = (Lib.compact (os.mergeSort fun x y => decide (x ≤ y))).length

set_option maxHeartbeats 400000 in
theorem cFirst (bt : Nat) (o : Option Nat) (T : List (List UInt8 × Int)) (owner : Int) (hn : T.length ≤ 1000000) (H : Heap) (ht : TabIn H bt o T) : Ev Tryz.prog 25 [ptr bt 0, .int .i64 owner] H (fun v H' => ∃ ks : List (List UInt8), ks.Perm (owned owner T) ∧ ks.Pairwise (fun x y => ltB y x = false) ∧ v = .tuple ⟨[nm (ks.headD (List.replicate 25 (0 : UInt8))), .bool (!ks.isEmpty)]⟩ ∧ H' = H) := by
  refine Ev.enter Tryz.func25 rfl ent25 ?_
  refine WP.seq ?_
  refine WP.region rfl ?_
  refine WPL.nw (V := .cells ((List.replicate 25 (0 : UInt8)).map u8) 30) (NS.allocL (by rfl)) ?_
  intro b4
  refine WPL.p (PS.assign rfl) ?_
  refine WPL.nil ?_
  refine WP.seq ?_
  refine WP.seq ?_
  refine WP.region rfl ?_
  refine WPL.p (PS.move rfl) ?_
  refine WPL.p (PS.move rfl) ?_
  refine WPL.sl rfl rfl (fun wf => cOf bt o T owner hn _ (ht.up wf)) ?_
  intro v cs m hO hR
  obtain ⟨ks, rfl, rfl, hp, hs⟩ := hR
  obtain ⟨a, c, hv⟩ := hO.len
  subst hv
  have hks : ∀ k ∈ ks, okK k := fun k hk => owned_mem ht.k k (hp.mem_iff.1 hk)
  refine WPL.p (PS.lenSlice rfl) ?_
  refine WPL.p (PS.move rfl) ?_
  refine WPL.nil ?_
  refine WP.block ?_
  refine WP.while (ι := Unit) (fun i => [(4, ptr b4 0), (10, .slice a ks.length c), (11, num ks.length), (12, num 0)]) (fun _ => H) (fun i => slL (.slice a ks.length c) (keysC ks) 30 25 ++ [(b4, .cells ((List.replicate 25 (0 : UInt8)).map u8) 30)])
    (fun i => True) (fun i => 0) () ⟨rfl, rfl, rfl, rfl, trivial⟩ trivial rfl rfl ?_
  rintro i -
  refine WP.seq ?_
  refine WP.region rfl ?_
  refine WPL.p (PS.binInt rfl rfl rfl) ?_
  refine WPL.nil ?_
  refine WP.seq ?_
  refine WP.ifs rfl ?_ ?_
  · intro h0
    have q : 0 < ks.length := by have := of_decide_eq_true h0; omega
    obtain ⟨b, cap, hv, hcap, hir⟩ := Own.inr (G := H) (A := []) (B := [(b4, .cells ((List.replicate 25 (0 : UInt8)).map u8) 30)]) hO q
    cases hv
    have hk : okK (ks.getD 0 []) := hks _ (getD_mem q)
    have hk' : ((ks.getD 0 []).map u8).length = 25 := by simpa [okK] using hk
    have hh : ks.headD (List.replicate 25 (0 : UInt8)) = ks.getD 0 [] ∧ ks.isEmpty = false := by
      cases ks with
      | nil => simp at q
      | cons x r => exact ⟨rfl, rfl⟩
    refine WP.skip ?_
    refine WP.seq ?_
    refine WP.block ?_
    refine WP.seq ?_
    refine WP.region rfl ?_
    refine WPL.p (PS.indexAddr rfl rfl (by omega) (by omega)) ?_
    refine WPL.p (PS.loadAgg rfl hir (keys_take (i := 0) hks q)) ?_
    refine WPL.nw NS.alloc ?_
    intro b7
    refine WPL.sA (m := 25) rfl rfl UpdR.here hk' (one_u8 _) (View.write_whole hk') ?_
    refine WPL.nil ?_
    refine WP.seq ?_
    refine WP.region rfl ?_
    refine WPL.p (PS.loadAgg rfl InR.here (View.take_whole hk')) ?_
    refine WPL.sA (m := 25) rfl rfl (UpdR.there (UpdR.skip UpdR.here _)) hk' (one_u8 _) (View.write_whole (by rw [hk']; rfl)) ?_
    refine WPL.p (PS.assign rfl) ?_
    refine WPL.nil ?_
    refine WP.ret ?_
    refine toB (toQ (toQ (toB (toQ ?_))))
    refine RetQ.end (.inr rfl) (sub_all) ⟨_, (res1 (resA rfl (InR.there (InR.skip InR.here _)) (View.take_whole hk')) (res1 (resT rfl) res0)), ?_⟩
    exact ⟨ks, hp, hs, by rw [hh.1, hh.2]; rfl, rfl⟩
  · intro h0
    have q : ks = [] := List.length_eq_zero_iff.1 (by have := of_decide_eq_false h0; omega)
    refine WP.exit ?_
    refine WP.seq ?_
    refine WP.region rfl ?_
    refine WPL.p (PS.build (cs := (List.replicate 25 (0 : UInt8)).map u8) rfl rfl) ?_
    refine WPL.sA (m := 25) rfl rfl (UpdR.skip UpdR.here _) rfl (one_u8 (List.replicate 25 (0 : UInt8))) (View.write_whole rfl) ?_
    refine WPL.p (PS.assign rfl) ?_
    refine WPL.nil ?_
    refine WP.ret ?_
    refine RetQ.end (.inr rfl) (sub_all) ⟨_, (res1 (resA rfl (InR.skip InR.here _) (View.take_whole rfl)) (res1 (resT rfl) res0)), ?_⟩
    exact ⟨ks, hp, hs, by rw [q]; rfl, rfl⟩

set_option maxHeartbeats 400000 in
theorem cOwnersS (bt bm : Nat) (T : List (List UInt8 × Int)) (hn : T.length ≤ 1000000) (H : Heap) (ht : TabIn H bt (some bm) T) : EvS Tryz.prog 30 [ptr bt 0] H 3 1 (OwnersR T) := by
  refine Ev.enter Tryz.func30 rfl ent30 ?_
  refine WP.seq ?_
  refine WP.region rfl ?_
  refine WPL.p (PS.assign rfl) ?_
  refine WPL.nil ?_
  refine WP.seq ?_
  refine WP.seq ?_
  refine WP.region rfl ?_
  refine WPL.p (PS.move rfl) ?_
  refine WPL.p (PS.eqNil rfl rfl rfl rfl) ?_
  refine WPL.nil ?_
  refine WP.nope rfl ?_
  refine WP.skip ?_
  refine WP.seq ?_
  refine WP.region rfl ?_
  refine WPL.p (PS.assign rfl) ?_
  refine WPL.nil ?_
  refine WP.seq ?_
  refine WP.seq ?_
  have hm := ht.m bm rfl
  refine WP.expose (fun en ck => UpdR.base hm) ?_
  intro en ck ho0
  have ho : MapObj (T.map tabE) en ck := by rw [← tabT_es]; exact ho0
  clear ho0
  have hbt : (H.set bm (.obj (.map en ck))) bt = some (.cells [.map (some bm)] 86) := by
    have hne := ht.ne (.inl rfl)
    simp only [Heap.set, if_neg (Ne.symm hne)]; exact ht.s
  have hsz : en.size = T.length := by have := congrArg List.length ho.kv; simpa using this
  refine WP.region rfl ?_
  refine WPL.p (PS.move rfl) ?_
  refine WPL.p (PS.nilCheck rfl rfl) ?_
  refine WPL.p (PS.fieldAddr rfl) ?_
  refine WPL.p (PS.load rfl (InR.base hbt) rfl) ?_
  refine WPL.rangeM rfl (InR.base Heap.set_at) ?_
  intro b12
  refine WPL.nil ?_
  refine WP.block ?_
  refine WP.whileV (ι := List MapEntry × Value × List (List UInt8 × Int)) (fun i => [(3, i.2.1), (12, ptr b12 0)]) (fun _ => H.set bm (.obj (.map en ck))) (fun i => (b12, iterO bm ck i.1) :: (slL i.2.1 ((i.2.2).map fun x : List UInt8 × Int => Value.int .i64 x.2) 3 1 ++ []))
    (fun i => Sel en i.1 ∧ Own i.2.1 ((i.2.2).map fun x : List UInt8 × Int => Value.int .i64 x.2) 1 i.2.2.length ∧ Gone i.1 i.2.2 ∧ (∀ x ∈ i.2.2, x ∈ T)) (fun i => en.size - i.1.length) ([], .slice none 0 0, []) ⟨rfl, rfl, trivial⟩ ⟨Sel.nil, Own.nil, rfl, by simp⟩ wf_same ?_
  rintro ⟨D, v, TD⟩ ⟨hS, hO, hG, hTD⟩
  simp only at hS hO hG hTD ⊢
  refine WP.seq ?_
  refine WP.region rfl ?_
  refine WPL.next (b := bm) (bi := b12) rfl (InR.base Heap.set_at) (fun V' => UpdR.here) ho hS ?_
  intro c vs D' hS' hc hf
  refine WPL.p (PS.extract rfl rfl) ?_
  refine WPL.nil ?_
  refine WP.seq ?_
  refine WP.ifs rfl ?_ ?_
  · intro h1
    obtain ⟨e, hDe, he, hlt⟩ := hc h1
    subst hDe
    obtain ⟨x, hx, hek, hev⟩ := entry_of ho he
    have hG' := hG.snoc hek hev
    have hTD' : ∀ y ∈ TD ++ [x], y ∈ T := by
      intro y hy
      rcases List.mem_append.1 hy with hy | hy
      · exact hTD y hy
      · rw [List.mem_singleton.1 hy]; exact hx
    have hlen := hG.len
    refine WP.skip ?_
    refine WP.block ?_
    refine WP.seq ?_
    refine WP.region rfl ?_
    refine WPL.p (PS.entry (e := e) rfl (InR.base Heap.set_at) InR.here ho he) ?_
    rw [hek, hev]
    refine WPL.p (PS.extract rfl rfl) ?_
    refine WPL.p (PS.assign rfl) ?_
    refine WPL.nil ?_
    refine WP.region rfl ?_
    refine WPL.p (PS.move rfl) ?_
    refine WPL.p (PS.move rfl) ?_
    refine WPL.nw (NS.buildSlice (n := 1) (cs := [.int .i64 x.2]) rfl (by decide) (by rfl) rfl) ?_
    intro b19
    refine WPL.app [_, _] [] rfl rfl hO rfl (m2 := 1) (news := [.int .i64 x.2]) (.inl ⟨b19, 0, 1, _, rfl, InR.here, rfl⟩) rfl (by decide) (by omega) ?_
    intro v' hO'
    refine WPL.p (PS.assign rfl) ?_
    refine WPL.nil ?_
    exact ⟨(D ++ [e], v', TD ++ [x]), by simp <;> omega, ⟨hS', by simpa using hO', hG', hTD'⟩, rfl, rfl, ⟨rfl, rfl, trivial⟩, by simp only [List.map_append, List.map_cons, List.map_nil]; exact wf_sub (List.Sublist.cons _ (List.Sublist.refl _))⟩
  · intro h1
    obtain ⟨hDD, hp⟩ := hf h1
    subst hDD
    have hP := hG.perm ho hp
    have hle2 := hP.length_eq
    refine WP.exit ?_
    refine WP.seq ?_
    refine WP.turn (UpdR.base Heap.set_at) (V' := tabT T) (fun o h => by have h : o = .map en ck := h; subst h; have := ho.ok; rw [← tabT_es] at this; exact this) ?_
    rw [Heap.set_back hm]
    refine WP.region rfl ?_
    refine WPL.p (PS.move rfl) ?_
    have hO1 : Own v ((TD.map (·.2)).map (Value.int .i64)) 1 (TD.map (·.2)).length := by rw [List.map_map, List.length_map]; exact hO
    refine WPL.sortISl Tryz.sortI ent48 (lst := TD.map (·.2)) (A := [(b12, _)]) (B := []) rfl rfl rfl hO1 (by rw [List.map_map]; rfl) (by simp; omega) ?_
    intro hO2
    refine WPL.nil ?_
    refine WP.seq ?_
    refine WP.region rfl ?_
    refine WPL.p (PS.move rfl) ?_
    have hl2 : ((TD.map (·.2)).mergeSort fun x y => decide (x ≤ y)).length = (TD.map (·.2)).length := by simp
    refine WPL.compactSl Tryz.compactI ent49 (A := [(b12, _)]) (B := []) rfl rfl rfl (by rw [hl2]; exact hO2) rfl (by rw [hl2]; simp; omega) ?_
    intro v3 hO3
    refine WPL.wf (fun wf => ?_)
    refine WPL.p (PS.assign rfl) ?_
    refine WPL.nil ?_
    refine WP.ret ?_
    refine RetQ.endS (.inr rfl) wf (List.Sublist.cons _ (by rw [List.append_nil]; exact List.Sublist.refl _)) hO3 ⟨_, (res1 (resT rfl) res0), rfl, ?_⟩
    exact ⟨TD.map (·.2), hP.map _, rfl, rfl⟩

end Go.Proofs.YtfoakjdnopljmaaGreatDoor

set_option linter.unusedVariables false
set_option linter.unusedSimpArgs false
set_option maxRecDepth 100000
namespace Go.Proofs.YtfoakjdnopljmaaGreatDoor
open Go Go.Proofs

theorem cOwnersN (bt : Nat) (T : List (List UInt8 × Int)) (H : Heap) (ht : TabIn H bt none T) : EvS Tryz.prog 30 [ptr bt 0] H 3 1 (OwnersR T) := by
  refine Ev.enter Tryz.func30 rfl ent30 ?_
  refine WP.seq ?_
  refine WP.region rfl ?_
  refine WPL.p (PS.assign rfl) ?_
  refine WPL.nil ?_
  refine WP.seq ?_
  refine WP.seq ?_
  refine WP.region rfl ?_
  refine WPL.p (PS.move rfl) ?_
  refine WPL.p (PS.eqNil rfl rfl rfl rfl) ?_
  refine WPL.nil ?_
  refine WP.nope rfl ?_
  refine WP.skip ?_
  refine WP.seq ?_
  refine WP.region rfl ?_
  refine WPL.p (PS.assign rfl) ?_
  refine WPL.nil ?_
  refine WP.seq ?_
  refine WP.seq ?_
  refine WP.region rfl ?_
  refine WPL.p (PS.move rfl) ?_
  refine WPL.p (PS.nilCheck rfl rfl) ?_
  refine WPL.p (PS.fieldAddr rfl) ?_
  refine WPL.p (PS.load rfl (InR.base ht.s) rfl) ?_
  refine WPL.rangeNil rfl ?_
  intro b12
  refine WPL.nil ?_
  refine WP.block ?_
  refine WP.while (ι := Unit) (fun i => [(3, .slice none 0 0), (12, ptr b12 0)]) (fun _ => H) (fun _ => [(b12, .obj (.mapIter none 0 #[] 0))]) (fun _ => True) (fun _ => 0) () ⟨rfl, rfl, trivial⟩ trivial rfl rfl ?_
  rintro _ _
  refine WP.seq ?_
  refine WP.region rfl ?_
  refine WPL.p (PS.nextNil rfl InR.here) ?_
  refine WPL.p (PS.extract rfl rfl) ?_
  refine WPL.nil ?_
  refine WP.seq ?_
  refine WP.nope rfl ?_
  refine WP.exit ?_
  refine WP.seq ?_
  refine WP.region rfl ?_
  refine WPL.p (PS.move rfl) ?_
  generalize hlst : ([] : List Int) = lst
  have hO : Own (.slice none 0 0) (lst.map (Value.int .i64)) 1 lst.length := by rw [← hlst]; exact Own.nil
  refine WPL.sortISl Tryz.sortI ent48 (e := 3) (lst := lst) (A := [(b12, _)]) (B := []) rfl rfl rfl hO rfl (by rw [← hlst]; decide) ?_
  intro hO2
  refine WPL.nil ?_
  refine WP.seq ?_
  refine WP.region rfl ?_
  refine WPL.p (PS.move rfl) ?_
  have hl2 : (lst.mergeSort fun x y => decide (x ≤ y)).length = lst.length := by simp
  refine WPL.compactSl Tryz.compactI ent49 (A := [(b12, _)]) (B := []) rfl rfl rfl (by rw [hl2]; exact hO2) rfl (by rw [hl2, ← hlst]; decide) ?_
  intro v3 hO3
  refine WPL.wf (fun wf => ?_)
  refine WPL.p (PS.assign rfl) ?_
  refine WPL.nil ?_
  refine WP.ret ?_
  refine RetQ.endS (.inr rfl) wf (List.Sublist.cons _ (by rw [List.append_nil]; exact List.Sublist.refl _)) hO3 ⟨_, (res1 (resT rfl) res0), rfl, ?_⟩
  exact ⟨lst, by rw [← hlst, ht.z rfl]; exact List.Perm.refl _, rfl, rfl⟩

theorem cOwners (bt : Nat) (o : Option Nat) (T : List (List UInt8 × Int)) (hn : T.length ≤ 1000000) (H : Heap) (ht : TabIn H bt o T) : EvS Tryz.prog 30 [ptr bt 0] H 3 1 (OwnersR T) := by
  cases o with
  | none => exact cOwnersN bt T H ht
  | some bm => exact cOwnersS bt bm T hn H ht
/-- Are these keys those? -/
theorem rkb_take {ks : List (List UInt8)} {e : TypeId} {N i : Nat} (hk : ∀ k ∈ ks, okK k) (h : i < ks.length) : (View.row 0 (ks.flatMap rkb) e N).take (0 + (i : Int).toNat * 25) 25 = some (rkb (ks.getD i [])) := by
  have hu : ∀ x ∈ ks, (rkb x).length = 25 := fun x hx => rkb_length (hk x hx)
  have hl := flat_len (f := rkb) hu
  rw [View.take_row (by omega) (by rw [hl]; have := Nat.mul_le_mul_right 25 (show i + 1 ≤ ks.length from h); rw [Nat.add_mul] at this; simp; omega)]
  have := flat_at (f := rkb) (d := []) hu h
  simp only [Int.toNat_natCast, Nat.zero_add, Nat.sub_zero]
  rw [this]
theorem list_eq_of {ks ws : List (List UInt8)} {i : Nat} (h : ks.take i = ws.take i) (hi : i < ks.length) (hw : i < ws.length) (he : ks.getD i [] = ws.getD i []) : ks.take (i + 1) = ws.take (i + 1) := by
  rw [take_snoc (d := []) hi, take_snoc (d := []) hw, h, he]
theorem ne_of_getD {ks ws : List (List UInt8)} {i : Nat} (he : ks.getD i [] ≠ ws.getD i []) : ks ≠ ws := fun e => he (by rw [e])

theorem cKeys (a a' : Option Addr) (b b' c c' : Nat) (ks ws : List (List UInt8)) (hk : ∀ k ∈ ks, okK k) (hw : ∀ k ∈ ws, okK k) (hn : ks.length ≤ 1000000) (H : Heap) (hs : SlIn H a b c (keysC ks) 30 25 ks.length) (hs' : SlIn H a' b' c' (ws.flatMap rkb) 51 25 ws.length) : EvP Tryz.prog 27 [.slice a ks.length c, .slice a' ws.length c'] H (.bool (ks == ws)) := by
  refine Ev.enter Tryz.func27 rfl ent27 ?_
  refine WP.seq ?_
  refine WP.region rfl ?_
  refine WPL.p (PS.assign rfl) ?_
  refine WPL.nil ?_
  refine WP.seq ?_
  refine WP.seq ?_
  refine WP.region rfl ?_
  refine WPL.p (PS.move rfl) ?_
  refine WPL.p (PS.lenSlice rfl) ?_
  refine WPL.p (PS.move rfl) ?_
  refine WPL.p (PS.lenSlice rfl) ?_
  refine WPL.p (PS.binInt rfl rfl rfl) ?_
  refine WPL.nil ?_
  refine WP.ifs rfl ?_ ?_
  · intro h0
    have h0 : ((ks.length : Int) != (ws.length : Int)) = true := h0
    have hne : (ks == ws) = false := by
      rw [Bool.eq_false_iff]; intro h; have := eq_of_beq h; subst this; simp at h0
    refine WP.seq ?_
    refine WP.region rfl ?_
    refine WPL.p (PS.assign rfl) ?_
    refine WPL.nil ?_
    refine WP.ret ?_
    refine toQ ?_
    refine RetQ.end (.inr rfl) (sub_all) ⟨_, (res1 (resT rfl) res0), ?_⟩
    exact ⟨by rw [hne]; rfl, rfl⟩
  · intro h0
    have h0 : ((ks.length : Int) != (ws.length : Int)) = false := h0
    have hl : ks.length = ws.length := by
      have : (ks.length : Int) = (ws.length : Int) := by simpa using h0
      omega
    refine WP.skip ?_
    refine WP.seq ?_
    refine WP.seq ?_
    refine WP.region rfl ?_
    refine WPL.p (PS.assign rfl) ?_
    refine WPL.nil ?_
    refine WP.block ?_
    refine WP.while (ι := Nat) (fun i => [(0, .slice a ks.length c), (1, .slice a' ws.length c'), (5, num i)]) (fun _ => H) (fun i => [])
      (fun i => i ≤ ks.length ∧ ks.take i = ws.take i) (fun i => ks.length - i) 0 ⟨rfl, rfl, rfl, trivial⟩ ⟨by omega, rfl⟩ rfl rfl ?_
    rintro i ⟨hi, ht⟩
    refine WP.seq ?_
    refine WP.seq ?_
    refine WP.region rfl ?_
    refine WPL.p (PS.move rfl) ?_
    refine WPL.p (PS.move rfl) ?_
    refine WPL.p (PS.lenSlice rfl) ?_
    refine WPL.p (PS.binInt rfl rfl rfl) ?_
    refine WPL.nil ?_
    refine WP.ifs rfl ?_ ?_
    · intro h1
      have q : i < ks.length := by have := of_decide_eq_true h1; omega
      obtain ⟨ha, hc, hrow⟩ := hs.at (by omega)
      subst ha
      obtain ⟨ha', hc', hrow'⟩ := hs'.at (by omega)
      subst ha'
      have hki : okK (ks.getD i []) := hk _ (getD_mem q)
      have hwi : okK (ws.getD i []) := hw _ (getD_mem (by omega))
      refine WP.skip ?_
      refine WP.seq ?_
      refine WP.block ?_
      refine WP.seq ?_
      refine WP.draw 10 mixed (by kernel_rfl) rfl ?_
      refine Scr.ps (i := 0) rfl rfl rfl rfl (PS.move rfl) ?_
      refine Scr.ps (i := 1) rfl rfl rfl rfl (PS.move rfl) ?_
      refine Scr.ps (i := 2) rfl rfl rfl rfl (PS.indexAddr rfl rfl (by omega) (by omega)) ?_
      refine Scr.ps (i := 3) rfl rfl rfl rfl (PS.loadAgg rfl (InR.base hrow) (keys_take hk q)) ?_
      refine Scr.ps (i := 5) rfl rfl rfl rfl (PS.move rfl) ?_
      refine Scr.ps (i := 6) rfl rfl rfl rfl (PS.move rfl) ?_
      refine Scr.ps (i := 7) rfl rfl rfl rfl (PS.indexAddr rfl rfl (by omega) (by omega)) ?_
      refine Scr.ps (i := 8) rfl rfl rfl rfl (PS.loadAgg rfl (InR.base hrow') (rkb_take hw (by omega))) ?_
      refine Scr.cl (i := 4) rfl rfl rfl rfl rfl (fun wf => cvulgatelaw06_Of _ hki _) late0 ?_
      refine Scr.ps (i := 9) rfl rfl rfl rfl (PS.eqFlatN rfl rfl (fits_rkb hki) (fits_rkb hwi)) ?_
      refine Scr.end ?_
      refine WPL.nil ?_
      refine WP.ifs rfl ?_ ?_
      · intro h2
        have h2' := h2
        rw [cellsEq_rkb hki hwi] at h2'
        have hne : (ks == ws) = false := by
          rw [Bool.eq_false_iff]; intro h; exact ne_of_getD (by simpa using h2') (eq_of_beq h)
        refine WP.seq ?_
        refine WP.region rfl ?_
        refine WPL.p (PS.assign rfl) ?_
        refine WPL.nil ?_
        refine WP.ret ?_
        refine toB (toQ (toQ (toB (toQ ?_))))
        refine RetQ.end (.inr rfl) (sub_all) ⟨_, (res1 (resT rfl) res0), ?_⟩
        exact ⟨by rw [hne]; rfl, rfl⟩
      · intro h2
        have h2' := h2
        rw [cellsEq_rkb hki hwi] at h2'
        refine WP.skip ?_
        refine WP.region rfl ?_
        refine WPL.p (PS.move rfl) ?_
        refine WPL.p (PS.arith rfl rfl (.inl ⟨rfl, rfl⟩) (wrap_i64 (by omega) (by omega))) ?_
        refine WPL.p (PS.assign rfl) ?_
        refine WPL.nil ?_
        exact ⟨i + 1, by omega, ⟨by omega, list_eq_of ht q (by omega) (by simpa using h2')⟩, rfl, rfl, ⟨rfl, rfl, rfl, trivial⟩, rfl, rfl⟩
    · intro h1
      have q : i = ks.length := by have := of_decide_eq_false h1; omega
      have he : ks = ws := by subst q; rw [List.take_length, hl, List.take_length] at ht; exact ht
      refine WP.exit ?_
      refine WP.seq ?_
      refine WP.region rfl ?_
      refine WPL.p (PS.assign rfl) ?_
      refine WPL.nil ?_
      refine WP.ret ?_
      refine RetQ.end (.inr rfl) (sub_all) ⟨_, (res1 (resT rfl) res0), ?_⟩
      exact ⟨by rw [he]; simp [tupled], rfl⟩

end Go.Proofs.YtfoakjdnopljmaaGreatDoor
