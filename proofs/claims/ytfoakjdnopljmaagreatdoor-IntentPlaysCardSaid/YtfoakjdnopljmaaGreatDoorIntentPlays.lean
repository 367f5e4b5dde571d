/-
  The statement 'vulgatelaw16.IntentPlays': whatever acts, key and owner come in, the call returns true and what came in reads as it did. Conditions: the row's own: the two library tables read as laid (tied to the program's text).
-/
import Derived.Test.YtfoakjdnopljmaaGreatDoorPartF
import Derived.Test.YtfoakjdnopljmaaGreatDoorTie
import Derived.Test.YtfoakjdnopljmaaGreatDoorCards

set_option linter.unusedVariables false
set_option linter.unusedSimpArgs false
set_option maxRecDepth 100000
namespace Go.Proofs.YtfoakjdnopljmaaGreatDoor
open Go Go.Proofs


open Go.ChangeShapes Go.WideShapes Go.ChangeAt Go.RowKit

set_option maxRecDepth 100000 in
theorem intentPlays_lifted (os : Os) (started : os.Started) (H : Type) (enc : TypeId × Value → H) :
    ReturnsInHanded {} Tryz.checked os 4 .any (fun w args => (Rows.intentPlaysSpec.pre enc Tryz.prog Tryz.f4 Rows.intentPlaysRow.domain false w args ∧ laidMetH Tryz.prog Rows.intentPlaysRow.laid w) ∧ sizedMet enc Tryz.prog Tryz.f4 (OpenSpec.ofChange Rows.intentPlaysSpec) false w args)
      (Rows.intentPlaysSpec.post enc Tryz.prog Tryz.f4 false true false false) := by
  refine returnsInHanded_of_change_and (C := Tryz.checked) (X := fun w _ => laidMetH Tryz.prog Rows.intentPlaysRow.laid w) (fun _ _ _ hh h => h.of_heap hh) tryz_own started (by kernel_rfl) Tryz.func4
    (ChangeSpec.witness_shaped (enc := enc) (C := Tryz.checked) (os := os) (X := fun w _ => laidMetH Tryz.prog Rows.intentPlaysRow.laid w) false (World.laidAll Tryz.prog os Rows.intentPlaysRow.laid) #[.slice none 0 0, nm (List.replicate 25 0), .int .i64 0] 8 (World.laidAll_os _ _ _)
      (World.shaped_of_ZipB (by kernel_rfl) (by kernel_rfl)) (by kernel_rfl) (by kernel_rfl) (by kernel_rfl)
      (by rw [MakeChecks.laidMetH_plain _ _ _ (by kernel_rfl)]; exact laidMet_laidAll _ (by kernel_rfl) (by kernel_rfl))) ?_
  intro W base args ds gs before hval0 hW hc _ hL _
  have hval : ∀ (j : Nat) t v, Tryz.f4.params[j]? = some t → args[j]? = some v → Value.okWide Tryz.prog W .any base t v := hval0
  have hW' := hW
  obtain ⟨p, q, hA0, hV, rfl, _, _⟩ := hW
  have hA : DataW.TrodAll enc Tryz.prog W 0 (fun _ => true) true Tryz.f4.params.toList args.toList ds p := hA0
  rw [Tryz.params4] at hA hval
  obtain ⟨v0, v1, v2, d0, d1, d2, p0, p1, p2, rfl, rfl, rfl, h0, h1, h2⟩ := trodAll_three hA
  obtain ⟨rfl, rfl⟩ := trodVars_none hV
  obtain ⟨a, b, off, len, cap, V, rfl, hlc, hcap, hS⟩ := slice_old (n := 52) (R := fun cs => ∃ a : Act16, okA a ∧ cs = actC a) Tryz.underlying83 (by kernel_rfl) (by decide)
    (okWide_slice Tryz.underlying83 (hval 0 83 v0 rfl rfl)) h0 (fun cs fuel x hl h => read_act hl h)
  obtain ⟨acts, hal, hacts⟩ : ∃ acts : List Act16, acts.length = len ∧ ∀ i, i < len → okA (acts.getD i default) ∧ (∀ V', V' = V → V'.take (off + i * 52) 52 = some (actC (acts.getD i default))) := by
    refine choose_list (R := fun i x => okA x ∧ (∀ V', V' = V → V'.take (off + i * 52) 52 = some (actC x))) fun i hi => ?_
    obtain ⟨_, _, h3⟩ := hS (by omega)
    obtain ⟨cs, _, ⟨x, hx, rfl⟩, ht⟩ := h3 i hi
    exact ⟨x, hx, fun V' e => by rw [e]; exact ht⟩
  obtain ⟨k, hk, rfl⟩ : ∃ k, okK k ∧ v1 = nm k := by
    obtain ⟨fs, hfs⟩ : ∃ cs, v1 = .agg cs ∧ cs.size = 25 := by
      have := hval 1 30 v1 rfl rfl
      simp only [Value.okWide, Tryz.underlying30] at this
      obtain ⟨cs, e, hs, _⟩ := this
      exact ⟨cs, e, by rw [hs]; kernel_rfl⟩
    obtain ⟨rfl, hsz⟩ := hfs
    obtain ⟨fuel, hf⟩ := h1
    have hf' : DataW.trod enc Tryz.prog W 0 (fun _ => true) true fuel 30 ((fs.toList.drop 0).take 25) = some (d1, p1) := by
      rw [List.drop_zero, List.take_of_length_le (by simp; omega)]; exact hf
    obtain ⟨k, hk, e⟩ := read_key (by simp; omega) hf'
    rw [List.drop_zero, List.take_of_length_le (by simp; omega)] at e
    exact ⟨k, hk, by rw [nm, ← e]⟩
  obtain ⟨owner, rfl, _, _, _⟩ := open_int Tryz.underlying3 (hval 2 3 v2 rfl rfl) h2
  subst hal
  have hcon := cIntentPlays a b off cap V acts k hk owner (by simp only [maxLen] at hcap; omega)
    (fun x hx => by
      obtain ⟨i, hi, rfl⟩ := List.getElem_of_mem hx
      have := (hacts i hi).1
      rwa [List.getD_eq_getElem?_getD, List.getElem?_eq_getElem hi] at this) (oldH W)
    (fun hp => by
      obtain ⟨e1, e2, _⟩ := hS hp
      exact ⟨e1, e2, fun i hi => by
        have := (hacts i hi).2 V rfl
        rwa [List.getD_eq_getElem?_getD, List.getElem?_eq_getElem hi] at this ⊢⟩)
  refine (calls_below hcon).mono fun e W' ⟨he, hb⟩ => ⟨_, he, ?_⟩
  exact post_true tryz_laidOut rfl rfl Tryz.underlying4 (by kernel_rfl) hW' rfl hb

theorem intentPlays_holds : Rows.IntentPlaysSaid :=
  OpenClaim.holds_of_wide 4 Tryz.f4 rfl rfl rfl rfl rfl rfl rfl ⟨rfl, rfl, rfl, rfl, rfl⟩ rfl rfl rfl rfl rfl (by kernel_rfl) Tryz.func4 (by kernel_rfl)
    (of_decide_eq_true (by kernel_rfl)) (by unfold Func.isWrapper; rw [if_neg (by decide +kernel)]; exact ⟨rfl, rfl⟩)
    (fun os started H enc _ => intentPlays_lifted os started H enc)

theorem intentPlays_card : Rows.IntentPlaysCardSaid :=
  Claim7.holds_tied_plain_at .later [] [.data, .pinned] true (true, "6a9b39d45a701d745e92d35611263ce1a8d622fbc6b0f96ce0884a52c7847a4b") false intentPlays_holds (fun _ h => by cases h) (by kernel_rfl) (fun _ h => by cases h) intentPlays_row_tie rfl ⟨rfl, rfl⟩ (by kernel_rfl) rfl
    (fun f fn hf hfn => by
      obtain rfl : f = 4 := Option.some.inj ((show Tryz.prog.funcNamed "vulgate/vulgatelaw16.IntentPlays" = some 4 by kernel_rfl).symm.trans hf) |>.symm
      obtain rfl : fn = Tryz.f4 := (Option.some.inj (Tryz.func4.symm.trans hfn)).symm
      exact ⟨by kernel_rfl, fun j t ht => by
        rw [Tryz.params4] at ht
        have hm : t ∈ [83, 30, 3] := by simpa using Array.mem_of_getElem? ht
        have hall : ([83, 30, 3].all fun u => !Tryz.prog.wantsStandIn u) = true := by kernel_rfl
        exact (show Tryz.prog.wantsStandIn t = false by simpa using List.all_eq_true.1 hall t hm)⟩)
    (by kernel_rfl)
#print axioms intentPlays_card

end Go.Proofs.YtfoakjdnopljmaaGreatDoor
