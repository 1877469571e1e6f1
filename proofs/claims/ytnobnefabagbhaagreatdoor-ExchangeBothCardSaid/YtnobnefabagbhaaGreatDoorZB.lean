/- The laws on exchange: each call returns true, whatever the arguments, and each argument reads behind the call as it read before; the listed variables hold what the program's text lays. No condition beside the row's own cells. -/
import Derived.Test.YtnobnefabagbhaaGreatDoorQ6
import Derived.Test.YtnobnefabagbhaaGreatDoorTie
import Derived.Test.YtnobnefabagbhaaGreatDoorCards
import Derived.SevenTiedAt
section
set_option linter.unusedVariables false
set_option linter.unusedSimpArgs false
set_option maxRecDepth 100000
namespace Go.Q
open Go
theorem all_cons {H : Type} {enc : TypeId × Value → H} {P : Program} {W : World} {b : Nat} {sp : Nat → Bool} {hd : Bool} {t : TypeId} {ts : List TypeId} {vs : List Value} {ds : List (DataW H)} {ps : List MemPlace} (h : DataW.TrodAll enc P W b sp hd (t :: ts) vs ds ps)
    (hw : (DataW.weightsEach P (t :: ts) ds).all (· ≤ reachBytes) = true) : ∃ v vs' d ds' p q, vs = v :: vs' ∧ ds = d :: ds' ∧ DataW.Trod enc P W b sp hd t v d p ∧ small P t d ∧ DataW.TrodAll enc P W b sp hd ts vs' ds' q ∧ (DataW.weightsEach P ts ds').all (· ≤ reachBytes) = true := by
  match vs, ds, h with
  | v :: vs, d :: ds, h =>
    obtain ⟨p, q, h1, h2, _⟩ := h
    simp only [DataW.weightsEach, List.all_append, Bool.and_eq_true] at hw
    exact ⟨v, vs, d, ds, p, q, rfl, rfl, h1, hw.1, h2, hw.2⟩
theorem all_nil {H : Type} {enc : TypeId × Value → H} {P : Program} {W : World} {b : Nat} {sp : Nat → Bool} {hd : Bool} {vs : List Value} {ds : List (DataW H)} {ps : List MemPlace} (h : DataW.TrodAll enc P W b sp hd [] vs ds ps) : vs = [] := by
  match vs, ds, h with
  | [], [], _ => rfl
theorem relL_mk {F : Nat → Prop} {ρ : List Value} {w : World} {v : V} {u : Value} {vs : List V} {us : List Value} (h : Rel F ρ w v u) (k : RelL F ρ w vs us) : RelL F ρ w (v :: vs) (u :: us) := by
  simp only [RelL]
  exact ⟨_, _, rfl, h, k⟩
end Go.Q
namespace Go.Proofs.YtnobnefabagbhaaGreatDoor
open Go Go.ChangeShapes Go.WideShapes Go.RowKit Go.Q
theorem laid_has {w : World} (h : laidMet Tryz.prog laidAll w) : laidMetH Tryz.prog laidAll w := by
  rw [MakeChecks.laidMetH_plain _ _ _ (by kernel_rfl)]; exact h

theorem exchangeBoth_lifted (os : Os) (started : os.Started) (H : Type) (enc : TypeId × Value → H) :
    ReturnsInHanded {} Tryz.checked os 7 .any (fun w args => (Rows.exchangeBothSpec.pre enc Tryz.prog Tryz.f7 [] false w args ∧ laidMetH Tryz.prog laidAll w) ∧ sizedMet enc Tryz.prog Tryz.f7 (OpenSpec.ofChange Rows.exchangeBothSpec) false w args) (Rows.exchangeBothSpec.post enc Tryz.prog Tryz.f7 false true false false) := by
  refine lifted_of rfl Tryz.func7 (by kernel_rfl) os started H enc ?_ rfl (by kernel_rfl)
    (ChangeSpec.witness_shaped (enc := enc) (C := Tryz.checked) (os := os) (X := fun w _ => laidMetH Tryz.prog laidAll w) false (World.laidAll Tryz.prog os laidAll) #[.slice none 0 0, .slice none 0 0, .slice none 0 0] 8 (World.laidAll_os _ _ _)
      (World.shaped_of_ZipB (by kernel_rfl) (by kernel_rfl)) (by kernel_rfl) (by kernel_rfl) (by kernel_rfl) (laid_has (laidMet_laidAll _ (by kernel_rfl) (by kernel_rfl)))) ?_
  · intro ds h
    have h' : ds.length = 3 := h
    match ds, h' with
    | [d0, d1, d2], _ => rfl
  · intro W base args ds p hval hA hw
    have hpar : Tryz.f7.params.toList = [22, 23, 23] := rfl
    rw [hpar] at hval hA hw
    obtain ⟨v0, args, e0, ds, p0, q0, rfl, rfl, t0, s0, hA, hw⟩ := all_cons hA hw
    obtain ⟨v1, args, e1, ds, p1, q1, rfl, rfl, t1, s1, hA, hw⟩ := all_cons hA hw
    obtain ⟨v2, args, e2, ds, p2, q2, rfl, rfl, t2, s2, hA, hw⟩ := all_cons hA hw
    obtain rfl := all_nil hA
    obtain ⟨a0, r0, f0⟩ := Q.arg_patches (hval 0 _ v0 rfl rfl) t0 s0
    obtain ⟨a1, r1⟩ := Q.arg_strs (hval 1 _ v1 rfl rfl) t1 s1
    obtain ⟨a2, r2⟩ := Q.arg_strs (hval 2 _ v2 rfl rfl) t2 s2
    exact ⟨_, (relL_mk r0 (relL_mk r1 (relL_mk r2 (by simp only [RelL])))), Q.c_law21_ExchangeBoth a0 a1 a2 f0⟩

theorem exchangeBoth_said : Rows.ExchangeBothSaid :=
  OpenClaim.holds_of_wide 7 Tryz.f7 rfl rfl rfl rfl rfl rfl rfl ⟨rfl, rfl, rfl, rfl, rfl⟩ rfl rfl rfl rfl rfl (by kernel_rfl) Tryz.func7 (by kernel_rfl)
    (of_decide_eq_true (by kernel_rfl)) (by unfold Func.isWrapper; first | (rw [if_pos (by decide +kernel)]; kernel_rfl) | (rw [if_neg (by decide +kernel)]; exact ⟨rfl, rfl⟩))
    (fun os started H enc _ => exchangeBoth_lifted os started H enc)
end Go.Proofs.YtnobnefabagbhaaGreatDoor
end
section
set_option linter.unusedVariables false
set_option linter.unusedSimpArgs false
namespace Go.Proofs.YtnobnefabagbhaaGreatDoor
open Go

theorem exchangeBoth_holds : Rows.ExchangeBothCardSaid :=
  Claim7.holds_tied_plain_at .later [] [.data, .data, .data, .data, .pinned] true (true, "ab72ce79ebd35609ee28826bc8c0f246262b4a85ee21c7553daf00e61488253e") false exchangeBoth_said (fun _ h => by cases h) (by kernel_rfl) (fun _ h => by cases h) exchangeBoth_row_tie rfl ⟨rfl, rfl⟩ (by kernel_rfl) rfl
    (fun f fn hf hfn => by
      obtain rfl : f = 7 := Option.some.inj ((show Tryz.prog.funcNamed "counterpane/counterpanelaw21.ExchangeBoth" = some 7 by kernel_rfl).symm.trans hf) |>.symm
      obtain rfl : fn = Tryz.f7 := (Option.some.inj (Tryz.func7.symm.trans hfn)).symm
      exact ⟨by kernel_rfl, fun j t ht => by
        rw [Tryz.params7] at ht
        have hm := Array.mem_of_getElem? ht
        have hall : (Tryz.f7.params.toList.all fun u => !Tryz.prog.wantsStandIn u) = true := by kernel_rfl
        rw [Tryz.params7] at hall
        exact (show Tryz.prog.wantsStandIn t = false by simpa using List.all_eq_true.1 hall t (by simpa using hm))⟩)
    (by kernel_rfl)

#print axioms exchangeBoth_holds
end Go.Proofs.YtnobnefabagbhaaGreatDoor
end
