/- Part 6 of our proof: a logic over the model's code, contracts of the functions, and plain laws. -/
import Derived.Test.YtldfghgjllaljaaGreatDoorQ5
import Derived.Test.YtldfghgjllaljaaGreatDoorQ4
import Derived.Lib.ItoaMem
import Derived.Test.YtldfghgjllaljaaGreatDoorQ2
import Derived.Test.YtldfghgjllaljaaGreatDoorRows
import Derived.ProofKit
import Derived.Deep.Fields
import Derived.Lib.LaidTab
import Derived.Lay
import Derived.OpenShut
import Derived.LaidMore
import Derived.MakeChecks
import Derived.Stop.LaidErr
import Derived.Stop.Joined
section
/- Walks of the sorting by names and of the package 'codec', in the logic 'Q'. -/
set_option linter.unusedVariables false
set_option linter.unusedSimpArgs false
set_option maxRecDepth 100000
namespace Go.Proofs.YtldfghgjllaljaaGreatDoor.Q
open Go Go.Q


theorem vcalls_wk {P : Program} {G : Glob} {f : FuncId} {args : List V} {H0 : List Go.Q.Obj} {M : List Nat} {post post' : V → List Go.Q.Obj → Prop} (h : VCalls P G f args H0 M post) (hw : ∀ r H, post r H → ∃ r', Wk r r' ∧ post' r' H) : VCalls P G f args H0 M post' := by
  intro F ρ w ms sim hr hG
  refine (h F ρ w ms sim hr hG).mono ?_
  rintro e w' ⟨F', ρ', H', r, mr, rfl, hp, hrel, sim', ev⟩
  obtain ⟨r', hw1, hp'⟩ := hw r H' hp
  exact ⟨F', ρ', H', r', mr, rfl, hp', hw1 _ _ _ _ hrel, sim', ev⟩
theorem c_closure_of_u (l : List Patch) : VCalls Go.Proofs.Tryz.prog G 62 [.list 3 (l.map cPatch)] [] [] (fun r H => ∃ es, r = .tuple [.undef, .bool (ofB l)] ∧ H = [.map es]) :=
  vcalls_wk (c_closure_of l) fun r H ⟨m, es, h1, h2, _⟩ => ⟨_, by rw [h1]; exact Wk.tuple ⟨Wk.undef _, Wk.refl _, trivial⟩, es, rfl, h2⟩

/-! slices.Values[[]counterpane/api.Patch,counterpane/api.Patch] -/
theorem b_slices_Values_api_Patch_api_Patch : bodied Go.Proofs.Tryz.prog 64 = true := by rw [bodied, Tryz.func64]; rfl
theorem c_slices_Values_api_Patch_api_Patch (l : List Patch) : VCalls Go.Proofs.Tryz.prog G 64 [.list 3 (l.map cPatch)] [] [] (fun r H => r = .func (.func 92) [] [.ptr 0 0] ∧ H = [.box [.list 3 (l.map cPatch)]]) := by
  refine vcalls_of2 tabOk (rs := _) 1 Tryz.func64 rfl (by simp [Tryz.ntmps64]) rfl (by first | (simp; done) | exact Nat.le_refl _) ?_
  rw [Tryz.ntmps64]
  refine vwp_reg tabOk [] [1] (by simp only [go_sem]; rfl) (by first | trivial | (simp; done) | (simp [in64]; omega)) ?_
  refine vwp_reg tabOk [] [2] (by simp only [go_sem]; rfl) (by first | trivial | (simp; done) | (simp [in64]; omega)) ?_
  refine vwp_ret ?_
  -- result 0
  try simp only [thenQ, blockQ, jumpQ, stayQ, go_sem]
  refine ⟨by simp, _, _, rfl, by first | trivial | simp, ?_⟩
  first | exact ⟨rfl, rfl⟩ | rfl

/-! counterpane/closure.Sorted -/
theorem b_closure_Sorted : bodied Go.Proofs.Tryz.prog 45 = true := by rw [bodied, Tryz.func45]; rfl
theorem c_closure_Sorted (l : List Patch) : VPure Go.Proofs.Tryz.prog G 45 [.list 3 (l.map cPatch)] (.tuple [.list 3 ((sortP l).1.map cPatch), .int .i64 (sortP l).2]) := by
  refine vpure_of (ts := [2, 3]) Tryz.func45 rfl (by simp [Tryz.ntmps45]) rfl rfl ?_
  rw [Tryz.ntmps45]
  refine vwp_reg tabOk [] [0] (by simp only [go_sem]; rfl) (by first | trivial | (simp; done) | (simp [in64]; omega)) ?_
  refine vwp_seq ?_
  refine vwp_seq (vwp_region ?_)
  refine vops_go tabOk [] (by simp only [go_sem]; rfl) (by first | trivial | (simp; done) | (simp [in64]; omega)) ?_
  -- call 0: t8 = CALL 62(f62, t7)
  refine vops_callH (hc := c_closure_of_u l) rfl rfl rfl b_closure_of [] [] [] rfl rfl rfl (by simp only [go_sem]; exact WkL.refl _) (by simp only [go_sem]) ?_
  rintro r0 H0 ⟨es, rfl, rfl⟩
  simp only [go_sem]
  refine vops_go tabOk [] (by simp only [go_sem]; rfl) (by first | trivial | (simp; done) | (simp [in64]; omega)) ?_
  refine vops_done [0, 5] ?_
  simp only [go_sem, thenQ, blockQ, jumpQ, stayQ]
  refine vwp_reg tabOk [] [0, 12] (by simp only [go_sem]; rfl) (by first | trivial | (simp; done) | (simp [in64]; omega)) ?_
  refine vwp_cond (by simp only [go_sem]; rfl) (fun h0 => ?_) (fun h0 => ?_)
  · -- h0 then
    refine vwp_reg tabOk [] [2, 3] (by simp only [go_sem]; rfl) (by first | trivial | (simp; done) | (simp [in64]; omega)) ?_
    refine vwp_ret ?_
    -- result 0
    simp only [thenQ, blockQ, jumpQ, stayQ, RetQ, go_sem]
    refine ⟨by simp, ?_⟩
    rw [sortP_no (by simpa using h0)]
    exact Wk.tuple ⟨Wk.nils _, Wk.refl _, trivial⟩
  · -- h0 else
    refine vwp_skip ?_
    try simp only [thenQ, blockQ, jumpQ, stayQ]
    refine vwp_seq (vwp_region ?_)
    refine vops_go tabOk [] (by simp only [go_sem]; rfl) (by first | trivial | (simp; done) | (simp [in64]; omega)) ?_
    -- call 1: t14 = CALL 64(f64, t13)
    refine vops_callH (hc := c_slices_Values_api_Patch_api_Patch l) rfl rfl rfl b_slices_Values_api_Patch_api_Patch [] [] [] rfl rfl rfl (by simp only [go_sem]; exact WkL.refl _) (by simp only [go_sem]) ?_
    rintro r1 H1 ⟨rfl, rfl⟩
    simp only [go_sem]
    -- call 2: t15 = CALL 63(f63, t14, f65)
    refine vops_callH (hc := c_slices_SortedFunc_api_Patch l (ofB_len (by simpa using h0))) rfl rfl rfl b_slices_SortedFunc_api_Patch [1] [] [] rfl rfl rfl (by simp only [go_sem]; exact WkL.refl _) (by simp only [go_sem]) ?_
    rintro r2 H2 ⟨l', hp, hup, rfl, rfl⟩
    simp only [go_sem]
    refine vops_go tabOk [] (by simp only [go_sem]; rfl) (by first | trivial | (simp; done) | (simp [in64]; omega)) ?_
    refine vops_done [2, 3] ?_
    simp only [go_sem, thenQ, blockQ, jumpQ, stayQ]
    refine vwp_ret ?_
    -- result 1
    simp only [thenQ, blockQ, jumpQ, stayQ, RetQ, go_sem]
    refine ⟨by simp, ?_⟩
    rw [sortP_uniq (by simpa using h0) hp hup]
    refine Wk.eq ?_
    simp only [go_sem]
    simp
    rw [List.take_of_length_le (by simp)]

/-! counterpane/codec.labels -/
theorem b_codec_labels : bodied Go.Proofs.Tryz.prog 42 = true := by rw [bodied, Tryz.func42]; rfl
theorem c_codec_labels (l : List Str) : VPure Go.Proofs.Tryz.prog G 42 [.list 1 (l.map cS)] (.bool (namesB l)) := by
  refine vpure_know fun hk => ?_
  simp only [factsL, facts, maxB, List.length_map] at hk
  refine vpure_of (ts := [2]) Tryz.func42 rfl (by simp [Tryz.ntmps42]) rfl rfl ?_
  rw [Tryz.ntmps42]
  refine vwp_reg tabOk [] [0] (by simp only [go_sem]; rfl) (by first | trivial | (simp; done) | (simp [in64]; omega)) ?_
  refine vwp_seq ?_
  refine vwp_reg tabOk [] [0, 5, 6, 7] (by simp only [go_sem]; rfl) (by first | trivial | (simp; done) | (simp [in64]; omega)) ?_
  refine vwp_block ?_
  -- loop 0
  refine vwp_loopW (fun i : Nat => [(0, .list 1 (l.map cS)), (5, .list 1 (l.map cS)), (6, .int .i64 (l.length : Int)), (7, .int .i64 (i : Int))]) (fun i => []) (fun i => i ≤ l.length ∧ namesB (l.take i) = true) (fun i => l.length - i) 0 ⟨Nat.zero_le _, by rfl⟩ (Env.wk_cons (by first | exact Wk.refl _ | exact Wk.nils _ | (refine Wk.eq ?_; simp; done) | (refine Wk.eq ?_; congr 1 <;> omega)) (Env.wk_cons (by first | exact Wk.refl _ | exact Wk.nils _ | (refine Wk.eq ?_; simp; done) | (refine Wk.eq ?_; congr 1 <;> omega)) (Env.wk_cons (by first | exact Wk.refl _ | exact Wk.nils _ | (refine Wk.eq ?_; simp; done) | (refine Wk.eq ?_; congr 1 <;> omega)) (Env.wk_cons (by first | exact Wk.refl _ | exact Wk.nils _ | (refine Wk.eq ?_; simp; done) | (refine Wk.eq ?_; congr 1 <;> omega)) (Env.wk_nil _))))) rfl ?_
  rintro i ⟨hi, hok⟩
  refine vwp_reg tabOk [] [0, 5, 6, 7, 8] (by simp only [go_sem]; rfl) (by first | trivial | (simp; done) | (simp [in64]; omega)) ?_
  refine vwp_seq ?_
  refine vwp_cond (by simp only [go_sem]; rfl) (fun h0 => ?_) (fun h0 => ?_)
  · -- h0 then
    have h0' : i < l.length := by simp at h0; omega
    refine vwp_skip ?_
    try simp only [thenQ, blockQ, jumpQ, stayQ]
    refine vwp_seq ?_
    refine vwp_block ?_
    refine vwp_reg tabOk [] [0, 3, 4, 5, 6, 7] (by simp only [go_sem]; rfl) (by first | (simp [h0']; done) | (simp [h0', in64]; omega)) ?_
    refine vwp_seq (vwp_region ?_)
    refine vops_go tabOk [] (by simp only [go_sem]; rfl) (by first | (simp [h0']; done) | (simp [h0', in64]; omega) | (simp [h0', in64]; repeat' (first | omega | intro _ | constructor))) ?_
    -- call 0: t13 = CALL 60(f60, t12)
    refine vops_call (hc := fun _ => c_named_Label (l.getD i [])) rfl (by simp only [go_sem]; rfl) rfl b_named_Label (by simp only [go_sem]; exact WkL.refl _) rfl (fun hg => by simp only [go_sem]; try (intros; first | assumption | trivial | simp_all)) ?_
    simp only [go_sem]
    refine vops_go tabOk [] (by simp only [go_sem]; rfl) (by first | (simp [h0']; done) | (simp [h0', in64]; omega) | (simp [h0', in64]; repeat' (first | omega | intro _ | constructor))) ?_
    refine vops_done [0, 5, 6, 7, 27] ?_
    simp only [go_sem, thenQ, blockQ, jumpQ, stayQ]
    refine vwp_cond (by simp only [go_sem]; rfl) (fun h1 => ?_) (fun h1 => ?_)
    · -- h1 then
      refine vwp_reg tabOk [] [2] (by simp only [go_sem]; rfl) (by first | trivial | (simp; done) | (simp [in64]; omega)) ?_
      refine vwp_ret ?_
      -- result 0
      simp only [thenQ, blockQ, jumpQ, stayQ, RetQ, go_sem]
      refine ⟨by simp, Wk.eq ?_⟩
      rw [stepN_go] at h1; rw [namesB_false _ i h0' (by simpa using h1)]
    · -- h1 else
      refine vwp_skip ?_
      try simp only [thenQ, blockQ, jumpQ, stayQ]
      refine vwp_reg1 tabOk [] [0, 5, 6, 7] (by simp only [go_sem]; rfl) (by first | trivial | (simp; done) | (simp [in64]; omega)) ?_
      try simp only [thenQ, blockQ, jumpQ, stayQ]
      -- round 0
      exact ⟨i + 1, ⟨by omega, by rw [namesB_take _ _ h0', hok]; rw [stepN_go] at h1; simpa using h1⟩, by omega, (Env.wk_cons (by first | exact Wk.refl _ | exact Wk.nils _ | (refine Wk.eq ?_; simp; done) | (refine Wk.eq ?_; congr 1 <;> omega)) (Env.wk_cons (by first | exact Wk.refl _ | exact Wk.nils _ | (refine Wk.eq ?_; simp; done) | (refine Wk.eq ?_; congr 1 <;> omega)) (Env.wk_cons (by first | exact Wk.refl _ | exact Wk.nils _ | (refine Wk.eq ?_; simp; done) | (refine Wk.eq ?_; congr 1 <;> omega)) (Env.wk_cons (by first | exact Wk.refl _ | exact Wk.nils _ | (refine Wk.eq ?_; simp; done) | (refine Wk.eq ?_; congr 1 <;> omega)) (Env.wk_nil _))))), (by first | rfl | trivial)⟩
  · -- h0 else
    refine vwp_exit ?_
    simp only [thenQ, blockQ, jumpQ, stayQ, if_true, reduceIte, Nat.reduceEqDiff]
    refine vwp_reg tabOk [] [2] (by simp only [go_sem]; rfl) (by first | trivial | (simp; done) | (simp [in64]; omega)) ?_
    refine vwp_ret ?_
    -- result 1
    simp only [thenQ, blockQ, jumpQ, stayQ, RetQ, go_sem]
    refine ⟨by simp, Wk.eq ?_⟩
    have : i = l.length := by simp at h0; omega
    subst this; rw [List.take_length] at hok; rw [hok]

/-! counterpane/codec.right -/
theorem b_codec_right : bodied Go.Proofs.Tryz.prog 23 = true := by rw [bodied, Tryz.func23]; rfl
set_option maxHeartbeats 4000000 in
theorem c_codec_right (x : Msg) : VPure Go.Proofs.Tryz.prog G 23 [.agg (cMsg x)] (.bool (rightC x)) := by
  refine vpure_know fun hk => ?_
  simp only [factsL, facts, cMsg, maxB, List.length_map] at hk
  refine vpure_of (ts := [2]) Tryz.func23 rfl (by simp [Tryz.ntmps23]) rfl rfl ?_
  rw [Tryz.ntmps23]
  refine vwp_reg tabOk [] [1] (by simp only [go_sem]; rfl) (by first | trivial | (simp; done) | (simp [in64]; omega)) ?_
  -- r1 drawn
  refine vwp_seq (vwp_drawD mixed (by kernel_rfl) (eF := ?_) ?_ [1, 3, 4] rfl ?_)
  rotate_left
  · -- the operations
    refine dall_go tabOk (by simp only [go_sem]; rfl) (by first | trivial | (simp; done) | (simp [in64]; omega)) ?_
    exact dall_nil
  simp only [go_sem, thenQ, blockQ, jumpQ, stayQ]
  refine vwp_seq ?_
  refine vwp_block ?_
  refine vwp_joinE (fun y : Bool => [(1, .ptr 0 0), (3, .bool (decide (x.kind = 1))), (4, .bool (decide (x.kind = 3))), (11, .bool y)]) (fun y => [.box (cMsg x)]) (fun y => y = rmA x) ?_ ?_
  · -- up to the join
    refine vwp_reg tabOk [] [1, 3, 4, 11] (by simp only [go_sem]; rfl) (by first | trivial | (simp; done) | (simp [in64]; omega)) ?_
    refine vwp_cond (by simp only [go_sem]; rfl) (fun h0 => ?_) (fun h0 => ?_)
    · -- h0 then
      refine vwp_skip ?_
      try simp only [thenQ, blockQ, jumpQ, stayQ]
      -- round 0
      exact ⟨true, by rw [rmA, h0]; try rfl, (Env.wk_cons (by first | exact Wk.refl _ | exact Wk.nils _ | (refine Wk.eq ?_; simp; done) | (refine Wk.eq ?_; congr 1 <;> omega)) (Env.wk_cons (by first | exact Wk.refl _ | exact Wk.nils _ | (refine Wk.eq ?_; simp; done) | (refine Wk.eq ?_; congr 1 <;> omega)) (Env.wk_cons (by first | exact Wk.refl _ | exact Wk.nils _ | (refine Wk.eq ?_; simp; done) | (refine Wk.eq ?_; congr 1 <;> omega)) (Env.wk_cons (by first | exact Wk.refl _ | exact Wk.nils _ | (refine Wk.eq ?_; simp; done) | (refine Wk.eq ?_; congr 1 <;> omega)) (Env.wk_nil _))))), (by first | rfl | trivial)⟩
    · -- h0 else
      refine vwp_reg tabOk [] [1, 3, 4, 11] (by simp only [go_sem]; rfl) (by first | trivial | (simp; done) | (simp [in64]; omega)) ?_
      refine vwp_cond (by simp only [go_sem]; rfl) (fun h1 => ?_) (fun h1 => ?_)
      · -- h1 then
        refine vwp_skip ?_
        try simp only [thenQ, blockQ, jumpQ, stayQ]
        -- round 1
        exact ⟨true, by rw [rmA, h0, h1]; try rfl, (Env.wk_cons (by first | exact Wk.refl _ | exact Wk.nils _ | (refine Wk.eq ?_; simp; done) | (refine Wk.eq ?_; congr 1 <;> omega)) (Env.wk_cons (by first | exact Wk.refl _ | exact Wk.nils _ | (refine Wk.eq ?_; simp; done) | (refine Wk.eq ?_; congr 1 <;> omega)) (Env.wk_cons (by first | exact Wk.refl _ | exact Wk.nils _ | (refine Wk.eq ?_; simp; done) | (refine Wk.eq ?_; congr 1 <;> omega)) (Env.wk_cons (by first | exact Wk.refl _ | exact Wk.nils _ | (refine Wk.eq ?_; simp; done) | (refine Wk.eq ?_; congr 1 <;> omega)) (Env.wk_nil _))))), (by first | rfl | trivial)⟩
      · -- h1 else
        refine vwp_seq (vwp_region ?_)
        refine vops_go tabOk [] (by simp only [go_sem]; rfl) (by first | trivial | (simp; done) | (simp [in64]; omega)) ?_
        -- call 0: t20 = CALL 42(f42, t19)
        refine vops_call (hc := fun _ => c_codec_labels x.names) rfl (by simp only [go_sem]; rfl) rfl b_codec_labels (by simp only [go_sem]; exact WkL.refl _) rfl (fun hg => by simp only [go_sem]; try (intros; first | assumption | trivial | simp_all)) ?_
        simp only [go_sem]
        refine vops_go tabOk [] (by simp only [go_sem]; rfl) (by first | trivial | (simp; done) | (simp [in64]; omega)) ?_
        refine vops_done [1, 3, 4, 11] ?_
        simp only [go_sem, thenQ, blockQ, jumpQ, stayQ]
        refine vwp_cond (by simp only [go_sem]; rfl) (fun h2 => ?_) (fun h2 => ?_)
        · -- h2 then
          refine vwp_skip ?_
          try simp only [thenQ, blockQ, jumpQ, stayQ]
          -- round 2
          exact ⟨true, by rw [rmA, h0, h1, h2]; try rfl, (Env.wk_cons (by first | exact Wk.refl _ | exact Wk.nils _ | (refine Wk.eq ?_; simp; done) | (refine Wk.eq ?_; congr 1 <;> omega)) (Env.wk_cons (by first | exact Wk.refl _ | exact Wk.nils _ | (refine Wk.eq ?_; simp; done) | (refine Wk.eq ?_; congr 1 <;> omega)) (Env.wk_cons (by first | exact Wk.refl _ | exact Wk.nils _ | (refine Wk.eq ?_; simp; done) | (refine Wk.eq ?_; congr 1 <;> omega)) (Env.wk_cons (by first | exact Wk.refl _ | exact Wk.nils _ | (refine Wk.eq ?_; simp; done) | (refine Wk.eq ?_; congr 1 <;> omega)) (Env.wk_nil _))))), (by first | rfl | trivial)⟩
        · -- h2 else
          refine vwp_region ?_
          refine vops_go tabOk [] (by simp only [go_sem]; rfl) (by first | trivial | (simp; done) | (simp [in64]; omega)) ?_
          -- call 1: t24 = CALL 42(f42, t23)
          refine vops_call (hc := fun _ => c_codec_labels x.have_) rfl (by simp only [go_sem]; rfl) rfl b_codec_labels (by simp only [go_sem]; exact WkL.refl _) rfl (fun hg => by simp only [go_sem]; try (intros; first | assumption | trivial | simp_all)) ?_
          simp only [go_sem]
          refine vops_go tabOk [] (by simp only [go_sem]; rfl) (by first | trivial | (simp; done) | (simp [in64]; omega)) ?_
          refine vops_done [1, 3, 4, 11] ?_
          simp only [go_sem, thenQ, blockQ, jumpQ, stayQ]
          try simp only [thenQ, blockQ, jumpQ, stayQ]
          -- round 3
          exact ⟨(!namesB x.have_), by rw [rmA, h0, h1, h2]; rfl, (Env.wk_cons (Wk.refl _) (Env.wk_cons (Wk.refl _) (Env.wk_cons (Wk.refl _) (Env.wk_cons (Wk.refl _) (Env.wk_nil _)))))⟩
  · -- from the join on
    rintro y rfl
    refine vwp_cond (by simp only [go_sem]; rfl) (fun h3 => ?_) (fun h3 => ?_)
    · -- h3 then
      refine vwp_reg tabOk [] [2] (by simp only [go_sem]; rfl) (by first | trivial | (simp; done) | (simp [in64]; omega)) ?_
      refine vwp_ret ?_
      -- result 0
      simp only [thenQ, blockQ, jumpQ, stayQ, RetQ, go_sem]
      refine ⟨by simp, Wk.eq ?_⟩
      rw [rightC, h3]; rfl
    · -- h3 else
      refine vwp_joinE (fun z : Bool => [(1, .ptr 0 0), (4, .bool (decide (x.kind = 3))), (26, .bool z)]) (fun z => [.box (cMsg x)]) (fun z => z = rmB x) ?_ ?_
      · -- up to the join
        refine vwp_reg tabOk [] [1, 4, 26] (by simp only [go_sem]; rfl) (by first | trivial | (simp; done) | (simp [in64]; omega)) ?_
        refine vwp_cond (by simp only [go_sem]; rfl) (fun h4 => ?_) (fun h4 => ?_)
        · -- h4 then
          refine vwp_skip ?_
          try simp only [thenQ, blockQ, jumpQ, stayQ]
          -- round 0
          exact ⟨true, by rw [rmB, h4]; try rfl, (Env.wk_cons (by first | exact Wk.refl _ | exact Wk.nils _ | (refine Wk.eq ?_; simp; done) | (refine Wk.eq ?_; congr 1 <;> omega)) (Env.wk_cons (by first | exact Wk.refl _ | exact Wk.nils _ | (refine Wk.eq ?_; simp; done) | (refine Wk.eq ?_; congr 1 <;> omega)) (Env.wk_cons (by first | exact Wk.refl _ | exact Wk.nils _ | (refine Wk.eq ?_; simp; done) | (refine Wk.eq ?_; congr 1 <;> omega)) (Env.wk_nil _)))), (by first | rfl | trivial)⟩
        · -- h4 else
          refine vwp_reg1 tabOk [] [1, 4, 26] (by simp only [go_sem]; rfl) (by first | trivial | (simp; done) | (simp [in64]; omega)) ?_
          try simp only [thenQ, blockQ, jumpQ, stayQ]
          -- round 1
          exact ⟨_, by rw [rmB, h4]; try rfl, (Env.wk_cons (by first | exact Wk.refl _ | exact Wk.nils _ | (refine Wk.eq ?_; simp; done) | (refine Wk.eq ?_; congr 1 <;> omega)) (Env.wk_cons (by first | exact Wk.refl _ | exact Wk.nils _ | (refine Wk.eq ?_; simp; done) | (refine Wk.eq ?_; congr 1 <;> omega)) (Env.wk_cons (by first | exact Wk.refl _ | exact Wk.nils _ | (refine Wk.eq ?_; simp; done) | (refine Wk.eq ?_; congr 1 <;> omega)) (Env.wk_nil _)))), (by first | rfl | trivial)⟩
      · -- from the join on
        rintro z rfl
        refine vwp_cond (by simp only [go_sem]; rfl) (fun h5 => ?_) (fun h5 => ?_)
        · -- h5 then
          refine vwp_reg tabOk [] [2] (by simp only [go_sem]; rfl) (by first | trivial | (simp; done) | (simp [in64]; omega)) ?_
          refine vwp_ret ?_
          -- result 1
          simp only [thenQ, blockQ, jumpQ, stayQ, RetQ, go_sem]
          refine ⟨by simp, Wk.eq ?_⟩
          rw [rightC, h5]; simp
        · -- h5 else
          refine vwp_skip ?_
          try simp only [thenQ, blockQ, jumpQ, stayQ]
          refine vwp_reg tabOk [] [2] (by simp only [go_sem]; rfl) (by first | trivial | (simp; done) | (simp [in64]; omega)) ?_
          refine vwp_ret ?_
          -- result 2
          simp only [thenQ, blockQ, jumpQ, stayQ, RetQ, go_sem]
          refine ⟨by simp, Wk.eq ?_⟩
          rw [rightC, h3, h5]; rfl

/-! bytes.Equal -/
theorem b_bytes_Equal : bodied Go.Proofs.Tryz.prog 34 = true := by rw [bodied, Tryz.func34]; rfl
theorem c_bytes_Equal (s t : Str) : VPure Go.Proofs.Tryz.prog G 34 [.list 1 (s.map encB), .list 1 (t.map encB)] (.bool (decide (s = t))) := by
  refine vpure_of (ts := [4]) Tryz.func34 rfl (by simp [Tryz.ntmps34]) rfl rfl ?_
  rw [Tryz.ntmps34]
  refine vwp_reg tabOk [] [0, 1] (by simp only [go_sem]; rfl) (by first | trivial | (simp; done) | (simp [in64]; omega)) ?_
  refine vwp_reg tabOk [] [4] (by simp only [go_sem]; rfl) (by first | trivial | (simp; done) | (simp [in64]; omega)) ?_
  refine vwp_ret ?_
  -- result 0
  simp only [thenQ, blockQ, jumpQ, stayQ, RetQ, go_sem]
  refine ⟨by simp, Wk.eq ?_⟩
  rfl

/-! counterpane/codec.bundle -/
theorem b_codec_bundle : bodied Go.Proofs.Tryz.prog 26 = true := by rw [bodied, Tryz.func26]; rfl
set_option maxHeartbeats 8000000 in
theorem c_codec_bundle (s : Str) (l : List Patch) (hs : s.length ≤ 1000000000) (h : ∀ p ∈ l, (patchEnc p).length ≤ 500000000) : VCalls Go.Proofs.Tryz.prog G 26 [.arr 0 s.length, .list 3 (l.map cPatch)] [.arr 5 1 (s.map encB)] [0] (fun r H => r = .tuple [if (bunC s l).2 = 0 then .arr 0 (bunC s l).1.length else .nils, .int .i64 (bunC s l).2] ∧ H = [.arr 5 1 ((bunH s l).map encB)]) := by
  refine vcalls_know fun hk hK => ?_
  have hS := sortP_length l
  have hnl := num_nat (sortP l).1.length (by omega)
  refine vcalls_of2 tabOk (rs := _) 1 Tryz.func26 rfl (by simp [Tryz.ntmps26]) rfl (by first | (simp; done) | exact Nat.le_refl _) ?_
  rw [Tryz.ntmps26]
  refine vwp_reg tabOk [] [0, 1] (by simp only [go_sem]; rfl) (by first | trivial | (simp; done) | (simp [in64]; omega)) ?_
  refine vwp_seq (vwp_region ?_)
  refine vops_go tabOk [] (by simp only [go_sem]; rfl) (by first | trivial | (simp; done) | (simp [in64]; omega)) ?_
  -- call 0: t13 = CALL 45(f45, t12)
  refine vops_call (hc := fun _ => c_closure_Sorted l) rfl (by simp only [go_sem]; rfl) rfl b_closure_Sorted (by simp only [go_sem]; exact WkL.refl _) rfl (fun hg => by simp only [go_sem]; try (intros; first | assumption | trivial | simp_all)) ?_
  simp only [go_sem]
  refine vops_go tabOk [] (by simp only [go_sem]; rfl) (by first | trivial | (simp; done) | (simp [in64]; omega)) ?_
  refine vops_done [0, 1, 6] ?_
  simp only [go_sem, thenQ, blockQ, jumpQ, stayQ]
  refine vwp_seq ?_
  refine vwp_reg tabOk [] [0, 1, 17] (by simp only [go_sem]; rfl) (by first | trivial | (simp; done) | (simp [in64]; omega)) ?_
  refine vwp_cond (by simp only [go_sem]; rfl) (fun h0 => ?_) (fun h0 => ?_)
  · -- h0 then
    refine vwp_reg tabOk [] [4, 5] (by simp only [go_sem]; rfl) (by first | trivial | (simp; done) | (simp [in64]; omega)) ?_
    refine vwp_ret ?_
    -- result 0
    try simp only [thenQ, blockQ, jumpQ, stayQ, go_sem]
    refine ⟨by simp, _, _, rfl, by first | trivial | simp, ?_⟩
    have hc : bunC s l = ([], 1) := by rw [bunC, if_pos (by simpa using h0)]
    rw [hc, if_neg (by decide), show bunH s l = s from by rw [bunH, if_pos (by simpa using h0)]]; exact ⟨by simp only [go_sem], rfl⟩
  · -- h0 else
    refine vwp_skip ?_
    try simp only [thenQ, blockQ, jumpQ, stayQ]
    refine vwp_seq (vwp_region ?_)
    refine vops_go tabOk [] (by simp only [go_sem]; rfl) (by first | trivial | (simp; done) | (simp [in64]; omega)) ?_
    -- call 1: t21 = CALL 24(f24, t18, t20)
    refine vops_callH (hc := c_codec_number s (sortP l).1.length (by omega) (by omega)) rfl rfl rfl b_codec_number [0] [0] [0] rfl rfl rfl (by simp only [go_sem]; exact WkL.refl _) (by simp only [go_sem]) ?_
    rintro r1 H1 ⟨rfl, rfl⟩
    simp only [go_sem]
    refine vops_go tabOk [] (by simp only [go_sem]; rfl) (by first | trivial | (simp; done) | (simp [in64]; omega)) ?_
    refine vops_done [0, 1] ?_
    simp only [go_sem, thenQ, blockQ, jumpQ, stayQ]
    refine vwp_seq ?_
    refine vwp_reg tabOk [] [0, 22, 23, 24] (by simp only [go_sem]; rfl) (by first | trivial | (simp; done) | (simp [in64]; omega)) ?_
    refine vwp_block ?_
    -- loop 0
    refine vwp_loopW (fun i : Nat => [(0, .arr 0 (s ++ num (sortP l).1.length ++ txtP ((sortP l).1.take i)).length), (22, .list 3 ((sortP l).1.map cPatch)), (23, .int .i64 ((sortP l).1.length : Int)), (24, .int .i64 (i : Int))]) (fun i => [.arr 5 1 ((s ++ num (sortP l).1.length ++ txtP ((sortP l).1.take i)).map encB)]) (fun i => i ≤ (sortP l).1.length) (fun i => (sortP l).1.length - i) 0 (Nat.zero_le _) (Env.wk_cons (by first | exact Wk.refl _ | exact Wk.nils _ | (refine Wk.eq ?_; simp; done) | (refine Wk.eq ?_; simp [txtP]; done) | (refine Wk.eq ?_; congr 1 <;> omega)) (Env.wk_cons (by first | exact Wk.refl _ | exact Wk.nils _ | (refine Wk.eq ?_; simp; done) | (refine Wk.eq ?_; simp [txtP]; done) | (refine Wk.eq ?_; congr 1 <;> omega)) (Env.wk_cons (by first | exact Wk.refl _ | exact Wk.nils _ | (refine Wk.eq ?_; simp; done) | (refine Wk.eq ?_; simp [txtP]; done) | (refine Wk.eq ?_; congr 1 <;> omega)) (Env.wk_cons (by first | exact Wk.refl _ | exact Wk.nils _ | (refine Wk.eq ?_; simp; done) | (refine Wk.eq ?_; simp [txtP]; done) | (refine Wk.eq ?_; congr 1 <;> omega)) (Env.wk_nil _))))) (by simp [txtP]) ?_
    rintro i hi
    refine vwp_reg tabOk [] [0, 22, 23, 24, 25] (by simp only [go_sem]; rfl) (by first | trivial | (simp; done) | (simp [in64]; omega)) ?_
    refine vwp_seq ?_
    refine vwp_cond (by simp only [go_sem]; rfl) (fun h1 => ?_) (fun h1 => ?_)
    · -- h1 then
      have h1' : i < (sortP l).1.length := by simp at h1; omega
      have hp := h _ (sortP_mem (List.getElem_mem h1'))
      have hp2 := putPatch_len hp
      have hx := txtP_len ((sortP l).1.take i) 500000000 (by omega) fun q hq => h q (sortP_mem (List.mem_of_mem_take hq))
      rw [List.length_take, Nat.min_eq_left hi] at hx
      refine vwp_skip ?_
      try simp only [thenQ, blockQ, jumpQ, stayQ]
      refine vwp_seq ?_
      refine vwp_block ?_
      refine vwp_reg tabOk [] [0, 8, 22, 23, 24] (by simp only [go_sem, getD_map, h1']; rfl) (by first | trivial | (simp [h1']; done) | (simp [h1']; omega)) ?_
      refine vwp_seq (vwp_region ?_)
      refine vops_go tabOk [] (by simp only [go_sem]; rfl) (by first | trivial | (simp; done) | (simp [in64]; omega)) ?_
      -- call 2: t30 = CALL 46(f46, t29)
      refine vops_call (hc := fun _ => c_named_Put (sortP l).1[i] (Nat.le_trans hp (by omega))) rfl (by simp only [go_sem]; rfl) rfl b_named_Put (by simp only [go_sem]; exact WkL.refl _) rfl (fun hg => by simp only [go_sem]; try (intros; first | assumption | trivial | simp_all)) ?_
      simp only [go_sem]
      refine vops_go tabOk [] (by simp only [go_sem]; rfl) (by first | trivial | (simp; done) | (simp [in64]; omega)) ?_
      refine vops_done [0, 9, 22, 23, 24] ?_
      simp only [go_sem, thenQ, blockQ, jumpQ, stayQ]
      refine vwp_region ?_
      refine vops_go tabOk [] (by simp only [go_sem]; rfl) (by first | trivial | (simp; done) | (simp [in64]; omega)) ?_
      -- call 3: t35 = CALL 44(f44, t33, t34)
      refine vops_callH (hc := c_codec_text (s ++ num (sortP l).1.length ++ txtP ((sortP l).1.take i)) (putPatch (sortP l).1[i]).1 (by omega) (by simp only [List.length_append]; omega)) rfl rfl rfl b_codec_text [0] [0] [0] rfl rfl rfl (by simp only [go_sem]; exact WkL.refl _) (by simp only [go_sem]) ?_
      rintro r3 H3 ⟨rfl, rfl⟩
      simp only [go_sem]
      refine vops_go tabOk [] (by simp only [go_sem]; rfl) (by first | trivial | (simp; done) | (simp [in64]; omega)) ?_
      refine vops_done [0, 22, 23, 24] ?_
      simp only [go_sem, thenQ, blockQ, jumpQ, stayQ]
      try simp only [thenQ, blockQ, jumpQ, stayQ]
      refine vwp_trim 1 (by simp) (by simp) ?_
      simp only [go_sem]
      refine vwp_reg1 tabOk [] [0, 22, 23, 24] (by simp only [go_sem]; rfl) (by first | trivial | (simp; done) | (simp [in64]; omega)) ?_
      try simp only [thenQ, blockQ, jumpQ, stayQ]
      -- round 0
      exact ⟨i + 1, by omega, by omega, Env.wk_cons (Wk.eq (by rw [txtP_take _ i h1', ← List.append_assoc])) (Env.wk_cons (Wk.refl _) (Env.wk_cons (Wk.refl _) (Env.wk_cons (Wk.refl _) (Env.wk_nil _)))), by rw [txtP_take _ i h1', ← List.append_assoc]⟩
    · -- h1 else
      refine vwp_exit ?_
      simp only [thenQ, blockQ, jumpQ, stayQ, if_true, reduceIte, Nat.reduceEqDiff]
      refine vwp_seq ?_
      refine vwp_reg tabOk [] [0, 39] (by simp only [go_sem]; rfl) (by first | trivial | (simp; done) | (simp [in64]; omega)) ?_
      refine vwp_cond (by simp only [go_sem]; rfl) (fun h2 => ?_) (fun h2 => ?_)
      · -- h2 then
        refine vwp_reg tabOk [] [4, 5] (by simp only [go_sem]; rfl) (by first | trivial | (simp; done) | (simp [in64]; omega)) ?_
        refine vwp_ret ?_
        -- result 1
        try simp only [thenQ, blockQ, jumpQ, stayQ, go_sem]
        refine ⟨by simp, _, _, rfl, by first | trivial | simp, ?_⟩
        have hi2 : i = (sortP l).1.length := by simp at h1; omega
        rw [hi2, List.take_length] at h2 ⊢
        have hc : bunC s l = ([], 2) := by rw [bunC, if_neg (by simpa using h0), if_pos (by rw [bunF, ← List.append_assoc]; have := of_decide_eq_true h2; omega)]
        rw [hc, if_neg (by decide), show bunH s l = s ++ num (sortP l).1.length ++ txtP (sortP l).1 from by rw [bunH, if_neg (by simpa using h0), bunF, List.append_assoc]]; exact ⟨by simp only [go_sem], rfl⟩
      · -- h2 else
        refine vwp_skip ?_
        try simp only [thenQ, blockQ, jumpQ, stayQ]
        refine vwp_reg tabOk [] [4, 5] (by simp only [go_sem]; rfl) (by first | trivial | (simp; done) | (simp [in64]; omega)) ?_
        refine vwp_ret ?_
        -- result 2
        try simp only [thenQ, blockQ, jumpQ, stayQ, go_sem]
        refine ⟨by simp, _, _, rfl, by first | trivial | simp, ?_⟩
        have hi2 : i = (sortP l).1.length := by simp at h1; omega
        rw [hi2, List.take_length] at h2 ⊢
        have hc : bunC s l = (s ++ num (sortP l).1.length ++ txtP (sortP l).1, 0) := by rw [bunC, if_neg (by simpa using h0), if_neg (by rw [bunF, ← List.append_assoc]; have := of_decide_eq_false h2; omega), bunF, List.append_assoc]
        rw [hc, if_pos rfl, show bunH s l = s ++ num (sortP l).1.length ++ txtP (sortP l).1 from by rw [bunH, if_neg (by simpa using h0), bunF, List.append_assoc]]; exact ⟨by simp only [go_sem], rfl⟩


theorem c_codec_bundle_ok (s : Str) (l : List Patch) (hs : s.length ≤ 1000000000) (h : ∀ p ∈ l, (patchEnc p).length ≤ 500000000) (hb : (bunC s l).2 = 0) : VCalls Go.Proofs.Tryz.prog G 26 [.arr 0 s.length, .list 3 (l.map cPatch)] [.arr 5 1 (s.map encB)] [0] (fun r H => r = .tuple [.arr 0 (bunC s l).1.length, .int .i64 0] ∧ H = [.arr 5 1 ((bunH s l).map encB)]) :=
  vcalls_wk (c_codec_bundle s l hs h) fun r H hp => ⟨r, Wk.refl _, by rw [if_pos hb, hb] at hp; exact hp⟩
theorem c_codec_bundle_err (s : Str) (l : List Patch) (hs : s.length ≤ 1000000000) (h : ∀ p ∈ l, (patchEnc p).length ≤ 500000000) (hb : ¬ (bunC s l).2 = 0) : VCalls Go.Proofs.Tryz.prog G 26 [.arr 0 s.length, .list 3 (l.map cPatch)] [.arr 5 1 (s.map encB)] [0] (fun r H => r = .tuple [.nils, .int .i64 (bunC s l).2] ∧ H = [.arr 5 1 ((bunH s l).map encB)]) :=
  vcalls_wk (c_codec_bundle s l hs h) fun r H hp => ⟨r, Wk.refl _, by rw [if_neg hb] at hp; exact hp⟩

/-! counterpane/codec.PutBundle -/
theorem b_codec_PutBundle : bodied Go.Proofs.Tryz.prog 13 = true := by rw [bodied, Tryz.func13]; rfl
theorem c_codec_PutBundle (l : List Patch) (h : ∀ p ∈ l, (patchEnc p).length ≤ 500000000) : VPure Go.Proofs.Tryz.prog G 13 [.list 3 (l.map cPatch)] (.tuple [.list 1 ((putBunR l).1.map encB), .int .i64 (putBunR l).2]) := by
  rw [putBun_C]
  refine vpure_of (ts := [2, 3]) Tryz.func13 rfl (by simp [Tryz.ntmps13]) rfl rfl ?_
  rw [Tryz.ntmps13]
  refine vwp_reg tabOk [] [0] (by simp only [go_sem]; rfl) (by first | trivial | (simp; done) | (simp [in64]; omega)) ?_
  by_cases hb : (bunC [] l).2 = 0
  · -- case 0
    refine vwp_seq (vwp_region ?_)
    refine vops_go tabOk [] (by simp only [go_sem]; rfl) (by first | trivial | (simp; done) | (simp [in64]; omega)) ?_
    -- call 0: t5 = CALL 26(f26, nils, t4)
    refine vops_callH (hc := vcalls_nil rfl (c_codec_bundle_ok [] l (by simp) h hb)) rfl rfl rfl b_codec_bundle [] [] [] rfl rfl rfl (by simp only [go_sem]; exact WkL.refl _) (by simp only [go_sem]) ?_
    rintro r0 H0 ⟨rfl, rfl⟩
    simp only [go_sem]
    refine vops_go tabOk [] (by simp only [go_sem]; rfl) (by first | trivial | (simp; done) | (simp [in64]; omega)) ?_
    refine vops_done [2, 3] ?_
    simp only [go_sem, thenQ, blockQ, jumpQ, stayQ]
    refine vwp_ret ?_
    -- result 0
    simp only [thenQ, blockQ, jumpQ, stayQ, RetQ, go_sem]
    refine ⟨by simp, Wk.eq ?_⟩
    rw [hb, show bunH [] l = (bunC [] l).1 from by rw [bunH, if_neg (by have := (bunC_ok hb).1; simpa using this), (bunC_ok hb).2.2]]
    try simp only [go_sem]
    try simp
    rw [List.take_of_length_le (by simp)]
  · -- case 1
    refine vwp_seq (vwp_region ?_)
    refine vops_go tabOk [] (by simp only [go_sem]; rfl) (by first | trivial | (simp; done) | (simp [in64]; omega)) ?_
    -- call 1: t5 = CALL 26(f26, nils, t4)
    refine vops_callH (hc := vcalls_nil rfl (c_codec_bundle_err [] l (by simp) h hb)) rfl rfl rfl b_codec_bundle [] [] [] rfl rfl rfl (by simp only [go_sem]; exact WkL.refl _) (by simp only [go_sem]) ?_
    rintro r1 H1 ⟨rfl, rfl⟩
    simp only [go_sem]
    refine vops_go tabOk [] (by simp only [go_sem]; rfl) (by first | trivial | (simp; done) | (simp [in64]; omega)) ?_
    refine vops_done [2, 3] ?_
    simp only [go_sem, thenQ, blockQ, jumpQ, stayQ]
    refine vwp_ret ?_
    -- result 1
    simp only [thenQ, blockQ, jumpQ, stayQ, RetQ, go_sem]
    refine ⟨by simp, ?_⟩
    rw [bunC_err hb]
    exact Wk.tuple ⟨Wk.nils _, Wk.refl _, trivial⟩

/-! counterpane/codec.Put -/
theorem b_codec_Put : bodied Go.Proofs.Tryz.prog 11 = true := by rw [bodied, Tryz.func11]; rfl
set_option maxHeartbeats 4000000 in
theorem c_codec_Put_ok (k e : Nat) (ns hv : List Str) (ps : List Patch) (hn : (lst ns).length ≤ 100000000) (hh : (lst hv).length ≤ 100000000) (h : ∀ p ∈ ps, (patchEnc p).length ≤ 500000000) (hr : rightC (⟨(k : Int), ns, hv, (e : Int), ps⟩ : Msg) = true) (hk : k ≤ 3) (he : e ≤ 1000) (hb : (bunC (num (k : Int) ++ lst ns ++ lst hv ++ num (e : Int)) ps).2 = 0) : VPure Go.Proofs.Tryz.prog G 11 [.agg (cMsg (⟨(k : Int), ns, hv, (e : Int), ps⟩ : Msg))] (.tuple [.list 1 ((bunC (num (k : Int) ++ lst ns ++ lst hv ++ num (e : Int)) ps).1.map encB), .int .i64 (bunC (num (k : Int) ++ lst ns ++ lst hv ++ num (e : Int)) ps).2]) := by
  have l1 := num_nat k (by omega)
  have l2 := num_nat e (by omega)
  refine vpure_of (ts := [2, 3]) Tryz.func11 rfl (by simp [Tryz.ntmps11]) rfl rfl ?_
  rw [Tryz.ntmps11]
  refine vwp_reg tabOk [] [1] (by simp only [go_sem, List.getElem?_nil]; rfl) (by first | trivial | (simp; done) | (simp [in64]; omega)) ?_
  refine vwp_seq ?_
  refine vwp_seq (vwp_region ?_)
  refine vops_go tabOk [] (by simp only [go_sem, List.getElem?_nil]; rfl) (by first | trivial | (simp; done) | (simp [in64]; omega)) ?_
  -- call 0: t6 = CALL 23(f23, t5)
  refine vops_call (hc := fun _ => c_codec_right (⟨(k : Int), ns, hv, (e : Int), ps⟩ : Msg)) rfl (by simp only [go_sem, List.getElem?_nil]; rfl) rfl b_codec_right (by simp only [go_sem, List.getElem?_nil]; exact WkL.refl _) rfl (fun hg => by simp only [go_sem]; try (intros; first | assumption | trivial | simp_all)) ?_
  simp only [go_sem]
  refine vops_go tabOk [] (by simp only [go_sem, List.getElem?_nil]; rfl) (by first | trivial | (simp; done) | (simp [in64]; omega)) ?_
  refine vops_done [1, 7] ?_
  simp only [go_sem, thenQ, blockQ, jumpQ, stayQ]
  refine vwp_cond (by simp only [go_sem]; rfl) (fun h0 => ?_) (fun h0 => ?_)
  · -- h0 then
    rw [hr] at h0; exact absurd h0 (by decide)
  · -- h0 else
    refine vwp_skip ?_
    try simp only [thenQ, blockQ, jumpQ, stayQ]
    refine vwp_seq (vwp_region ?_)
    refine vops_go tabOk [] (by simp only [go_sem, List.getElem?_nil]; rfl) (by first | trivial | (simp; done) | (simp [in64]; omega)) ?_
    -- call 1: t10 = CALL 24(f24, nils, t9)
    refine vops_callH (hc := vcalls_nil rfl (c_codec_number [] k (by omega) (by simp))) rfl rfl rfl b_codec_number [] [] [] rfl rfl rfl (by simp only [go_sem]; exact WkL.refl _) (by simp only [go_sem]) ?_
    rintro r1 H1 ⟨rfl, rfl⟩
    simp only [go_sem, List.getElem?_nil]
    refine vops_go tabOk [] (by simp only [go_sem, List.getElem?_nil]; rfl) (by first | trivial | (simp; done) | (simp [in64]; omega)) ?_
    refine vops_done [1, 4] ?_
    simp only [go_sem, thenQ, blockQ, jumpQ, stayQ]
    -- r4 drawn, effects at [3, 6]
    refine vwp_seq (vwp_drawE2 mixed (by kernel_rfl) 3 6 (by decide) [0, 0, 0, 0, 0, 0, 1, 2] (by kernel_rfl) (f0 := ?f0_r4) (f1 := ?f1_r4) (f2 := ?f2_r4) (H1 := ?H1_r4) (H2 := ?H2_r4) (g1 := ?g1_r4) (g2 := ?g2_r4) (v1 := ?v1_r4) (v2 := ?v2_r4) (by simp only [go_sem]; rfl) (by simp only [go_sem]; rfl) ?hs0_r4 ?he1_r4 ?hg1_r4 ?hs1_r4 ?hk1_r4 ?hv1_r4 ?he2_r4 ?hg2_r4 ?hs2_r4 ?hk2_r4 ?hv2_r4 [1, 4] rfl ?hq_r4)
    case hs0_r4 =>
      refine dstage_go tabOk (by simp only [go_sem, List.getElem?_nil]; rfl) (by first | trivial | (simp; done) | (simp [in64]; omega)) ?_
      exact dstage_nil
    case he1_r4 =>
      -- t14 = CALL 25(f25, t11, t13)
      refine effOk_callH (f := ?f1) (vs := ?vs1) (H' := ?Hn1) (r := ?r1) (args := ?args1) (ats := ?ats1) [1] [0] [1] ?yc1 ?y01 ?yb1 ?y11 ?y21 ?y31 ?y41 ?y51
      case y01 => rfl
      case yc1 => exact c_codec_list (num (k : Int)) ns (by omega) (by omega)
      case yb1 => exact b_codec_list
      case y11 => rfl
      case y21 => rfl
      case y31 => rfl
      case y41 => simp only [go_sem]; exact WkL.refl _
      case y51 => simp only [go_sem]
    case hg1_r4 => rfl
    case hs1_r4 =>
      refine dstage_go tabOk (by simp only [go_sem, List.getElem?_nil]; rfl) (by first | trivial | (simp; done) | (simp [in64]; omega)) ?_
      exact dstage_nil
    case hk1_r4 => simp [keptOk, inStage, mapE, go_sem, List.getElem?_nil]
    case hv1_r4 => simp [mapE, go_sem]
    case he2_r4 =>
      -- t17 = CALL 25(f25, t14, t16)
      refine effOk_callH (f := ?f2) (vs := ?vs2) (H' := ?Hn2) (r := ?r2) (args := ?args2) (ats := ?ats2) [1] [0] [1] ?yc2 ?y02 ?yb2 ?y12 ?y22 ?y32 ?y42 ?y52
      case y02 => rfl
      case yc2 => exact c_codec_list (num (k : Int) ++ lst ns) hv (by omega) (by simp only [List.length_append]; omega)
      case yb2 => exact b_codec_list
      case y12 => rfl
      case y22 => rfl
      case y32 => rfl
      case y42 => simp only [go_sem]; exact WkL.refl _
      case y52 => simp only [go_sem]
    case hg2_r4 => rfl
    case hs2_r4 =>
      refine dstage_go tabOk (by simp only [go_sem, List.getElem?_nil]; rfl) (by first | trivial | (simp; done) | (simp [in64]; omega)) ?_
      exact dstage_nil
    case hk2_r4 => simp [keptOk, inStage, mapE, go_sem, List.getElem?_nil]
    case hv2_r4 => simp [mapE, go_sem]
    simp only [go_sem, mapE, thenQ, blockQ, jumpQ, stayQ]
    -- r5 drawn, effects at [3, 6]
    refine vwp_seq (vwp_drawE2 mixed (by kernel_rfl) 3 6 (by decide) [0, 0, 0, 0, 0, 0, 1, 2, 2, 2, 2] (by kernel_rfl) (f0 := ?f0_r5) (f1 := ?f1_r5) (f2 := ?f2_r5) (H1 := ?H1_r5) (H2 := ?H2_r5) (g1 := ?g1_r5) (g2 := ?g2_r5) (v1 := ?v1_r5) (v2 := ?v2_r5) (by simp only [go_sem]; rfl) (by simp only [go_sem]; rfl) ?hs0_r5 ?he1_r5 ?hg1_r5 ?hs1_r5 ?hk1_r5 ?hv1_r5 ?he2_r5 ?hg2_r5 ?hs2_r5 ?hk2_r5 ?hv2_r5 [2, 3] rfl ?hq_r5)
    case hs0_r5 =>
      refine dstage_go tabOk (by simp only [go_sem, List.getElem?_nil]; rfl) (by first | trivial | (simp; done) | (simp [in64]; omega)) ?_
      exact dstage_nil
    case he1_r5 =>
      -- t21 = CALL 24(f24, t18, t20)
      refine effOk_callH (f := ?f3) (vs := ?vs3) (H' := ?Hn3) (r := ?r3) (args := ?args3) (ats := ?ats3) [1] [0] [1] ?yc3 ?y03 ?yb3 ?y13 ?y23 ?y33 ?y43 ?y53
      case y03 => rfl
      case yc3 => exact c_codec_number (num (k : Int) ++ lst ns ++ lst hv) e (by omega) (by simp only [List.length_append]; omega)
      case yb3 => exact b_codec_number
      case y13 => rfl
      case y23 => rfl
      case y33 => rfl
      case y43 => simp only [go_sem]; exact WkL.refl _
      case y53 => simp only [go_sem]
    case hg1_r5 => rfl
    case hs1_r5 =>
      refine dstage_go tabOk (by simp only [go_sem, List.getElem?_nil]; rfl) (by first | trivial | (simp; done) | (simp [in64]; omega)) ?_
      exact dstage_nil
    case hk1_r5 => simp [keptOk, inStage, mapE, go_sem, List.getElem?_nil]
    case hv1_r5 => simp [mapE, go_sem]
    case he2_r5 =>
      -- t24 = CALL 26(f26, t21, t23)
      refine effOk_callH (f := ?f4) (vs := ?vs4) (H' := ?Hn4) (r := ?r4) (args := ?args4) (ats := ?ats4) [1] [0] [1] ?yc4 ?y04 ?yb4 ?y14 ?y24 ?y34 ?y44 ?y54
      case y04 => rfl
      case yc4 => exact c_codec_bundle_ok (num (k : Int) ++ lst ns ++ lst hv ++ num (e : Int)) ps (by simp only [List.length_append]; omega) h hb
      case yb4 => exact b_codec_bundle
      case y14 => rfl
      case y24 => rfl
      case y34 => rfl
      case y44 => simp only [go_sem]; exact WkL.refl _
      case y54 => simp only [go_sem]
    case hg2_r5 => rfl
    case hs2_r5 =>
      refine dstage_go tabOk (by simp only [go_sem, List.getElem?_nil]; rfl) (by first | trivial | (simp; done) | (simp [in64]; omega)) ?_
      exact dstage_nil
    case hk2_r5 => simp [keptOk, inStage, mapE, go_sem, List.getElem?_nil]
    case hv2_r5 => simp [mapE, go_sem]
    simp only [go_sem, mapE, thenQ, blockQ, jumpQ, stayQ]
    refine vwp_ret ?_
    -- result 0
    simp only [thenQ, blockQ, jumpQ, stayQ, RetQ, go_sem]
    refine ⟨by simp, Wk.eq ?_⟩
    rw [hb, show bunH (num (k : Int) ++ lst ns ++ lst hv ++ num (e : Int)) ps = (bunC (num (k : Int) ++ lst ns ++ lst hv ++ num (e : Int)) ps).1 from by rw [bunH, if_neg (by have := (bunC_ok hb).1; simpa using this), (bunC_ok hb).2.2]]
    rw [List.take_of_length_le (by simp)]

/-! counterpane/codec.Put -/
set_option maxHeartbeats 4000000 in
theorem c_codec_Put_err (k e : Nat) (ns hv : List Str) (ps : List Patch) (hn : (lst ns).length ≤ 100000000) (hh : (lst hv).length ≤ 100000000) (h : ∀ p ∈ ps, (patchEnc p).length ≤ 500000000) (hr : rightC (⟨(k : Int), ns, hv, (e : Int), ps⟩ : Msg) = true) (hk : k ≤ 3) (he : e ≤ 1000) (hb : ¬ (bunC (num (k : Int) ++ lst ns ++ lst hv ++ num (e : Int)) ps).2 = 0) : VPure Go.Proofs.Tryz.prog G 11 [.agg (cMsg (⟨(k : Int), ns, hv, (e : Int), ps⟩ : Msg))] (.tuple [.list 1 ((bunC (num (k : Int) ++ lst ns ++ lst hv ++ num (e : Int)) ps).1.map encB), .int .i64 (bunC (num (k : Int) ++ lst ns ++ lst hv ++ num (e : Int)) ps).2]) := by
  have l1 := num_nat k (by omega)
  have l2 := num_nat e (by omega)
  refine vpure_of (ts := [2, 3]) Tryz.func11 rfl (by simp [Tryz.ntmps11]) rfl rfl ?_
  rw [Tryz.ntmps11]
  refine vwp_reg tabOk [] [1] (by simp only [go_sem, List.getElem?_nil]; rfl) (by first | trivial | (simp; done) | (simp [in64]; omega)) ?_
  refine vwp_seq ?_
  refine vwp_seq (vwp_region ?_)
  refine vops_go tabOk [] (by simp only [go_sem, List.getElem?_nil]; rfl) (by first | trivial | (simp; done) | (simp [in64]; omega)) ?_
  -- call 0: t6 = CALL 23(f23, t5)
  refine vops_call (hc := fun _ => c_codec_right (⟨(k : Int), ns, hv, (e : Int), ps⟩ : Msg)) rfl (by simp only [go_sem, List.getElem?_nil]; rfl) rfl b_codec_right (by simp only [go_sem, List.getElem?_nil]; exact WkL.refl _) rfl (fun hg => by simp only [go_sem]; try (intros; first | assumption | trivial | simp_all)) ?_
  simp only [go_sem]
  refine vops_go tabOk [] (by simp only [go_sem, List.getElem?_nil]; rfl) (by first | trivial | (simp; done) | (simp [in64]; omega)) ?_
  refine vops_done [1, 7] ?_
  simp only [go_sem, thenQ, blockQ, jumpQ, stayQ]
  refine vwp_cond (by simp only [go_sem]; rfl) (fun h0 => ?_) (fun h0 => ?_)
  · -- h0 then
    rw [hr] at h0; exact absurd h0 (by decide)
  · -- h0 else
    refine vwp_skip ?_
    try simp only [thenQ, blockQ, jumpQ, stayQ]
    refine vwp_seq (vwp_region ?_)
    refine vops_go tabOk [] (by simp only [go_sem, List.getElem?_nil]; rfl) (by first | trivial | (simp; done) | (simp [in64]; omega)) ?_
    -- call 1: t10 = CALL 24(f24, nils, t9)
    refine vops_callH (hc := vcalls_nil rfl (c_codec_number [] k (by omega) (by simp))) rfl rfl rfl b_codec_number [] [] [] rfl rfl rfl (by simp only [go_sem]; exact WkL.refl _) (by simp only [go_sem]) ?_
    rintro r1 H1 ⟨rfl, rfl⟩
    simp only [go_sem, List.getElem?_nil]
    refine vops_go tabOk [] (by simp only [go_sem, List.getElem?_nil]; rfl) (by first | trivial | (simp; done) | (simp [in64]; omega)) ?_
    refine vops_done [1, 4] ?_
    simp only [go_sem, thenQ, blockQ, jumpQ, stayQ]
    -- r4 drawn, effects at [3, 6]
    refine vwp_seq (vwp_drawE2 mixed (by kernel_rfl) 3 6 (by decide) [0, 0, 0, 0, 0, 0, 1, 2] (by kernel_rfl) (f0 := ?f0_r4) (f1 := ?f1_r4) (f2 := ?f2_r4) (H1 := ?H1_r4) (H2 := ?H2_r4) (g1 := ?g1_r4) (g2 := ?g2_r4) (v1 := ?v1_r4) (v2 := ?v2_r4) (by simp only [go_sem]; rfl) (by simp only [go_sem]; rfl) ?hs0_r4 ?he1_r4 ?hg1_r4 ?hs1_r4 ?hk1_r4 ?hv1_r4 ?he2_r4 ?hg2_r4 ?hs2_r4 ?hk2_r4 ?hv2_r4 [1, 4] rfl ?hq_r4)
    case hs0_r4 =>
      refine dstage_go tabOk (by simp only [go_sem, List.getElem?_nil]; rfl) (by first | trivial | (simp; done) | (simp [in64]; omega)) ?_
      exact dstage_nil
    case he1_r4 =>
      -- t14 = CALL 25(f25, t11, t13)
      refine effOk_callH (f := ?f5) (vs := ?vs5) (H' := ?Hn5) (r := ?r5) (args := ?args5) (ats := ?ats5) [1] [0] [1] ?yc5 ?y05 ?yb5 ?y15 ?y25 ?y35 ?y45 ?y55
      case y05 => rfl
      case yc5 => exact c_codec_list (num (k : Int)) ns (by omega) (by omega)
      case yb5 => exact b_codec_list
      case y15 => rfl
      case y25 => rfl
      case y35 => rfl
      case y45 => simp only [go_sem]; exact WkL.refl _
      case y55 => simp only [go_sem]
    case hg1_r4 => rfl
    case hs1_r4 =>
      refine dstage_go tabOk (by simp only [go_sem, List.getElem?_nil]; rfl) (by first | trivial | (simp; done) | (simp [in64]; omega)) ?_
      exact dstage_nil
    case hk1_r4 => simp [keptOk, inStage, mapE, go_sem, List.getElem?_nil]
    case hv1_r4 => simp [mapE, go_sem]
    case he2_r4 =>
      -- t17 = CALL 25(f25, t14, t16)
      refine effOk_callH (f := ?f6) (vs := ?vs6) (H' := ?Hn6) (r := ?r6) (args := ?args6) (ats := ?ats6) [1] [0] [1] ?yc6 ?y06 ?yb6 ?y16 ?y26 ?y36 ?y46 ?y56
      case y06 => rfl
      case yc6 => exact c_codec_list (num (k : Int) ++ lst ns) hv (by omega) (by simp only [List.length_append]; omega)
      case yb6 => exact b_codec_list
      case y16 => rfl
      case y26 => rfl
      case y36 => rfl
      case y46 => simp only [go_sem]; exact WkL.refl _
      case y56 => simp only [go_sem]
    case hg2_r4 => rfl
    case hs2_r4 =>
      refine dstage_go tabOk (by simp only [go_sem, List.getElem?_nil]; rfl) (by first | trivial | (simp; done) | (simp [in64]; omega)) ?_
      exact dstage_nil
    case hk2_r4 => simp [keptOk, inStage, mapE, go_sem, List.getElem?_nil]
    case hv2_r4 => simp [mapE, go_sem]
    simp only [go_sem, mapE, thenQ, blockQ, jumpQ, stayQ]
    -- r5 drawn, effects at [3, 6]
    refine vwp_seq (vwp_drawE2 mixed (by kernel_rfl) 3 6 (by decide) [0, 0, 0, 0, 0, 0, 1, 2, 2, 2, 2] (by kernel_rfl) (f0 := ?f0_r5) (f1 := ?f1_r5) (f2 := ?f2_r5) (H1 := ?H1_r5) (H2 := ?H2_r5) (g1 := ?g1_r5) (g2 := ?g2_r5) (v1 := ?v1_r5) (v2 := ?v2_r5) (by simp only [go_sem]; rfl) (by simp only [go_sem]; rfl) ?hs0_r5 ?he1_r5 ?hg1_r5 ?hs1_r5 ?hk1_r5 ?hv1_r5 ?he2_r5 ?hg2_r5 ?hs2_r5 ?hk2_r5 ?hv2_r5 [2, 3] rfl ?hq_r5)
    case hs0_r5 =>
      refine dstage_go tabOk (by simp only [go_sem, List.getElem?_nil]; rfl) (by first | trivial | (simp; done) | (simp [in64]; omega)) ?_
      exact dstage_nil
    case he1_r5 =>
      -- t21 = CALL 24(f24, t18, t20)
      refine effOk_callH (f := ?f7) (vs := ?vs7) (H' := ?Hn7) (r := ?r7) (args := ?args7) (ats := ?ats7) [1] [0] [1] ?yc7 ?y07 ?yb7 ?y17 ?y27 ?y37 ?y47 ?y57
      case y07 => rfl
      case yc7 => exact c_codec_number (num (k : Int) ++ lst ns ++ lst hv) e (by omega) (by simp only [List.length_append]; omega)
      case yb7 => exact b_codec_number
      case y17 => rfl
      case y27 => rfl
      case y37 => rfl
      case y47 => simp only [go_sem]; exact WkL.refl _
      case y57 => simp only [go_sem]
    case hg1_r5 => rfl
    case hs1_r5 =>
      refine dstage_go tabOk (by simp only [go_sem, List.getElem?_nil]; rfl) (by first | trivial | (simp; done) | (simp [in64]; omega)) ?_
      exact dstage_nil
    case hk1_r5 => simp [keptOk, inStage, mapE, go_sem, List.getElem?_nil]
    case hv1_r5 => simp [mapE, go_sem]
    case he2_r5 =>
      -- t24 = CALL 26(f26, t21, t23)
      refine effOk_callH (f := ?f8) (vs := ?vs8) (H' := ?Hn8) (r := ?r8) (args := ?args8) (ats := ?ats8) [1] [0] [1] ?yc8 ?y08 ?yb8 ?y18 ?y28 ?y38 ?y48 ?y58
      case y08 => rfl
      case yc8 => exact c_codec_bundle_err (num (k : Int) ++ lst ns ++ lst hv ++ num (e : Int)) ps (by simp only [List.length_append]; omega) h hb
      case yb8 => exact b_codec_bundle
      case y18 => rfl
      case y28 => rfl
      case y38 => rfl
      case y48 => simp only [go_sem]; exact WkL.refl _
      case y58 => simp only [go_sem]
    case hg2_r5 => rfl
    case hs2_r5 =>
      refine dstage_go tabOk (by simp only [go_sem, List.getElem?_nil]; rfl) (by first | trivial | (simp; done) | (simp [in64]; omega)) ?_
      exact dstage_nil
    case hk2_r5 => simp [keptOk, inStage, mapE, go_sem, List.getElem?_nil]
    case hv2_r5 => simp [mapE, go_sem]
    simp only [go_sem, mapE, thenQ, blockQ, jumpQ, stayQ]
    refine vwp_ret ?_
    -- result 0
    simp only [thenQ, blockQ, jumpQ, stayQ, RetQ, go_sem]
    refine ⟨by simp, ?_⟩
    rw [bunC_err hb]
    exact Wk.tuple ⟨Wk.nils _, Wk.refl _, trivial⟩

/-! counterpane/codec.Put -/
theorem c_codec_Put_no (x : Msg) (hr : rightC x = false) : VPure Go.Proofs.Tryz.prog G 11 [.agg (cMsg x)] (.tuple [.nils, .int .i64 1]) := by
  refine vpure_of (ts := [2, 3]) Tryz.func11 rfl (by simp [Tryz.ntmps11]) rfl rfl ?_
  rw [Tryz.ntmps11]
  refine vwp_reg tabOk [] [1] (by simp only [go_sem]; rfl) (by first | trivial | (simp; done) | (simp [in64]; omega)) ?_
  refine vwp_seq ?_
  refine vwp_seq (vwp_region ?_)
  refine vops_go tabOk [] (by simp only [go_sem]; rfl) (by first | trivial | (simp; done) | (simp [in64]; omega)) ?_
  -- call 0: t6 = CALL 23(f23, t5)
  refine vops_call (hc := fun _ => c_codec_right x) rfl (by simp only [go_sem]; rfl) rfl b_codec_right (by simp only [go_sem]; exact WkL.refl _) rfl (fun hg => by simp only [go_sem]; try (intros; first | assumption | trivial | simp_all)) ?_
  simp only [go_sem]
  refine vops_go tabOk [] (by simp only [go_sem]; rfl) (by first | trivial | (simp; done) | (simp [in64]; omega)) ?_
  refine vops_done [1, 7] ?_
  simp only [go_sem, thenQ, blockQ, jumpQ, stayQ]
  refine vwp_cond (by simp only [go_sem]; rfl) (fun h0 => ?_) (fun h0 => ?_)
  · -- h0 then
    refine vwp_reg tabOk [] [2, 3] (by simp only [go_sem]; rfl) (by first | trivial | (simp; done) | (simp [in64]; omega)) ?_
    refine vwp_ret ?_
    -- result 0
    simp only [thenQ, blockQ, jumpQ, stayQ, RetQ, go_sem]
    refine ⟨by simp, Wk.eq ?_⟩
    rfl
  · -- h0 else
    rw [hr] at h0; exact absurd h0 (by decide)


theorem vpure_wk {P : Program} {G : Glob} {f : FuncId} {args : List V} {r r' : V} (hw : Wk r r') (h : VPure P G f args r) : VPure P G f args r' :=
  fun F w ms hr hb hG => (h F w ms hr hb hG).mono fun e w' ⟨mr, h1, h2, h3⟩ => ⟨mr, h1, hw _ _ _ _ h2, h3⟩
theorem c_codec_Put (x : Msg) (hn : (lst x.names).length ≤ 100000000) (hh : (lst x.have_).length ≤ 100000000) (h : ∀ p ∈ x.patches, (patchEnc p).length ≤ 500000000) : VPure Go.Proofs.Tryz.prog G 11 [.agg (cMsg x)] (.tuple [.list 1 ((putMsgR x).1.map encB), .int .i64 (putMsgR x).2]) := by
  rw [putMsg_C]
  cases hr : rightC x with
  | false => exact vpure_wk (Wk.tuple (l := [.nils, .int .i64 1]) (t := [.list 1 [], .int .i64 1]) ⟨Wk.nils _, Wk.refl _, trivial⟩) (c_codec_Put_no x hr)
  | true =>
    obtain ⟨hk, he⟩ := rightC_bounds hr
    obtain ⟨kd, ns, hv, er, ps⟩ := x
    obtain ⟨k, rfl⟩ := Int.eq_ofNat_of_zero_le (show 0 ≤ kd by simp only [] at hk; omega)
    obtain ⟨e, rfl⟩ := Int.eq_ofNat_of_zero_le (show 0 ≤ er by simp only [] at he; omega)
    by_cases hb : (bunC (num (k : Int) ++ lst ns ++ lst hv ++ num (e : Int)) ps).2 = 0
    · exact c_codec_Put_ok k e ns hv ps hn hh h hr (by simp only [] at hk; omega) (by simp only [] at he; omega) hb
    · exact c_codec_Put_err k e ns hv ps hn hh h hr (by simp only [] at hk; omega) (by simp only [] at he; omega) hb
end Go.Proofs.YtldfghgjllaljaaGreatDoor.Q
end

section
/- Walks of the package 'codec': what reads bundles and messages, in the logic 'Q'. -/
set_option linter.unusedVariables false
set_option linter.unusedSimpArgs false
set_option maxRecDepth 100000
namespace Go.Proofs.YtldfghgjllaljaaGreatDoor.Q
open Go Go.Q
attribute [local irreducible] lnNum lnTxt lnLst lnPats lnMsg putMsgR putBunR rdMany

/-! counterpane/codec.GetBundle -/
theorem b_codec_GetBundle : bodied Go.Proofs.Tryz.prog 17 = true := by rw [bodied, Tryz.func17]; rfl
set_option maxHeartbeats 400000 in
theorem c_codec_GetBundle (s : Str) (hs : s.length ≤ 40000) : VPure Go.Proofs.Tryz.prog G 17 [.list 1 (s.map encB)] (.tuple [.list 3 ((getBunP s).1.map cPatch), .int .i64 (getBunP s).2]) := by
  have hn : (lnNum (lnR s)).2.b.length ≤ s.length := lnNum_le (lnR s)
  have hE : ∀ p ∈ (lnPats (lnR s)).1, (patchEnc p).length ≤ 500000000 := by rw [lnPats]; exact lnPats_enc _ _ (by omega)
  refine vpure_of (ts := [2, 3]) Tryz.func17 rfl (by simp [Tryz.ntmps17]) rfl rfl ?_
  rw [Tryz.ntmps17]
  refine vwp_reg tabOk [] [0] (by simp only [go_sem]; rfl) (by first | trivial | (simp; done) | (simp [in64]; omega)) ?_
  refine vwp_reg tabOk [] [0, 4] (by simp only [go_sem]; rfl) (by first | trivial | (simp; done) | (simp [in64]; omega)) ?_
  refine vwp_seq (vwp_region ?_)
  refine vops_go tabOk [] (by simp only [go_sem]; rfl) (by first | trivial | (simp; done) | (simp [in64]; omega)) ?_
  -- call 0: t12 = CALL 33(f33, t11)
  refine vops_callH (hc := c_codec_reader_patches (lnR s) (by show s.length ≤ _; omega)) rfl rfl rfl b_codec_reader_patches [0] [] [] rfl rfl rfl (by simp only [go_sem]; exact WkL.refl _) (by simp only [go_sem]) ?_
  rintro r0 H0 ⟨rfl, rfl⟩
  simp only [go_sem]
  refine vops_go tabOk [] (by simp only [go_sem]; rfl) (by first | trivial | (simp; done) | (simp [in64]; omega)) ?_
  refine vops_done [0, 5] ?_
  simp only [go_sem, thenQ, blockQ, jumpQ, stayQ]
  refine vwp_seq ?_
  refine vwp_seq (vwp_region ?_)
  refine vops_go tabOk [] (by simp only [go_sem]; rfl) (by first | trivial | (simp; done) | (simp [in64]; omega)) ?_
  -- call 1: t15 = CALL 13(f13, t14)
  refine vops_call (hc := fun _ => c_codec_PutBundle (lnPats (lnR s)).1 hE) rfl (by simp only [go_sem]; rfl) rfl b_codec_PutBundle (by simp only [go_sem]; exact WkL.refl _) rfl (fun hg => by simp only [go_sem]; try (intros; first | assumption | trivial | simp_all)) ?_
  simp only [go_sem]
  refine vops_go tabOk [] (by simp only [go_sem]; rfl) (by first | trivial | (simp; done) | (simp [in64]; omega)) ?_
  refine vops_done [0, 5, 6, 7] ?_
  simp only [go_sem, thenQ, blockQ, jumpQ, stayQ]
  refine vwp_seq (vwp_region ?_)
  refine vops_go tabOk [] (by simp only [go_sem]; rfl) (by first | trivial | (simp; done) | (simp [in64]; omega)) ?_
  -- call 2: t23 = CALL 34(f34, t21, t22)  if op2 not
  refine vops_call (hc := fun _ => c_bytes_Equal (putBunR (lnPats (lnR s)).1).1 s) rfl (by simp only [go_sem]; rfl) rfl b_bytes_Equal (by simp only [go_sem]; exact WkL.refl _) rfl (fun hg => by simp only [go_sem]; try (intros; first | assumption | trivial | simp_all)) ?_
  simp only [go_sem]
  refine vops_go tabOk [] (by simp only [go_sem]; rfl) (by first | trivial | (simp; done) | (simp [in64]; omega)) ?_
  refine vops_done [5, 25] ?_
  simp only [go_sem, thenQ, blockQ, jumpQ, stayQ]
  refine vwp_cond (by simp only [go_sem]; rfl) (fun h0 => ?_) (fun h0 => ?_)
  · -- h0 then
    refine vwp_reg tabOk [] [2, 3] (by simp only [go_sem]; rfl) (by first | trivial | (simp; done) | (simp [in64]; omega)) ?_
    refine vwp_ret ?_
    -- result 0
    simp only [thenQ, blockQ, jumpQ, stayQ, RetQ, go_sem]
    refine ⟨by simp, ?_⟩
    rw [show getBunP s = ([], 3) from by rw [getBunP, if_pos (by simpa using h0)]]
    exact Wk.tuple ⟨Wk.nils _, Wk.refl _, trivial⟩
  · -- h0 else
    refine vwp_skip ?_
    try simp only [thenQ, blockQ, jumpQ, stayQ]
    refine vwp_reg tabOk [] [2, 3] (by simp only [go_sem]; rfl) (by first | trivial | (simp; done) | (simp [in64]; omega)) ?_
    refine vwp_ret ?_
    -- result 1
    simp only [thenQ, blockQ, jumpQ, stayQ, RetQ, go_sem]
    refine ⟨by simp, Wk.eq ?_⟩
    rw [show getBunP s = ((lnPats (lnR s)).1, 0) from by rw [getBunP, if_neg (by simpa using h0)]]

/-! counterpane/codec.Get -/
theorem b_codec_Get : bodied Go.Proofs.Tryz.prog 15 = true := by rw [bodied, Tryz.func15]; rfl
set_option maxHeartbeats 400000 in
theorem c_codec_Get (s : Str) (hs : s.length ≤ 40000) : VPure Go.Proofs.Tryz.prog G 15 [.list 1 (s.map encB)] (.tuple [.agg (cMsg (getMsgP s).1), .int .i64 (getMsgP s).2]) := by
  obtain ⟨q1, q2, q3⟩ := lnMsg_bounds s hs
  have hM : (lnMsg (lnR s)).1 = (⟨((lnNum (lnR s)).1 : Int), (lnLst (lnNum (lnR s)).2).1, (lnLst (lnLst (lnNum (lnR s)).2).2).1, ((lnNum (lnLst (lnLst (lnNum (lnR s)).2).2).2).1 : Int), (lnPats (lnNum (lnLst (lnLst (lnNum (lnR s)).2).2).2).2).1⟩ : Msg) := lnMsg_1 _
  rw [hM] at q1 q2 q3
  have l0 : (lnR s).b.length = s.length := rfl
  have l1 := lnNum_le (lnR s)
  have l2 := (lnLst_len (lnNum (lnR s)).2 (by omega)).2
  have l3 := (lnLst_len (lnLst (lnNum (lnR s)).2).2 (by omega)).2
  have l4 := lnNum_le (lnLst (lnLst (lnNum (lnR s)).2).2).2
  refine vpure_of2 tabOk (rs := _) Tryz.func15 rfl (by simp [Tryz.ntmps15]) rfl rfl ?_
  rw [Tryz.ntmps15]
  refine vwp_reg tabOk [] [0, 2] (by simp only [go_sem]; rfl) (by first | trivial | (simp; done) | (simp [in64]; omega)) ?_
  refine vwp_reg tabOk [] [0, 2, 4] (by simp only [go_sem]; rfl) (by first | trivial | (simp; done) | (simp [in64]; omega)) ?_
  refine vwp_seq (vwp_region ?_)
  refine vops_go tabOk [] (by simp only [go_sem]; rfl) (by first | trivial | (simp; done) | (simp [in64]; omega)) ?_
  -- call 0: t12 = CALL 31(f31, t11)
  refine vops_callH (hc := c_codec_reader_number (lnR s)) rfl rfl rfl b_codec_reader_number [1] [] [] rfl rfl rfl (by simp only [go_sem]; exact WkL.refl _) (by simp only [go_sem]) ?_
  rintro r0 H0 ⟨rfl, rfl⟩
  simp only [go_sem]
  refine vops_go tabOk [] (by simp only [go_sem]; rfl) (by first | trivial | (simp; done) | (simp [in64]; omega)) ?_
  refine vops_done [0, 2, 4, 5] ?_
  simp only [go_sem, thenQ, blockQ, jumpQ, stayQ]
  refine vwp_seq (vwp_region ?_)
  refine vops_go tabOk [] (by simp only [go_sem]; rfl) (by first | trivial | (simp; done) | (simp [in64]; omega)) ?_
  -- call 1: t15 = CALL 32(f32, t14)
  refine vops_callH (hc := c_codec_reader_list (lnNum (lnR s)).2) rfl rfl rfl b_codec_reader_list [1] [] [] rfl rfl rfl (by simp only [go_sem]; exact WkL.refl _) (by simp only [go_sem]) ?_
  rintro r1 H1 ⟨rfl, rfl⟩
  simp only [go_sem]
  refine vops_go tabOk [] (by simp only [go_sem]; rfl) (by first | trivial | (simp; done) | (simp [in64]; omega)) ?_
  refine vops_done [0, 2, 4, 5] ?_
  simp only [go_sem, thenQ, blockQ, jumpQ, stayQ]
  refine vwp_seq (vwp_region ?_)
  refine vops_go tabOk [] (by simp only [go_sem]; rfl) (by first | trivial | (simp; done) | (simp [in64]; omega)) ?_
  -- call 2: t18 = CALL 32(f32, t17)
  refine vops_callH (hc := c_codec_reader_list (lnLst (lnNum (lnR s)).2).2) rfl rfl rfl b_codec_reader_list [1] [] [] rfl rfl rfl (by simp only [go_sem]; exact WkL.refl _) (by simp only [go_sem]) ?_
  rintro r2 H2 ⟨rfl, rfl⟩
  simp only [go_sem]
  refine vops_go tabOk [] (by simp only [go_sem]; rfl) (by first | trivial | (simp; done) | (simp [in64]; omega)) ?_
  refine vops_done [0, 2, 4, 5] ?_
  simp only [go_sem, thenQ, blockQ, jumpQ, stayQ]
  refine vwp_seq (vwp_region ?_)
  refine vops_go tabOk [] (by simp only [go_sem]; rfl) (by first | trivial | (simp; done) | (simp [in64]; omega)) ?_
  -- call 3: t21 = CALL 31(f31, t20)
  refine vops_callH (hc := c_codec_reader_number (lnLst (lnLst (lnNum (lnR s)).2).2).2) rfl rfl rfl b_codec_reader_number [1] [] [] rfl rfl rfl (by simp only [go_sem]; exact WkL.refl _) (by simp only [go_sem]) ?_
  rintro r3 H3 ⟨rfl, rfl⟩
  simp only [go_sem]
  refine vops_go tabOk [] (by simp only [go_sem]; rfl) (by first | trivial | (simp; done) | (simp [in64]; omega)) ?_
  refine vops_done [0, 2, 4, 5] ?_
  simp only [go_sem, thenQ, blockQ, jumpQ, stayQ]
  refine vwp_seq (vwp_region ?_)
  refine vops_go tabOk [] (by simp only [go_sem]; rfl) (by first | trivial | (simp; done) | (simp [in64]; omega)) ?_
  -- call 4: t24 = CALL 33(f33, t23)
  refine vops_callH (hc := c_codec_reader_patches (lnNum (lnLst (lnLst (lnNum (lnR s)).2).2).2).2 (by omega)) rfl rfl rfl b_codec_reader_patches [1] [] [] rfl rfl rfl (by simp only [go_sem]; exact WkL.refl _) (by simp only [go_sem]) ?_
  rintro r4 H4 ⟨rfl, rfl⟩
  simp only [go_sem]
  refine vops_go tabOk [] (by simp only [go_sem]; rfl) (by first | trivial | (simp; done) | (simp [in64]; omega)) ?_
  refine vops_done [0, 2, 5] ?_
  simp only [go_sem, thenQ, blockQ, jumpQ, stayQ]
  refine vwp_seq ?_
  refine vwp_seq (vwp_region ?_)
  refine vops_go tabOk [] (by simp only [go_sem]; rfl) (by first | trivial | (simp; done) | (simp [in64]; omega)) ?_
  -- call 5: t28 = CALL 11(f11, t27)
  refine vops_call (hc := fun _ => c_codec_Put (⟨((lnNum (lnR s)).1 : Int), (lnLst (lnNum (lnR s)).2).1, (lnLst (lnLst (lnNum (lnR s)).2).2).1, ((lnNum (lnLst (lnLst (lnNum (lnR s)).2).2).2).1 : Int), (lnPats (lnNum (lnLst (lnLst (lnNum (lnR s)).2).2).2).2).1⟩ : Msg) q1 q2 q3) rfl (by simp only [go_sem]; rfl) rfl b_codec_Put (by simp only [go_sem]; exact WkL.refl _) rfl (fun hg => by simp only [go_sem]; try (intros; first | assumption | trivial | simp_all)) ?_
  simp only [go_sem]
  refine vops_go tabOk [] (by simp only [go_sem]; rfl) (by first | trivial | (simp; done) | (simp [in64]; omega)) ?_
  refine vops_done [0, 2, 5, 6, 7] ?_
  simp only [go_sem, thenQ, blockQ, jumpQ, stayQ]
  refine vwp_seq (vwp_region ?_)
  refine vops_go tabOk [] (by simp only [go_sem]; rfl) (by first | trivial | (simp; done) | (simp [in64]; omega)) ?_
  -- call 6: t36 = CALL 34(f34, t34, t35)  if op2 not
  refine vops_call (hc := fun _ => c_bytes_Equal (putMsgR (⟨((lnNum (lnR s)).1 : Int), (lnLst (lnNum (lnR s)).2).1, (lnLst (lnLst (lnNum (lnR s)).2).2).1, ((lnNum (lnLst (lnLst (lnNum (lnR s)).2).2).2).1 : Int), (lnPats (lnNum (lnLst (lnLst (lnNum (lnR s)).2).2).2).2).1⟩ : Msg)).1 s) rfl (by simp only [go_sem]; rfl) rfl b_bytes_Equal (by simp only [go_sem]; exact WkL.refl _) rfl (fun hg => by simp only [go_sem]; try (intros; first | assumption | trivial | simp_all)) ?_
  simp only [go_sem]
  refine vops_go tabOk [] (by simp only [go_sem]; rfl) (by first | trivial | (simp; done) | (simp [in64]; omega)) ?_
  refine vops_done [2, 5, 38] ?_
  simp only [go_sem, thenQ, blockQ, jumpQ, stayQ]
  refine vwp_cond (by simp only [go_sem]; rfl) (fun h0 => ?_) (fun h0 => ?_)
  · -- h0 then
    refine vwp_reg tabOk [] [2, 3] (by simp only [go_sem]; rfl) (by first | trivial | (simp; done) | (simp [in64]; omega)) ?_
    refine vwp_ret ?_
    -- result 0
    try simp only [thenQ, blockQ, jumpQ, stayQ, go_sem]
    refine ⟨by simp, _, _, rfl, trivial, ?_⟩
    simp only [go_sem]
    rw [← hM] at h0
    rw [show getMsgP s = (msg0, 3) from by rw [getMsgP, if_pos (by simpa using h0)]]
    exact Wk.tuple ⟨Wk.agg ⟨Wk.refl _, Wk.nils _, Wk.nils _, Wk.refl _, Wk.nils _, trivial⟩, Wk.refl _, trivial⟩
  · -- h0 else
    refine vwp_skip ?_
    try simp only [thenQ, blockQ, jumpQ, stayQ]
    refine vwp_reg tabOk [] [2, 3] (by simp only [go_sem]; rfl) (by first | trivial | (simp; done) | (simp [in64]; omega)) ?_
    refine vwp_ret ?_
    -- result 1
    try simp only [thenQ, blockQ, jumpQ, stayQ, go_sem]
    refine ⟨by simp, _, _, rfl, trivial, ?_⟩
    simp only [go_sem]
    rw [← hM] at h0
    rw [show getMsgP s = ((lnMsg (lnR s)).1, 0) from by rw [getMsgP, if_neg (by simpa using h0)], hM]
    exact Wk.refl _
end Go.Proofs.YtldfghgjllaljaaGreatDoor.Q
end

section
/- Plain laws: what is not great is not long. -/
set_option linter.unusedVariables false
set_option linter.unusedSimpArgs false
namespace Go.Proofs.YtldfghgjllaljaaGreatDoor.Q
open Go Go.Q

def fitP (p : Patch) : Prop := ∀ x ∈ p.body, in64 x.kind ∧ in64 x.at_
theorem txts_cap : ∀ (l : List Str), capsum l < 4000 → (txts l).length ≤ capsum l + 22 * l.length
  | [], _ => by simp [txts]
  | s :: r, h => by
    have e : capsum (s :: r) = cap s.length + capsum r := by simp [capsum]
    rw [e] at h ⊢
    have ih := txts_cap r (by omega)
    have h1 : s.length = cap s.length := by unfold cap at h ⊢; omega
    have h2 := txt_len s (by unfold cap at h1; omega)
    rw [txts_cons, List.length_append, List.length_cons]; omega
theorem txts_cap2 : ∀ (l : List Str), capsum2 l < 2000 → (txts l).length ≤ capsum2 l + 22 * l.length
  | [], _ => by simp [txts]
  | s :: r, h => by
    have e : capsum2 (s :: r) = cap2 s.length + capsum2 r := by simp [capsum2]
    rw [e] at h ⊢
    have ih := txts_cap2 r (by omega)
    have h1 : s.length = cap2 s.length := by unfold cap2 at h ⊢; omega
    have h2 := txt_len s (by unfold cap2 at h1; omega)
    rw [txts_cons, List.length_append, List.length_cons]; omega
theorem great_prim {x : Prim} (h : greatPrim x = false) (hf : in64 x.kind ∧ in64 x.at_) : (primEnc x).length ≤ 1000000 := by
  have h := of_decide_eq_false h
  rw [primSize] at h
  have l1 := num_len x.kind hf.1
  have l2 := num_len x.at_ hf.2
  have a1 : x.path.length = cap x.path.length := by unfold cap at h ⊢; omega
  have a2 : x.to.length = cap x.to.length := by unfold cap at h ⊢; omega
  have a3 : x.frm.length = cap x.frm.length := by unfold cap at h ⊢; omega
  have b1 := txt_len x.path (by omega)
  have b2 := txt_len x.to (by omega)
  have b3 := txt_len x.frm (by omega)
  have c1 := txts_cap x.old (by omega)
  have c2 := txts_cap x.new (by omega)
  have d1 := num_nat x.old.length (by omega)
  have d2 := num_nat x.new.length (by omega)
  simp only [primEnc, lst, List.length_append]
  omega
theorem great_pat {p : Patch} (h : greatPatch p = false) (hf : fitP p) : (patchEnc p).length ≤ 500000000 := by
  rw [greatPatch, greatPrims, Bool.or_eq_false_iff, Bool.or_eq_false_iff, List.any_eq_false] at h
  obtain ⟨h1, h2, h3⟩ := h
  have h1 := of_decide_eq_false h1
  have h2 := of_decide_eq_false h2
  rw [patchSize] at h1
  have a1 : p.name.length = cap p.name.length := by unfold cap at h1 ⊢; omega
  have b1 := txt_len p.name (by omega)
  have c1 := txts_cap p.deps (by omega)
  have d1 := num_nat p.deps.length (by omega)
  have d2 := num_nat p.body.length (by omega)
  have e1 := prims_len p.body 1000000 fun x hx => great_prim (by simpa using h3 x hx) (hf x hx)
  have e2 : p.body.length * 1000000 ≤ 60 * 1000000 := Nat.mul_le_mul (by omega) (Nat.le_refl _)
  simp only [patchEnc, lst, List.length_append]
  omega
theorem great_pats {l : List Patch} (h : greatPatches l = false) (hf : ∀ p ∈ l, fitP p) : ∀ p ∈ l, (patchEnc p).length ≤ 500000000 := by
  rw [greatPatches, Bool.or_eq_false_iff, Bool.or_eq_false_iff, List.any_eq_false] at h
  exact fun p hp => great_pat (by simpa using h.2.1 p hp) (hf p hp)
theorem great_len {l : List Patch} (h : greatPatches l = false) : l.length ≤ 60 := by
  rw [greatPatches, Bool.or_eq_false_iff] at h
  have := of_decide_eq_false h.1
  omega
theorem great_msg {m : Msg} (h : greatMsg m = false) (hf : ∀ p ∈ m.patches, fitP p) : (lst m.names).length ≤ 100000000 ∧ (lst m.have_).length ≤ 100000000 ∧ ∀ p ∈ m.patches, (patchEnc p).length ≤ 500000000 := by
  rw [greatMsg, Bool.or_eq_false_iff] at h
  obtain ⟨h1, h2⟩ := h
  have h1 := of_decide_eq_false h1
  rw [msgSize] at h1
  have c1 := txts_cap2 m.names (by omega)
  have c2 := txts_cap2 m.have_ (by omega)
  have d1 := num_nat m.names.length (by omega)
  have d2 := num_nat m.have_.length (by omega)
  refine ⟨?_, ?_, great_pats h2 hf⟩
  · simp only [lst, List.length_append]; omega
  · simp only [lst, List.length_append]; omega
end Go.Proofs.YtldfghgjllaljaaGreatDoor.Q
end

section
/- Plain laws: what is written is read as it was. -/
set_option linter.unusedVariables false
set_option linter.unusedSimpArgs false
namespace Go.Proofs.YtldfghgjllaljaaGreatDoor.Q
open Go Go.Q

theorem dig_toNat {d : Nat} (h : d < 10) : (UInt8.ofNat (48 + d)).toNat = 48 + d := by
  rw [UInt8.toNat_ofNat']; omega
theorem dec_small {u : Nat} (h : u < 10) : Lib.decDigits u = [UInt8.ofNat (48 + u)] := by rw [Lib.decDigits, dif_pos h]
theorem dec_big {u : Nat} (h : ¬ u < 10) : Lib.decDigits u = Lib.decDigits (u / 10) ++ [UInt8.ofNat (48 + u % 10)] := by rw [Lib.decDigits, dif_neg h]
theorem dec_all (u : Nat) : (Lib.decDigits u).all isD = true := by
  induction u using Nat.strongRecOn with
  | _ u ih =>
    by_cases h : u < 10
    · rw [dec_small h]
      simp only [List.all_cons, List.all_nil, Bool.and_true, isD, decide_eq_true_eq, dig_toNat h]; omega
    · rw [dec_big h, List.all_append, ih (u / 10) (by omega)]
      have := dig_toNat (Nat.mod_lt u (show 0 < 10 by omega))
      simp only [List.all_cons, List.all_nil, Bool.and_true, isD, decide_eq_true_eq, Bool.true_and, this]; omega
theorem dec_num (u : Nat) : numOf (Lib.decDigits u) = u := by
  induction u using Nat.strongRecOn with
  | _ u ih =>
    by_cases h : u < 10
    · rw [dec_small h]
      simp only [numOf, List.foldl_cons, List.foldl_nil, dig_toNat h]; omega
    · rw [dec_big h, numOf_snoc, ih (u / 10) (by omega), dig_toNat (Nat.mod_lt u (show 0 < 10 by omega))]; omega
theorem dec_len (u : Nat) : 1 ≤ (Lib.decDigits u).length := by rw [Lib.decDigits_length]; exact Lib.nDigits_pos u
theorem dec_le : ∀ (k u : Nat), u < 10 ^ (k + 1) → (Lib.decDigits u).length ≤ k + 1
  | 0, u, h => by rw [dec_small (by simpa using h)]; simp
  | k + 1, u, h => by
    by_cases h2 : u < 10
    · rw [dec_small h2]; simp
    · rw [dec_big h2, List.length_append]
      have := dec_le k (u / 10) (by rw [Nat.pow_succ] at h; omega)
      simp; omega
theorem dec_head (u : Nat) : u ≠ 0 → (Lib.decDigits u).getD 0 0 ≠ 48 := by
  induction u using Nat.strongRecOn with
  | _ u ih =>
    intro h0
    by_cases h : u < 10
    · rw [dec_small h]
      intro e
      have e2 : (UInt8.ofNat (48 + u)).toNat = 48 := by simp only [List.getD_cons_zero] at e; rw [e]; rfl
      rw [dig_toNat h] at e2; omega
    · rw [dec_big h]
      have hl := dec_len (u / 10)
      have := ih (u / 10) (by omega) (by omega)
      rw [List.getD_eq_getElem?_getD, List.getElem?_append_left (by omega), ← List.getD_eq_getElem?_getD]; exact this
theorem dec_lead (u : Nat) : ¬ (1 < (Lib.decDigits u).length ∧ (Lib.decDigits u).getD 0 0 = 48) := by
  rintro ⟨h1, h2⟩
  by_cases h : u = 0
  · subst h; rw [dec_small (by omega)] at h1; simp at h1
  · exact dec_head u h h2

theorem lead_app (d t : Str) (h : d.all isD = true) : lead (d ++ 58 :: t) = d.length := by
  refine lead_eq _ _ (by simp) (by simpa using h) fun h2 => ?_
  simp [isD]
theorem posC_app (d t : Str) (h : d.all isD = true) : posC (d ++ 58 :: t) = d.length := by
  have h1 := lead_app d t h
  have h2 := lead_posC (d ++ 58 :: t)
  have h3 := posC_min (d ++ 58 :: t) d.length (by simp) (by simp [List.getD])
  omega
theorem num_app (n : Nat) (t : Str) : num n ++ t = Lib.decDigits n ++ 58 :: t := by rw [num, Lib.itoa_nonneg]; simp

/-- The document's reading of a number. -/
theorem rdNum_rt (n : Nat) (t : Str) (h : n < 100000000000) : rdNum ⟨num n ++ t, false⟩ = (n, ⟨t, false⟩) := by
  have h1 := dec_all n
  have h2 := lead_app (Lib.decDigits n) t h1
  have h3 := dec_len n
  have h4 := dec_le 10 n h
  have ho : numOk (num n ++ t) false = true := by
    rw [num_app, numOk, h2]
    simp only [Bool.not_false, Bool.true_and, decide_eq_true_eq]
    refine ⟨h3, h4, by simp, by simp [List.getD], fun h5 => dec_lead n ⟨h5.1, ?_⟩⟩
    rw [← h5.2, List.getD_eq_getElem?_getD, List.getD_eq_getElem?_getD, List.getElem?_append_left (by omega)]
  rw [rdNum]
  simp only []
  rw [ho, if_pos rfl, num_app, h2]
  have e1 : (Lib.decDigits n ++ 58 :: t).take (Lib.decDigits n).length = Lib.decDigits n := by simp
  have e2 : (Lib.decDigits n ++ 58 :: t).drop ((Lib.decDigits n).length + 1) = t := by rw [List.drop_append]; simp
  rw [e1, e2, dec_num]
/-- The package's. -/
theorem lnNum_rt (n : Nat) (t : Str) (r : Rd) (hr : r.b = num n ++ t) (h : n < 1000000000) : lnNum r = (n, lnR t) := by
  have h1 := dec_all n
  have h2 := posC_app (Lib.decDigits n) t h1
  have h3 := dec_len n
  have h4 := dec_le 8 n h
  have e1 : (Lib.decDigits n ++ 58 :: t).take (Lib.decDigits n).length = Lib.decDigits n := by simp
  have e2 : (Lib.decDigits n ++ 58 :: t).drop ((Lib.decDigits n).length + 1) = t := by rw [List.drop_append]; simp
  rw [lnNum, hr, num_app]
  have ho : lnOk (Lib.decDigits n ++ 58 :: t) = true := by
    rw [lnOk, h2, e1, h1, Bool.and_true, decide_eq_true_eq]
    exact ⟨h3, h4, by simp⟩
  rw [if_pos ho, h2, e1, e2, dec_num]

/-! Both readings at once: 'mk' lays a state over bytes. -/
structure Rt (mk : Str → Rd) (rn : Rd → Nat × Rd) (rt : Rd → Str × Rd) : Prop where
  open_ : ∀ t, t ≠ [] → (mk t).bad = false
  num_ : ∀ (n : Nat) (t : Str), n < 1000000000 → rn (mk (num n ++ t)) = (n, mk t)
  txt_ : ∀ (s t : Str), s.length < 1000000000 → rt (mk (txt s ++ t)) = (s, mk t)
theorem rt_rd : Rt (fun t => ⟨t, false⟩) rdNum rdTxt := {
  open_ _ _ := rfl
  num_ n t h := rdNum_rt n t (by omega)
  txt_ s t h := by
    have e : rdNum ⟨txt s ++ t, false⟩ = (s.length, ⟨s ++ t, false⟩) := by rw [txt, List.append_assoc]; exact rdNum_rt s.length (s ++ t) (by omega)
    rw [rdTxt, e, if_neg (by simp)]
    simp }
theorem rt_ln : Rt lnR lnNum lnTxt := {
  open_ t h := by simp [lnR, h]
  num_ n t h := lnNum_rt n t _ rfl h
  txt_ s t h := by
    have e : lnNum (lnR (txt s ++ t)) = (s.length, lnR (s ++ t)) := lnNum_rt s.length (s ++ t) _ (by rw [lnR, txt, List.append_assoc]) h
    rw [lnTxt, e]
    simp [lnR] }
theorem many_rt {α : Type} {mk : Str → Rd} (one : Rd → α × Rd) (enc : α → Str) (ho : ∀ t, t ≠ [] → (mk t).bad = false) : ∀ (l : List α) (t : Str), (∀ x ∈ l, enc x ≠ [] ∧ ∀ t, one (mk (enc x ++ t)) = (x, mk t)) →
    rdMany one l.length (mk ((l.map enc).flatten ++ t)) = (l, mk t)
  | [], t, _ => by simp [rdMany]
  | x :: r, t, h => by
    obtain ⟨h1, h2⟩ := h x (by simp)
    have e : ((x :: r).map enc).flatten ++ t = enc x ++ ((r.map enc).flatten ++ t) := by simp
    rw [e, List.length_cons, rdMany, ho _ (by simp [h1]), h2]
    simp only [Bool.false_eq_true, if_false]
    rw [many_rt one enc ho r t fun y hy => h y (by simp [hy])]
theorem num_ne (n : Int) : num n ≠ [] := by simp [num]
theorem txt_ne (s : Str) : txt s ≠ [] := by simp [txt, num_ne]
theorem txts_ge : ∀ (l : List Str), l.length ≤ (txts l).length
  | [] => by simp
  | s :: r => by
    have := txts_ge r
    have h := List.length_pos_iff.2 (txt_ne s)
    rw [txts_cons, List.length_append, List.length_cons]; omega
theorem txts_mem {l : List Str} {s : Str} (h : s ∈ l) : s.length ≤ (txts l).length := by
  induction l with
  | nil => simp at h
  | cons x r ih =>
    rw [txts_cons, List.length_append]
    rcases List.mem_cons.1 h with rfl | h
    · have := txt_ge s; omega
    · have := ih h; omega
theorem lst_rt {mk : Str → Rd} {rn : Rd → Nat × Rd} {rt : Rd → Str × Rd} (R : Rt mk rn rt) (l : List Str) (t : Str) (h : (txts l).length < 1000000000) :
    rdMany rt (rn (mk (lst l ++ t))).1 (rn (mk (lst l ++ t))).2 = (l, mk t) := by
  have hl := txts_ge l
  rw [lst, List.append_assoc, R.num_ _ _ (by omega)]
  exact many_rt rt txt R.open_ l t fun s hs => ⟨txt_ne s, fun t => R.txt_ s t (by have := txts_mem hs; omega)⟩
theorem rdLst_rt (l : List Str) (t : Str) (h : (txts l).length < 1000000000) : rdLst ⟨lst l ++ t, false⟩ = (l, ⟨t, false⟩) := lst_rt rt_rd l t h
theorem lnLst_rt (l : List Str) (t : Str) (h : (txts l).length < 1000000000) : lnLst (lnR (lst l ++ t)) = (l, lnR t) := lst_rt rt_ln l t h

theorem primB_nat {x : Prim} (h : primB x = true) : (0 ≤ x.kind ∧ x.kind ≤ 10) ∧ 0 ≤ x.at_ ∧ x.at_ ≤ 1073741824 := by
  rw [primB, Bool.and_eq_true] at h
  obtain ⟨_, h⟩ := h
  split at h
  · simp only [bare, Bool.and_eq_true, decide_eq_true_eq] at h; omega
  · split at h
    · simp only [Bool.and_eq_true, decide_eq_true_eq] at h; omega
    · split at h
      · simp only [bare, Bool.and_eq_true, decide_eq_true_eq] at h; omega
      · split at h
        · simp only [bare, Bool.and_eq_true, decide_eq_true_eq] at h; omega
        · split at h
          · simp only [bare, Bool.and_eq_true, decide_eq_true_eq] at h; omega
          · cases h
theorem rdTxt_rt (s t : Str) (h : s.length < 1000000000) : rdTxt ⟨txt s ++ t, false⟩ = (s, ⟨t, false⟩) := rt_rd.txt_ s t h
theorem rdPrim_rt (x : Prim) (t : Str) (hx : primB x = true) (h : (primEnc x).length < 1000000000) : rdPrim ⟨primEnc x ++ t, false⟩ = (x, ⟨t, false⟩) := by
  obtain ⟨⟨k0, k1⟩, a0, a1⟩ := primB_nat hx
  obtain ⟨kd, pa, to, fr, at_, old, new⟩ := x
  simp only [] at k0 k1 a0 a1
  obtain ⟨k, rfl⟩ := Int.eq_ofNat_of_zero_le k0
  obtain ⟨a, rfl⟩ := Int.eq_ofNat_of_zero_le a0
  simp only [primEnc, lst, List.length_append] at h
  have g1 := txt_ge pa
  have g2 := txt_ge to
  have g3 := txt_ge fr
  have e : primEnc ⟨(k : Int), pa, to, fr, (a : Int), old, new⟩ ++ t = num k ++ (txt pa ++ (txt to ++ (txt fr ++ (num a ++ (lst old ++ (lst new ++ t)))))) := by simp [primEnc]
  rw [e]
  simp only [rdPrim]
  rw [rdNum_rt k _ (by omega)]
  simp only []
  rw [rdTxt_rt pa _ (by omega)]
  simp only []
  rw [rdTxt_rt to _ (by omega)]
  simp only []
  rw [rdTxt_rt fr _ (by omega)]
  simp only []
  rw [rdNum_rt a _ (by omega)]
  simp only []
  rw [rdLst_rt old _ (by omega)]
  simp only []
  rw [rdLst_rt new _ (by omega)]
theorem primEnc_ne (x : Prim) : primEnc x ≠ [] := by simp [primEnc, num_ne]
theorem prims_ge : ∀ (l : List Prim), l.length ≤ (prims l).length
  | [] => by simp
  | s :: r => by
    have := prims_ge r
    have h := List.length_pos_iff.2 (primEnc_ne s)
    have e : prims (s :: r) = primEnc s ++ prims r := by simp [prims]
    rw [e, List.length_append, List.length_cons]; omega
theorem prims_mem {l : List Prim} {s : Prim} (h : s ∈ l) : (primEnc s).length ≤ (prims l).length := by
  induction l with
  | nil => simp at h
  | cons x r ih =>
    have e : prims (x :: r) = primEnc x ++ prims r := by simp [prims]
    rw [e, List.length_append]
    rcases List.mem_cons.1 h with rfl | h
    · omega
    · have := ih h; omega
theorem rdPatch_rt (p : Patch) (t : Str) (hp : patchB p = true) (h : (patchEnc p).length < 1000000000) : rdPatch ⟨patchEnc p ++ t, false⟩ = (p, ⟨t, false⟩) := by
  have hb : ∀ x ∈ p.body, primB x = true := by
    rw [patchB, Bool.and_eq_true] at hp
    have h2 := hp.2
    rw [Bool.and_eq_true] at h2
    exact List.all_eq_true.1 h2.2
  obtain ⟨nm, dp, bd⟩ := p
  simp only [patchEnc, lst, List.length_append] at h
  have g1 := txt_ge nm
  have g2 := prims_ge bd
  have e : patchEnc ⟨nm, dp, bd⟩ ++ t = txt nm ++ (lst dp ++ (num bd.length ++ (prims bd ++ t))) := by simp [patchEnc]
  rw [e]
  simp only [rdPatch, rdList]
  rw [rdTxt_rt nm _ (by omega)]
  simp only []
  rw [rdLst_rt dp _ (by omega)]
  simp only []
  rw [rdNum_rt bd.length _ (by omega)]
  simp only []
  have := many_rt (mk := fun t => ⟨t, false⟩) rdPrim primEnc (fun _ _ => rfl) bd t fun x hx => ⟨primEnc_ne x, fun t => rdPrim_rt x t (hb x hx) (by have := prims_mem hx; omega)⟩
  rw [show prims bd = (bd.map primEnc).flatten from rfl, this]
theorem getPatch_rt (p : Patch) (hp : patchB p = true) (h : (patchEnc p).length < 1000000000) : getPatch (patchEnc p) = (p, 0) := by
  have := rdPatch_rt p [] hp h
  rw [List.append_nil] at this
  rw [getPatch, this, if_neg (by simp [hp])]
theorem putPatch_ok {p : Patch} (hp : patchB p = true) : putPatch p = (patchEnc p, 0) := by rw [putPatch, if_pos hp]
def encP (p : Patch) : Str := txt (putPatch p).1
theorem rdPat_rt (p : Patch) (t : Str) (hp : patchB p = true) (h : (patchEnc p).length < 1000000000) : rdPat ⟨encP p ++ t, false⟩ = (p, ⟨t, false⟩) := by
  rw [encP, putPatch_ok hp]
  simp only [rdPat]
  rw [rdTxt_rt _ _ h]
  simp only []
  rw [getPatch_rt p hp h]
  rfl
theorem lnPat_rt (p : Patch) (t : Str) (hp : patchB p = true) (h : (patchEnc p).length < 1000000000) : lnPat (lnR (encP p ++ t)) = (p, lnR t) := by
  rw [encP, putPatch_ok hp]
  simp only [lnPat]
  rw [rt_ln.txt_ _ _ h]
  simp only []
  rw [getPatch_rt p hp h]
theorem txtP_eq (l : List Patch) : txtP l = (l.map encP).flatten := rfl
theorem encP_ne (p : Patch) : encP p ≠ [] := txt_ne _
theorem txtP_ge : ∀ (l : List Patch), l.length ≤ (txtP l).length
  | [] => by simp
  | s :: r => by
    have := txtP_ge r
    have h := List.length_pos_iff.2 (encP_ne s)
    have e : txtP (s :: r) = encP s ++ txtP r := by simp [txtP, encP]
    rw [e, List.length_append, List.length_cons]; omega
theorem txtP_mem {l : List Patch} {s : Patch} (h : s ∈ l) : (encP s).length ≤ (txtP l).length := by
  induction l with
  | nil => simp at h
  | cons x r ih =>
    have e : txtP (x :: r) = encP x ++ txtP r := by simp [txtP, encP]
    rw [e, List.length_append]
    rcases List.mem_cons.1 h with rfl | h
    · omega
    · have := ih h; omega
theorem encP_ge {p : Patch} (hp : patchB p = true) : (patchEnc p).length ≤ (encP p).length := by
  rw [encP, putPatch_ok hp]; exact txt_ge _
theorem rdPats_rt (l : List Patch) (t : Str) (hp : ∀ p ∈ l, patchB p = true) (h : (txtP l).length < 1000000000) : rdPats ⟨num l.length ++ txtP l ++ t, false⟩ = (l, ⟨t, false⟩) := by
  have := txtP_ge l
  rw [rdPats, rdList, List.append_assoc, rdNum_rt _ _ (by omega), txtP_eq]
  exact many_rt (mk := fun t => ⟨t, false⟩) rdPat encP (fun _ _ => rfl) l t fun p hq => ⟨encP_ne p, fun t => rdPat_rt p t (hp p hq) (by have := txtP_mem hq; have := encP_ge (hp p hq); omega)⟩
theorem lnPats_rt (l : List Patch) (t : Str) (hp : ∀ p ∈ l, patchB p = true) (h : (txtP l).length < 1000000000) : lnPats (lnR (num l.length ++ txtP l ++ t)) = (l, lnR t) := by
  have := txtP_ge l
  rw [lnPats, lnList, List.append_assoc, rt_ln.num_ _ _ (by omega), txtP_eq]
  exact many_rt lnPat encP rt_ln.open_ l t fun p hq => ⟨encP_ne p, fun t => lnPat_rt p t (hp p hq) (by have := txtP_mem hq; have := encP_ge (hp p hq); omega)⟩

/-! Bundles and messages. -/
theorem sortGo_patchB : ∀ {l acc s : List Patch}, sortGo acc l = some s → (∀ p ∈ acc, patchB p = true) → ∀ p ∈ s, patchB p = true
  | [], acc, s, h, ha => by simp only [sortGo, Option.some.injEq] at h; subst h; exact ha
  | x :: r, acc, s, h, ha => by
    rw [sortGo] at h
    split at h
    · rename_i hc
      simp only [Bool.and_eq_true] at hc
      refine sortGo_patchB h fun p hp => ?_
      rcases insP_mem hp with rfl | hp
      · exact hc.1
      · exact ha p hp
    · exact absurd h (by simp)
theorem sortP_patchB {l : List Patch} (h : (sortP l).2 = 0) : ∀ p ∈ (sortP l).1, patchB p = true := by
  rcases sortP_err (l := l) with ⟨_, e⟩ | ⟨e, _⟩
  · unfold sortedP at e
    split at e
    · exact absurd e (by simp)
    · exact sortGo_patchB e (by simp)
  · rw [e] at h; exact absurd h (by decide)
theorem bun_rt {l : List Patch} {s t x : Str} (h : bunC s l = (x, 0)) : x = s ++ bunF l ∧ rdPats ⟨bunF l ++ t, false⟩ = ((sortP l).1, ⟨t, false⟩) ∧ lnPats (lnR (bunF l ++ t)) = ((sortP l).1, lnR t) := by
  obtain ⟨h1, h2, h3⟩ := bunC_ok (show (bunC s l).2 = 0 by rw [h])
  have h4 := sortP_patchB h1
  have h5 : (txtP (sortP l).1).length < 1000000000 := by rw [List.length_append, bunF, List.length_append] at h2; omega
  rw [h3] at h
  refine ⟨(congrArg Prod.fst h).symm, rdPats_rt _ _ h4 h5, lnPats_rt _ _ h4 h5⟩
theorem putBun_rt {l : List Patch} {x : Str} (t : Str) (h : putBunR l = (x, 0)) : rdPats ⟨x ++ t, false⟩ = ((sortP l).1, ⟨t, false⟩) ∧ lnPats (lnR (x ++ t)) = ((sortP l).1, lnR t) := by
  rw [putBun_C] at h
  obtain ⟨h1, h2, h3⟩ := bun_rt (t := t) h
  rw [List.nil_append] at h1
  rw [h1]; exact ⟨h2, h3⟩
/-- A message whose patches stand sorted. -/
def sortM (m : Msg) : Msg := { m with patches := (sortP m.patches).1 }
theorem putMsg_rt {m : Msg} {x : Str} (t : Str) (h : putMsgR m = (x, 0)) : rdMsg ⟨x ++ t, false⟩ = (sortM m, ⟨t, false⟩) ∧ lnMsg (lnR (x ++ t)) = (sortM m, lnR t) := by
  rw [putMsg_C] at h
  cases hr : rightC m with
  | false => rw [hr] at h; simp at h
  | true =>
    rw [hr, if_pos rfl] at h
    obtain ⟨h1, h2, h3⟩ := bun_rt (t := t) h
    obtain ⟨_, hlen, _⟩ := bunC_ok (show (bunC (headC m) m.patches).2 = 0 by rw [h])
    obtain ⟨⟨k0, k1⟩, e0, e1⟩ := rightC_bounds hr
    obtain ⟨kd, ns, hv, er, ps⟩ := m
    simp only [] at k0 k1 e0 e1 h2 h3
    obtain ⟨k, rfl⟩ := Int.eq_ofNat_of_zero_le (show 0 ≤ kd by omega)
    obtain ⟨e, rfl⟩ := Int.eq_ofNat_of_zero_le e0
    simp only [headC, lst, List.length_append] at hlen
    have ex : x ++ t = num k ++ (lst ns ++ (lst hv ++ (num e ++ (bunF ps ++ t)))) := by rw [h1]; simp [headC]
    rw [ex]
    constructor
    · simp only [rdMsg]
      rw [rdNum_rt k _ (by omega)]
      simp only []
      rw [rdLst_rt ns _ (by omega)]
      simp only []
      rw [rdLst_rt hv _ (by omega)]
      simp only []
      rw [rdNum_rt e _ (by omega)]
      simp only []
      rw [h2]
      rfl
    · simp only [lnMsg]
      rw [rt_ln.num_ k _ (by omega)]
      simp only []
      rw [lnLst_rt ns _ (by omega)]
      simp only []
      rw [lnLst_rt hv _ (by omega)]
      simp only []
      rw [rt_ln.num_ e _ (by omega)]
      simp only []
      rw [h3]
      rfl
end Go.Proofs.YtldfghgjllaljaaGreatDoor.Q
end

section
/- Plain laws: the package's answers are the document's; what the laws of layer 17 ask. -/
set_option linter.unusedVariables false
set_option linter.unusedSimpArgs false
namespace Go.Proofs.YtldfghgjllaljaaGreatDoor.Q
open Go Go.Q

theorem sortGo_some : ∀ (l acc : List Patch), (∀ p ∈ l, patchB p = true) → apartP (acc ++ l) → (sortGo acc l).isSome = true
  | [], acc, _, _ => rfl
  | x :: r, acc, hp, ha => by
    have ha2 : apartP (x :: (acc ++ r)) := (apartP_perm List.perm_middle).1 ha
    have h1 := (List.pairwise_cons.1 ha2).1
    have hn : hasN acc x.name = false := by
      rw [hasN, List.any_eq_false]
      intro y hy e
      exact h1 y (by simp [hy]) (by simpa using (of_decide_eq_true e).symm)
    rw [sortGo, hn, hp x (by simp)]
    simp only [Bool.not_false, Bool.and_self, if_true]
    refine sortGo_some r (insP x acc) (fun p h => hp p (by simp [h])) ?_
    have : (insP x acc ++ r).Perm (acc ++ x :: r) := ((insP_perm x acc).append_right r).trans List.perm_middle.symm
    exact (apartP_perm this).2 ha
theorem sortGo_all : ∀ {l acc s : List Patch}, sortGo acc l = some s → ∀ p ∈ l, patchB p = true
  | [], acc, s, _, p, hp => by simp at hp
  | x :: r, acc, s, h, p, hp => by
    rw [sortGo] at h
    split at h
    · rename_i hc
      simp only [Bool.and_eq_true] at hc
      rcases List.mem_cons.1 hp with rfl | hp
      · exact hc.1
      · exact sortGo_all h p hp
    · exact absurd h (by simp)
theorem sortedP_iff (l : List Patch) : (sortedP l).isSome = true ↔ (∀ p ∈ l, patchB p = true) ∧ apartP l ∧ l.length ≤ 256 := by
  constructor
  · intro h
    obtain ⟨s, hs⟩ := Option.isSome_iff_exists.1 h
    obtain ⟨_, _, h3, h4⟩ := sortedP_facts hs
    refine ⟨?_, h3, h4⟩
    unfold sortedP at hs
    split at hs
    · exact absurd hs (by simp)
    · exact sortGo_all hs
  · rintro ⟨h1, h2, h3⟩
    unfold sortedP
    rw [if_neg (by omega)]
    exact sortGo_some l [] h1 h2
theorem sortP_ok {l : List Patch} : (sortP l).2 = 0 ↔ (sortedP l).isSome = true := by
  rcases sortP_err (l := l) with ⟨e1, e2⟩ | ⟨e1, e2, _⟩
  · rw [e1, e2]; simp
  · rw [e1, e2]; simp
theorem sortP_some {l : List Patch} (h : (sortP l).2 = 0) : sortedP l = some (sortP l).1 := by
  rcases sortP_err (l := l) with ⟨_, e2⟩ | ⟨e1, _⟩
  · exact e2
  · rw [h] at e1; exact absurd e1 (by decide)
theorem sortP_perm {l l' : List Patch} (h : l.Perm l') : sortP l = sortP l' := by
  have hi : (sortedP l).isSome = (sortedP l').isSome := by
    rw [Bool.eq_iff_iff, sortedP_iff, sortedP_iff, apartP_perm h, h.length_eq]
    simp only [h.mem_iff]
  cases hs : sortedP l with
  | none =>
    rw [hs] at hi
    have : sortedP l' = none := by simpa using hi.symm
    rw [sortP, sortP, hs, this]
  | some s =>
    rw [hs] at hi
    obtain ⟨s', hs'⟩ := Option.isSome_iff_exists.1 hi.symm
    obtain ⟨f1, f2, f3, _⟩ := sortedP_facts hs
    obtain ⟨g1, g2, g3, _⟩ := sortedP_facts hs'
    rw [sortP, sortP, hs, hs', up_uniq f3 f1 (g1.trans h.symm) f2 g2]
theorem sortP_self {l : List Patch} (h : (sortP l).2 = 0) : sortP (sortP l).1 = sortP l := sortP_perm (sortedP_facts (sortP_some h)).1
theorem bunC_perm (s : Str) {l l' : List Patch} (h : l.Perm l') : bunC s l = bunC s l' := by
  unfold bunC bunF
  rw [sortP_perm h]
theorem putBun_perm {l l' : List Patch} (h : l.Perm l') : putBunR l = putBunR l' := by rw [putBun_C, putBun_C, bunC_perm [] h]
theorem sort_perm {l : List Patch} (h : (sortP l).2 = 0) : (sortP l).1.Perm l := (sortedP_facts (sortP_some h)).1
theorem putBun_sortOk {l : List Patch} {x : Str} (h : putBunR l = (x, 0)) : (sortP l).2 = 0 := by
  rw [putBun_C] at h
  exact (bunC_ok (show (bunC [] l).2 = 0 by rw [h])).1
theorem putBun_sort {l : List Patch} {x : Str} (h : putBunR l = (x, 0)) : putBunR (sortP l).1 = (x, 0) := by
  rw [putBun_perm (sort_perm (putBun_sortOk h)), h]
theorem putMsg_parts {m : Msg} {x : Str} (h : putMsgR m = (x, 0)) : rightC m = true ∧ bunC (headC m) m.patches = (x, 0) := by
  rw [putMsg_C] at h
  cases hr : rightC m with
  | false => rw [hr] at h; simp at h
  | true => rw [hr, if_pos rfl] at h; exact ⟨rfl, h⟩
theorem putMsg_sort {m : Msg} {x : Str} (h : putMsgR m = (x, 0)) : putMsgR (sortM m) = (x, 0) := by
  obtain ⟨h1, h2⟩ := putMsg_parts h
  have h3 := (bunC_ok (show (bunC (headC m) m.patches).2 = 0 by rw [h2])).1
  have hl := (sort_perm h3).length_eq
  have hr : rightC (sortM m) = rightC m := by
    have e1 : rmA (sortM m) = rmA m := rfl
    have e2 : errC (sortM m) = errC m := rfl
    have e3 : rmB (sortM m) = rmB m := by
      unfold rmB sortM
      simp only [hl]
    rw [rightC, rightC, e1, e2, e3]
  rw [putMsg_C, hr, h1, if_pos rfl, ← h2]
  exact bunC_perm _ (sort_perm h3)
theorem putBun_len {l : List Patch} {x : Str} (h : putBunR l = (x, 0)) : x.length ≤ 32768 := by
  rw [putBun_C] at h
  obtain ⟨_, h2, h3⟩ := bunC_ok (show (bunC [] l).2 = 0 by rw [h])
  rw [h3] at h
  have e := congrArg Prod.fst h
  simp only [] at e
  rw [← e]; exact h2
theorem putMsg_len {m : Msg} {x : Str} (h : putMsgR m = (x, 0)) : x.length ≤ 32768 := by
  obtain ⟨_, h1⟩ := putMsg_parts h
  obtain ⟨_, h2, h3⟩ := bunC_ok (show (bunC (headC m) m.patches).2 = 0 by rw [h1])
  rw [h3] at h1
  have e := congrArg Prod.fst h1
  simp only [] at e
  rw [← e]; exact h2

theorem getMsg_cases (s : Str) : (getMsgP s = (msg0, 3) ∧ putMsgR (lnMsg (lnR s)).1 ≠ (s, 0)) ∨ (getMsgP s = ((lnMsg (lnR s)).1, 0) ∧ putMsgR (lnMsg (lnR s)).1 = (s, 0)) := by
  unfold getMsgP
  split
  · rename_i h
    left; refine ⟨rfl, fun e => ?_⟩
    rw [e] at h; simp at h
  · rename_i h
    right; refine ⟨rfl, ?_⟩
    simp only [ne_eq, not_or, Classical.not_not] at h
    exact Prod.ext h.2 h.1
theorem getBun_cases (s : Str) : (getBunP s = ([], 3) ∧ putBunR (lnPats (lnR s)).1 ≠ (s, 0)) ∨ (getBunP s = ((lnPats (lnR s)).1, 0) ∧ putBunR (lnPats (lnR s)).1 = (s, 0)) := by
  unfold getBunP
  split
  · rename_i h
    left; refine ⟨rfl, fun e => ?_⟩
    rw [e] at h; simp at h
  · rename_i h
    right; refine ⟨rfl, ?_⟩
    simp only [ne_eq, not_or, Classical.not_not] at h
    exact Prod.ext h.2 h.1
theorem getMsg_ok {m : Msg} {x : Str} (h : putMsgR m = (x, 0)) : getMsgP x = (sortM m, 0) := by
  have h1 := (putMsg_rt [] h).2
  rw [List.append_nil] at h1
  rcases getMsg_cases x with ⟨_, h2⟩ | ⟨h2, _⟩
  · rw [h1] at h2; exact absurd (putMsg_sort h) h2
  · rw [h2, h1]
theorem getBun_ok {l : List Patch} {x : Str} (h : putBunR l = (x, 0)) : getBunP x = ((sortP l).1, 0) := by
  have h1 := (putBun_rt [] h).2
  rw [List.append_nil] at h1
  rcases getBun_cases x with ⟨_, h2⟩ | ⟨h2, _⟩
  · rw [h1] at h2; exact absurd (putBun_sort h) h2
  · rw [h2, h1]
theorem getMsg_inv {s : Str} (h : (getMsgP s).2 = 0) : putMsgR (getMsgP s).1 = (s, 0) := by
  rcases getMsg_cases s with ⟨h1, _⟩ | ⟨h1, h2⟩
  · rw [h1] at h; exact absurd h (by decide)
  · rw [h1]; exact h2
theorem getBun_inv {s : Str} (h : (getBunP s).2 = 0) : putBunR (getBunP s).1 = (s, 0) := by
  rcases getBun_cases s with ⟨h1, _⟩ | ⟨h1, h2⟩
  · rw [h1] at h; exact absurd h (by decide)
  · rw [h1]; exact h2
theorem getMsg_no {s : Str} (h : (getMsgP s).2 ≠ 0) : getMsgP s = (msg0, 3) := by
  rcases getMsg_cases s with ⟨h1, _⟩ | ⟨h1, h2⟩
  · exact h1
  · rw [h1] at h; exact absurd rfl h
theorem getBun_no {s : Str} (h : (getBunP s).2 ≠ 0) : getBunP s = ([], 3) := by
  rcases getBun_cases s with ⟨h1, _⟩ | ⟨h1, h2⟩
  · exact h1
  · rw [h1] at h; exact absurd rfl h

theorem getMsg_eq (s : Str) : getMsgP s = getMsgR s := by
  rcases getMsg_cases s with ⟨h1, h2⟩ | ⟨h1, h2⟩
  · rw [h1, getMsgR]
    split
    · rfl
    · rename_i h
      exfalso
      simp only [ne_eq, not_or, Classical.not_not] at h
      have h3 : putMsgR (rdMsg ⟨s, false⟩).1 = (s, 0) := Prod.ext h.2.2 h.2.1
      have h4 := putMsg_rt [] h3
      rw [List.append_nil] at h4
      rw [h4.2] at h2
      exact h2 (putMsg_sort h3)
  · have h4 := putMsg_rt [] h2
    rw [List.append_nil] at h4
    have h5 : (rdMsg ⟨s, false⟩).1 = (lnMsg (lnR s)).1 := (congrArg Prod.fst h4.1).trans (congrArg Prod.fst h4.2).symm
    rw [h1, getMsgR, h5, h2, h4.1]
    simp
theorem getBun_eq (s : Str) : getBunP s = getBunR s := by
  rcases getBun_cases s with ⟨h1, h2⟩ | ⟨h1, h2⟩
  · rw [h1, getBunR]
    split
    · rfl
    · rename_i h
      exfalso
      simp only [ne_eq, not_or, Classical.not_not] at h
      have h3 : putBunR (rdPats ⟨s, false⟩).1 = (s, 0) := Prod.ext h.2.2 h.2.1
      have h4 := putBun_rt [] h3
      rw [List.append_nil] at h4
      rw [h4.2] at h2
      exact h2 (putBun_sort h3)
  · have h4 := putBun_rt [] h2
    rw [List.append_nil] at h4
    have h5 : (rdPats ⟨s, false⟩).1 = (lnPats (lnR s)).1 := (congrArg Prod.fst h4.1).trans (congrArg Prod.fst h4.2).symm
    rw [h1, getBunR, h5, h2, h4.1]
    simp
theorem getMsg_cut {m : Msg} {x y t : Str} (h : putMsgR m = (x, 0)) (e : x = y ++ t) (ht : t ≠ []) : getMsgP y = (msg0, 3) := by
  refine getMsg_no fun h0 => ?_
  have h1 := (putMsg_rt t (getMsg_inv h0)).1
  have h2 := (putMsg_rt [] h).1
  rw [List.append_nil, e, h1] at h2
  have h3 : t = [] := congrArg (fun q => q.2.b) h2
  exact ht h3
theorem getMsg_more {m : Msg} {x t : Str} (h : putMsgR m = (x, 0)) (ht : t ≠ []) : getMsgP (x ++ t) = (msg0, 3) := by
  refine getMsg_no fun h0 => ?_
  have h1 := (putMsg_rt [] (getMsg_inv h0)).1
  have h2 := (putMsg_rt t h).1
  rw [List.append_nil, h2] at h1
  have h3 : t = [] := congrArg (fun q => q.2.b) h1
  exact ht h3
theorem getBun_cut {l : List Patch} {x y t : Str} (h : putBunR l = (x, 0)) (e : x = y ++ t) (ht : t ≠ []) : getBunP y = ([], 3) := by
  refine getBun_no fun h0 => ?_
  have h1 := (putBun_rt t (getBun_inv h0)).1
  have h2 := (putBun_rt [] h).1
  rw [List.append_nil, e, h1] at h2
  have h3 : t = [] := congrArg (fun q => q.2.b) h2
  exact ht h3
theorem getBun_more {l : List Patch} {x t : Str} (h : putBunR l = (x, 0)) (ht : t ≠ []) : getBunP (x ++ t) = ([], 3) := by
  refine getBun_no fun h0 => ?_
  have h1 := (putBun_rt [] (getBun_inv h0)).1
  have h2 := (putBun_rt t h).1
  rw [List.append_nil, h2] at h1
  have h3 : t = [] := congrArg (fun q => q.2.b) h1
  exact ht h3
theorem putMsg_inj {m n : Msg} {x y : Str} (h1 : putMsgR m = (x, 0)) (h2 : putMsgR n = (y, 0)) : x = y ↔ sortM m = sortM n := by
  constructor
  · rintro rfl
    have e1 := getMsg_ok h1
    rw [getMsg_ok h2] at e1
    exact (congrArg Prod.fst e1).symm
  · intro e
    have e1 := putMsg_sort h1
    have e2 := putMsg_sort h2
    rw [e, e2] at e1
    exact (congrArg Prod.fst e1).symm
theorem bunF_ne (l : List Patch) : bunF l ≠ [] := by simp [bunF, num_ne]
theorem putBun_ne {l : List Patch} {x : Str} (h : putBunR l = (x, 0)) : x ≠ [] := by
  rw [putBun_C] at h
  have h1 := (bun_rt (t := []) h).1
  rw [List.nil_append] at h1
  rw [h1]; exact bunF_ne l
theorem putMsg_ne {m : Msg} {x : Str} (h : putMsgR m = (x, 0)) : x ≠ [] := by
  have h1 := (bun_rt (t := []) (putMsg_parts h).2).1
  rw [h1]; simp [bunF_ne]

/-! One patch less. -/
theorem txtP_perm {l l' : List Patch} (h : l.Perm l') : (txtP l).length = (txtP l').length := by
  have e : ∀ l : List Patch, (txtP l).length = (l.map fun p => (encP p).length).sum := by
    intro l
    induction l with
    | nil => rfl
    | cons x r ih =>
      have : txtP (x :: r) = encP x ++ txtP r := by simp [txtP, encP]
      rw [this, List.length_append, ih]; simp
  rw [e, e]
  exact (h.map _).sum_nat
theorem nDig_mono : ∀ (v u : Nat), u ≤ v → Lib.nDigits u ≤ Lib.nDigits v := by
  intro v
  induction v using Nat.strongRecOn with
  | _ v ih =>
    intro u h
    by_cases h1 : u < 10
    · rw [Lib.nDigits_small h1]; exact Lib.nDigits_pos v
    · rw [Lib.nDigits_big h1, Lib.nDigits_big (show ¬ v < 10 by omega)]
      have := ih (v / 10) (by omega) (u / 10) (by omega)
      omega
theorem num_mono {u v : Nat} (h : u ≤ v) : (num u).length ≤ (num v).length := by
  have := nDig_mono v u h
  rw [num, num, List.length_append, List.length_append, Lib.itoa_nonneg, Lib.itoa_nonneg, Lib.decDigits_length, Lib.decDigits_length]; omega
theorem bunF_len {l : List Patch} (h : (sortP l).2 = 0) : (bunF l).length = (num l.length).length + (txtP l).length := by
  have hp := sort_perm h
  rw [bunF, List.length_append, hp.length_eq, txtP_perm hp]
theorem putBun_less {l r : List Patch} {p : Patch} {x : Str} (h : putBunR l = (x, 0)) (hp : (p :: r).Perm l) : (putBunR r).2 = 0 ∧ (putBunR r).1.length < x.length := by
  rw [← putBun_perm hp] at h
  have h1 := putBun_sortOk h
  have h2 := (sortedP_iff _).1 (sortP_ok.1 h1)
  have h3 : (sortP r).2 = 0 := sortP_ok.2 ((sortedP_iff r).2 ⟨fun q hq => h2.1 q (by simp [hq]), (List.pairwise_cons.1 h2.2.1).2, by have := h2.2.2; simp at this; omega⟩)
  have l1 := bunF_len h1
  have l2 := bunF_len h3
  have l3 := num_mono (show r.length ≤ (p :: r).length by simp)
  have l4 : (txtP (p :: r)).length = (encP p).length + (txtP r).length := by
    have : txtP (p :: r) = encP p ++ txtP r := by simp [txtP, encP]
    rw [this, List.length_append]
  have l5 := List.length_pos_iff.2 (encP_ne p)
  have hx := putBun_len h
  rw [putBun_C] at h
  have h4 := (bun_rt (t := []) h).1
  rw [List.nil_append] at h4
  rw [h4] at hx ⊢
  have h5 : putBunR r = (bunF r, 0) := by
    rw [putBun_C, bunC, if_neg (by simp [h3]), if_neg (by rw [List.nil_append]; omega), List.nil_append]
  rw [h5]
  exact ⟨rfl, by simp only []; omega⟩

theorem getMsg_bounds (s : Str) (hs : s.length ≤ 40000) : (lst (getMsgP s).1.names).length ≤ 100000000 ∧ (lst (getMsgP s).1.have_).length ≤ 100000000 ∧ ∀ p ∈ (getMsgP s).1.patches, (patchEnc p).length ≤ 500000000 := by
  have e : lst [] = num ((0 : Nat) : Int) := by simp [lst, txts]
  have l0 := num_nat 0 (by omega)
  rcases getMsg_cases s with ⟨h1, _⟩ | ⟨h1, _⟩
  · rw [h1]
    refine ⟨?_, ?_, by simp [msg0]⟩
    · show (lst []).length ≤ _; rw [e]; omega
    · show (lst []).length ≤ _; rw [e]; omega
  · rw [h1]; exact lnMsg_bounds s hs
theorem getBun_bounds (s : Str) (hs : s.length ≤ 40000) : ∀ p ∈ (getBunP s).1, (patchEnc p).length ≤ 500000000 := by
  rcases getBun_cases s with ⟨h1, _⟩ | ⟨h1, _⟩
  · rw [h1]; simp
  · rw [h1]
    have h2 := lnNum_le (lnR s)
    have h3 : (lnR s).b.length = s.length := rfl
    simp only [lnPats, lnList]
    exact lnPats_enc _ _ (by omega)

/-- Two that change places. -/
def swapP (o : List Patch) (k : Nat) : List Patch := (o.set 0 (o.getD k ⟨[], [], []⟩)).set k (o.getD 0 ⟨[], [], []⟩)
theorem set_perm {α : Type} (a : α) : ∀ (r : List α) (k : Nat) (h : k < r.length), (r[k] :: r.set k a).Perm (a :: r)
  | [], k, h => by simp at h
  | x :: r, 0, _ => .swap a x r
  | x :: r, k + 1, h => by
    have ih := set_perm a r k (by simpa using h)
    simp only [List.getElem_cons_succ, List.set_cons_succ]
    exact (List.Perm.swap x _ _).trans ((ih.cons x).trans (.swap a x r))
theorem swapP_perm (o : List Patch) (k : Nat) (h : k < o.length) : (swapP o k).Perm o := by
  cases o with
  | nil => simp at h
  | cons a r =>
    cases k with
    | zero => simp [swapP]
    | succ k =>
      have hk : k < r.length := by simpa using h
      have := set_perm a r k hk
      simpa [swapP, List.getD, hk] using this
theorem swapP_len (o : List Patch) (k : Nat) : (swapP o k).length = o.length := by simp [swapP]
theorem order_ok {l o : List Patch} (hp : o.Perm l) (h0 : 0 < o.length) : (putBunR l).2 ≠ 0 ∨ ((putBunR (o.drop 1)).2 = 0 ∧ (putBunR (o.drop 1)).1.length < (putBunR l).1.length) := by
  by_cases h : (putBunR l).2 = 0
  · right
    cases o with
    | nil => simp at h0
    | cons p r => exact putBun_less (l := l) (x := (putBunR l).1) (Prod.ext rfl h) hp
  · exact .inl h

/-! The live question. -/
def headM : Msg := ⟨3, [], [], 7, []⟩
def headB : Bool := (bif (bif (bif (bif (bif (bif (bif (bif (bif decide ((putBunR []).1 = [48, 58]) then decide ((putBunR []).2 = 0) else false) then decide ((putMsgR headM).1 = [51, 58, 48, 58, 48, 58, 55, 58, 48, 58]) else false) then decide ((putMsgR headM).2 = 0) else false) then decide ((getMsgP (putMsgR headM).1).1.err = 7) else false) then decide ((getMsgP (putMsgR headM).1).2 = 0) else false) then decide ((putMsgR msg0).2 = 1) else false) then decide ((getBunP [49, 58]).2 = 3) else false) then decide (((getBunP [48, 58]).1.length : Int) = 0) else false) then decide ((getBunP [48, 58]).2 = 0) else false)
theorem lst_nil : (lst []).length ≤ 100000000 := by
  have := num_nat 0 (by omega)
  have e : lst [] = num ((0 : Nat) : Int) := by simp [lst, txts]
  rw [e]; omega
theorem num_dig {u : Nat} (h : u < 10) : num (u : Int) = [UInt8.ofNat (48 + u), 58] := by rw [num, Lib.itoa_nonneg, dec_small h]; rfl
theorem sortP_nil : sortP [] = ([], 0) := by decide
theorem bunF_nil : bunF [] = [48, 58] := by
  rw [bunF, sortP_nil]
  have : num ((([] : List Patch).length : Nat) : Int) = [48, 58] := num_dig (u := 0) (by omega)
  rw [this]; rfl
theorem head1 : putBunR [] = ([48, 58], 0) := by
  rw [putBun_C, bunC, sortP_nil, bunF_nil]; rfl
theorem head2 : putMsgR headM = ([51, 58, 48, 58, 48, 58, 55, 58, 48, 58], 0) := by
  have hr : rightC headM = true := by decide
  have hl : lst [] = [48, 58] := by
    have : num ((([] : List Str).length : Nat) : Int) = [48, 58] := num_dig (u := 0) (by omega)
    rw [lst, this]; rfl
  have h3 : num 3 = [51, 58] := num_dig (u := 3) (by omega)
  have h7 : num 7 = [55, 58] := num_dig (u := 7) (by omega)
  have hh : headC headM = [51, 58, 48, 58, 48, 58, 55, 58] := by
    rw [headC]; simp only [headM]; rw [hl, h3, h7]; rfl
  have hb : bunC [51, 58, 48, 58, 48, 58, 55, 58] [] = ([51, 58, 48, 58, 48, 58, 55, 58, 48, 58], 0) := by rw [bunC, sortP_nil, bunF_nil]; rfl
  rw [putMsg_C, hr, if_pos rfl, hh]
  exact hb
theorem headLen : (putMsgR headM).1.length ≤ 40000 := by rw [head2]; decide
theorem head3 : (putMsgR msg0).2 = 1 := by
  have hr : rightC msg0 = false := by decide
  rw [putMsg_C, hr]; rfl
theorem head4 : getBunP [49, 58] = ([], 3) := by
  rcases getBun_cases [49, 58] with ⟨h1, _⟩ | ⟨_, h2⟩
  · exact h1
  · exfalso
    have h3 : lnNum (lnR [49, 58]) = (1, lnR []) := lnNum_rt 1 [] _ (by rw [List.append_nil]; exact (num_dig (u := 1) (by omega)).symm) (by omega)
    have h4 : (lnPats (lnR [49, 58])).1 = [] := by rw [lnPats, lnList, h3]; rfl
    rw [h4, head1] at h2
    exact absurd h2 (by decide)
theorem headB_true : headB = true := by
  have g1 := getMsg_ok head2
  have g2 := getBun_ok head1
  rw [sortP_nil] at g2
  unfold headB
  rw [head1, head2, head3, head4, g2]
  simp only []
  rw [g1]
  rfl
end Go.Proofs.YtldfghgjllaljaaGreatDoor.Q
end

section
/- Walks of the laws of bundles and messages, in the logic 'Q'. -/
set_option linter.unusedVariables false
set_option linter.unusedSimpArgs false
set_option maxRecDepth 100000
namespace Go.Proofs.YtldfghgjllaljaaGreatDoor.Q
open Go Go.Q
attribute [local irreducible] lnNum lnTxt lnLst lnPats lnMsg putMsgR putBunR rdMany getMsgP getBunP getMsgR getBunR


/-! counterpane/counterpanelaw17.head -/
theorem b_law17_head : bodied Go.Proofs.Tryz.prog 8 = true := by rw [bodied, Tryz.func8]; rfl
theorem c_law17_head  : VPure Go.Proofs.Tryz.prog G 8 [] (.bool headB) := by
  refine vpure_of (ts := [0]) Tryz.func8 rfl (by simp [Tryz.ntmps8]) rfl rfl ?_
  rw [Tryz.ntmps8]
  refine vwp_reg tabOk [33, 39] [] (by simp only [go_sem]; rfl) (by first | trivial | (simp; done) | (simp [in64]; omega)) ?_
  refine vwp_seq (vwp_region ?_)
  -- call 0: t14 = CALL 13(f13, nils)
  refine vops_call (hc := fun _ => c_codec_PutBundle [] (by simp)) rfl (by simp only [go_sem]; rfl) rfl b_codec_PutBundle (by simp only [go_sem]; exact ⟨Wk.nils _, trivial⟩) rfl (fun hg => by simp only [go_sem]; try (intros; first | assumption | trivial | simp_all)) ?_
  simp only [go_sem]
  refine vops_go tabOk [33, 39] (by simp only [go_sem]; rfl) (by first | trivial | (simp; done) | (simp [in64]; omega)) ?_
  refine vops_done [1, 2] ?_
  simp only [go_sem, thenQ, blockQ, jumpQ, stayQ]
  refine vwp_seq (vwp_region ?_)
  refine vops_go tabOk [33, 39] (by simp only [go_sem]; rfl) (by first | trivial | (simp; done) | (simp [in64]; omega)) ?_
  -- call 1: t19 = CALL 11(f11, t18)
  refine vops_call (hc := fun _ => c_codec_Put headM lst_nil lst_nil (by simp [headM])) rfl (by simp only [go_sem]; rfl) rfl b_codec_Put (by simp only [go_sem]; exact ⟨Wk.agg ⟨Wk.refl _, Wk.nils _, Wk.nils _, Wk.refl _, Wk.nils _, trivial⟩, trivial⟩) rfl (fun hg => by simp only [go_sem]; try (intros; first | assumption | trivial | simp_all)) ?_
  simp only [go_sem]
  refine vops_go tabOk [33, 39] (by simp only [go_sem]; rfl) (by first | trivial | (simp; done) | (simp [in64]; omega)) ?_
  refine vops_done [1, 2, 3, 4] ?_
  simp only [go_sem, thenQ, blockQ, jumpQ, stayQ]
  refine vwp_seq (vwp_region ?_)
  refine vops_go tabOk [33, 39] (by simp only [go_sem]; rfl) (by first | trivial | (simp; done) | (simp [in64]; omega)) ?_
  -- call 2: t24 = CALL 15(f15, t23)
  refine vops_call (hc := fun _ => c_codec_Get (putMsgR headM).1 headLen) rfl (by simp only [go_sem]; rfl) rfl b_codec_Get (by simp only [go_sem]; exact WkL.refl _) rfl (fun hg => by simp only [go_sem]; try (intros; first | assumption | trivial | simp_all)) ?_
  simp only [go_sem]
  refine vops_go tabOk [33, 39] (by simp only [go_sem]; rfl) (by first | trivial | (simp; done) | (simp [in64]; omega)) ?_
  refine vops_done [1, 2, 3, 4, 5, 6] ?_
  simp only [go_sem, thenQ, blockQ, jumpQ, stayQ]
  refine vwp_seq (vwp_region ?_)
  refine vops_go tabOk [33, 39] (by simp only [go_sem]; rfl) (by first | trivial | (simp; done) | (simp [in64]; omega)) ?_
  -- call 3: t29 = CALL 11(f11, t28)
  refine vops_call (hc := fun _ => c_codec_Put msg0 lst_nil lst_nil (by simp [msg0])) rfl (by simp only [go_sem]; rfl) rfl b_codec_Put (by simp only [go_sem]; exact ⟨Wk.agg ⟨Wk.refl _, Wk.nils _, Wk.nils _, Wk.refl _, Wk.nils _, trivial⟩, trivial⟩) rfl (fun hg => by simp only [go_sem]; try (intros; first | assumption | trivial | simp_all)) ?_
  simp only [go_sem]
  refine vops_go tabOk [33, 39] (by simp only [go_sem]; rfl) (by first | trivial | (simp; done) | (simp [in64]; omega)) ?_
  refine vops_done [1, 2, 3, 4, 5, 6, 8] ?_
  simp only [go_sem, thenQ, blockQ, jumpQ, stayQ]
  refine vwp_seq (vwp_region ?_)
  refine vops_go tabOk [33, 39] (by simp only [go_sem]; rfl) (by first | trivial | (simp; done) | (simp [in64]; omega)) ?_
  -- t34 = convert(t33) :27>27
  refine vops_step1 (step_convMark (e := 5) (i := 1) (xs := ([49, 58] : Str).map encB) rfl Tryz.underlying27 Tryz.underlying5 (by simp only [go_sem]) rfl (by simp)) rfl rfl ?_
  simp only [go_sem, List.set]
  -- call 4: t35 = CALL 17(f17, t34)
  refine vops_call (hc := fun _ => c_codec_GetBundle [49, 58] (by decide)) rfl (by simp only [go_sem]; rfl) rfl b_codec_GetBundle (by simp only [go_sem]; exact WkL.refl _) rfl (fun hg => by simp only [go_sem]; try (intros; first | assumption | trivial | simp_all)) ?_
  simp only [go_sem]
  refine vops_go tabOk [33, 39] (by simp only [go_sem]; rfl) (by first | trivial | (simp; done) | (simp [in64]; omega)) ?_
  refine vops_done [1, 2, 3, 4, 5, 6, 8, 10] ?_
  simp only [go_sem, thenQ, blockQ, jumpQ, stayQ]
  refine vwp_seq (vwp_region ?_)
  refine vops_go tabOk [33, 39] (by simp only [go_sem]; rfl) (by first | trivial | (simp; done) | (simp [in64]; omega)) ?_
  -- t40 = convert(t39) :27>27
  refine vops_step1 (step_convMark (e := 5) (i := 2) (xs := ([48, 58] : Str).map encB) rfl Tryz.underlying27 Tryz.underlying5 (by simp only [go_sem]) rfl (by simp)) rfl rfl ?_
  simp only [go_sem, List.set]
  -- call 5: t41 = CALL 17(f17, t40)
  refine vops_call (hc := fun _ => c_codec_GetBundle [48, 58] (by decide)) rfl (by simp only [go_sem]; rfl) rfl b_codec_GetBundle (by simp only [go_sem]; exact WkL.refl _) rfl (fun hg => by simp only [go_sem]; try (intros; first | assumption | trivial | simp_all)) ?_
  simp only [go_sem]
  refine vops_go tabOk [33, 39] (by simp only [go_sem]; rfl) (by first | trivial | (simp; done) | (simp [in64]; omega)) ?_
  refine vops_done [1, 2, 3, 4, 5, 6, 8, 10, 11, 12] ?_
  simp only [go_sem, thenQ, blockQ, jumpQ, stayQ]
  refine vwp_reg tabOk [33, 39] [0] (by simp only [go_sem]; rfl) (by first | trivial | (simp; done) | (simp [in64]; omega)) ?_
  refine vwp_ret ?_
  -- result 0
  simp only [thenQ, blockQ, jumpQ, stayQ, RetQ, go_sem]
  refine ⟨by simp, Wk.eq ?_⟩
  rfl

/-! counterpane/counterpanelaw17.CodecTells -/
theorem b_law17_CodecTells : bodied Go.Proofs.Tryz.prog 3 = true := by rw [bodied, Tryz.func3]; rfl
set_option maxHeartbeats 4000000 in
theorem c_law17_CodecTells (m : Msg) (l : List Patch) (b : Str) (hm : ∀ p ∈ m.patches, fitP p) (hl : ∀ p ∈ l, fitP p) : VPure Go.Proofs.Tryz.prog G 3 [.agg (cMsg m), .list 3 (l.map cPatch), .list 1 (b.map encB)] (.bool true) := by
  refine vpure_of (ts := [6]) Tryz.func3 rfl (by simp [Tryz.ntmps3]) rfl rfl ?_
  rw [Tryz.ntmps3]
  refine vwp_reg tabOk [] [1, 2, 3] (by simp only [go_sem]; rfl) (by first | trivial | (simp; done) | (simp [in64]; omega)) ?_
  refine vwp_seq (vwp_region ?_)
  -- call 0: t24 = CALL 8(f8)
  refine vops_call (hc := fun _ => c_law17_head) rfl (by simp only [go_sem]; rfl) rfl b_law17_head (by simp only [go_sem]; exact WkL.refl _) rfl (fun hg => by simp only [go_sem]; try (intros; first | assumption | trivial | simp_all)) ?_
  simp only [go_sem]
  refine vops_go tabOk [] (by simp only [go_sem]; rfl) (by first | trivial | (simp; done) | (simp [in64]; omega)) ?_
  refine vops_done [1, 2, 3, 7] ?_
  simp only [go_sem, thenQ, blockQ, jumpQ, stayQ]
  refine vwp_seq ?_
  refine vwp_seq (vwp_region ?_)
  refine vops_go tabOk [] (by simp only [go_sem]; rfl) (by first | trivial | (simp; done) | (simp [in64]; omega)) ?_
  -- call 1: t26 = CALL 9(f9, t25)
  refine vops_call (hc := fun _ => c_law17_Great m) rfl (by simp only [go_sem]; rfl) rfl b_law17_Great (by simp only [go_sem]; exact WkL.refl _) rfl (fun hg => by simp only [go_sem]; try (intros; first | assumption | trivial | simp_all)) ?_
  simp only [go_sem]
  refine vops_go tabOk [] (by simp only [go_sem]; rfl) (by first | trivial | (simp; done) | (simp [in64]; omega)) ?_
  -- call 2: t29 = CALL 10(f10, t28)  if op2 not
  refine vops_call (hc := fun _ => c_law13_GreatList l) rfl (by simp only [go_sem]; rfl) rfl b_law13_GreatList (by simp only [go_sem]; exact WkL.refl _) rfl (fun hg => by simp only [go_sem]; try (intros; first | assumption | trivial | simp_all)) ?_
  simp only [go_sem]
  refine vops_go tabOk [] (by simp only [go_sem]; rfl) (by first | trivial | (simp; done) | (simp [in64]; omega)) ?_
  refine vops_done [1, 2, 3, 7, 35] ?_
  simp only [go_sem, thenQ, blockQ, jumpQ, stayQ]
  refine vwp_cond (by simp only [go_sem]; rfl) (fun h0 => ?_) (fun h0 => ?_)
  · -- h0 then
    refine vwp_reg tabOk [] [6] (by simp only [go_sem]; rfl) (by first | trivial | (simp; done) | (simp [in64]; omega)) ?_
    refine vwp_ret ?_
    -- result 0
    simp only [thenQ, blockQ, jumpQ, stayQ, RetQ, go_sem]
    refine ⟨by simp, Wk.eq ?_⟩
    rw [headB_true]
  · -- h0 else
    have hG : greatMsg m = false ∧ greatPatches l = false ∧ b.length ≤ 40000 := by simp at h0; exact ⟨h0.1.1, h0.1.2, by omega⟩
    obtain ⟨g1, g2, g3⟩ := great_msg hG.1 hm
    have g4 := great_pats hG.2.1 hl
    have hb := hG.2.2
    refine vwp_skip ?_
    try simp only [thenQ, blockQ, jumpQ, stayQ]
    refine vwp_seq (vwp_region ?_)
    refine vops_go tabOk [] (by simp only [go_sem]; rfl) (by first | trivial | (simp; done) | (simp [in64]; omega)) ?_
    -- call 3: t39 = CALL 11(f11, t38)
    refine vops_call (hc := fun _ => c_codec_Put m g1 g2 g3) rfl (by simp only [go_sem]; rfl) rfl b_codec_Put (by simp only [go_sem]; exact WkL.refl _) rfl (fun hg => by simp only [go_sem]; try (intros; first | assumption | trivial | simp_all)) ?_
    simp only [go_sem]
    refine vops_go tabOk [] (by simp only [go_sem]; rfl) (by first | trivial | (simp; done) | (simp [in64]; omega)) ?_
    refine vops_done [1, 2, 3, 7, 8, 9] ?_
    simp only [go_sem, thenQ, blockQ, jumpQ, stayQ]
    refine vwp_seq (vwp_region ?_)
    refine vops_go tabOk [] (by simp only [go_sem]; rfl) (by first | trivial | (simp; done) | (simp [in64]; omega)) ?_
    -- call 4: t44 = CALL 12(f12, t43)
    refine vops_call (hc := fun _ => c_ref17_Put m (Nat.le_trans g1 (by omega)) (Nat.le_trans g2 (by omega)) fun p hp => Nat.le_trans (g3 p hp) (by omega)) rfl (by simp only [go_sem]; rfl) rfl b_ref17_Put (by simp only [go_sem]; exact WkL.refl _) rfl (fun hg => by simp only [go_sem]; try (intros; first | assumption | trivial | simp_all)) ?_
    simp only [go_sem]
    refine vops_go tabOk [] (by simp only [go_sem]; rfl) (by first | trivial | (simp; done) | (simp [in64]; omega)) ?_
    refine vops_done [1, 2, 7, 8, 9, 10, 11] ?_
    simp only [go_sem, thenQ, blockQ, jumpQ, stayQ]
    refine vwp_seq (vwp_region ?_)
    refine vops_go tabOk [] (by simp only [go_sem]; rfl) (by first | trivial | (simp; done) | (simp [in64]; omega)) ?_
    -- call 5: t49 = CALL 13(f13, t48)
    refine vops_call (hc := fun _ => c_codec_PutBundle l g4) rfl (by simp only [go_sem]; rfl) rfl b_codec_PutBundle (by simp only [go_sem]; exact WkL.refl _) rfl (fun hg => by simp only [go_sem]; try (intros; first | assumption | trivial | simp_all)) ?_
    simp only [go_sem]
    refine vops_go tabOk [] (by simp only [go_sem]; rfl) (by first | trivial | (simp; done) | (simp [in64]; omega)) ?_
    refine vops_done [1, 2, 7, 8, 9, 10, 11, 12, 13] ?_
    simp only [go_sem, thenQ, blockQ, jumpQ, stayQ]
    refine vwp_seq (vwp_region ?_)
    refine vops_go tabOk [] (by simp only [go_sem]; rfl) (by first | trivial | (simp; done) | (simp [in64]; omega)) ?_
    -- call 6: t54 = CALL 14(f14, t53)
    refine vops_call (hc := fun _ => c_ref17_PutBundle l fun p hp => Nat.le_trans (g4 p hp) (by omega)) rfl (by simp only [go_sem]; rfl) rfl b_ref17_PutBundle (by simp only [go_sem]; exact WkL.refl _) rfl (fun hg => by simp only [go_sem]; try (intros; first | assumption | trivial | simp_all)) ?_
    simp only [go_sem]
    refine vops_go tabOk [] (by simp only [go_sem]; rfl) (by first | trivial | (simp; done) | (simp [in64]; omega)) ?_
    refine vops_done [2, 7, 8, 9, 10, 11, 12, 13, 14, 15] ?_
    simp only [go_sem, thenQ, blockQ, jumpQ, stayQ]
    refine vwp_seq ?_
    refine vwp_reg tabOk [] [2, 7, 78] (by simp only [go_sem]; rfl) (by first | trivial | (simp; done) | (simp [in64]; omega)) ?_
    refine vwp_cond (by simp only [go_sem]; rfl) (fun h1 => ?_) (fun h1 => ?_)
    · -- h1 then
      simp at h1
    · -- h1 else
      refine vwp_skip ?_
      try simp only [thenQ, blockQ, jumpQ, stayQ]
      refine vwp_seq (vwp_region ?_)
      refine vops_go tabOk [] (by simp only [go_sem]; rfl) (by first | trivial | (simp; done) | (simp [in64]; omega)) ?_
      -- call 7: t81 = CALL 15(f15, t80)
      refine vops_call (hc := fun _ => c_codec_Get b hb) rfl (by simp only [go_sem]; rfl) rfl b_codec_Get (by simp only [go_sem]; exact WkL.refl _) rfl (fun hg => by simp only [go_sem]; try (intros; first | assumption | trivial | simp_all)) ?_
      simp only [go_sem]
      refine vops_go tabOk [] (by simp only [go_sem]; rfl) (by first | trivial | (simp; done) | (simp [in64]; omega)) ?_
      refine vops_done [2, 7, 16, 17] ?_
      simp only [go_sem, thenQ, blockQ, jumpQ, stayQ]
      refine vwp_seq (vwp_region ?_)
      refine vops_go tabOk [] (by simp only [go_sem]; rfl) (by first | trivial | (simp; done) | (simp [in64]; omega)) ?_
      -- call 8: t86 = CALL 16(f16, t85)
      refine vops_call (hc := fun _ => c_ref17_Get b (by omega)) rfl (by simp only [go_sem]; rfl) rfl b_ref17_Get (by simp only [go_sem]; exact WkL.refl _) rfl (fun hg => by simp only [go_sem]; try (intros; first | assumption | trivial | simp_all)) ?_
      simp only [go_sem]
      refine vops_go tabOk [] (by simp only [go_sem]; rfl) (by first | trivial | (simp; done) | (simp [in64]; omega)) ?_
      refine vops_done [2, 7, 16, 17, 18, 19] ?_
      simp only [go_sem, thenQ, blockQ, jumpQ, stayQ]
      refine vwp_seq (vwp_region ?_)
      refine vops_go tabOk [] (by simp only [go_sem]; rfl) (by first | trivial | (simp; done) | (simp [in64]; omega)) ?_
      -- call 9: t91 = CALL 17(f17, t90)
      refine vops_call (hc := fun _ => c_codec_GetBundle b hb) rfl (by simp only [go_sem]; rfl) rfl b_codec_GetBundle (by simp only [go_sem]; exact WkL.refl _) rfl (fun hg => by simp only [go_sem]; try (intros; first | assumption | trivial | simp_all)) ?_
      simp only [go_sem]
      refine vops_go tabOk [] (by simp only [go_sem]; rfl) (by first | trivial | (simp; done) | (simp [in64]; omega)) ?_
      refine vops_done [2, 7, 16, 17, 18, 19, 20, 21] ?_
      simp only [go_sem, thenQ, blockQ, jumpQ, stayQ]
      refine vwp_seq (vwp_region ?_)
      refine vops_go tabOk [] (by simp only [go_sem]; rfl) (by first | trivial | (simp; done) | (simp [in64]; omega)) ?_
      -- call 10: t96 = CALL 18(f18, t95)
      refine vops_call (hc := fun _ => c_ref17_GetBundle b (by omega)) rfl (by simp only [go_sem]; rfl) rfl b_ref17_GetBundle (by simp only [go_sem]; exact WkL.refl _) rfl (fun hg => by simp only [go_sem]; try (intros; first | assumption | trivial | simp_all)) ?_
      simp only [go_sem]
      refine vops_go tabOk [] (by simp only [go_sem]; rfl) (by first | trivial | (simp; done) | (simp [in64]; omega)) ?_
      refine vops_done [7, 16, 17, 18, 19, 20, 21, 22, 23] ?_
      simp only [go_sem, thenQ, blockQ, jumpQ, stayQ]
      refine vwp_seq (vwp_region ?_)
      refine vops_go tabOk [] (by simp only [go_sem]; rfl) (by first | trivial | (simp; done) | (simp [in64]; omega)) ?_
      -- call 11: t103 = CALL 19(f19, t101, t102)  if op1 
      refine vops_call (hc := fun _ => c_ref17_Same (getMsgP b).1 (getMsgR b).1) rfl (by simp only [go_sem]; rfl) rfl b_ref17_Same (by simp only [go_sem]; exact WkL.refl _) rfl (fun hg => by simp only [go_sem]; try (intros; first | assumption | trivial | simp_all)) ?_
      simp only [go_sem]
      refine vops_go tabOk [] (by simp only [go_sem]; rfl) (by first | trivial | (simp; done) | (simp [in64]; omega)) ?_
      -- call 12: t113 = CALL 20(f20, t111, t112)  if op11 
      refine vops_call (hc := fun _ => c_ref13_SameList (getBunP b).1 (getBunR b).1) rfl (by simp only [go_sem]; rfl) rfl b_ref13_SameList (by simp only [go_sem]; exact WkL.refl _) rfl (fun hg => by simp only [go_sem]; try (intros; first | assumption | trivial | simp_all)) ?_
      simp only [go_sem]
      refine vops_go tabOk [] (by simp only [go_sem]; rfl) (by first | trivial | (simp; done) | (simp [in64]; omega)) ?_
      refine vops_done [6] ?_
      simp only [go_sem, thenQ, blockQ, jumpQ, stayQ]
      refine vwp_ret ?_
      -- result 1
      simp only [thenQ, blockQ, jumpQ, stayQ, RetQ, go_sem]
      refine ⟨by simp, Wk.eq ?_⟩
      simp [getMsg_eq, getBun_eq, headB_true]

theorem c_law17_head_t : VPure Go.Proofs.Tryz.prog G 8 [] (.bool true) := headB_true ▸ c_law17_head

/-! counterpane/counterpanelaw17.CodecBack -/
theorem b_law17_CodecBack : bodied Go.Proofs.Tryz.prog 4 = true := by rw [bodied, Tryz.func4]; rfl
set_option maxHeartbeats 4000000 in
theorem c_law17_CodecBack (m : Msg) (b : Str) (hm : ∀ p ∈ m.patches, fitP p) : VPure Go.Proofs.Tryz.prog G 4 [.agg (cMsg m), .list 1 (b.map encB)] (.bool true) := by
  refine vpure_of (ts := [4]) Tryz.func4 rfl (by simp [Tryz.ntmps4]) rfl rfl ?_
  rw [Tryz.ntmps4]
  refine vwp_reg tabOk [] [1, 2] (by simp only [go_sem]; rfl) (by first | trivial | (simp; done) | (simp [in64]; omega)) ?_
  refine vwp_seq (vwp_region ?_)
  -- call 0: t17 = CALL 8(f8)
  refine vops_call (hc := fun _ => c_law17_head_t) rfl (by simp only [go_sem]; rfl) rfl b_law17_head (by simp only [go_sem]; exact WkL.refl _) rfl (fun hg => by simp only [go_sem]; try (intros; first | assumption | trivial | simp_all)) ?_
  simp only [go_sem]
  refine vops_go tabOk [] (by simp only [go_sem]; rfl) (by first | trivial | (simp; done) | (simp [in64]; omega)) ?_
  refine vops_done [1, 2, 5] ?_
  simp only [go_sem, thenQ, blockQ, jumpQ, stayQ]
  refine vwp_seq ?_
  refine vwp_seq (vwp_region ?_)
  refine vops_go tabOk [] (by simp only [go_sem]; rfl) (by first | trivial | (simp; done) | (simp [in64]; omega)) ?_
  -- call 1: t19 = CALL 9(f9, t18)
  refine vops_call (hc := fun _ => c_law17_Great m) rfl (by simp only [go_sem]; rfl) rfl b_law17_Great (by simp only [go_sem]; exact WkL.refl _) rfl (fun hg => by simp only [go_sem]; try (intros; first | assumption | trivial | simp_all)) ?_
  simp only [go_sem]
  refine vops_go tabOk [] (by simp only [go_sem]; rfl) (by first | trivial | (simp; done) | (simp [in64]; omega)) ?_
  refine vops_done [1, 2, 5, 24] ?_
  simp only [go_sem, thenQ, blockQ, jumpQ, stayQ]
  refine vwp_cond (by simp only [go_sem]; rfl) (fun h0 => ?_) (fun h0 => ?_)
  · -- h0 then
    refine vwp_reg tabOk [] [4] (by simp only [go_sem]; rfl) (by first | trivial | (simp; done) | (simp [in64]; omega)) ?_
    refine vwp_ret ?_
    -- result 0
    simp only [thenQ, blockQ, jumpQ, stayQ, RetQ, go_sem]
    refine ⟨by simp, Wk.eq ?_⟩
    rfl
  · -- h0 else
    have hG : greatMsg m = false ∧ b.length ≤ 40000 := by simp at h0; exact ⟨h0.1, by omega⟩
    obtain ⟨g1, g2, g3⟩ := great_msg hG.1 hm
    have hb := hG.2
    obtain ⟨q1, q2, q3⟩ := getMsg_bounds b hb
    refine vwp_skip ?_
    try simp only [thenQ, blockQ, jumpQ, stayQ]
    refine vwp_seq (vwp_region ?_)
    refine vops_go tabOk [] (by simp only [go_sem]; rfl) (by first | trivial | (simp; done) | (simp [in64]; omega)) ?_
    -- call 2: t28 = CALL 11(f11, t27)
    refine vops_call (hc := fun _ => c_codec_Put m g1 g2 g3) rfl (by simp only [go_sem]; rfl) rfl b_codec_Put (by simp only [go_sem]; exact WkL.refl _) rfl (fun hg => by simp only [go_sem]; try (intros; first | assumption | trivial | simp_all)) ?_
    simp only [go_sem]
    refine vops_go tabOk [] (by simp only [go_sem]; rfl) (by first | trivial | (simp; done) | (simp [in64]; omega)) ?_
    refine vops_done [1, 2, 5, 6, 7] ?_
    simp only [go_sem, thenQ, blockQ, jumpQ, stayQ]
    refine vwp_seq ?_
    refine vwp_reg tabOk [] [1, 2, 5, 6, 32] (by simp only [go_sem]; rfl) (by first | trivial | (simp; done) | (simp [in64]; omega)) ?_
    refine vwp_cond (by simp only [go_sem]; rfl) (fun h1 => ?_) (fun h1 => ?_)
    · -- h1 then
      have hx : putMsgR m = ((putMsgR m).1, 0) := Prod.ext rfl (by simpa using h1)
      have hlen := putMsg_len hx
      refine vwp_reg tabOk [] [1, 2, 5, 6, 8] (by simp only [go_sem]; rfl) (by first | trivial | (simp; done) | (simp [in64]; omega)) ?_
      refine vwp_seq (vwp_region ?_)
      refine vops_go tabOk [] (by simp only [go_sem]; rfl) (by first | trivial | (simp; done) | (simp [in64]; omega)) ?_
      -- call 3: t37 = CALL 21(f21, t36)
      refine vops_call (hc := fun _ => c_ref14_Sorted m.patches) rfl (by simp only [go_sem]; rfl) rfl b_ref14_Sorted (by simp only [go_sem]; exact WkL.refl _) rfl (fun hg => by simp only [go_sem]; try (intros; first | assumption | trivial | simp_all)) ?_
      simp only [go_sem]
      refine vops_go tabOk [] (by simp only [go_sem]; rfl) (by first | trivial | (simp; done) | (simp [in64]; omega)) ?_
      refine vops_done [1, 5, 6, 8, 9] ?_
      simp only [go_sem, thenQ, blockQ, jumpQ, stayQ]
      refine vwp_reg tabOk [] [1, 5, 6, 8] (by simp only [go_sem]; rfl) (by first | trivial | (simp; done) | (simp [in64]; omega)) ?_
      refine vwp_seq (vwp_region ?_)
      refine vops_go tabOk [] (by simp only [go_sem]; rfl) (by first | trivial | (simp; done) | (simp [in64]; omega)) ?_
      -- call 4: t44 = CALL 15(f15, t43)
      refine vops_call (hc := fun _ => c_codec_Get (putMsgR m).1 (by omega)) rfl (by simp only [go_sem]; rfl) rfl b_codec_Get (by simp only [go_sem]; exact WkL.refl _) rfl (fun hg => by simp only [go_sem]; try (intros; first | assumption | trivial | simp_all)) ?_
      simp only [go_sem]
      refine vops_go tabOk [] (by simp only [go_sem]; rfl) (by first | trivial | (simp; done) | (simp [in64]; omega)) ?_
      refine vops_done [1, 5, 6, 8, 11, 12] ?_
      simp only [go_sem, thenQ, blockQ, jumpQ, stayQ]
      refine vwp_seq (vwp_region ?_)
      refine vops_go tabOk [] (by simp only [go_sem]; rfl) (by first | trivial | (simp; done) | (simp [in64]; omega)) ?_
      -- call 5: t52 = CALL 19(f19, t50, t51)  if op2 not
      refine vops_call (hc := fun _ => c_ref17_Same (getMsgP (putMsgR m).1).1 (sortM m)) rfl (by simp only [go_sem]; rfl) rfl b_ref17_Same (by simp only [go_sem]; exact WkL.refl _) rfl (fun hg => by simp only [go_sem]; try (intros; first | assumption | trivial | simp_all)) ?_
      simp only [go_sem]
      refine vops_go tabOk [] (by simp only [go_sem]; rfl) (by first | trivial | (simp; done) | (simp [in64]; omega)) ?_
      refine vops_done [1, 5, 59] ?_
      simp only [go_sem, thenQ, blockQ, jumpQ, stayQ]
      refine vwp_cond (by simp only [go_sem]; rfl) (fun h2 => ?_) (fun h2 => ?_)
      · -- h2 then
        rw [getMsg_ok hx] at h2; simp at h2; omega
      · -- h2 else
        refine vwp_skip ?_
        try simp only [thenQ, blockQ, jumpQ, stayQ]
        refine vwp_seq (vwp_region ?_)
        refine vops_go tabOk [] (by simp only [go_sem]; rfl) (by first | trivial | (simp; done) | (simp [in64]; omega)) ?_
        -- call 6: t62 = CALL 15(f15, t61)
        refine vops_call (hc := fun _ => c_codec_Get b hb) rfl (by simp only [go_sem]; rfl) rfl b_codec_Get (by simp only [go_sem]; exact WkL.refl _) rfl (fun hg => by simp only [go_sem]; try (intros; first | assumption | trivial | simp_all)) ?_
        simp only [go_sem]
        refine vops_go tabOk [] (by simp only [go_sem]; rfl) (by first | trivial | (simp; done) | (simp [in64]; omega)) ?_
        refine vops_done [1, 5, 13, 14] ?_
        simp only [go_sem, thenQ, blockQ, jumpQ, stayQ]
        refine vwp_seq ?_
        refine vwp_reg tabOk [] [1, 5, 13, 66] (by simp only [go_sem]; rfl) (by first | trivial | (simp; done) | (simp [in64]; omega)) ?_
        refine vwp_cond (by simp only [go_sem]; rfl) (fun h3 => ?_) (fun h3 => ?_)
        · -- h3 then
          refine vwp_seq (vwp_region ?_)
          refine vops_go tabOk [] (by simp only [go_sem]; rfl) (by first | trivial | (simp; done) | (simp [in64]; omega)) ?_
          -- call 7: t71 = CALL 19(f19, t69, t70)  if op1 
          refine vops_call (hc := fun _ => c_ref17_Same (getMsgP b).1 msg0) rfl (by simp only [go_sem]; rfl) rfl b_ref17_Same (by simp only [go_sem]; exact ⟨Wk.refl _, Wk.agg ⟨Wk.refl _, Wk.nils _, Wk.nils _, Wk.refl _, Wk.nils _, trivial⟩, trivial⟩) rfl (fun hg => by simp only [go_sem]; try (intros; first | assumption | trivial | simp_all)) ?_
          simp only [go_sem]
          refine vops_go tabOk [] (by simp only [go_sem]; rfl) (by first | trivial | (simp; done) | (simp [in64]; omega)) ?_
          refine vops_done [4] ?_
          simp only [go_sem, thenQ, blockQ, jumpQ, stayQ]
          refine vwp_ret ?_
          -- result 1
          simp only [thenQ, blockQ, jumpQ, stayQ, RetQ, go_sem]
          refine ⟨by simp, Wk.eq ?_⟩
          rw [getMsg_no (by simpa using h3)]; simp
        · -- h3 else
          refine vwp_skip ?_
          try simp only [thenQ, blockQ, jumpQ, stayQ]
          refine vwp_seq (vwp_region ?_)
          refine vops_go tabOk [] (by simp only [go_sem]; rfl) (by first | trivial | (simp; done) | (simp [in64]; omega)) ?_
          -- call 8: t75 = CALL 11(f11, t74)
          refine vops_call (hc := fun _ => c_codec_Put (getMsgP b).1 q1 q2 q3) rfl (by simp only [go_sem]; rfl) rfl b_codec_Put (by simp only [go_sem]; exact WkL.refl _) rfl (fun hg => by simp only [go_sem]; try (intros; first | assumption | trivial | simp_all)) ?_
          simp only [go_sem]
          refine vops_go tabOk [] (by simp only [go_sem]; rfl) (by first | trivial | (simp; done) | (simp [in64]; omega)) ?_
          refine vops_done [1, 5, 15, 16] ?_
          simp only [go_sem, thenQ, blockQ, jumpQ, stayQ]
          refine vwp_reg tabOk [] [4] (by simp only [go_sem]; rfl) (by first | trivial | (simp; done) | (simp [in64]; omega)) ?_
          refine vwp_ret ?_
          -- result 2
          simp only [thenQ, blockQ, jumpQ, stayQ, RetQ, go_sem]
          refine ⟨by simp, Wk.eq ?_⟩
          rw [getMsg_inv (by simpa using h3)]; simp
    · -- h1 else
      refine vwp_skip ?_
      try simp only [thenQ, blockQ, jumpQ, stayQ]
      refine vwp_seq (vwp_region ?_)
      refine vops_go tabOk [] (by simp only [go_sem]; rfl) (by first | trivial | (simp; done) | (simp [in64]; omega)) ?_
      -- call 9: t62 = CALL 15(f15, t61)
      refine vops_call (hc := fun _ => c_codec_Get b hb) rfl (by simp only [go_sem]; rfl) rfl b_codec_Get (by simp only [go_sem]; exact WkL.refl _) rfl (fun hg => by simp only [go_sem]; try (intros; first | assumption | trivial | simp_all)) ?_
      simp only [go_sem]
      refine vops_go tabOk [] (by simp only [go_sem]; rfl) (by first | trivial | (simp; done) | (simp [in64]; omega)) ?_
      refine vops_done [1, 5, 13, 14] ?_
      simp only [go_sem, thenQ, blockQ, jumpQ, stayQ]
      refine vwp_seq ?_
      refine vwp_reg tabOk [] [1, 5, 13, 66] (by simp only [go_sem]; rfl) (by first | trivial | (simp; done) | (simp [in64]; omega)) ?_
      refine vwp_cond (by simp only [go_sem]; rfl) (fun h4 => ?_) (fun h4 => ?_)
      · -- h4 then
        refine vwp_seq (vwp_region ?_)
        refine vops_go tabOk [] (by simp only [go_sem]; rfl) (by first | trivial | (simp; done) | (simp [in64]; omega)) ?_
        -- call 10: t71 = CALL 19(f19, t69, t70)  if op1 
        refine vops_call (hc := fun _ => c_ref17_Same (getMsgP b).1 msg0) rfl (by simp only [go_sem]; rfl) rfl b_ref17_Same (by simp only [go_sem]; exact ⟨Wk.refl _, Wk.agg ⟨Wk.refl _, Wk.nils _, Wk.nils _, Wk.refl _, Wk.nils _, trivial⟩, trivial⟩) rfl (fun hg => by simp only [go_sem]; try (intros; first | assumption | trivial | simp_all)) ?_
        simp only [go_sem]
        refine vops_go tabOk [] (by simp only [go_sem]; rfl) (by first | trivial | (simp; done) | (simp [in64]; omega)) ?_
        refine vops_done [4] ?_
        simp only [go_sem, thenQ, blockQ, jumpQ, stayQ]
        refine vwp_ret ?_
        -- result 3
        simp only [thenQ, blockQ, jumpQ, stayQ, RetQ, go_sem]
        refine ⟨by simp, Wk.eq ?_⟩
        rw [getMsg_no (by simpa using h4)]; simp
      · -- h4 else
        refine vwp_skip ?_
        try simp only [thenQ, blockQ, jumpQ, stayQ]
        refine vwp_seq (vwp_region ?_)
        refine vops_go tabOk [] (by simp only [go_sem]; rfl) (by first | trivial | (simp; done) | (simp [in64]; omega)) ?_
        -- call 11: t75 = CALL 11(f11, t74)
        refine vops_call (hc := fun _ => c_codec_Put (getMsgP b).1 q1 q2 q3) rfl (by simp only [go_sem]; rfl) rfl b_codec_Put (by simp only [go_sem]; exact WkL.refl _) rfl (fun hg => by simp only [go_sem]; try (intros; first | assumption | trivial | simp_all)) ?_
        simp only [go_sem]
        refine vops_go tabOk [] (by simp only [go_sem]; rfl) (by first | trivial | (simp; done) | (simp [in64]; omega)) ?_
        refine vops_done [1, 5, 15, 16] ?_
        simp only [go_sem, thenQ, blockQ, jumpQ, stayQ]
        refine vwp_reg tabOk [] [4] (by simp only [go_sem]; rfl) (by first | trivial | (simp; done) | (simp [in64]; omega)) ?_
        refine vwp_ret ?_
        -- result 4
        simp only [thenQ, blockQ, jumpQ, stayQ, RetQ, go_sem]
        refine ⟨by simp, Wk.eq ?_⟩
        rw [getMsg_inv (by simpa using h4)]; simp

/-! counterpane/counterpanelaw17.CodecBundles -/
theorem b_law17_CodecBundles : bodied Go.Proofs.Tryz.prog 5 = true := by rw [bodied, Tryz.func5]; rfl
set_option maxHeartbeats 4000000 in
theorem c_law17_CodecBundles (l : List Patch) (b : Str) (cut : Nat) (more : UInt8) (hcut : cut < 65536) (hl : ∀ p ∈ l, fitP p) : VPure Go.Proofs.Tryz.prog G 5 [.list 3 (l.map cPatch), .list 1 (b.map encB), .int .u16 (cut : Int), .int .u8 (more.toNat : Int)] (.bool true) := by
  refine vpure_of (ts := [8]) Tryz.func5 rfl (by simp [Tryz.ntmps5]) rfl rfl ?_
  rw [Tryz.ntmps5]
  refine vwp_reg tabOk [65] [0, 1, 2, 3] (by simp only [go_sem]; rfl) (by first | trivial | (simp; done) | (simp [in64]; omega)) ?_
  refine vwp_seq (vwp_region ?_)
  -- call 0: t24 = CALL 8(f8)
  refine vops_call (hc := fun _ => c_law17_head_t) rfl (by simp only [go_sem]; rfl) rfl b_law17_head (by simp only [go_sem]; exact WkL.refl _) rfl (fun hg => by simp only [go_sem]; try (intros; first | assumption | trivial | simp_all)) ?_
  simp only [go_sem]
  refine vops_go tabOk [65] (by simp only [go_sem]; rfl) (by first | trivial | (simp; done) | (simp [in64]; omega)) ?_
  refine vops_done [0, 1, 2, 3, 9] ?_
  simp only [go_sem, thenQ, blockQ, jumpQ, stayQ]
  refine vwp_seq ?_
  refine vwp_seq (vwp_region ?_)
  refine vops_go tabOk [65] (by simp only [go_sem]; rfl) (by first | trivial | (simp; done) | (simp [in64]; omega)) ?_
  -- call 1: t26 = CALL 10(f10, t25)
  refine vops_call (hc := fun _ => c_law13_GreatList l) rfl (by simp only [go_sem]; rfl) rfl b_law13_GreatList (by simp only [go_sem]; exact WkL.refl _) rfl (fun hg => by simp only [go_sem]; try (intros; first | assumption | trivial | simp_all)) ?_
  simp only [go_sem]
  refine vops_go tabOk [65] (by simp only [go_sem]; rfl) (by first | trivial | (simp; done) | (simp [in64]; omega)) ?_
  refine vops_done [0, 1, 2, 3, 9, 31] ?_
  simp only [go_sem, thenQ, blockQ, jumpQ, stayQ]
  refine vwp_cond (by simp only [go_sem]; rfl) (fun h0 => ?_) (fun h0 => ?_)
  · -- h0 then
    refine vwp_reg tabOk [65] [8] (by simp only [go_sem]; rfl) (by first | trivial | (simp; done) | (simp [in64]; omega)) ?_
    refine vwp_ret ?_
    -- result 0
    simp only [thenQ, blockQ, jumpQ, stayQ, RetQ, go_sem]
    refine ⟨by simp, Wk.eq ?_⟩
    rfl
  · -- h0 else
    have hG : greatPatches l = false ∧ b.length ≤ 40000 := by simp at h0; exact ⟨h0.1, by omega⟩
    have g4 := great_pats hG.1 hl
    have hb := hG.2
    have q1 := getBun_bounds b hb
    refine vwp_skip ?_
    try simp only [thenQ, blockQ, jumpQ, stayQ]
    refine vwp_seq (vwp_region ?_)
    refine vops_go tabOk [65] (by simp only [go_sem]; rfl) (by first | trivial | (simp; done) | (simp [in64]; omega)) ?_
    -- call 2: t35 = CALL 13(f13, t34)
    refine vops_call (hc := fun _ => c_codec_PutBundle l g4) rfl (by simp only [go_sem]; rfl) rfl b_codec_PutBundle (by simp only [go_sem]; exact WkL.refl _) rfl (fun hg => by simp only [go_sem]; try (intros; first | assumption | trivial | simp_all)) ?_
    simp only [go_sem]
    refine vops_go tabOk [65] (by simp only [go_sem]; rfl) (by first | trivial | (simp; done) | (simp [in64]; omega)) ?_
    refine vops_done [0, 1, 2, 3, 9, 10, 11] ?_
    simp only [go_sem, thenQ, blockQ, jumpQ, stayQ]
    refine vwp_seq ?_
    refine vwp_reg tabOk [65] [0, 1, 2, 3, 9, 10, 39] (by simp only [go_sem]; rfl) (by first | trivial | (simp; done) | (simp [in64]; omega)) ?_
    refine vwp_cond (by simp only [go_sem]; rfl) (fun h1 => ?_) (fun h1 => ?_)
    · -- h1 then
      have hx : putBunR l = ((putBunR l).1, 0) := Prod.ext rfl (by simpa using h1)
      have hlen := putBun_len hx
      have hne := putBun_ne hx
      have hpos := List.length_pos_iff.2 hne
      have hmod := Nat.mod_lt cut hpos
      have hmI : (0 : Int) ≤ (cut : Int) % ((putBunR l).1.length : Int) ∧ (cut : Int) % ((putBunR l).1.length : Int) ≤ ((putBunR l).1.length : Int) := ⟨Int.emod_nonneg _ (by omega), Int.le_of_lt (Int.emod_lt_of_pos _ (by omega))⟩
      have hdrop : (putBunR l).1.drop (cut % (putBunR l).1.length) ≠ [] := by intro e; have := congrArg List.length e; simp at this; omega
      refine vwp_seq ?_
      refine vwp_reg tabOk [65] [0, 1, 2, 3, 9, 10, 42] (by simp only [go_sem]; rfl) (by first | trivial | (simp; done) | (simp [in64]; omega)) ?_
      refine vwp_cond (by simp only [go_sem]; rfl) (fun h2 => ?_) (fun h2 => ?_)
      · -- h2 then
        exact absurd h2 (by simp; omega)
      · -- h2 else
        refine vwp_skip ?_
        try simp only [thenQ, blockQ, jumpQ, stayQ]
        refine vwp_seq (vwp_region ?_)
        refine vops_go tabOk [65] (by simp only [go_sem]; rfl) (by first | trivial | (simp; done) | (simp [in64]; omega)) ?_
        -- call 3: t45 = CALL 21(f21, t44)
        refine vops_call (hc := fun _ => c_ref14_Sorted l) rfl (by simp only [go_sem]; rfl) rfl b_ref14_Sorted (by simp only [go_sem]; exact WkL.refl _) rfl (fun hg => by simp only [go_sem]; try (intros; first | assumption | trivial | simp_all)) ?_
        simp only [go_sem]
        refine vops_go tabOk [65] (by simp only [go_sem]; rfl) (by first | trivial | (simp; done) | (simp [in64]; omega)) ?_
        refine vops_done [1, 2, 3, 9, 10, 12] ?_
        simp only [go_sem, thenQ, blockQ, jumpQ, stayQ]
        refine vwp_seq (vwp_region ?_)
        refine vops_go tabOk [65] (by simp only [go_sem]; rfl) (by first | trivial | (simp; done) | (simp [in64]; omega)) ?_
        -- call 4: t50 = CALL 17(f17, t49)
        refine vops_call (hc := fun _ => c_codec_GetBundle (putBunR l).1 (by omega)) rfl (by simp only [go_sem]; rfl) rfl b_codec_GetBundle (by simp only [go_sem]; exact WkL.refl _) rfl (fun hg => by simp only [go_sem]; try (intros; first | assumption | trivial | simp_all)) ?_
        simp only [go_sem]
        refine vops_go tabOk [65] (by simp only [go_sem]; rfl) (by first | trivial | (simp; done) | (simp [in64]; omega)) ?_
        refine vops_done [1, 2, 3, 9, 10, 12, 14, 15] ?_
        simp only [go_sem, thenQ, blockQ, jumpQ, stayQ]
        refine vwp_seq (vwp_region ?_)
        refine vops_go tabOk [65] (by simp only [go_sem]; rfl) (by first | trivial | (simp; done) | (simp; exact hmI) | (simp; omega) | (simp [in64]; omega)) ?_
        -- t59 = binOp Go.BinOp.rem(t56, t58) :3
        refine vops_step1 (step_rem (a := cut) (b := (putBunR l).1.length) rfl (by simp only [go_sem]) (by simp only [go_sem]) (by omega)) rfl rfl ?_
        simp only [go_sem]
        refine vops_go tabOk [65] (by simp only [go_sem]; rfl) (by first | trivial | (simp; done) | (simp; exact hmI) | (simp; omega) | (simp [in64]; omega)) ?_
        -- call 5: t61 = CALL 17(f17, t60)
        refine vops_call (hc := fun _ => c_codec_GetBundle ((putBunR l).1.take (cut % (putBunR l).1.length)) (by simp; omega)) rfl (by simp only [go_sem]; rfl) rfl b_codec_GetBundle (by simp only [go_sem]; exact ⟨Wk.eq (by rw [List.map_take]), trivial⟩) rfl (fun hg => by simp only [go_sem]; try (intros; first | assumption | trivial | simp_all)) ?_
        simp only [go_sem]
        refine vops_go tabOk [65] (by simp only [go_sem]; rfl) (by first | trivial | (simp; done) | (simp; exact hmI) | (simp; omega) | (simp [in64]; omega)) ?_
        refine vops_done [1, 3, 9, 10, 12, 14, 15, 17] ?_
        simp only [go_sem, thenQ, blockQ, jumpQ, stayQ]
        refine vwp_seq (vwp_region ?_)
        refine vops_go tabOk [65] (by simp only [go_sem]; rfl) (by first | trivial | (simp; done) | (simp [in64]; omega)) ?_
        -- call 6: t71 = CALL 17(f17, t70)
        refine vops_freeze 0 5 1 _ rfl ?_
        simp only [go_sem]
        refine vops_call (hc := fun _ => c_codec_GetBundle ((putBunR l).1 ++ [more]) (by simp; omega)) rfl (by simp only [go_sem]; rfl) rfl b_codec_GetBundle (by simp only [go_sem]; exact ⟨Wk.eq (by rw [List.take_of_length_le (by simp)]; simp [encB]), trivial⟩) rfl (fun hg => by simp only [go_sem]; try (intros; first | assumption | trivial | simp_all)) ?_
        simp only [go_sem]
        refine vops_go tabOk [65] (by simp only [go_sem]; rfl) (by first | trivial | (simp; done) | (simp [in64]; omega)) ?_
        refine vops_done [1, 9, 12, 14, 15, 17, 19] ?_
        simp only [go_sem, thenQ, blockQ, jumpQ, stayQ]
        refine vwp_seq (vwp_region ?_)
        refine vops_go tabOk [65] (by simp only [go_sem]; rfl) (by first | trivial | (simp; done) | (simp [in64]; omega)) ?_
        -- call 7: t79 = CALL 20(f20, t77, t78)  if op2 not
        refine vops_call (hc := fun _ => c_ref13_SameList (getBunP (putBunR l).1).1 (sortP l).1) rfl (by simp only [go_sem]; rfl) rfl b_ref13_SameList (by simp only [go_sem]; exact WkL.refl _) rfl (fun hg => by simp only [go_sem]; try (intros; first | assumption | trivial | simp_all)) ?_
        simp only [go_sem]
        refine vops_go tabOk [65] (by simp only [go_sem]; rfl) (by first | trivial | (simp; done) | (simp [in64]; omega)) ?_
        refine vops_done [1, 9, 89] ?_
        simp only [go_sem, thenQ, blockQ, jumpQ, stayQ]
        refine vwp_cond (by simp only [go_sem]; rfl) (fun h3 => ?_) (fun h3 => ?_)
        · -- h3 then
          rw [getBun_ok hx, getBun_cut hx (List.take_append_drop _ _).symm hdrop, getBun_more hx (by simp)] at h3; simp at h3
        · -- h3 else
          refine vwp_skip ?_
          try simp only [thenQ, blockQ, jumpQ, stayQ]
          refine vwp_seq (vwp_region ?_)
          refine vops_go tabOk [65] (by simp only [go_sem]; rfl) (by first | trivial | (simp; done) | (simp [in64]; omega)) ?_
          -- call 8: t92 = CALL 17(f17, t91)
          refine vops_call (hc := fun _ => c_codec_GetBundle b hb) rfl (by simp only [go_sem]; rfl) rfl b_codec_GetBundle (by simp only [go_sem]; exact WkL.refl _) rfl (fun hg => by simp only [go_sem]; try (intros; first | assumption | trivial | simp_all)) ?_
          simp only [go_sem]
          refine vops_go tabOk [65] (by simp only [go_sem]; rfl) (by first | trivial | (simp; done) | (simp [in64]; omega)) ?_
          refine vops_done [1, 9, 20, 21] ?_
          simp only [go_sem, thenQ, blockQ, jumpQ, stayQ]
          refine vwp_seq ?_
          refine vwp_reg tabOk [65] [1, 9, 20, 96] (by simp only [go_sem]; rfl) (by first | trivial | (simp; done) | (simp [in64]; omega)) ?_
          refine vwp_cond (by simp only [go_sem]; rfl) (fun h4 => ?_) (fun h4 => ?_)
          · -- h4 then
            refine vwp_reg tabOk [65] [8] (by simp only [go_sem]; rfl) (by first | trivial | (simp; done) | (simp [in64]; omega)) ?_
            refine vwp_ret ?_
            -- result 1
            simp only [thenQ, blockQ, jumpQ, stayQ, RetQ, go_sem]
            refine ⟨by simp, Wk.eq ?_⟩
            rw [getBun_no (by simpa using h4)]; simp
          · -- h4 else
            refine vwp_skip ?_
            try simp only [thenQ, blockQ, jumpQ, stayQ]
            refine vwp_seq (vwp_region ?_)
            refine vops_go tabOk [65] (by simp only [go_sem]; rfl) (by first | trivial | (simp; done) | (simp [in64]; omega)) ?_
            -- call 9: t105 = CALL 13(f13, t104)
            refine vops_call (hc := fun _ => c_codec_PutBundle (getBunP b).1 q1) rfl (by simp only [go_sem]; rfl) rfl b_codec_PutBundle (by simp only [go_sem]; exact WkL.refl _) rfl (fun hg => by simp only [go_sem]; try (intros; first | assumption | trivial | simp_all)) ?_
            simp only [go_sem]
            refine vops_go tabOk [65] (by simp only [go_sem]; rfl) (by first | trivial | (simp; done) | (simp [in64]; omega)) ?_
            refine vops_done [1, 9, 22, 23] ?_
            simp only [go_sem, thenQ, blockQ, jumpQ, stayQ]
            refine vwp_reg tabOk [65] [8] (by simp only [go_sem]; rfl) (by first | trivial | (simp; done) | (simp [in64]; omega)) ?_
            refine vwp_ret ?_
            -- result 2
            simp only [thenQ, blockQ, jumpQ, stayQ, RetQ, go_sem]
            refine ⟨by simp, Wk.eq ?_⟩
            rw [getBun_inv (by simpa using h4)]; simp
    · -- h1 else
      refine vwp_skip ?_
      try simp only [thenQ, blockQ, jumpQ, stayQ]
      refine vwp_seq (vwp_region ?_)
      refine vops_go tabOk [65] (by simp only [go_sem]; rfl) (by first | trivial | (simp; done) | (simp [in64]; omega)) ?_
      -- call 10: t92 = CALL 17(f17, t91)
      refine vops_call (hc := fun _ => c_codec_GetBundle b hb) rfl (by simp only [go_sem]; rfl) rfl b_codec_GetBundle (by simp only [go_sem]; exact WkL.refl _) rfl (fun hg => by simp only [go_sem]; try (intros; first | assumption | trivial | simp_all)) ?_
      simp only [go_sem]
      refine vops_go tabOk [65] (by simp only [go_sem]; rfl) (by first | trivial | (simp; done) | (simp [in64]; omega)) ?_
      refine vops_done [1, 9, 20, 21] ?_
      simp only [go_sem, thenQ, blockQ, jumpQ, stayQ]
      refine vwp_seq ?_
      refine vwp_reg tabOk [65] [1, 9, 20, 96] (by simp only [go_sem]; rfl) (by first | trivial | (simp; done) | (simp [in64]; omega)) ?_
      refine vwp_cond (by simp only [go_sem]; rfl) (fun h5 => ?_) (fun h5 => ?_)
      · -- h5 then
        refine vwp_reg tabOk [65] [8] (by simp only [go_sem]; rfl) (by first | trivial | (simp; done) | (simp [in64]; omega)) ?_
        refine vwp_ret ?_
        -- result 3
        simp only [thenQ, blockQ, jumpQ, stayQ, RetQ, go_sem]
        refine ⟨by simp, Wk.eq ?_⟩
        rw [getBun_no (by simpa using h5)]; simp
      · -- h5 else
        refine vwp_skip ?_
        try simp only [thenQ, blockQ, jumpQ, stayQ]
        refine vwp_seq (vwp_region ?_)
        refine vops_go tabOk [65] (by simp only [go_sem]; rfl) (by first | trivial | (simp; done) | (simp [in64]; omega)) ?_
        -- call 11: t105 = CALL 13(f13, t104)
        refine vops_call (hc := fun _ => c_codec_PutBundle (getBunP b).1 q1) rfl (by simp only [go_sem]; rfl) rfl b_codec_PutBundle (by simp only [go_sem]; exact WkL.refl _) rfl (fun hg => by simp only [go_sem]; try (intros; first | assumption | trivial | simp_all)) ?_
        simp only [go_sem]
        refine vops_go tabOk [65] (by simp only [go_sem]; rfl) (by first | trivial | (simp; done) | (simp [in64]; omega)) ?_
        refine vops_done [1, 9, 22, 23] ?_
        simp only [go_sem, thenQ, blockQ, jumpQ, stayQ]
        refine vwp_reg tabOk [65] [8] (by simp only [go_sem]; rfl) (by first | trivial | (simp; done) | (simp [in64]; omega)) ?_
        refine vwp_ret ?_
        -- result 4
        simp only [thenQ, blockQ, jumpQ, stayQ, RetQ, go_sem]
        refine ⟨by simp, Wk.eq ?_⟩
        rw [getBun_inv (by simpa using h5)]; simp
end Go.Proofs.YtldfghgjllaljaaGreatDoor.Q
end

section
/- Walks of the laws of bundles and messages (cuts, orders), in the logic 'Q'. -/
set_option linter.unusedVariables false
set_option linter.unusedSimpArgs false
set_option maxRecDepth 100000
namespace Go.Proofs.YtldfghgjllaljaaGreatDoor.Q
open Go Go.Q
attribute [local irreducible] lnNum lnTxt lnLst lnPats lnMsg putMsgR putBunR rdMany getMsgP getBunP getMsgR getBunR

/-! counterpane/counterpanelaw17.CodecCut -/
theorem b_law17_CodecCut : bodied Go.Proofs.Tryz.prog 6 = true := by rw [bodied, Tryz.func6]; rfl
set_option maxHeartbeats 4000000 in
theorem c_law17_CodecCut (m n : Msg) (cut : Nat) (more : UInt8) (hcut : cut < 65536) (hm : ∀ p ∈ m.patches, fitP p) (hn : ∀ p ∈ n.patches, fitP p) : VPure Go.Proofs.Tryz.prog G 6 [.agg (cMsg m), .agg (cMsg n), .int .u16 (cut : Int), .int .u8 (more.toNat : Int)] (.bool true) := by
  refine vpure_of (ts := [8]) Tryz.func6 rfl (by simp [Tryz.ntmps6]) rfl rfl ?_
  rw [Tryz.ntmps6]
  refine vwp_reg tabOk [74] [2, 3, 4, 5] (by simp only [go_sem]; rfl) (by first | trivial | (simp; done) | (simp [in64]; omega)) ?_
  refine vwp_seq (vwp_region ?_)
  -- call 0: t24 = CALL 8(f8)
  refine vops_call (hc := fun _ => c_law17_head_t) rfl (by simp only [go_sem]; rfl) rfl b_law17_head (by simp only [go_sem]; exact WkL.refl _) rfl (fun hg => by simp only [go_sem]; try (intros; first | assumption | trivial | simp_all)) ?_
  simp only [go_sem]
  refine vops_go tabOk [74] (by simp only [go_sem]; rfl) (by first | trivial | (simp; done) | (simp [in64]; omega)) ?_
  refine vops_done [2, 3, 4, 5, 9] ?_
  simp only [go_sem, thenQ, blockQ, jumpQ, stayQ]
  refine vwp_seq ?_
  refine vwp_seq (vwp_region ?_)
  refine vops_go tabOk [74] (by simp only [go_sem]; rfl) (by first | trivial | (simp; done) | (simp [in64]; omega)) ?_
  -- call 1: t26 = CALL 9(f9, t25)
  refine vops_call (hc := fun _ => c_law17_Great m) rfl (by simp only [go_sem]; rfl) rfl b_law17_Great (by simp only [go_sem]; exact WkL.refl _) rfl (fun hg => by simp only [go_sem]; try (intros; first | assumption | trivial | simp_all)) ?_
  simp only [go_sem]
  refine vops_go tabOk [74] (by simp only [go_sem]; rfl) (by first | trivial | (simp; done) | (simp [in64]; omega)) ?_
  -- call 2: t29 = CALL 9(f9, t28)  if op2 not
  refine vops_call (hc := fun _ => c_law17_Great n) rfl (by simp only [go_sem]; rfl) rfl b_law17_Great (by simp only [go_sem]; exact WkL.refl _) rfl (fun hg => by simp only [go_sem]; try (intros; first | assumption | trivial | simp_all)) ?_
  simp only [go_sem]
  refine vops_go tabOk [74] (by simp only [go_sem]; rfl) (by first | trivial | (simp; done) | (simp [in64]; omega)) ?_
  refine vops_done [2, 3, 4, 5, 9, 30] ?_
  simp only [go_sem, thenQ, blockQ, jumpQ, stayQ]
  refine vwp_cond (by simp only [go_sem]; rfl) (fun h0 => ?_) (fun h0 => ?_)
  · -- h0 then
    refine vwp_reg tabOk [74] [8] (by simp only [go_sem]; rfl) (by first | trivial | (simp; done) | (simp [in64]; omega)) ?_
    refine vwp_ret ?_
    -- result 0
    simp only [thenQ, blockQ, jumpQ, stayQ, RetQ, go_sem]
    refine ⟨by simp, Wk.eq ?_⟩
    rfl
  · -- h0 else
    have hG : greatMsg m = false ∧ greatMsg n = false := by simpa using h0
    obtain ⟨g1, g2, g3⟩ := great_msg hG.1 hm
    obtain ⟨k1, k2, k3⟩ := great_msg hG.2 hn
    refine vwp_skip ?_
    try simp only [thenQ, blockQ, jumpQ, stayQ]
    refine vwp_seq (vwp_region ?_)
    refine vops_go tabOk [74] (by simp only [go_sem]; rfl) (by first | trivial | (simp; done) | (simp [in64]; omega)) ?_
    -- call 3: t34 = CALL 11(f11, t33)
    refine vops_call (hc := fun _ => c_codec_Put m g1 g2 g3) rfl (by simp only [go_sem]; rfl) rfl b_codec_Put (by simp only [go_sem]; exact WkL.refl _) rfl (fun hg => by simp only [go_sem]; try (intros; first | assumption | trivial | simp_all)) ?_
    simp only [go_sem]
    refine vops_go tabOk [74] (by simp only [go_sem]; rfl) (by first | trivial | (simp; done) | (simp [in64]; omega)) ?_
    refine vops_done [2, 3, 4, 5, 9, 10, 11] ?_
    simp only [go_sem, thenQ, blockQ, jumpQ, stayQ]
    refine vwp_seq (vwp_region ?_)
    refine vops_go tabOk [74] (by simp only [go_sem]; rfl) (by first | trivial | (simp; done) | (simp [in64]; omega)) ?_
    -- call 4: t39 = CALL 11(f11, t38)
    refine vops_call (hc := fun _ => c_codec_Put n k1 k2 k3) rfl (by simp only [go_sem]; rfl) rfl b_codec_Put (by simp only [go_sem]; exact WkL.refl _) rfl (fun hg => by simp only [go_sem]; try (intros; first | assumption | trivial | simp_all)) ?_
    simp only [go_sem]
    refine vops_go tabOk [74] (by simp only [go_sem]; rfl) (by first | trivial | (simp; done) | (simp [in64]; omega)) ?_
    refine vops_done [2, 3, 4, 5, 9, 10, 11, 12, 13] ?_
    simp only [go_sem, thenQ, blockQ, jumpQ, stayQ]
    refine vwp_seq ?_
    refine vwp_reg tabOk [74] [2, 3, 4, 5, 9, 10, 11, 12, 13, 52] (by simp only [go_sem]; rfl) (by first | trivial | (simp; done) | (simp [in64]; omega)) ?_
    refine vwp_cond (by simp only [go_sem]; rfl) (fun h1 => ?_) (fun h1 => ?_)
    · -- h1 then
      refine vwp_reg tabOk [74] [8] (by simp only [go_sem]; rfl) (by first | trivial | (simp; done) | (simp [in64]; omega)) ?_
      refine vwp_ret ?_
      -- result 1
      simp only [thenQ, blockQ, jumpQ, stayQ, RetQ, go_sem]
      refine ⟨by simp, Wk.eq ?_⟩
      have hk : (bif !decide ((putMsgR m).2 = 0) then true else !decide ((putMsgR n).2 = 0)) = true := by
        by_cases e1 : (putMsgR m).2 = 0
        · by_cases e2 : (putMsgR n).2 = 0
          · exfalso
            rw [e1, e2] at h1
            have := putMsg_ne (m := m) (x := (putMsgR m).1) (Prod.ext rfl e1)
            simp at h1; exact this h1
          · simp [e2]
        · simp [e1]
      rw [hk]
    · -- h1 else
      have hE : (putMsgR m).2 = 0 ∧ (putMsgR n).2 = 0 := by simp at h1; exact ⟨h1.1.1, h1.1.2⟩
      have hx : putMsgR m = ((putMsgR m).1, 0) := Prod.ext rfl hE.1
      have hy : putMsgR n = ((putMsgR n).1, 0) := Prod.ext rfl hE.2
      have hlen := putMsg_len hx
      have hne := putMsg_ne hx
      have hpos := List.length_pos_iff.2 hne
      have hmod := Nat.mod_lt cut hpos
      have hmI : (0 : Int) ≤ (cut : Int) % ((putMsgR m).1.length : Int) ∧ (cut : Int) % ((putMsgR m).1.length : Int) ≤ ((putMsgR m).1.length : Int) := ⟨Int.emod_nonneg _ (by omega), Int.le_of_lt (Int.emod_lt_of_pos _ (by omega))⟩
      have hdrop : (putMsgR m).1.drop (cut % (putMsgR m).1.length) ≠ [] := by intro e; have := congrArg List.length e; simp at this; omega
      refine vwp_skip ?_
      try simp only [thenQ, blockQ, jumpQ, stayQ]
      refine vwp_seq (vwp_region ?_)
      refine vops_go tabOk [74] (by simp only [go_sem]; rfl) (by first | trivial | (simp; done) | (simp; exact hmI) | (simp; omega) | (simp [in64]; omega)) ?_
      -- t68 = binOp Go.BinOp.rem(t65, t67) :3
      refine vops_step1 (step_rem (a := cut) (b := (putMsgR m).1.length) rfl (by simp only [go_sem]) (by simp only [go_sem]) (by omega)) rfl rfl ?_
      simp only [go_sem]
      refine vops_go tabOk [74] (by simp only [go_sem]; rfl) (by first | trivial | (simp; done) | (simp; exact hmI) | (simp; omega) | (simp [in64]; omega)) ?_
      -- call 5: t70 = CALL 15(f15, t69)
      refine vops_call (hc := fun _ => c_codec_Get ((putMsgR m).1.take (cut % (putMsgR m).1.length)) (by simp; omega)) rfl (by simp only [go_sem]; rfl) rfl b_codec_Get (by simp only [go_sem]; exact ⟨Wk.eq (by rw [List.map_take]), trivial⟩) rfl (fun hg => by simp only [go_sem]; try (intros; first | assumption | trivial | simp_all)) ?_
      simp only [go_sem]
      refine vops_go tabOk [74] (by simp only [go_sem]; rfl) (by first | trivial | (simp; done) | (simp; exact hmI) | (simp; omega) | (simp [in64]; omega)) ?_
      refine vops_done [3, 4, 5, 9, 10, 12, 15] ?_
      simp only [go_sem, thenQ, blockQ, jumpQ, stayQ]
      refine vwp_seq (vwp_region ?_)
      refine vops_go tabOk [74] (by simp only [go_sem]; rfl) (by first | trivial | (simp; done) | (simp [in64]; omega)) ?_
      -- call 6: t80 = CALL 15(f15, t79)
      refine vops_freeze 3 5 1 _ rfl ?_
      simp only [go_sem]
      refine vops_call (hc := fun _ => c_codec_Get ((putMsgR m).1 ++ [more]) (by simp; omega)) rfl (by simp only [go_sem]; rfl) rfl b_codec_Get (by simp only [go_sem]; exact ⟨Wk.eq (by rw [List.take_of_length_le (by simp)]; simp [encB]), trivial⟩) rfl (fun hg => by simp only [go_sem]; try (intros; first | assumption | trivial | simp_all)) ?_
      simp only [go_sem]
      refine vops_go tabOk [74] (by simp only [go_sem]; rfl) (by first | trivial | (simp; done) | (simp [in64]; omega)) ?_
      refine vops_done [4, 5, 9, 10, 12, 15, 17] ?_
      simp only [go_sem, thenQ, blockQ, jumpQ, stayQ]
      refine vwp_reg tabOk [74] [4, 5, 9, 10, 12, 15, 17, 18] (by simp only [go_sem]; rfl) (by first | trivial | (simp; done) | (simp [in64]; omega)) ?_
      refine vwp_reg tabOk [74] [4, 5, 9, 10, 12, 15, 17, 18, 19] (by simp only [go_sem]; rfl) (by first | trivial | (simp; done) | (simp [in64]; omega)) ?_
      refine vwp_seq (vwp_region ?_)
      refine vops_go tabOk [74] (by simp only [go_sem]; rfl) (by first | trivial | (simp; done) | (simp [in64]; omega)) ?_
      -- call 7: t88 = CALL 21(f21, t87)
      refine vops_call (hc := fun _ => c_ref14_Sorted m.patches) rfl (by simp only [go_sem]; rfl) rfl b_ref14_Sorted (by simp only [go_sem]; exact WkL.refl _) rfl (fun hg => by simp only [go_sem]; try (intros; first | assumption | trivial | simp_all)) ?_
      simp only [go_sem]
      refine vops_go tabOk [74] (by simp only [go_sem]; rfl) (by first | trivial | (simp; done) | (simp [in64]; omega)) ?_
      refine vops_done [5, 9, 10, 12, 15, 17, 18, 19, 20] ?_
      simp only [go_sem, thenQ, blockQ, jumpQ, stayQ]
      refine vwp_seq (vwp_region ?_)
      refine vops_go tabOk [74] (by simp only [go_sem]; rfl) (by first | trivial | (simp; done) | (simp [in64]; omega)) ?_
      -- call 8: t94 = CALL 21(f21, t93)
      refine vops_call (hc := fun _ => c_ref14_Sorted n.patches) rfl (by simp only [go_sem]; rfl) rfl b_ref14_Sorted (by simp only [go_sem]; exact WkL.refl _) rfl (fun hg => by simp only [go_sem]; try (intros; first | assumption | trivial | simp_all)) ?_
      simp only [go_sem]
      refine vops_go tabOk [74] (by simp only [go_sem]; rfl) (by first | trivial | (simp; done) | (simp [in64]; omega)) ?_
      refine vops_done [9, 10, 12, 15, 17, 18, 19, 20, 22] ?_
      simp only [go_sem, thenQ, blockQ, jumpQ, stayQ]
      refine vwp_reg tabOk [74] [9, 10, 12, 15, 17, 18, 19, 22] (by simp only [go_sem]; rfl) (by first | trivial | (simp; done) | (simp [in64]; omega)) ?_
      refine vwp_reg tabOk [74] [9, 10, 12, 15, 17, 18, 19] (by simp only [go_sem]; rfl) (by first | trivial | (simp; done) | (simp [in64]; omega)) ?_
      -- r16 drawn
      refine vwp_seq (vwp_drawD mixed (by kernel_rfl) (eF := ?_) ?_ [8] rfl ?_)
      rotate_left
      · -- the operations
        refine dall_go tabOk (by simp only [go_sem]; rfl) (by first | trivial | (simp; done) | (simp [in64]; omega)) ?_
        -- call 9: t118 = CALL 19(f19, t116, t117)  if op9 
        refine dall_call (hc := fun _ => c_ref17_Same (sortM m) (sortM n)) rfl (by simp only [go_sem]; rfl) b_ref17_Same (by simp only [go_sem]; exact WkL.refl _) rfl (fun hg => by simp only [go_sem]; try (intros; first | assumption | trivial | simp_all)) ?_
        simp only [go_sem]
        refine dall_go tabOk (by simp only [go_sem]; rfl) (by first | trivial | (simp; done) | (simp [in64]; omega)) ?_
        exact dall_nil
      simp only [go_sem, thenQ, blockQ, jumpQ, stayQ]
      refine vwp_ret ?_
      -- result 2
      simp only [thenQ, blockQ, jumpQ, stayQ, RetQ, go_sem]
      refine ⟨by simp, Wk.eq ?_⟩
      have hi := putMsg_inj hx hy
      have hd : decide ((putMsgR m).1 = (putMsgR n).1) = decide (sortM m = sortM n) := decide_eq_decide.2 hi
      rw [getMsg_cut hx (List.take_append_drop _ _).symm hdrop, getMsg_more hx (by simp), hd]; simp

/-! counterpane/counterpanelaw17.CodecOrder -/
theorem b_law17_CodecOrder : bodied Go.Proofs.Tryz.prog 7 = true := by rw [bodied, Tryz.func7]; rfl
set_option maxHeartbeats 4000000 in
theorem c_law17_CodecOrder (l : List Patch) (turns : Str) (hl : ∀ p ∈ l, fitP p) : VPure Go.Proofs.Tryz.prog G 7 [.list 3 (l.map cPatch), .list 1 (turns.map encB)] (.bool true) := by
  refine vpure_know fun hk => ?_
  simp only [factsL, facts, maxB, List.length_map] at hk
  refine vpure_of (ts := [4]) Tryz.func7 rfl (by simp [Tryz.ntmps7]) rfl rfl ?_
  rw [Tryz.ntmps7]
  refine vwp_reg tabOk [30] [0, 1] (by simp only [go_sem]; rfl) (by first | trivial | (simp; done) | (simp [in64]; omega)) ?_
  refine vwp_seq (vwp_region ?_)
  -- call 0: t16 = CALL 8(f8)
  refine vops_call (hc := fun _ => c_law17_head_t) rfl (by simp only [go_sem]; rfl) rfl b_law17_head (by simp only [go_sem]; exact WkL.refl _) rfl (fun hg => by simp only [go_sem]; try (intros; first | assumption | trivial | simp_all)) ?_
  simp only [go_sem]
  refine vops_go tabOk [30] (by simp only [go_sem]; rfl) (by first | trivial | (simp; done) | (simp [in64]; omega)) ?_
  refine vops_done [0, 1, 5] ?_
  simp only [go_sem, thenQ, blockQ, jumpQ, stayQ]
  refine vwp_seq ?_
  refine vwp_seq (vwp_region ?_)
  refine vops_go tabOk [30] (by simp only [go_sem]; rfl) (by first | trivial | (simp; done) | (simp [in64]; omega)) ?_
  -- call 1: t18 = CALL 10(f10, t17)
  refine vops_call (hc := fun _ => c_law13_GreatList l) rfl (by simp only [go_sem]; rfl) rfl b_law13_GreatList (by simp only [go_sem]; exact WkL.refl _) rfl (fun hg => by simp only [go_sem]; try (intros; first | assumption | trivial | simp_all)) ?_
  simp only [go_sem]
  refine vops_go tabOk [30] (by simp only [go_sem]; rfl) (by first | trivial | (simp; done) | (simp [in64]; omega)) ?_
  refine vops_done [0, 1, 5, 28] ?_
  simp only [go_sem, thenQ, blockQ, jumpQ, stayQ]
  refine vwp_cond (by simp only [go_sem]; rfl) (fun h0 => ?_) (fun h0 => ?_)
  · -- h0 then
    refine vwp_reg tabOk [30] [4] (by simp only [go_sem]; rfl) (by first | trivial | (simp; done) | (simp [in64]; omega)) ?_
    refine vwp_ret ?_
    -- result 0
    simp only [thenQ, blockQ, jumpQ, stayQ, RetQ, go_sem]
    refine ⟨by simp, Wk.eq ?_⟩
    rfl
  · -- h0 else
    have hG : greatPatches l = false ∧ l ≠ [] ∧ turns.length ≤ 100 := by simp at h0; exact ⟨h0.1.1, h0.1.2, by omega⟩
    have g4 := great_pats hG.1 hl
    have g5 := great_len hG.1
    have hpos := List.length_pos_iff.2 hG.2.1
    refine vwp_skip ?_
    try simp only [thenQ, blockQ, jumpQ, stayQ]
    refine vwp_reg tabOk [30] [0, 1, 5, 6] (by simp only [go_sem]; rfl) (by first | trivial | (simp; done) | (simp; omega)) ?_
    refine vwp_seq ?_
    refine vwp_reg tabOk [30] [0, 1, 5, 6, 7] (by simp only [go_sem]; rfl) (by first | trivial | (simp; done) | (simp [in64]; omega)) ?_
    refine vwp_block ?_
    -- loop 0
    refine vwp_loopW (fun y : Nat × List Patch => [(0, .list 3 (l.map cPatch)), (1, .list 1 (turns.map encB)), (5, .bool true), (6, .arr 0 y.2.length), (7, .int .i64 (y.1 : Int))]) (fun y => [.arr 48 3 (y.2.map cPatch)]) (fun y => y.1 ≤ turns.length ∧ y.2.Perm l) (fun y => turns.length - y.1) (0, l) ⟨Nat.zero_le _, .refl _⟩ (Env.wk_cons (by first | exact Wk.refl _ | exact Wk.nils _ | (refine Wk.eq ?_; simp; done) | (refine Wk.eq ?_; simp [swapP_len]; done) | (refine Wk.eq ?_; congr 1 <;> omega)) (Env.wk_cons (by first | exact Wk.refl _ | exact Wk.nils _ | (refine Wk.eq ?_; simp; done) | (refine Wk.eq ?_; simp [swapP_len]; done) | (refine Wk.eq ?_; congr 1 <;> omega)) (Env.wk_cons (by first | exact Wk.refl _ | exact Wk.nils _ | (refine Wk.eq ?_; simp; done) | (refine Wk.eq ?_; simp [swapP_len]; done) | (refine Wk.eq ?_; congr 1 <;> omega)) (Env.wk_cons (by first | exact Wk.refl _ | exact Wk.nils _ | (refine Wk.eq ?_; simp; done) | (refine Wk.eq ?_; simp [swapP_len]; done) | (refine Wk.eq ?_; congr 1 <;> omega)) (Env.wk_cons (by first | exact Wk.refl _ | exact Wk.nils _ | (refine Wk.eq ?_; simp; done) | (refine Wk.eq ?_; simp [swapP_len]; done) | (refine Wk.eq ?_; congr 1 <;> omega)) (Env.wk_nil _)))))) rfl ?_
    rintro y ⟨hi, hr⟩
    refine vwp_seq ?_
    refine vwp_reg tabOk [30] [0, 1, 5, 6, 7, 36] (by simp only [go_sem]; rfl) (by first | trivial | (simp; done) | (simp [in64]; omega)) ?_
    refine vwp_cond (by simp only [go_sem]; rfl) (fun h1 => ?_) (fun h1 => ?_)
    · -- h1 then
      have h1' : y.1 < turns.length := by simp at h1; omega
      have hle := hr.length_eq
      have hmod := Nat.mod_lt (turns[y.1]).toNat hpos
      have hk0 : (turns[y.1].toNat % l.length) < y.2.length := by omega
      have hk1 : 0 < y.2.length := by omega
      have h256 := (turns[y.1]).toNat_lt
      refine vwp_skip ?_
      try simp only [thenQ, blockQ, jumpQ, stayQ]
      refine vwp_seq ?_
      refine vwp_block ?_
      refine vwp_seq (vwp_region ?_)
      refine vops_go tabOk [30] (by simp only [go_sem, getD_map, h1', encB]; rfl) (by first | trivial | (simp [h1']; done) | (simp [h1', in64]; omega)) ?_
      -- t46 = binOp Go.BinOp.rem(t43, t45) :3
      refine vops_step1 (step_rem (a := turns[y.1].toNat) (b := l.length) rfl (by simp only [go_sem]) (by simp only [go_sem]) (by omega)) rfl rfl ?_
      simp only [go_sem]
      refine vops_go tabOk [30] (by simp only [go_sem, getD_map, h1', encB]; rfl) (by first | trivial | (simp [h1']; done) | (simp [h1', in64]; omega)) ?_
      refine vops_done [0, 1, 5, 6, 7, 8] ?_
      simp only [go_sem, thenQ, blockQ, jumpQ, stayQ]
      refine vwp_reg tabOk [30] [0, 1, 5, 6, 7, 8, 9] (by simp only [go_sem, getD_map, hk1]; rfl) (by first | trivial | (simp [hk1]; done) | (simp; omega)) ?_
      refine vwp_seq (vwp_region ?_)
      refine vops_go tabOk [30] (by simp only [go_sem, getD_map, hk0, Int.toNat_natCast]; rfl) (by first | trivial | (simp [hk0]; done) | (simp; omega)) ?_
      -- store(t55, t54) :48
      refine vops_step1 (step_storeArr tabOk (i := 0) (e := 48) (k := 3) (j := 0) (xs := y.2.map cPatch) (cs := cPatch (y.2[(turns[y.1].toNat % l.length)]'hk0)) (r := some 3) rfl (by simp only [go_sem]) rfl (by simp only [go_sem] <;> rfl) (by simp only [go_sem]) rfl (by simp only [go_sem] <;> rfl) rfl (by simp; omega)) rfl rfl ?_
      simp only [go_sem, List.set]
      refine vops_done [0, 1, 5, 6, 7, 8, 9] ?_
      simp only [go_sem, thenQ, blockQ, jumpQ, stayQ]
      refine vwp_region ?_
      refine vops_go tabOk [30] (by simp only [go_sem]; rfl) (by first | trivial | (simp [hk0]; done) | (simp; omega)) ?_
      -- store(t59, t58) :48
      refine vops_step1 (step_storeArr tabOk (i := 0) (e := 48) (k := 3) (j := (turns[y.1].toNat % l.length)) (xs := (y.2.map cPatch).set 0 (cPatch (y.2[(turns[y.1].toNat % l.length)]'hk0))) (cs := cPatch (y.2[0]'hk1)) (r := some 3) rfl (by simp only [go_sem]) rfl (by simp only [go_sem] <;> rfl) (by simp only [go_sem]) rfl (by simp only [go_sem] <;> rfl) rfl (by simp; omega)) rfl rfl ?_
      simp only [go_sem, List.set]
      refine vops_done [0, 1, 5, 6, 7] ?_
      simp only [go_sem, thenQ, blockQ, jumpQ, stayQ]
      try simp only [thenQ, blockQ, jumpQ, stayQ]
      refine vwp_trim 1 (by simp) (by simp) ?_
      simp only [go_sem]
      refine vwp_reg1 tabOk [30] [0, 1, 5, 6, 7] (by simp only [go_sem]; rfl) (by first | trivial | (simp; done) | (simp [in64]; omega)) ?_
      try simp only [thenQ, blockQ, jumpQ, stayQ]
      -- round 0
      
      exact ⟨(y.1 + 1, swapP y.2 (turns[y.1].toNat % l.length)), ⟨by simp only []; omega, (swapP_perm _ _ hk0).trans hr⟩, by simp only []; omega, (Env.wk_cons (by first | exact Wk.refl _ | exact Wk.nils _ | (refine Wk.eq ?_; simp; done) | (refine Wk.eq ?_; simp [swapP_len]; done) | (refine Wk.eq ?_; congr 1 <;> omega)) (Env.wk_cons (by first | exact Wk.refl _ | exact Wk.nils _ | (refine Wk.eq ?_; simp; done) | (refine Wk.eq ?_; simp [swapP_len]; done) | (refine Wk.eq ?_; congr 1 <;> omega)) (Env.wk_cons (by first | exact Wk.refl _ | exact Wk.nils _ | (refine Wk.eq ?_; simp; done) | (refine Wk.eq ?_; simp [swapP_len]; done) | (refine Wk.eq ?_; congr 1 <;> omega)) (Env.wk_cons (by first | exact Wk.refl _ | exact Wk.nils _ | (refine Wk.eq ?_; simp; done) | (refine Wk.eq ?_; simp [swapP_len]; done) | (refine Wk.eq ?_; congr 1 <;> omega)) (Env.wk_cons (by first | exact Wk.refl _ | exact Wk.nils _ | (refine Wk.eq ?_; simp; done) | (refine Wk.eq ?_; simp [swapP_len]; done) | (refine Wk.eq ?_; congr 1 <;> omega)) (Env.wk_nil _)))))), by simp [swapP, List.map_set, List.getD, hk0, hk1, cPatch]⟩
    · -- h1 else
      have hle := hr.length_eq
      refine vwp_exit ?_
      simp only [thenQ, blockQ, jumpQ, stayQ, if_true, reduceIte, Nat.reduceEqDiff]
      refine vwp_seq (vwp_region ?_)
      refine vops_go tabOk [30] (by simp only [go_sem]; rfl) (by first | trivial | (simp; done) | (simp [in64]; omega)) ?_
      -- call 2: t62 = CALL 13(f13, t61)
      refine vops_call (hc := fun _ => c_codec_PutBundle l g4) rfl (by simp only [go_sem]; rfl) rfl b_codec_PutBundle (by simp only [go_sem]; exact WkL.refl _) rfl (fun hg => by simp only [go_sem]; try (intros; first | assumption | trivial | simp_all)) ?_
      simp only [go_sem]
      refine vops_go tabOk [30] (by simp only [go_sem]; rfl) (by first | trivial | (simp; done) | (simp [in64]; omega)) ?_
      refine vops_done [5, 6, 10, 11] ?_
      simp only [go_sem, thenQ, blockQ, jumpQ, stayQ]
      refine vwp_seq (vwp_region ?_)
      refine vops_go tabOk [30] (by simp only [go_sem]; rfl) (by first | trivial | (simp; done) | (simp [in64]; omega)) ?_
      -- call 3: t67 = CALL 13(f13, t66)
      refine vops_freeze 0 48 3 _ rfl ?_
      simp only [go_sem]
      refine vops_call (hc := fun _ => c_codec_PutBundle y.2 (fun p hp => g4 p (hr.mem_iff.1 hp))) rfl (by simp only [go_sem]; rfl) rfl b_codec_PutBundle (by simp only [go_sem]; exact ⟨Wk.eq (by rw [List.take_of_length_le (by simp)]), trivial⟩) rfl (fun hg => by simp only [go_sem]; try (intros; first | assumption | trivial | simp_all)) ?_
      simp only [go_sem]
      refine vops_go tabOk [30] (by simp only [go_sem]; rfl) (by first | trivial | (simp; done) | (simp [in64]; omega)) ?_
      refine vops_done [5, 6, 10, 11, 12, 13] ?_
      simp only [go_sem, thenQ, blockQ, jumpQ, stayQ]
      refine vwp_seq (vwp_region ?_)
      refine vops_go tabOk [30] (by simp only [go_sem]; rfl) (by first | trivial | (simp; done) | (simp [in64]; omega)) ?_
      -- call 4: t73 = CALL 13(f13, t72)
      refine vops_call (hc := fun _ => c_codec_PutBundle (y.2.drop 1) (fun p hp => g4 p (hr.mem_iff.1 (List.mem_of_mem_drop hp)))) rfl (by simp only [go_sem]; rfl) rfl b_codec_PutBundle (by simp only [go_sem]; exact ⟨Wk.eq (by rw [List.take_of_length_le (by simp)]; simp [List.map_drop]), trivial⟩) rfl (fun hg => by simp only [go_sem]; try (intros; first | assumption | trivial | simp_all)) ?_
      simp only [go_sem]
      refine vops_go tabOk [30] (by simp only [go_sem]; rfl) (by first | trivial | (simp; done) | (simp [in64]; omega)) ?_
      refine vops_done [5, 10, 11, 12, 13, 14, 15] ?_
      simp only [go_sem, thenQ, blockQ, jumpQ, stayQ]
      refine vwp_reg tabOk [30] [4] (by simp only [go_sem]; rfl) (by first | trivial | (simp; done) | (simp [in64]; omega)) ?_
      refine vwp_ret ?_
      -- result 1
      simp only [thenQ, blockQ, jumpQ, stayQ, RetQ, go_sem]
      refine ⟨by simp, Wk.eq ?_⟩
      rw [putBun_perm hr]
      rcases order_ok hr (by omega) with h | ⟨h, h'⟩
      · simp [h]
      · rw [h, show decide (((putBunR (y.2.drop 1)).1.length : Int) < ((putBunR l).1.length : Int)) = true from decide_eq_true (by omega)]; simp
end Go.Proofs.YtldfghgjllaljaaGreatDoor.Q
end

section
/- The laws on codec: what the form hands to a call, read in the logic 'Q'. -/
set_option linter.unusedVariables false
set_option linter.unusedSimpArgs false
set_option maxRecDepth 100000
namespace Go.Proofs.YtldfghgjllaljaaGreatDoor.Q
open Go Go.Q
open Go.RowKit (Below)

theorem relL1 {F : Nat → Prop} {ρ : List Value} {w : World} {v : V} {u : Value} {vs : List V} {us : List Value} (h : RelL F ρ w [v] [u]) (k : RelL F ρ w vs us) : RelL F ρ w (v :: vs) (u :: us) := by
  simp only [RelL] at h
  obtain ⟨_, _, e, h1, h2⟩ := h
  cases e
  simp only [RelL]
  exact ⟨_, _, rfl, h1, k⟩
theorem rel1 {F : Nat → Prop} {ρ : List Value} {w : World} {v : V} {u : Value} (h : RelL F ρ w [v] [u]) : Rel F ρ w v u := by
  simp only [RelL] at h
  obtain ⟨_, _, e, h1, h2⟩ := h
  cases e
  exact h1

section
variable {H : Type} {enc : TypeId × Value → H} {w : World}

abbrev Trods (enc : TypeId × Value → H) (w : World) (n : Nat) (t : TypeId) (cs : List Value) (y : DataW H × List MemPlace) : Prop := DataW.trod enc Go.Proofs.Tryz.prog w 0 (fun _ => true) true n t cs = some y

theorem cells9 : Go.Proofs.Tryz.prog.cellsOf 9 = 1 := by kernel_rfl
theorem cells5 : Go.Proofs.Tryz.prog.cellsOf 5 = 1 := by kernel_rfl
theorem cells86 : Go.Proofs.Tryz.prog.cellsOf 86 = 7 := by kernel_rfl
theorem cells48 : Go.Proofs.Tryz.prog.cellsOf 48 = 3 := by kernel_rfl
theorem cells26 : Go.Proofs.Tryz.prog.cellsOf 26 = 5 := by kernel_rfl

theorem wf64 {n : Int} (h : (Lit.int .i64 n).wf = true) : in64 n := by
  simp only [Lit.wf, IntKind.min, IntKind.max, IntKind.signed, IntKind.bits, Bool.and_eq_true, decide_eq_true_eq] at h
  simp [in64]
  simp at h
  omega

theorem rd_strs {n : Nat} {cs : List Value} {y : DataW H × List MemPlace} (h : Trods enc w n 22 cs y) (hs : small Go.Proofs.Tryz.prog 22 y.1) : ∃ l : List Str, RelL (allF w) [] w [.list 1 (l.map cS)] cs ∧ ∀ u ∈ cs, u.oneCell' = true := by
  obtain ⟨l, h1, h2, _⟩ := rd_list (φ := fun _ => True) cS (k := 1) (fun _ => rfl) (by decide) Tryz.underlying22 cells9 (of_decide_eq_true (by kernel_rfl)) (fun n cs y h hs => by
    obtain ⟨s, h1, h2⟩ := rd_str Tryz.underlying9 h hs
    exact ⟨s, h1, h2, trivial⟩) h hs
  exact ⟨l, h1, h2⟩

theorem rd_bytes {n : Nat} {cs : List Value} {y : DataW H × List MemPlace} (h : Trods enc w n 27 cs y) (hs : small Go.Proofs.Tryz.prog 27 y.1) : ∃ l : Str, RelL (allF w) [] w [.list 1 (l.map encB)] cs ∧ ∀ u ∈ cs, u.oneCell' = true := by
  obtain ⟨l, h1, h2, _⟩ := rd_list (φ := fun _ => True) encB (k := 1) (fun _ => rfl) (by decide) Tryz.underlying27 cells5 (of_decide_eq_true (by kernel_rfl)) (fun n cs y h hs => by
    obtain ⟨k, h1, h2, hw⟩ := rd_int Tryz.underlying5 h
    have hk : 0 ≤ k ∧ k ≤ 255 := by
      simpa [Lit.wf, IntKind.min, IntKind.max, IntKind.signed, IntKind.bits] using hw
    refine ⟨UInt8.ofNat k.toNat, ?_, h2, trivial⟩
    have e : ((UInt8.ofNat k.toNat).toNat : Int) = k := by
      simp; omega
    simp only [encB, e]
    exact h1) h hs
  exact ⟨l, h1, h2⟩

theorem rd_prim {n : Nat} {cs : List Value} {y : DataW H × List MemPlace} (h : Trods enc w n 86 cs y) (hs : small Go.Proofs.Tryz.prog 86 y.1) :
    ∃ a : Prim, RelL (allF w) [] w (cPrim a) cs ∧ (∀ u ∈ cs, u.oneCell' = true) ∧ in64 a.kind ∧ in64 a.at_ := by
  obtain ⟨hl, hf⟩ := rd_struct Tryz.underlying86 (_root_.Go.Deep.hone_of (by kernel_rfl)) cells86 h hs
  obtain ⟨_, u0, _, e0, t0, s0⟩ := hf 0 _ rfl
  obtain ⟨_, u1, _, e1, t1, s1⟩ := hf 1 _ rfl
  obtain ⟨_, u2, _, e2, t2, s2⟩ := hf 2 _ rfl
  obtain ⟨_, u3, _, e3, t3, s3⟩ := hf 3 _ rfl
  obtain ⟨_, u4, _, e4, t4, s4⟩ := hf 4 _ rfl
  obtain ⟨_, u5, _, e5, t5, s5⟩ := hf 5 _ rfl
  obtain ⟨_, u6, _, e6, t6, s6⟩ := hf 6 _ rfl
  obtain ⟨a0, r0, o0, w0⟩ := rd_int Tryz.underlying3 t0
  obtain ⟨a1, r1, o1⟩ := rd_str Tryz.underlying9 t1 s1
  obtain ⟨a2, r2, o2⟩ := rd_str Tryz.underlying9 t2 s2
  obtain ⟨a3, r3, o3⟩ := rd_str Tryz.underlying9 t3 s3
  obtain ⟨a4, r4, o4, w4⟩ := rd_int Tryz.underlying3 t4
  obtain ⟨a5, r5, o5⟩ := rd_strs t5 s5
  obtain ⟨a6, r6, o6⟩ := rd_strs t6 s6
  have hcs : cs = [u0, u1, u2, u3, u4, u5, u6] := by
    match cs, hl with
    | [x0, x1, x2, x3, x4, x5, x6], _ => simp at e0 e1 e2 e3 e4 e5 e6; simp [e0, e1, e2, e3, e4, e5, e6]
  subst hcs
  refine ⟨⟨a0, a1, a2, a3, a4, a5, a6⟩, relL1 r0 (relL1 r1 (relL1 r2 (relL1 r3 (relL1 r4 (relL1 r5 r6))))), ?_, wf64 w0, wf64 w4⟩
  intro u hu
  simp only [List.mem_cons, List.not_mem_nil, or_false] at hu
  rcases hu with rfl | rfl | rfl | rfl | rfl | rfl | rfl
  · exact o0 _ (by simp)
  · exact o1 _ (by simp)
  · exact o2 _ (by simp)
  · exact o3 _ (by simp)
  · exact o4 _ (by simp)
  · exact o5 _ (by simp)
  · exact o6 _ (by simp)

theorem rd_patch {n : Nat} {cs : List Value} {y : DataW H × List MemPlace} (h : Trods enc w n 48 cs y) (hs : small Go.Proofs.Tryz.prog 48 y.1) :
    ∃ a : Patch, RelL (allF w) [] w (cPatch a) cs ∧ (∀ u ∈ cs, u.oneCell' = true) ∧ fitP a := by
  obtain ⟨hl, hf⟩ := rd_struct Tryz.underlying48 (_root_.Go.Deep.hone_of (by kernel_rfl)) cells48 h hs
  obtain ⟨_, u0, _, e0, t0, s0⟩ := hf 0 _ rfl
  obtain ⟨_, u1, _, e1, t1, s1⟩ := hf 1 _ rfl
  obtain ⟨_, u2, _, e2, t2, s2⟩ := hf 2 _ rfl
  obtain ⟨a0, r0, o0⟩ := rd_str Tryz.underlying9 t0 s0
  obtain ⟨a1, r1, o1⟩ := rd_strs t1 s1
  obtain ⟨a2, r2, o2, f2⟩ := rd_list (φ := fun a : Prim => in64 a.kind ∧ in64 a.at_) cPrim (k := 7) (fun _ => rfl) (by decide) Tryz.underlying46 cells86 (of_decide_eq_true (by kernel_rfl)) (fun n cs y h hs => rd_prim h hs) t2 s2
  have hcs : cs = [u0, u1, u2] := by
    match cs, hl with
    | [x0, x1, x2], _ => simp at e0 e1 e2; simp [e0, e1, e2]
  subst hcs
  refine ⟨⟨a0, a1, a2⟩, relL1 r0 (relL1 r1 r2), ?_, f2⟩
  intro u hu
  simp only [List.mem_cons, List.not_mem_nil, or_false] at hu
  rcases hu with rfl | rfl | rfl
  · exact o0 _ (by simp)
  · exact o1 _ (by simp)
  · exact o2 _ (by simp)

theorem rd_patches {n : Nat} {cs : List Value} {y : DataW H × List MemPlace} (h : Trods enc w n 24 cs y) (hs : small Go.Proofs.Tryz.prog 24 y.1) :
    ∃ l : List Patch, RelL (allF w) [] w [.list 3 (l.map cPatch)] cs ∧ (∀ u ∈ cs, u.oneCell' = true) ∧ ∀ p ∈ l, fitP p :=
  rd_list (φ := fitP) cPatch (k := 3) (fun _ => rfl) (by decide) Tryz.underlying24 cells48 (of_decide_eq_true (by kernel_rfl)) (fun n cs y h hs => rd_patch h hs) h hs

theorem rd_msg {n : Nat} {cs : List Value} {y : DataW H × List MemPlace} (h : Trods enc w n 26 cs y) (hs : small Go.Proofs.Tryz.prog 26 y.1) :
    ∃ a : Msg, RelL (allF w) [] w (cMsg a) cs ∧ (∀ u ∈ cs, u.oneCell' = true) ∧ ∀ p ∈ a.patches, fitP p := by
  obtain ⟨hl, hf⟩ := rd_struct Tryz.underlying26 (_root_.Go.Deep.hone_of (by kernel_rfl)) cells26 h hs
  obtain ⟨_, u0, _, e0, t0, s0⟩ := hf 0 _ rfl
  obtain ⟨_, u1, _, e1, t1, s1⟩ := hf 1 _ rfl
  obtain ⟨_, u2, _, e2, t2, s2⟩ := hf 2 _ rfl
  obtain ⟨_, u3, _, e3, t3, s3⟩ := hf 3 _ rfl
  obtain ⟨_, u4, _, e4, t4, s4⟩ := hf 4 _ rfl
  obtain ⟨a0, r0, o0, _⟩ := rd_int Tryz.underlying3 t0
  obtain ⟨a1, r1, o1⟩ := rd_strs t1 s1
  obtain ⟨a2, r2, o2⟩ := rd_strs t2 s2
  obtain ⟨a3, r3, o3, _⟩ := rd_int Tryz.underlying23 t3
  obtain ⟨a4, r4, o4, f4⟩ := rd_patches t4 s4
  have hcs : cs = [u0, u1, u2, u3, u4] := by
    match cs, hl with
    | [x0, x1, x2, x3, x4], _ => simp at e0 e1 e2 e3 e4; simp [e0, e1, e2, e3, e4]
  subst hcs
  refine ⟨⟨a0, a1, a2, a3, a4⟩, relL1 r0 (relL1 r1 (relL1 r2 (relL1 r3 r4))), ?_, f4⟩
  intro u hu
  simp only [List.mem_cons, List.not_mem_nil, or_false] at hu
  rcases hu with rfl | rfl | rfl | rfl | rfl
  · exact o0 _ (by simp)
  · exact o1 _ (by simp)
  · exact o2 _ (by simp)
  · exact o3 _ (by simp)
  · exact o4 _ (by simp)

/-! One argument, with its value. -/
variable {base : Nat} {v : Value} {d : DataW H} {ps : List MemPlace}
theorem arg_msg (hv : Value.okWide Go.Proofs.Tryz.prog w .any base 26 v) (h : DataW.Trod enc Go.Proofs.Tryz.prog w 0 (fun _ => true) true 26 v d ps) (hs : small Go.Proofs.Tryz.prog 26 d) :
    ∃ a : Msg, Rel (allF w) [] w (.agg (cMsg a)) v ∧ ∀ p ∈ a.patches, fitP p := by
  obtain ⟨cs, rfl, _⟩ := WideShapes.okWide_struct Tryz.underlying26 hv
  obtain ⟨n, hn⟩ := h
  obtain ⟨a, h1, h2, h3⟩ := rd_msg hn hs
  refine ⟨a, ?_, h3⟩
  simp only [Rel]
  exact ⟨cs.toList, by simp, h1, h2⟩
theorem arg_patches (hv : Value.okWide Go.Proofs.Tryz.prog w .any base 24 v) (h : DataW.Trod enc Go.Proofs.Tryz.prog w 0 (fun _ => true) true 24 v d ps) (hs : small Go.Proofs.Tryz.prog 24 d) :
    ∃ l : List Patch, Rel (allF w) [] w (.list 3 (l.map cPatch)) v ∧ ∀ p ∈ l, fitP p := by
  obtain ⟨_, _, _, rfl⟩ := WideShapes.okWide_slice Tryz.underlying24 hv
  obtain ⟨n, hn⟩ := h
  obtain ⟨a, h1, h2, h3⟩ := rd_patches hn hs
  exact ⟨a, rel1 h1, h3⟩
theorem arg_bytes (hv : Value.okWide Go.Proofs.Tryz.prog w .any base 27 v) (h : DataW.Trod enc Go.Proofs.Tryz.prog w 0 (fun _ => true) true 27 v d ps) (hs : small Go.Proofs.Tryz.prog 27 d) :
    ∃ l : Str, Rel (allF w) [] w (.list 1 (l.map encB)) v := by
  obtain ⟨_, _, _, rfl⟩ := WideShapes.okWide_slice Tryz.underlying27 hv
  obtain ⟨n, hn⟩ := h
  obtain ⟨a, h1, h2⟩ := rd_bytes hn hs
  exact ⟨a, rel1 h1⟩
theorem arg_u16 (hv : Value.okWide Go.Proofs.Tryz.prog w .any base 43 v) (h : DataW.Trod enc Go.Proofs.Tryz.prog w 0 (fun _ => true) true 43 v d ps) : ∃ n : Nat, n < 65536 ∧ Rel (allF w) [] w (.int .u16 (n : Int)) v := by
  obtain ⟨k, rfl⟩ := WideShapes.okWide_int Tryz.underlying43 hv
  obtain ⟨n, hn⟩ := h
  obtain ⟨k', h1, _, hw⟩ := rd_int (w := w) Tryz.underlying43 hn
  have := rel1 h1
  simp only [Rel] at this
  cases this
  have hk : 0 ≤ k ∧ k ≤ 65535 := by
    simpa [Lit.wf, IntKind.min, IntKind.max, IntKind.signed, IntKind.bits] using hw
  refine ⟨k.toNat, by omega, ?_⟩
  rw [show ((k.toNat : Nat) : Int) = k by omega]
  simp only [Rel]
theorem arg_u8 (hv : Value.okWide Go.Proofs.Tryz.prog w .any base 5 v) (h : DataW.Trod enc Go.Proofs.Tryz.prog w 0 (fun _ => true) true 5 v d ps) : ∃ n : UInt8, Rel (allF w) [] w (.int .u8 (n.toNat : Int)) v := by
  obtain ⟨k, rfl⟩ := WideShapes.okWide_int Tryz.underlying5 hv
  obtain ⟨n, hn⟩ := h
  obtain ⟨k', h1, _, hw⟩ := rd_int (w := w) Tryz.underlying5 hn
  have := rel1 h1
  simp only [Rel] at this
  cases this
  have hk : 0 ≤ k ∧ k ≤ 255 := by
    simpa [Lit.wf, IntKind.min, IntKind.max, IntKind.signed, IntKind.bits] using hw
  refine ⟨UInt8.ofNat k.toNat, ?_⟩
  have e : ((UInt8.ofNat k.toNat).toNat : Int) = k := by
    simp; omega
  rw [e]
  simp only [Rel]
end
end Go.Proofs.YtldfghgjllaljaaGreatDoor.Q
end

section
/- The laws on codec: from the contract in the logic 'Q' to the form's row. -/
set_option linter.unusedVariables false
set_option linter.unusedSimpArgs false
set_option maxRecDepth 100000
namespace Go.Q
open Go Go.RowKit
theorem trodAll_stays {H : Type} {enc : TypeId × Value → H} {P : Program} (hlo : laidOutB P = true) {W W' : World} (hb : Below W.heap.size W W') : ∀ {ts : List TypeId} {vs : List Value} {ds : List (DataW H)} {ps : List MemPlace},
    (ts.all fun t => P.readableRec t && decide (t < P.types.size)) = true → DataW.TrodAll enc P W 0 (fun _ => true) true ts vs ds ps → (∀ x ∈ ps, x.block < W.heap.size) → DataW.TrodAll enc P W' 0 (fun b => decide (b < W.heap.size)) true ts vs ds ps
  | [], [], [], ps, _, h, _ => h
  | t :: ts, v :: vs, d :: ds, ps, hr, h, hlt => by
    obtain ⟨p, q, h1, h2, rfl⟩ := h
    simp only [List.all_cons, Bool.and_eq_true, decide_eq_true_eq] at hr
    exact ⟨p, q, Below.trod hlo hr.1.1 hr.1.2 h1 hb fun x hx => hlt x (List.mem_append_left _ hx), trodAll_stays hlo hb hr.2 h2 fun x hx => hlt x (List.mem_append_right _ hx), rfl⟩
  | [], _ :: _, _, _, _, h, _ => h.elim
  | [], [], _ :: _, _, _, h, _ => h.elim
  | _ :: _, [], _, _, _, h, _ => h.elim
  | _ :: _, _ :: _, [], _, _, h, _ => h.elim
theorem trodAll_len {H : Type} {enc : TypeId × Value → H} {P : Program} {W : World} {b : Nat} {sp : Nat → Bool} {hd : Bool} : ∀ {ts : List TypeId} {vs : List Value} {ds : List (DataW H)} {ps : List MemPlace}, DataW.TrodAll enc P W b sp hd ts vs ds ps → ds.length = ts.length
  | [], [], [], _, _ => rfl
  | t :: ts, v :: vs, d :: ds, ps, h => by
    obtain ⟨p, q, h1, h2, rfl⟩ := h
    simp [trodAll_len h2]
  | [], _ :: _, _, _, h => h.elim
  | [], [], _ :: _, _, h => h.elim
  | _ :: _, [], _, _, h => h.elim
  | _ :: _, _ :: _, [], _, h => h.elim
theorem weights_more {H : Type} {P : Program} {us : List TypeId} : ∀ {ts : List TypeId} {ds : List (DataW H)}, ds.length = ts.length → DataW.weightsEach P (ts ++ us) ds = DataW.weightsEach P ts ds
  | [], [], _ => by cases us <;> simp [DataW.weightsEach]
  | t :: ts, d :: ds, h => by
    simp only [List.cons_append, DataW.weightsEach]
    rw [weights_more (by simpa using h)]
  | [], _ :: _, h => by simp at h
  | _ :: _, [], h => by simp at h
end Go.Q
namespace Go.Proofs.YtldfghgjllaljaaGreatDoor
open Go Go.ChangeShapes Go.WideShapes Go.RowKit Go.Q

theorem Tryz.own : ownKnob Tryz.prog.godebug = none := by kernel_rfl
theorem Tryz.laidOut : laidOutB Tryz.prog = true := by kernel_rfl

def laidAll : List (String × DataW Unit) := [("math/bits.deBruijn32tab", Rows.laid_math_bits_deBruijn32tab), ("math/bits.deBruijn64tab", Rows.laid_math_bits_deBruijn64tab), ("internal/strconv.uint64pow10", Rows.laid_internal_strconv_uint64pow10), ("unicode/utf8.acceptRanges", Rows.laid_unicode_utf8_acceptRanges), ("unicode/utf8.first", Rows.laid_unicode_utf8_first)]

theorem laid_pow10 {W : World} (hL : laidMetH Tryz.prog laidAll W) : Lib.TabIs Tryz.prog W "internal/strconv.uint64pow10" .u64 Lib.pow10Tab := by
  rw [MakeChecks.laidMetH_plain _ _ _ (by kernel_rfl)] at hL
  have h2 : laidMet Tryz.prog (("internal/strconv.uint64pow10", Lib.tabData .u64 Lib.pow10Tab) :: [("unicode/utf8.acceptRanges", Rows.laid_unicode_utf8_acceptRanges), ("unicode/utf8.first", Rows.laid_unicode_utf8_first)]) W := hL.tail.tail
  exact Lib.tabIs_of_head (g := 1) (t := 144) (e := 117) (n := 20) (by kernel_rfl) (by kernel_rfl) (by kernel_rfl) (by kernel_rfl) (by kernel_rfl) (by kernel_rfl) h2

theorem maxLen_cell {W : World} (hs : W.ShapedOpen Tryz.prog) : ∃ m, W.cell? ⟨0, 0, none⟩ = some (.int .i64 m) := by
  obtain ⟨h1, _⟩ := hs
  obtain ⟨cs, hc, hz, hr⟩ := h1 0 #[.int .i64 0] 3 (of_decide_eq_true (by kernel_rfl)) (by kernel_rfl)
  obtain ⟨ts, ht, _, hok⟩ := hr (by kernel_rfl)
  have ht' : Tryz.prog.cellTypes Tryz.prog.depth 3 = some [3] := by kernel_rfl
  rw [ht'] at ht
  cases ht
  have h0 : 0 < cs.size := by rw [hz]; decide
  obtain ⟨u, hu, hcell⟩ := hok 0 cs[0] (by simp [h0])
  simp at hu
  subst hu
  unfold Cell.ok at hcell
  rw [show Tryz.prog.underlying 3 = some (.int .i64) from Tryz.underlying3] at hcell
  split at hcell
  all_goals first
    | (rename_i k k' n e1 e2; cases e1; obtain ⟨rfl, _⟩ := hcell; refine ⟨n, ?_⟩; simp [World.cell?, hc, h0, e2]; done)
    | (rename_i e1; cases e1; done)
    | (rename_i e1 _; cases e1; done)
    | (exact hcell.elim)
    | skip

theorem base_of {W : World} (hs : W.ShapedOpen Tryz.prog) (hL : laidMetH Tryz.prog laidAll W) : Q.G.G (allF W) W := by
  obtain ⟨m, hm⟩ := maxLen_cell hs
  have hp := laid_pow10 hL
  have h0 : 0 < W.heap.size := by
    unfold World.cell? at hm
    split at hm
    · rename_i h; exact (Array.getElem?_eq_some_iff.1 h).1
    · cases hm
  have hg : Tryz.prog.globalNamed "internal/strconv.uint64pow10" = some 1 := by kernel_rfl
  have h1 : 1 < W.heap.size := by
    unfold Lib.TabIs World.var? at hp
    rw [hg] at hp
    simp only [Option.bind_some] at hp
    split at hp
    · rename_i h; exact (Array.getElem?_eq_some_iff.1 h).1
    · cases hp
  refine ⟨W.heap.size, fun b hb => hb, fun w' hw => ⟨⟨m, ?_⟩, ?_⟩⟩
  · rw [← hm]; exact World.cell?_of_block (hw 0 h0)
  · unfold Lib.TabIs World.var? at hp ⊢
    rw [hg] at hp ⊢
    simp only [Option.bind_some] at hp ⊢
    rw [hw 1 h1]; exact hp

theorem lifted_of {f : FuncId} {fn : Func} {s : ChangeSpec} (hv : s.vars = []) (hfn : Tryz.prog.funcs[f]? = some fn) (noInit : Tryz.checked.prog.inits.idxOf? f = none) (os : Os) (started : os.Started) (H : Type) (enc : TypeId × Value → H)
    (hs : ∀ ds : List (DataW H), ds.length = fn.params.size → s.fn H (ds ++ []) = { results := [.lit (.bool true)], args := ds }) (hrt : fn.resultTypes = #[4]) (hread : (fn.params.toList.all fun t => Tryz.prog.readableRec t && decide (t < Tryz.prog.types.size)) = true)
    (witness : ∃ (w : World) (tape : Tape) (i : Input), w.os = os ∧ (w.forCall tape i).Shaped Tryz.checked.prog ∧ i.vars = [] ∧ Input.okWide Tryz.checked.prog (w.forCall tape i) .any w.heap.size f i ∧
      ((s.pre enc Tryz.checked.prog fn [] false (w.forCall tape i).memory i.args ∧ laidMetH Tryz.prog laidAll (w.forCall tape i).memory) ∧ sizedMet enc Tryz.checked.prog fn (OpenSpec.ofChange s) false (w.forCall tape i).memory i.args) ∧ ({} : Assume).holds Tryz.checked.prog (lone (Frame.enter Tryz.checked.prog f i.args .normal) [] (w.forCall tape i)))
    (walk : ∀ (W : World) (base : Nat) (args : List Value) (ds : List (DataW H)) (p : List MemPlace), (∀ (j : Nat) t v, fn.params.toList[j]? = some t → args[j]? = some v → Value.okWide Tryz.prog W .any base t v) →
      DataW.TrodAll enc Tryz.prog W 0 (fun _ => true) true fn.params.toList args ds p → (DataW.weightsEach Tryz.prog fn.params.toList ds).all (· ≤ reachBytes) = true → ∃ vs, RelL (allF W) [] W vs args ∧ VPure Tryz.prog Q.G f vs (.bool true)) :
    ReturnsInHanded {} Tryz.checked os f .any (fun w args => (s.pre enc Tryz.prog fn [] false w args ∧ laidMetH Tryz.prog laidAll w) ∧ sizedMet enc Tryz.prog fn (OpenSpec.ofChange s) false w args) (s.post enc Tryz.prog fn false true false false) := by
  refine returnsInHanded_of_calls (C := Tryz.checked) Tryz.own started noInit witness ?_
  intro w tape i _ hshape _ hok hpre hholds
  obtain ⟨_, _, _, fn', hfn', _, _, _, _, hval⟩ := hok
  have e : fn' = fn := Option.some.inj (hfn'.symm.trans hfn)
  subst e
  obtain ⟨⟨⟨ds, gs, before, hw, _⟩, hx⟩, hz⟩ := hpre
  have hw' := DataW.Whole.of_heap (w' := w.forCall tape i) (by rfl) hw
  have hzw := hz.weights hw
  have hL : laidMetH Tryz.prog laidAll (w.forCall tape i) := laidMetH.of_heap (by rfl) hx
  have hG := base_of hshape hL
  have hlt := hw'.lt
  have hW := hw'
  obtain ⟨p, q, hA, hV, rfl, _, _⟩ := hw'
  rw [hv] at hV
  obtain ⟨rfl, rfl⟩ : gs = [] ∧ q = [] := by
    cases gs with
    | nil => exact ⟨rfl, hV⟩
    | cons g r => exact absurd hV (by intro h; cases h)
  have hl := trodAll_len hA
  have hwt : (DataW.weightsEach Tryz.prog fn'.params.toList ds).all (· ≤ reachBytes) = true := by
    rw [List.append_nil, weights_more hl] at hzw
    exact hzw
  obtain ⟨vs, hrel, hvp⟩ := walk (w.forCall tape i) w.heap.size i.args.toList ds p (fun j t v h1 h2 => hval j t v (by simpa using h1) (by simpa using h2)) hA hwt
  have hrel' : RelL (allF (w.forCall tape i)) [] (w.forCall tape i) vs i.args.toList := hrel
  refine (hvp _ _ _ hrel' (fun b hb => hb) hG).mono ?_
  rintro e W' ⟨mr, rfl, hmr, hb⟩
  simp only [Rel] at hmr
  subst hmr
  refine ChangeSpec.post_blind ?_
  have hbl := hW
  refine ⟨ds, [], p ++ [], [], p, [], hbl, ?_, ?_, ?_, hb.frame _, fun h => by cases h⟩
  · rw [hs ds (by simpa using hl), hrt]
    exact trodAll_mk1 (shut_bool Tryz.underlying4 _)
  · rw [hs ds (by simpa using hl)]
    exact trodAll_stays Tryz.laidOut hb hread hA fun x hx => hlt x (by simpa using hx)
  · rw [hv, hs ds (by simpa using hl)]
    exact rfl
end Go.Proofs.YtldfghgjllaljaaGreatDoor
end

section
/- The five laws on codec: their rows. -/
set_option linter.unusedVariables false
set_option linter.unusedSimpArgs false
set_option maxRecDepth 100000
namespace Go.Q
open Go
theorem all_cons {H : Type} {enc : TypeId × Value → H} {P : Program} {W : World} {b : Nat} {sp : Nat → Bool} {hd : Bool} {t : TypeId} {ts : List TypeId} {vs : List Value} {ds : List (DataW H)} {ps : List MemPlace} (h : DataW.TrodAll enc P W b sp hd (t :: ts) vs ds ps)
    (hw : (DataW.weightsEach P (t :: ts) ds).all (· ≤ reachBytes) = true) : ∃ v vs' d ds' p q, vs = v :: vs' ∧ ds = d :: ds' ∧ DataW.Trod enc P W b sp hd t v d p ∧ small P t d ∧ DataW.TrodAll enc P W b sp hd ts vs' ds' q ∧ (DataW.weightsEach P ts ds').all (· ≤ reachBytes) = true := by
  match vs, ds, h with
  | v :: vs, d :: ds, h =>
    obtain ⟨p, q, h1, h2, _⟩ := h
    simp only [DataW.weightsEach, List.all_append, Bool.and_eq_true] at hw
    exact ⟨v, vs, d, ds, p, q, rfl, rfl, h1, hw.1, h2, hw.2⟩
theorem all_nil {H : Type} {enc : TypeId × Value → H} {P : Program} {W : World} {b : Nat} {sp : Nat → Bool} {hd : Bool} {vs : List Value} {ds : List (DataW H)} {ps : List MemPlace} (h : DataW.TrodAll enc P W b sp hd [] vs ds ps) : vs = [] := by
  match vs, ds, h with
  | [], [], _ => rfl
theorem relL_mk {F : Nat → Prop} {ρ : List Value} {w : World} {v : V} {u : Value} {vs : List V} {us : List Value} (h : Rel F ρ w v u) (k : RelL F ρ w vs us) : RelL F ρ w (v :: vs) (u :: us) := by
  simp only [RelL]
  exact ⟨_, _, rfl, h, k⟩
end Go.Q
namespace Go.Proofs.YtldfghgjllaljaaGreatDoor
open Go Go.ChangeShapes Go.WideShapes Go.RowKit Go.Q
theorem laid_has {w : World} (h : laidMet Tryz.prog laidAll w) : laidMetH Tryz.prog laidAll w := by
  rw [MakeChecks.laidMetH_plain _ _ _ (by kernel_rfl)]; exact h

theorem codecTells_lifted (os : Os) (started : os.Started) (H : Type) (enc : TypeId × Value → H) :
    ReturnsInHanded {} Tryz.checked os 3 .any (fun w args => (Rows.codecTellsSpec.pre enc Tryz.prog Tryz.f3 [] false w args ∧ laidMetH Tryz.prog laidAll w) ∧ sizedMet enc Tryz.prog Tryz.f3 (OpenSpec.ofChange Rows.codecTellsSpec) false w args) (Rows.codecTellsSpec.post enc Tryz.prog Tryz.f3 false true false false) := by
  refine lifted_of rfl Tryz.func3 (by kernel_rfl) os started H enc ?_ rfl (by kernel_rfl)
    (ChangeSpec.witness_shaped (enc := enc) (C := Tryz.checked) (os := os) (X := fun w _ => laidMetH Tryz.prog laidAll w) false (World.laidAll Tryz.prog os laidAll) #[.agg #[.int .i64 0, .slice none 0 0, .slice none 0 0, .int .i64 0, .slice none 0 0], .slice none 0 0, .slice none 0 0] 8 (World.laidAll_os _ _ _)
      (World.shaped_of_ZipB (by kernel_rfl) (by kernel_rfl)) (by kernel_rfl) (by kernel_rfl) (by kernel_rfl) (laid_has (laidMet_laidAll _ (by kernel_rfl) (by kernel_rfl)))) ?_
  · intro ds h
    have h' : ds.length = 3 := h
    match ds, h' with
    | [d0, d1, d2], _ => rfl
  · intro W base args ds p hval hA hw
    have hpar : Tryz.f3.params.toList = [26, 24, 27] := rfl
    rw [hpar] at hval hA hw
    obtain ⟨v0, args, e0, ds, p0, q0, rfl, rfl, t0, s0, hA, hw⟩ := all_cons hA hw
    obtain ⟨v1, args, e1, ds, p1, q1, rfl, rfl, t1, s1, hA, hw⟩ := all_cons hA hw
    obtain ⟨v2, args, e2, ds, p2, q2, rfl, rfl, t2, s2, hA, hw⟩ := all_cons hA hw
    obtain rfl := all_nil hA
    obtain ⟨a0, r0, f0⟩ := Q.arg_msg (hval 0 _ v0 rfl rfl) t0 s0
    obtain ⟨a1, r1, f1⟩ := Q.arg_patches (hval 1 _ v1 rfl rfl) t1 s1
    obtain ⟨a2, r2⟩ := Q.arg_bytes (hval 2 _ v2 rfl rfl) t2 s2
    exact ⟨_, (relL_mk r0 (relL_mk r1 (relL_mk r2 (by simp only [RelL])))), Q.c_law17_CodecTells a0 a1 a2 f0 f1⟩

theorem codecTells_said : Rows.CodecTellsSaid :=
  OpenClaim.holds_of_wide 3 Tryz.f3 rfl rfl rfl rfl rfl rfl rfl ⟨rfl, rfl, rfl, rfl, rfl⟩ rfl rfl rfl rfl rfl (by kernel_rfl) Tryz.func3 (by kernel_rfl)
    (of_decide_eq_true (by kernel_rfl)) (by unfold Func.isWrapper; first | (rw [if_pos (by decide +kernel)]; kernel_rfl) | (rw [if_neg (by decide +kernel)]; exact ⟨rfl, rfl⟩))
    (fun os started H enc _ => codecTells_lifted os started H enc)

theorem codecBack_lifted (os : Os) (started : os.Started) (H : Type) (enc : TypeId × Value → H) :
    ReturnsInHanded {} Tryz.checked os 4 .any (fun w args => (Rows.codecBackSpec.pre enc Tryz.prog Tryz.f4 [] false w args ∧ laidMetH Tryz.prog laidAll w) ∧ sizedMet enc Tryz.prog Tryz.f4 (OpenSpec.ofChange Rows.codecBackSpec) false w args) (Rows.codecBackSpec.post enc Tryz.prog Tryz.f4 false true false false) := by
  refine lifted_of rfl Tryz.func4 (by kernel_rfl) os started H enc ?_ rfl (by kernel_rfl)
    (ChangeSpec.witness_shaped (enc := enc) (C := Tryz.checked) (os := os) (X := fun w _ => laidMetH Tryz.prog laidAll w) false (World.laidAll Tryz.prog os laidAll) #[.agg #[.int .i64 0, .slice none 0 0, .slice none 0 0, .int .i64 0, .slice none 0 0], .slice none 0 0] 8 (World.laidAll_os _ _ _)
      (World.shaped_of_ZipB (by kernel_rfl) (by kernel_rfl)) (by kernel_rfl) (by kernel_rfl) (by kernel_rfl) (laid_has (laidMet_laidAll _ (by kernel_rfl) (by kernel_rfl)))) ?_
  · intro ds h
    have h' : ds.length = 2 := h
    match ds, h' with
    | [d0, d1], _ => rfl
  · intro W base args ds p hval hA hw
    have hpar : Tryz.f4.params.toList = [26, 27] := rfl
    rw [hpar] at hval hA hw
    obtain ⟨v0, args, e0, ds, p0, q0, rfl, rfl, t0, s0, hA, hw⟩ := all_cons hA hw
    obtain ⟨v1, args, e1, ds, p1, q1, rfl, rfl, t1, s1, hA, hw⟩ := all_cons hA hw
    obtain rfl := all_nil hA
    obtain ⟨a0, r0, f0⟩ := Q.arg_msg (hval 0 _ v0 rfl rfl) t0 s0
    obtain ⟨a1, r1⟩ := Q.arg_bytes (hval 1 _ v1 rfl rfl) t1 s1
    exact ⟨_, (relL_mk r0 (relL_mk r1 (by simp only [RelL]))), Q.c_law17_CodecBack a0 a1 f0⟩

theorem codecBack_said : Rows.CodecBackSaid :=
  OpenClaim.holds_of_wide 4 Tryz.f4 rfl rfl rfl rfl rfl rfl rfl ⟨rfl, rfl, rfl, rfl, rfl⟩ rfl rfl rfl rfl rfl (by kernel_rfl) Tryz.func4 (by kernel_rfl)
    (of_decide_eq_true (by kernel_rfl)) (by unfold Func.isWrapper; first | (rw [if_pos (by decide +kernel)]; kernel_rfl) | (rw [if_neg (by decide +kernel)]; exact ⟨rfl, rfl⟩))
    (fun os started H enc _ => codecBack_lifted os started H enc)

theorem codecBundles_lifted (os : Os) (started : os.Started) (H : Type) (enc : TypeId × Value → H) :
    ReturnsInHanded {} Tryz.checked os 5 .any (fun w args => (Rows.codecBundlesSpec.pre enc Tryz.prog Tryz.f5 [] false w args ∧ laidMetH Tryz.prog laidAll w) ∧ sizedMet enc Tryz.prog Tryz.f5 (OpenSpec.ofChange Rows.codecBundlesSpec) false w args) (Rows.codecBundlesSpec.post enc Tryz.prog Tryz.f5 false true false false) := by
  refine lifted_of rfl Tryz.func5 (by kernel_rfl) os started H enc ?_ rfl (by kernel_rfl)
    (ChangeSpec.witness_shaped (enc := enc) (C := Tryz.checked) (os := os) (X := fun w _ => laidMetH Tryz.prog laidAll w) false (World.laidAll Tryz.prog os laidAll) #[.slice none 0 0, .slice none 0 0, .int .u16 0, .int .u8 0] 8 (World.laidAll_os _ _ _)
      (World.shaped_of_ZipB (by kernel_rfl) (by kernel_rfl)) (by kernel_rfl) (by kernel_rfl) (by kernel_rfl) (laid_has (laidMet_laidAll _ (by kernel_rfl) (by kernel_rfl)))) ?_
  · intro ds h
    have h' : ds.length = 4 := h
    match ds, h' with
    | [d0, d1, d2, d3], _ => rfl
  · intro W base args ds p hval hA hw
    have hpar : Tryz.f5.params.toList = [24, 27, 43, 5] := rfl
    rw [hpar] at hval hA hw
    obtain ⟨v0, args, e0, ds, p0, q0, rfl, rfl, t0, s0, hA, hw⟩ := all_cons hA hw
    obtain ⟨v1, args, e1, ds, p1, q1, rfl, rfl, t1, s1, hA, hw⟩ := all_cons hA hw
    obtain ⟨v2, args, e2, ds, p2, q2, rfl, rfl, t2, s2, hA, hw⟩ := all_cons hA hw
    obtain ⟨v3, args, e3, ds, p3, q3, rfl, rfl, t3, s3, hA, hw⟩ := all_cons hA hw
    obtain rfl := all_nil hA
    obtain ⟨a0, r0, f0⟩ := Q.arg_patches (hval 0 _ v0 rfl rfl) t0 s0
    obtain ⟨a1, r1⟩ := Q.arg_bytes (hval 1 _ v1 rfl rfl) t1 s1
    obtain ⟨a2, f2, r2⟩ := Q.arg_u16 (hval 2 _ v2 rfl rfl) t2
    obtain ⟨a3, r3⟩ := Q.arg_u8 (hval 3 _ v3 rfl rfl) t3
    exact ⟨_, (relL_mk r0 (relL_mk r1 (relL_mk r2 (relL_mk r3 (by simp only [RelL]))))), Q.c_law17_CodecBundles a0 a1 a2 a3 f2 f0⟩

theorem codecBundles_said : Rows.CodecBundlesSaid :=
  OpenClaim.holds_of_wide 5 Tryz.f5 rfl rfl rfl rfl rfl rfl rfl ⟨rfl, rfl, rfl, rfl, rfl⟩ rfl rfl rfl rfl rfl (by kernel_rfl) Tryz.func5 (by kernel_rfl)
    (of_decide_eq_true (by kernel_rfl)) (by unfold Func.isWrapper; first | (rw [if_pos (by decide +kernel)]; kernel_rfl) | (rw [if_neg (by decide +kernel)]; exact ⟨rfl, rfl⟩))
    (fun os started H enc _ => codecBundles_lifted os started H enc)

theorem codecCut_lifted (os : Os) (started : os.Started) (H : Type) (enc : TypeId × Value → H) :
    ReturnsInHanded {} Tryz.checked os 6 .any (fun w args => (Rows.codecCutSpec.pre enc Tryz.prog Tryz.f6 [] false w args ∧ laidMetH Tryz.prog laidAll w) ∧ sizedMet enc Tryz.prog Tryz.f6 (OpenSpec.ofChange Rows.codecCutSpec) false w args) (Rows.codecCutSpec.post enc Tryz.prog Tryz.f6 false true false false) := by
  refine lifted_of rfl Tryz.func6 (by kernel_rfl) os started H enc ?_ rfl (by kernel_rfl)
    (ChangeSpec.witness_shaped (enc := enc) (C := Tryz.checked) (os := os) (X := fun w _ => laidMetH Tryz.prog laidAll w) false (World.laidAll Tryz.prog os laidAll) #[.agg #[.int .i64 0, .slice none 0 0, .slice none 0 0, .int .i64 0, .slice none 0 0], .agg #[.int .i64 0, .slice none 0 0, .slice none 0 0, .int .i64 0, .slice none 0 0], .int .u16 0, .int .u8 0] 8 (World.laidAll_os _ _ _)
      (World.shaped_of_ZipB (by kernel_rfl) (by kernel_rfl)) (by kernel_rfl) (by kernel_rfl) (by kernel_rfl) (laid_has (laidMet_laidAll _ (by kernel_rfl) (by kernel_rfl)))) ?_
  · intro ds h
    have h' : ds.length = 4 := h
    match ds, h' with
    | [d0, d1, d2, d3], _ => rfl
  · intro W base args ds p hval hA hw
    have hpar : Tryz.f6.params.toList = [26, 26, 43, 5] := rfl
    rw [hpar] at hval hA hw
    obtain ⟨v0, args, e0, ds, p0, q0, rfl, rfl, t0, s0, hA, hw⟩ := all_cons hA hw
    obtain ⟨v1, args, e1, ds, p1, q1, rfl, rfl, t1, s1, hA, hw⟩ := all_cons hA hw
    obtain ⟨v2, args, e2, ds, p2, q2, rfl, rfl, t2, s2, hA, hw⟩ := all_cons hA hw
    obtain ⟨v3, args, e3, ds, p3, q3, rfl, rfl, t3, s3, hA, hw⟩ := all_cons hA hw
    obtain rfl := all_nil hA
    obtain ⟨a0, r0, f0⟩ := Q.arg_msg (hval 0 _ v0 rfl rfl) t0 s0
    obtain ⟨a1, r1, f1⟩ := Q.arg_msg (hval 1 _ v1 rfl rfl) t1 s1
    obtain ⟨a2, f2, r2⟩ := Q.arg_u16 (hval 2 _ v2 rfl rfl) t2
    obtain ⟨a3, r3⟩ := Q.arg_u8 (hval 3 _ v3 rfl rfl) t3
    exact ⟨_, (relL_mk r0 (relL_mk r1 (relL_mk r2 (relL_mk r3 (by simp only [RelL]))))), Q.c_law17_CodecCut a0 a1 a2 a3 f2 f0 f1⟩

theorem codecCut_said : Rows.CodecCutSaid :=
  OpenClaim.holds_of_wide 6 Tryz.f6 rfl rfl rfl rfl rfl rfl rfl ⟨rfl, rfl, rfl, rfl, rfl⟩ rfl rfl rfl rfl rfl (by kernel_rfl) Tryz.func6 (by kernel_rfl)
    (of_decide_eq_true (by kernel_rfl)) (by unfold Func.isWrapper; first | (rw [if_pos (by decide +kernel)]; kernel_rfl) | (rw [if_neg (by decide +kernel)]; exact ⟨rfl, rfl⟩))
    (fun os started H enc _ => codecCut_lifted os started H enc)

theorem codecOrder_lifted (os : Os) (started : os.Started) (H : Type) (enc : TypeId × Value → H) :
    ReturnsInHanded {} Tryz.checked os 7 .any (fun w args => (Rows.codecOrderSpec.pre enc Tryz.prog Tryz.f7 [] false w args ∧ laidMetH Tryz.prog laidAll w) ∧ sizedMet enc Tryz.prog Tryz.f7 (OpenSpec.ofChange Rows.codecOrderSpec) false w args) (Rows.codecOrderSpec.post enc Tryz.prog Tryz.f7 false true false false) := by
  refine lifted_of rfl Tryz.func7 (by kernel_rfl) os started H enc ?_ rfl (by kernel_rfl)
    (ChangeSpec.witness_shaped (enc := enc) (C := Tryz.checked) (os := os) (X := fun w _ => laidMetH Tryz.prog laidAll w) false (World.laidAll Tryz.prog os laidAll) #[.slice none 0 0, .slice none 0 0] 8 (World.laidAll_os _ _ _)
      (World.shaped_of_ZipB (by kernel_rfl) (by kernel_rfl)) (by kernel_rfl) (by kernel_rfl) (by kernel_rfl) (laid_has (laidMet_laidAll _ (by kernel_rfl) (by kernel_rfl)))) ?_
  · intro ds h
    have h' : ds.length = 2 := h
    match ds, h' with
    | [d0, d1], _ => rfl
  · intro W base args ds p hval hA hw
    have hpar : Tryz.f7.params.toList = [24, 27] := rfl
    rw [hpar] at hval hA hw
    obtain ⟨v0, args, e0, ds, p0, q0, rfl, rfl, t0, s0, hA, hw⟩ := all_cons hA hw
    obtain ⟨v1, args, e1, ds, p1, q1, rfl, rfl, t1, s1, hA, hw⟩ := all_cons hA hw
    obtain rfl := all_nil hA
    obtain ⟨a0, r0, f0⟩ := Q.arg_patches (hval 0 _ v0 rfl rfl) t0 s0
    obtain ⟨a1, r1⟩ := Q.arg_bytes (hval 1 _ v1 rfl rfl) t1 s1
    exact ⟨_, (relL_mk r0 (relL_mk r1 (by simp only [RelL]))), Q.c_law17_CodecOrder a0 a1 f0⟩

theorem codecOrder_said : Rows.CodecOrderSaid :=
  OpenClaim.holds_of_wide 7 Tryz.f7 rfl rfl rfl rfl rfl rfl rfl ⟨rfl, rfl, rfl, rfl, rfl⟩ rfl rfl rfl rfl rfl (by kernel_rfl) Tryz.func7 (by kernel_rfl)
    (of_decide_eq_true (by kernel_rfl)) (by unfold Func.isWrapper; first | (rw [if_pos (by decide +kernel)]; kernel_rfl) | (rw [if_neg (by decide +kernel)]; exact ⟨rfl, rfl⟩))
    (fun os started H enc _ => codecOrder_lifted os started H enc)
end Go.Proofs.YtldfghgjllaljaaGreatDoor
end
