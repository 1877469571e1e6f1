/- Part 4 of our proof: a logic over the model's code, contracts of the functions, and plain laws. -/
import Derived.Test.YtldfghgjllaljaaGreatDoorQ3
import Derived.Test.YtldfghgjllaljaaGreatDoorQ2
import Derived.Shelf.Strconv.AppendUint10
import Derived.Lib.IndexLaws
section
/- Walks of what makes bytes, and of what is too much, in the logic 'Q'. -/
set_option linter.unusedVariables false
set_option linter.unusedSimpArgs false
set_option maxRecDepth 100000
namespace Go.Proofs.YtldfghgjllaljaaGreatDoor.Q
open Go Go.Q

/-! counterpane/counterpaneref13.number -/
theorem b_ref13_number : bodied Go.Proofs.Tryz.prog 74 = true := by rw [bodied, Tryz.func74]; rfl
theorem c_ref13_number (n : Int) (h : in64 n) : VPure Go.Proofs.Tryz.prog G 74 [.int .i64 n] (.str (num n)) := by
  refine vpure_of (ts := [2]) Tryz.func74 rfl (by simp [Tryz.ntmps74]) rfl rfl ?_
  rw [Tryz.ntmps74]
  refine vwp_reg tabOk [] [0] (by simp only [go_sem]; rfl) (by first | trivial | (simp; done) | (simp [in64]; omega)) ?_
  refine vwp_seq (vwp_region ?_)
  refine vops_go tabOk [] (by simp only [go_sem]; rfl) (by first | trivial | (simp; done) | (have := Lib.itoa_length_le n h.1 h.2; simp [maxB]; omega)) ?_
  -- call 0: t4 = CALL 29(f29, t3)
  refine vops_call (hc := fun _ => c_Itoa n h) rfl (by simp only [go_sem]; rfl) rfl b_strconv_Itoa (by simp only [go_sem]; exact WkL.refl _) rfl (fun hg => by simp only [go_sem]; try (intros; first | assumption | trivial | simp_all)) ?_
  simp only [go_sem]
  refine vops_go tabOk [] (by simp only [go_sem]; rfl) (by first | trivial | (simp; done) | (have := Lib.itoa_length_le n h.1 h.2; simp [maxB]; omega)) ?_
  refine vops_done [2] ?_
  simp only [go_sem, thenQ, blockQ, jumpQ, stayQ]
  refine vwp_ret ?_
  -- result 0
  simp only [thenQ, blockQ, jumpQ, stayQ, RetQ, go_sem]
  refine ⟨by simp, Wk.eq ?_⟩
  rfl

/-! counterpane/counterpaneref13.text -/
theorem b_ref13_text : bodied Go.Proofs.Tryz.prog 72 = true := by rw [bodied, Tryz.func72]; rfl
theorem c_ref13_text (s : Str) (h : s.length ≤ 1099511627776) : VPure Go.Proofs.Tryz.prog G 72 [.str s] (.str (txt s)) := by
  refine vpure_of (ts := [2]) Tryz.func72 rfl (by simp [Tryz.ntmps72]) rfl rfl ?_
  rw [Tryz.ntmps72]
  refine vwp_reg tabOk [] [0] (by simp only [go_sem]; rfl) (by first | trivial | (simp; done) | (simp [in64]; omega)) ?_
  refine vwp_seq (vwp_region ?_)
  refine vops_go tabOk [] (by simp only [go_sem]; rfl) (by have := num_len s.length (by simp [in64]; omega); first | trivial | (simp; done) | (simp [maxB]; omega)) ?_
  -- call 0: t5 = CALL 74(f74, t4)
  refine vops_call (hc := fun _ => c_ref13_number s.length (by simp [in64]; omega)) rfl (by simp only [go_sem]; rfl) rfl b_ref13_number (by simp only [go_sem]; exact WkL.refl _) rfl (fun hg => by simp only [go_sem]; try (intros; first | assumption | trivial | simp_all)) ?_
  simp only [go_sem]
  refine vops_go tabOk [] (by simp only [go_sem]; rfl) (by have := num_len s.length (by simp [in64]; omega); first | trivial | (simp; done) | (simp [maxB]; omega)) ?_
  refine vops_done [2] ?_
  simp only [go_sem, thenQ, blockQ, jumpQ, stayQ]
  refine vwp_ret ?_
  -- result 0
  simp only [thenQ, blockQ, jumpQ, stayQ, RetQ, go_sem]
  refine ⟨by simp, Wk.eq ?_⟩
  rfl

/-! counterpane/counterpaneref13.list -/
theorem b_ref13_list : bodied Go.Proofs.Tryz.prog 73 = true := by rw [bodied, Tryz.func73]; rfl
theorem c_ref13_list (l : List Str) (h : (lst l).length ≤ 1099511627776) : VPure Go.Proofs.Tryz.prog G 73 [.list 1 (l.map cS)] (.str (lst l)) := by
  refine vpure_know fun hk => ?_
  simp only [factsL, facts, maxB, List.length_map] at hk
  rw [lst, List.length_append] at h
  refine vpure_of (ts := [2]) Tryz.func73 rfl (by simp [Tryz.ntmps73]) rfl rfl ?_
  rw [Tryz.ntmps73]
  refine vwp_reg tabOk [] [0] (by simp only [go_sem]; rfl) (by first | trivial | (simp; done) | (simp [in64]; omega)) ?_
  refine vwp_seq (vwp_region ?_)
  refine vops_go tabOk [] (by simp only [go_sem]; rfl) (by first | trivial | (simp; done) | (simp [in64]; omega)) ?_
  -- call 0: t7 = CALL 74(f74, t6)
  refine vops_call (hc := fun _ => c_ref13_number l.length (by simp [in64]; omega)) rfl (by simp only [go_sem]; rfl) rfl b_ref13_number (by simp only [go_sem]; exact WkL.refl _) rfl (fun hg => by simp only [go_sem]; try (intros; first | assumption | trivial | simp_all)) ?_
  simp only [go_sem]
  refine vops_go tabOk [] (by simp only [go_sem]; rfl) (by first | trivial | (simp; done) | (simp [in64]; omega)) ?_
  refine vops_done [0, 3] ?_
  simp only [go_sem, thenQ, blockQ, jumpQ, stayQ]
  refine vwp_seq ?_
  refine vwp_reg tabOk [] [0, 3, 4] (by simp only [go_sem]; rfl) (by first | trivial | (simp; done) | (simp [in64]; omega)) ?_
  refine vwp_block ?_
  -- loop 0
  refine vwp_loopW (fun i : Nat => [(0, .list 1 (l.map cS)), (3, .str (num l.length ++ txts (l.take i))), (4, .int .i64 (i : Int))]) (fun i => []) (fun i => i ≤ l.length) (fun i => l.length - i) 0 (Nat.zero_le _) (Env.wk_cons (Wk.refl _) (Env.wk_cons (Wk.eq (by simp [txts])) (Env.wk_cons (Wk.refl _) (Env.wk_nil _)))) rfl ?_
  rintro i hi
  refine vwp_seq ?_
  refine vwp_reg tabOk [] [0, 3, 4, 11] (by simp only [go_sem]; rfl) (by first | trivial | (simp; done) | (simp [in64]; omega)) ?_
  refine vwp_cond (by simp only [go_sem]; rfl) (fun h0 => ?_) (fun h0 => ?_)
  · -- h0 then
    have h0' : i < l.length := by simp at h0; omega
    have ht := txts_take l i h0'
    have hle := txts_le l (i + 1)
    rw [ht, List.length_append] at hle
    have hli : (l.getD i []).length ≤ (txt (l.getD i [])).length := by rw [txt, List.length_append]; omega
    rw [getD_lt l i [] h0'] at hli
    refine vwp_skip ?_
    try simp only [thenQ, blockQ, jumpQ, stayQ]
    refine vwp_seq ?_
    refine vwp_block ?_
    refine vwp_region ?_
    refine vops_go tabOk [] (by simp only [go_sem]; rfl) (by first | trivial | (simp; omega) | (simp [maxB, getD_lt l i [] h0', h0']; omega)) ?_
    -- call 1: t19 = CALL 72(f72, t18)
    refine vops_call (hc := fun _ => c_ref13_text (l.getD i []) (by rw [getD_lt l i [] h0']; omega)) rfl (by simp only [go_sem]; rfl) rfl b_ref13_text (by simp only [go_sem]; exact WkL.refl _) rfl (fun hg => by simp only [go_sem]; try (intros; first | assumption | trivial | simp_all)) ?_
    simp only [go_sem]
    refine vops_go tabOk [] (by simp only [go_sem]; rfl) (by first | trivial | (simp; omega) | (simp [maxB, getD_lt l i [] h0', h0']; omega)) ?_
    refine vops_done [0, 3, 4] ?_
    simp only [go_sem, thenQ, blockQ, jumpQ, stayQ]
    try simp only [thenQ, blockQ, jumpQ, stayQ]
    refine vwp_reg1 tabOk [] [0, 3, 4] (by simp only [go_sem]; rfl) (by first | trivial | (simp; done) | (simp [in64]; omega)) ?_
    try simp only [thenQ, blockQ, jumpQ, stayQ]
    -- round 0
    exact ⟨i + 1, by omega, by omega, Env.wk_cons (Wk.refl _) (Env.wk_cons (Wk.eq (by rw [txts_take l i h0', getD_lt l i [] h0', List.append_assoc])) (Env.wk_cons (Wk.refl _) (Env.wk_nil _))), by trivial⟩
  · -- h0 else
    refine vwp_exit ?_
    simp only [thenQ, blockQ, jumpQ, stayQ, if_true, reduceIte, Nat.reduceEqDiff]
    refine vwp_reg tabOk [] [2] (by simp only [go_sem]; rfl) (by first | trivial | (simp; done) | (simp [in64]; omega)) ?_
    refine vwp_ret ?_
    -- result 0
    simp only [thenQ, blockQ, jumpQ, stayQ, RetQ, go_sem]
    refine ⟨by simp, Wk.eq ?_⟩
    have : i = l.length := by simp at h0; omega
    subst this; rw [List.take_length, lst]

/-! counterpane/counterpaneref17.text -/
theorem b_ref17_text : bodied Go.Proofs.Tryz.prog 49 = true := by rw [bodied, Tryz.func49]; rfl
theorem c_ref17_text (s : Str) (h : s.length ≤ 1099511627776) : VPure Go.Proofs.Tryz.prog G 49 [.str s] (.str (txt s)) := by
  refine vpure_of (ts := [2]) Tryz.func49 rfl (by simp [Tryz.ntmps49]) rfl rfl ?_
  rw [Tryz.ntmps49]
  refine vwp_reg tabOk [] [0] (by simp only [go_sem]; rfl) (by first | trivial | (simp; done) | (simp [in64]; omega)) ?_
  refine vwp_seq (vwp_region ?_)
  refine vops_go tabOk [] (by simp only [go_sem]; rfl) (by have := Lib.itoa_length_le s.length (by omega) (by omega); first | trivial | (simp; done) | (simp [maxB]; omega)) ?_
  -- call 0: t5 = CALL 29(f29, t4)
  refine vops_call (hc := fun _ => c_Itoa s.length (by simp [in64]; omega)) rfl (by simp only [go_sem]; rfl) rfl b_strconv_Itoa (by simp only [go_sem]; exact WkL.refl _) rfl (fun hg => by simp only [go_sem]; try (intros; first | assumption | trivial | simp_all)) ?_
  simp only [go_sem]
  refine vops_go tabOk [] (by simp only [go_sem]; rfl) (by have := Lib.itoa_length_le s.length (by omega) (by omega); first | trivial | (simp; done) | (simp [maxB]; omega)) ?_
  refine vops_done [2] ?_
  simp only [go_sem, thenQ, blockQ, jumpQ, stayQ]
  refine vwp_ret ?_
  -- result 0
  simp only [thenQ, blockQ, jumpQ, stayQ, RetQ, go_sem]
  refine ⟨by simp, Wk.eq ?_⟩
  rfl

/-! counterpane/counterpaneref17.list -/
theorem b_ref17_list : bodied Go.Proofs.Tryz.prog 30 = true := by rw [bodied, Tryz.func30]; rfl
theorem c_ref17_list (l : List Str) (h : (lst l).length ≤ 1099511627776) : VPure Go.Proofs.Tryz.prog G 30 [.list 1 (l.map cS)] (.str (lst l)) := by
  refine vpure_know fun hk => ?_
  simp only [factsL, facts, maxB, List.length_map] at hk
  rw [lst, List.length_append] at h
  refine vpure_of (ts := [2]) Tryz.func30 rfl (by simp [Tryz.ntmps30]) rfl rfl ?_
  rw [Tryz.ntmps30]
  refine vwp_reg tabOk [] [0] (by simp only [go_sem]; rfl) (by first | trivial | (simp; done) | (simp [in64]; omega)) ?_
  refine vwp_seq (vwp_region ?_)
  refine vops_go tabOk [] (by simp only [go_sem]; rfl) (by have := Lib.itoa_length_le l.length (by omega) (by omega); first | trivial | (simp; done) | (simp [maxB]; omega)) ?_
  -- call 0: t7 = CALL 29(f29, t6)
  refine vops_call (hc := fun _ => c_Itoa l.length (by simp [in64]; omega)) rfl (by simp only [go_sem]; rfl) rfl b_strconv_Itoa (by simp only [go_sem]; exact WkL.refl _) rfl (fun hg => by simp only [go_sem]; try (intros; first | assumption | trivial | simp_all)) ?_
  simp only [go_sem]
  refine vops_go tabOk [] (by simp only [go_sem]; rfl) (by have := Lib.itoa_length_le l.length (by omega) (by omega); first | trivial | (simp; done) | (simp [maxB]; omega)) ?_
  refine vops_done [0, 3] ?_
  simp only [go_sem, thenQ, blockQ, jumpQ, stayQ]
  refine vwp_seq ?_
  refine vwp_reg tabOk [] [0, 3, 4] (by simp only [go_sem]; rfl) (by first | trivial | (simp; done) | (simp [in64]; omega)) ?_
  refine vwp_block ?_
  -- loop 0
  refine vwp_loopW (fun i : Nat => [(0, .list 1 (l.map cS)), (3, .str (num l.length ++ txts (l.take i))), (4, .int .i64 (i : Int))]) (fun i => []) (fun i => i ≤ l.length) (fun i => l.length - i) 0 (Nat.zero_le _) (Env.wk_cons (Wk.refl _) (Env.wk_cons (Wk.eq (by simp [txts, num])) (Env.wk_cons (Wk.refl _) (Env.wk_nil _)))) rfl ?_
  rintro i hi
  refine vwp_seq ?_
  refine vwp_reg tabOk [] [0, 3, 4, 12] (by simp only [go_sem]; rfl) (by first | trivial | (simp; done) | (simp [in64]; omega)) ?_
  refine vwp_cond (by simp only [go_sem]; rfl) (fun h0 => ?_) (fun h0 => ?_)
  · -- h0 then
    have h0' : i < l.length := by simp at h0; omega
    have ht := txts_take l i h0'
    have hle := txts_le l (i + 1)
    rw [ht, List.length_append] at hle
    have hli : (l.getD i []).length ≤ (txt (l.getD i [])).length := by rw [txt, List.length_append]; omega
    rw [getD_lt l i [] h0'] at hli
    refine vwp_skip ?_
    try simp only [thenQ, blockQ, jumpQ, stayQ]
    refine vwp_seq ?_
    refine vwp_block ?_
    refine vwp_region ?_
    refine vops_go tabOk [] (by simp only [go_sem]; rfl) (by first | trivial | (simp; omega) | (simp [maxB, getD_lt l i [] h0', h0']; omega)) ?_
    -- call 1: t20 = CALL 49(f49, t19)
    refine vops_call (hc := fun _ => c_ref17_text (l.getD i []) (by rw [getD_lt l i [] h0']; omega)) rfl (by simp only [go_sem]; rfl) rfl b_ref17_text (by simp only [go_sem]; exact WkL.refl _) rfl (fun hg => by simp only [go_sem]; try (intros; first | assumption | trivial | simp_all)) ?_
    simp only [go_sem]
    refine vops_go tabOk [] (by simp only [go_sem]; rfl) (by first | trivial | (simp; omega) | (simp [maxB, getD_lt l i [] h0', h0']; omega)) ?_
    refine vops_done [0, 3, 4] ?_
    simp only [go_sem, thenQ, blockQ, jumpQ, stayQ]
    try simp only [thenQ, blockQ, jumpQ, stayQ]
    refine vwp_reg1 tabOk [] [0, 3, 4] (by simp only [go_sem]; rfl) (by first | trivial | (simp; done) | (simp [in64]; omega)) ?_
    try simp only [thenQ, blockQ, jumpQ, stayQ]
    -- round 0
    exact ⟨i + 1, by omega, by omega, Env.wk_cons (Wk.refl _) (Env.wk_cons (Wk.eq (by rw [txts_take l i h0', getD_lt l i [] h0', List.append_assoc])) (Env.wk_cons (Wk.refl _) (Env.wk_nil _))), by trivial⟩
  · -- h0 else
    refine vwp_exit ?_
    simp only [thenQ, blockQ, jumpQ, stayQ, if_true, reduceIte, Nat.reduceEqDiff]
    refine vwp_reg tabOk [] [2] (by simp only [go_sem]; rfl) (by first | trivial | (simp; done) | (simp [in64]; omega)) ?_
    refine vwp_ret ?_
    -- result 0
    simp only [thenQ, blockQ, jumpQ, stayQ, RetQ, go_sem]
    refine ⟨by simp, Wk.eq ?_⟩
    have : i = l.length := by simp at h0; omega
    subst this; rw [List.take_length, lst]

/-! counterpane/counterpaneref17.Same -/
theorem b_ref17_Same : bodied Go.Proofs.Tryz.prog 19 = true := by rw [bodied, Tryz.func19]; rfl
theorem c_ref17_Same (x y : Msg) : VPure Go.Proofs.Tryz.prog G 19 [.agg (cMsg x), .agg (cMsg y)] (.bool (decide (x = y))) := by
  refine vpure_of (ts := [4]) Tryz.func19 rfl (by simp [Tryz.ntmps19]) rfl rfl ?_
  rw [Tryz.ntmps19]
  refine vwp_reg tabOk [] [2, 3] (by simp only [go_sem]; rfl) (by first | trivial | (simp; done) | (simp [in64]; omega)) ?_
  refine vwp_seq (vwp_region ?_)
  refine vops_go tabOk [] (by simp only [go_sem]; rfl) (by first | trivial | (simp; done) | (simp [in64]; omega)) ?_
  -- call 0: t15 = CALL 38(f38, t12, t14)  if op5 
  refine vops_call (hc := fun _ => c_ref05_Same x.names y.names) rfl (by simp only [go_sem]; rfl) rfl b_ref05_Same (by simp only [go_sem]; exact WkL.refl _) rfl (fun hg => by simp only [go_sem]; try (intros; first | assumption | trivial | simp_all)) ?_
  simp only [go_sem]
  refine vops_go tabOk [] (by simp only [go_sem]; rfl) (by first | trivial | (simp; done) | (simp [in64]; omega)) ?_
  -- call 1: t22 = CALL 38(f38, t19, t21)  if op12 
  refine vops_call (hc := fun _ => c_ref05_Same x.have_ y.have_) rfl (by simp only [go_sem]; rfl) rfl b_ref05_Same (by simp only [go_sem]; exact WkL.refl _) rfl (fun hg => by simp only [go_sem]; try (intros; first | assumption | trivial | simp_all)) ?_
  simp only [go_sem]
  refine vops_go tabOk [] (by simp only [go_sem]; rfl) (by first | trivial | (simp; done) | (simp [in64]; omega)) ?_
  -- call 2: t36 = CALL 20(f20, t33, t35)  if op26 
  refine vops_call (hc := fun _ => c_ref13_SameList x.patches y.patches) rfl (by simp only [go_sem]; rfl) rfl b_ref13_SameList (by simp only [go_sem]; exact WkL.refl _) rfl (fun hg => by simp only [go_sem]; try (intros; first | assumption | trivial | simp_all)) ?_
  simp only [go_sem]
  refine vops_go tabOk [] (by simp only [go_sem]; rfl) (by first | trivial | (simp; done) | (simp [in64]; omega)) ?_
  refine vops_done [4] ?_
  simp only [go_sem, thenQ, blockQ, jumpQ, stayQ]
  refine vwp_ret ?_
  -- result 0
  simp only [thenQ, blockQ, jumpQ, stayQ, RetQ, go_sem]
  refine ⟨by simp, Wk.eq ?_⟩
  rw [msg_eq]; simp only [Bool.cond_false_right]

/-! counterpane/counterpanelaw08.Great -/
theorem b_law08_Great : bodied Go.Proofs.Tryz.prog 59 = true := by rw [bodied, Tryz.func59]; rfl
theorem c_law08_Great (x : Prim) : VPure Go.Proofs.Tryz.prog G 59 [.agg (cPrim x)] (.bool (greatPrim x)) := by
  refine vpure_know fun hk => ?_
  simp only [factsL, facts, cPrim, maxB, List.length_map] at hk
  have c1 := cap_le x.path.length
  have c2 := cap_le x.to.length
  have c3 := cap_le x.frm.length
  refine vpure_of (ts := [2]) Tryz.func59 rfl (by simp [Tryz.ntmps59]) rfl rfl ?_
  rw [Tryz.ntmps59]
  refine vwp_reg tabOk [] [1] (by simp only [go_sem]; rfl) (by first | trivial | (simp; done) | (simp [in64]; omega)) ?_
  refine vwp_reg tabOk [] [1, 3] (by simp only [go_sem]; rfl) (by first | trivial | (simp; done) | (simp [in64, cap_int]; omega) | (have c1 := cap_le x.path.length; have c2 := cap_le x.to.length; have c3 := cap_le x.frm.length; simp [in64, cap_int]; omega)) ?_
  refine vwp_seq ?_
  refine vwp_reg tabOk [] [1, 3, 4] (by simp only [go_sem]; rfl) (by first | trivial | (simp; done) | (simp [in64]; omega)) ?_
  refine vwp_block ?_
  -- loop 0
  refine vwp_loopW (fun y : Nat × Nat => [(1, .ptr 0 0), (3, .int .i64 (y.1 : Int)), (4, .int .i64 (y.2 : Int))]) (fun y => [.box (cPrim x)]) (fun y => y.2 ≤ x.old.length ∧ y.1 = cap x.path.length + cap x.to.length + cap x.frm.length + x.old.length + x.new.length + capsum (x.old.take y.2) ∧ y.1 ≤ 281474976910656 + 12000 + 4000 * y.2) (fun y => x.old.length - y.2) (cap x.path.length + cap x.to.length + cap x.frm.length + x.old.length + x.new.length, 0) ⟨Nat.zero_le _, by simp [capsum], by simp; omega⟩ (Env.wk_cons (by first | exact Wk.refl _ | exact Wk.nils _ | (refine Wk.eq ?_; simp; done) | (refine Wk.eq ?_; simp [cap_int]; done) | (refine Wk.eq ?_; congr 1 <;> omega)) (Env.wk_cons (by first | exact Wk.refl _ | exact Wk.nils _ | (refine Wk.eq ?_; simp; done) | (refine Wk.eq ?_; simp [cap_int]; done) | (refine Wk.eq ?_; congr 1 <;> omega)) (Env.wk_cons (by first | exact Wk.refl _ | exact Wk.nils _ | (refine Wk.eq ?_; simp; done) | (refine Wk.eq ?_; simp [cap_int]; done) | (refine Wk.eq ?_; congr 1 <;> omega)) (Env.wk_nil _)))) rfl ?_
  rintro y ⟨hi, hv, hb⟩
  refine vwp_seq ?_
  refine vwp_reg tabOk [] [1, 3, 4, 36] (by simp only [go_sem]; rfl) (by first | trivial | (simp; done) | (simp [in64]; omega)) ?_
  refine vwp_cond (by simp only [go_sem]; rfl) (fun h0 => ?_) (fun h0 => ?_)
  · -- h0 then
    have h0' : y.2 < x.old.length := by simp at h0; omega
    refine vwp_skip ?_
    try simp only [thenQ, blockQ, jumpQ, stayQ]
    refine vwp_seq ?_
    refine vwp_block ?_
    refine vwp_reg1 tabOk [] [1, 3, 4] (by simp only [go_sem]; rfl) (by first | trivial | (have c4 := cap_le (x.old.getD y.2 []).length; simp [in64, cap_int, h0', -List.getD_eq_getElem?_getD]; omega)) ?_
    try simp only [thenQ, blockQ, jumpQ, stayQ]
    refine vwp_reg1 tabOk [] [1, 3, 4] (by simp only [go_sem]; rfl) (by first | trivial | (simp; done) | (simp [in64]; omega)) ?_
    try simp only [thenQ, blockQ, jumpQ, stayQ]
    -- round 0
    exact ⟨(y.1 + cap (x.old.getD y.2 []).length, y.2 + 1), ⟨by simp; omega, by simp only []; rw [capsum_take _ _ h0', getD_lt x.old y.2 [] h0']; omega, by have := cap_le (x.old.getD y.2 []).length; simp only []; omega⟩, by simp; omega, (Env.wk_cons (by first | exact Wk.refl _ | exact Wk.nils _ | (refine Wk.eq ?_; simp; done) | (refine Wk.eq ?_; simp [cap_int]; done) | (refine Wk.eq ?_; congr 1 <;> omega)) (Env.wk_cons (by first | exact Wk.refl _ | exact Wk.nils _ | (refine Wk.eq ?_; simp; done) | (refine Wk.eq ?_; simp [cap_int]; done) | (refine Wk.eq ?_; congr 1 <;> omega)) (Env.wk_cons (by first | exact Wk.refl _ | exact Wk.nils _ | (refine Wk.eq ?_; simp; done) | (refine Wk.eq ?_; simp [cap_int]; done) | (refine Wk.eq ?_; congr 1 <;> omega)) (Env.wk_nil _)))), (by first | rfl | trivial)⟩
  · -- h0 else
    refine vwp_exit ?_
    simp only [thenQ, blockQ, jumpQ, stayQ, if_true, reduceIte, Nat.reduceEqDiff]
    refine vwp_seq ?_
    refine vwp_reg tabOk [] [1, 3, 5] (by simp only [go_sem]; rfl) (by first | trivial | (simp; done) | (simp [in64]; omega)) ?_
    refine vwp_block ?_
    -- loop 1
    refine vwp_loopW (fun z : Nat × Nat => [(1, .ptr 0 0), (3, .int .i64 (z.1 : Int)), (5, .int .i64 (z.2 : Int))]) (fun z => [.box (cPrim x)]) (fun z => z.2 ≤ x.new.length ∧ z.1 = y.1 + capsum (x.new.take z.2) ∧ z.1 ≤ y.1 + 4000 * z.2) (fun z => x.new.length - z.2) (y.1, 0) ⟨Nat.zero_le _, by simp [capsum], by simp⟩ (Env.wk_cons (by first | exact Wk.refl _ | exact Wk.nils _ | (refine Wk.eq ?_; simp; done) | (refine Wk.eq ?_; simp [cap_int]; done) | (refine Wk.eq ?_; congr 1 <;> omega)) (Env.wk_cons (by first | exact Wk.refl _ | exact Wk.nils _ | (refine Wk.eq ?_; simp; done) | (refine Wk.eq ?_; simp [cap_int]; done) | (refine Wk.eq ?_; congr 1 <;> omega)) (Env.wk_cons (by first | exact Wk.refl _ | exact Wk.nils _ | (refine Wk.eq ?_; simp; done) | (refine Wk.eq ?_; simp [cap_int]; done) | (refine Wk.eq ?_; congr 1 <;> omega)) (Env.wk_nil _)))) rfl ?_
    rintro z ⟨hi2, hv2, hb2⟩
    refine vwp_seq ?_
    refine vwp_reg tabOk [] [1, 3, 5, 56] (by simp only [go_sem]; rfl) (by first | trivial | (simp; done) | (simp [in64]; omega)) ?_
    refine vwp_cond (by simp only [go_sem]; rfl) (fun h1 => ?_) (fun h1 => ?_)
    · -- h1 then
      have h1' : z.2 < x.new.length := by simp at h1; omega
      refine vwp_skip ?_
      try simp only [thenQ, blockQ, jumpQ, stayQ]
      refine vwp_seq ?_
      refine vwp_block ?_
      refine vwp_reg1 tabOk [] [1, 3, 5] (by simp only [go_sem]; rfl) (by first | trivial | (have c4 := cap_le (x.new.getD z.2 []).length; simp [in64, cap_int, h1', -List.getD_eq_getElem?_getD]; omega)) ?_
      try simp only [thenQ, blockQ, jumpQ, stayQ]
      refine vwp_reg1 tabOk [] [1, 3, 5] (by simp only [go_sem]; rfl) (by first | trivial | (simp; done) | (simp [in64]; omega)) ?_
      try simp only [thenQ, blockQ, jumpQ, stayQ]
      -- round 0
      exact ⟨(z.1 + cap (x.new.getD z.2 []).length, z.2 + 1), ⟨by simp; omega, by simp only []; rw [capsum_take _ _ h1', getD_lt x.new z.2 [] h1']; omega, by have := cap_le (x.new.getD z.2 []).length; simp only []; omega⟩, by simp; omega, (Env.wk_cons (by first | exact Wk.refl _ | exact Wk.nils _ | (refine Wk.eq ?_; simp; done) | (refine Wk.eq ?_; simp [cap_int]; done) | (refine Wk.eq ?_; congr 1 <;> omega)) (Env.wk_cons (by first | exact Wk.refl _ | exact Wk.nils _ | (refine Wk.eq ?_; simp; done) | (refine Wk.eq ?_; simp [cap_int]; done) | (refine Wk.eq ?_; congr 1 <;> omega)) (Env.wk_cons (by first | exact Wk.refl _ | exact Wk.nils _ | (refine Wk.eq ?_; simp; done) | (refine Wk.eq ?_; simp [cap_int]; done) | (refine Wk.eq ?_; congr 1 <;> omega)) (Env.wk_nil _)))), (by first | rfl | trivial)⟩
    · -- h1 else
      refine vwp_exit ?_
      simp only [thenQ, blockQ, jumpQ, stayQ, if_true, reduceIte, Nat.reduceEqDiff]
      refine vwp_reg tabOk [] [2] (by simp only [go_sem]; rfl) (by first | trivial | (simp; done) | (simp [in64]; omega)) ?_
      refine vwp_ret ?_
      -- result 0
      simp only [thenQ, blockQ, jumpQ, stayQ, RetQ, go_sem]
      refine ⟨by simp, Wk.eq ?_⟩
      have e1 : 4000 ≤ y.1 ∨ y.2 = x.old.length := by simp at h0; omega
      have e2 : 4000 ≤ z.1 ∨ z.2 = x.new.length := by simp at h1; omega
      have e3 := capsum_le x.old y.2
      have e4 := capsum_le x.new z.2
      congr 1; rw [greatPrim]; refine decide_eq_decide.2 ?_; unfold primSize
      rcases e1 with e1 | e1 <;> rcases e2 with e2 | e2
      · omega
      · omega
      · rw [e1, List.take_length] at hv; omega
      · rw [e1, List.take_length] at hv; rw [e2, List.take_length] at hv2; omega

/-! counterpane/counterpanelaw08.GreatList -/
theorem b_law08_GreatList : bodied Go.Proofs.Tryz.prog 41 = true := by rw [bodied, Tryz.func41]; rfl
theorem c_law08_GreatList (l : List Prim) : VPure Go.Proofs.Tryz.prog G 41 [.list 7 (l.map cPrim)] (.bool (greatPrims l)) := by
  refine vpure_know fun hk => ?_
  simp only [factsL, facts, maxB, List.length_map] at hk
  refine vpure_of (ts := [2]) Tryz.func41 rfl (by simp [Tryz.ntmps41]) rfl rfl ?_
  rw [Tryz.ntmps41]
  refine vwp_reg tabOk [] [0] (by simp only [go_sem]; rfl) (by first | trivial | (simp; done) | (simp [in64]; omega)) ?_
  refine vwp_seq ?_
  refine vwp_reg tabOk [] [0, 6] (by simp only [go_sem]; rfl) (by first | trivial | (simp; done) | (simp [in64]; omega)) ?_
  refine vwp_cond (by simp only [go_sem]; rfl) (fun h0 => ?_) (fun h0 => ?_)
  · -- h0 then
    refine vwp_reg tabOk [] [2] (by simp only [go_sem]; rfl) (by first | trivial | (simp; done) | (simp [in64]; omega)) ?_
    refine vwp_ret ?_
    -- result 0
    simp only [thenQ, blockQ, jumpQ, stayQ, RetQ, go_sem]
    refine ⟨by simp, Wk.eq ?_⟩
    simp at h0; rw [greatPrims]; congr 1; symm; simp; left; omega
  · -- h0 else
    refine vwp_skip ?_
    try simp only [thenQ, blockQ, jumpQ, stayQ]
    refine vwp_seq ?_
    refine vwp_reg tabOk [] [0, 3] (by simp only [go_sem]; rfl) (by first | trivial | (simp; done) | (simp [in64]; omega)) ?_
    refine vwp_block ?_
    -- loop 0
    refine vwp_loopW (fun i : Nat => [(0, .list 7 (l.map cPrim)), (3, .int .i64 (i : Int))]) (fun i => []) (fun i => i ≤ l.length ∧ (l.take i).any greatPrim = false) (fun i => l.length - i) 0 ⟨Nat.zero_le _, by rfl⟩ (Env.wk_cons (by first | exact Wk.refl _ | exact Wk.nils _ | (refine Wk.eq ?_; simp; done) | (refine Wk.eq ?_; congr 1 <;> omega)) (Env.wk_cons (by first | exact Wk.refl _ | exact Wk.nils _ | (refine Wk.eq ?_; simp; done) | (refine Wk.eq ?_; congr 1 <;> omega)) (Env.wk_nil _))) rfl ?_
    rintro i ⟨hi, hok⟩
    refine vwp_seq ?_
    refine vwp_reg tabOk [] [0, 3, 10] (by simp only [go_sem]; rfl) (by first | trivial | (simp; done) | (simp [in64]; omega)) ?_
    refine vwp_cond (by simp only [go_sem]; rfl) (fun h1 => ?_) (fun h1 => ?_)
    · -- h1 then
      have h1' : i < l.length := by simp at h1; omega
      refine vwp_skip ?_
      try simp only [thenQ, blockQ, jumpQ, stayQ]
      refine vwp_seq ?_
      refine vwp_block ?_
      refine vwp_seq (vwp_region ?_)
      refine vops_go tabOk [] (by simp only [go_sem, getD_map, h1']; rfl) (by first | trivial | (simp [h1']; done) | (simp [h1']; omega)) ?_
      -- call 0: t17 = CALL 59(f59, t16)
      refine vops_call (hc := fun _ => c_law08_Great l[i]) rfl (by simp only [go_sem, getD_map, h1']; rfl) rfl b_law08_Great (by simp only [go_sem]; exact WkL.refl _) rfl (fun hg => by simp only [go_sem]; try (intros; first | assumption | trivial | simp_all)) ?_
      simp only [go_sem]
      refine vops_done [0, 3, 17] ?_
      simp only [go_sem, thenQ, blockQ, jumpQ, stayQ]
      refine vwp_cond (by simp only [go_sem]; rfl) (fun h2 => ?_) (fun h2 => ?_)
      · -- h2 then
        refine vwp_reg tabOk [] [2] (by simp only [go_sem]; rfl) (by first | trivial | (simp; done) | (simp [in64]; omega)) ?_
        refine vwp_ret ?_
        -- result 1
        simp only [thenQ, blockQ, jumpQ, stayQ, RetQ, go_sem]
        refine ⟨by simp, Wk.eq ?_⟩
        rw [greatPrims, any_true _ _ i h1' h2, Bool.or_true]
      · -- h2 else
        refine vwp_skip ?_
        try simp only [thenQ, blockQ, jumpQ, stayQ]
        refine vwp_reg1 tabOk [] [0, 3] (by simp only [go_sem]; rfl) (by first | trivial | (simp; done) | (simp [in64]; omega)) ?_
        try simp only [thenQ, blockQ, jumpQ, stayQ]
        -- round 0
        exact ⟨i + 1, ⟨by omega, by rw [take_any _ _ _ h1', hok, h2]; rfl⟩, by omega, (Env.wk_cons (by first | exact Wk.refl _ | exact Wk.nils _ | (refine Wk.eq ?_; simp; done) | (refine Wk.eq ?_; congr 1 <;> omega)) (Env.wk_cons (by first | exact Wk.refl _ | exact Wk.nils _ | (refine Wk.eq ?_; simp; done) | (refine Wk.eq ?_; congr 1 <;> omega)) (Env.wk_nil _))), (by first | rfl | trivial)⟩
    · -- h1 else
      refine vwp_exit ?_
      simp only [thenQ, blockQ, jumpQ, stayQ, if_true, reduceIte, Nat.reduceEqDiff]
      refine vwp_reg tabOk [] [2] (by simp only [go_sem]; rfl) (by first | trivial | (simp; done) | (simp [in64]; omega)) ?_
      refine vwp_ret ?_
      -- result 2
      simp only [thenQ, blockQ, jumpQ, stayQ, RetQ, go_sem]
      refine ⟨by simp, Wk.eq ?_⟩
      have : i = l.length := by simp at h1; omega
      subst this; rw [List.take_length] at hok; rw [greatPrims, hok]; simp at h0; congr 1; symm; simp; omega

/-! counterpane/counterpanelaw13.Great -/
theorem b_law13_Great : bodied Go.Proofs.Tryz.prog 22 = true := by rw [bodied, Tryz.func22]; rfl
theorem c_law13_Great (x : Patch) : VPure Go.Proofs.Tryz.prog G 22 [.agg (cPatch x)] (.bool (greatPatch x)) := by
  refine vpure_know fun hk => ?_
  simp only [factsL, facts, cPatch, maxB, List.length_map] at hk
  have c1 := cap_le x.name.length
  refine vpure_of (ts := [2]) Tryz.func22 rfl (by simp [Tryz.ntmps22]) rfl rfl ?_
  rw [Tryz.ntmps22]
  refine vwp_reg tabOk [] [1] (by simp only [go_sem]; rfl) (by first | trivial | (simp; done) | (simp [in64]; omega)) ?_
  refine vwp_reg tabOk [] [1, 3] (by simp only [go_sem]; rfl) (by first | trivial | (simp; done) | (simp [in64, cap_int]; omega) | (have c1 := cap_le x.name.length; simp [in64, cap_int]; omega)) ?_
  refine vwp_seq ?_
  refine vwp_reg tabOk [] [1, 3, 4] (by simp only [go_sem]; rfl) (by first | trivial | (simp; done) | (simp [in64]; omega)) ?_
  refine vwp_block ?_
  -- loop 0
  refine vwp_loopW (fun y : Nat × Nat => [(1, .ptr 0 0), (3, .int .i64 (y.1 : Int)), (4, .int .i64 (y.2 : Int))]) (fun y => [.box (cPatch x)]) (fun y => y.2 ≤ x.deps.length ∧ y.1 = cap x.name.length + x.deps.length + capsum (x.deps.take y.2) ∧ y.1 ≤ 281474976910656 + 12000 + 4000 * y.2) (fun y => x.deps.length - y.2) (cap x.name.length + x.deps.length, 0) ⟨Nat.zero_le _, by simp [capsum], by simp; omega⟩ (Env.wk_cons (by first | exact Wk.refl _ | exact Wk.nils _ | (refine Wk.eq ?_; simp; done) | (refine Wk.eq ?_; simp [cap_int]; done) | (refine Wk.eq ?_; congr 1 <;> omega)) (Env.wk_cons (by first | exact Wk.refl _ | exact Wk.nils _ | (refine Wk.eq ?_; simp; done) | (refine Wk.eq ?_; simp [cap_int]; done) | (refine Wk.eq ?_; congr 1 <;> omega)) (Env.wk_cons (by first | exact Wk.refl _ | exact Wk.nils _ | (refine Wk.eq ?_; simp; done) | (refine Wk.eq ?_; simp [cap_int]; done) | (refine Wk.eq ?_; congr 1 <;> omega)) (Env.wk_nil _)))) rfl ?_
  rintro y ⟨hi, hv, hb⟩
  refine vwp_seq ?_
  refine vwp_reg tabOk [] [1, 3, 4, 21] (by simp only [go_sem]; rfl) (by first | trivial | (simp; done) | (simp [in64]; omega)) ?_
  refine vwp_cond (by simp only [go_sem]; rfl) (fun h0 => ?_) (fun h0 => ?_)
  · -- h0 then
    have h0' : y.2 < x.deps.length := by simp at h0; omega
    refine vwp_skip ?_
    try simp only [thenQ, blockQ, jumpQ, stayQ]
    refine vwp_seq ?_
    refine vwp_block ?_
    refine vwp_reg1 tabOk [] [1, 3, 4] (by simp only [go_sem]; rfl) (by first | trivial | (have c4 := cap_le (x.deps.getD y.2 []).length; simp [in64, cap_int, h0', -List.getD_eq_getElem?_getD]; omega)) ?_
    try simp only [thenQ, blockQ, jumpQ, stayQ]
    refine vwp_reg1 tabOk [] [1, 3, 4] (by simp only [go_sem]; rfl) (by first | trivial | (simp; done) | (simp [in64]; omega)) ?_
    try simp only [thenQ, blockQ, jumpQ, stayQ]
    -- round 0
    exact ⟨(y.1 + cap (x.deps.getD y.2 []).length, y.2 + 1), ⟨by simp; omega, by simp only []; rw [capsum_take _ _ h0', getD_lt x.deps y.2 [] h0']; omega, by have := cap_le (x.deps.getD y.2 []).length; simp only []; omega⟩, by simp; omega, (Env.wk_cons (by first | exact Wk.refl _ | exact Wk.nils _ | (refine Wk.eq ?_; simp; done) | (refine Wk.eq ?_; simp [cap_int]; done) | (refine Wk.eq ?_; congr 1 <;> omega)) (Env.wk_cons (by first | exact Wk.refl _ | exact Wk.nils _ | (refine Wk.eq ?_; simp; done) | (refine Wk.eq ?_; simp [cap_int]; done) | (refine Wk.eq ?_; congr 1 <;> omega)) (Env.wk_cons (by first | exact Wk.refl _ | exact Wk.nils _ | (refine Wk.eq ?_; simp; done) | (refine Wk.eq ?_; simp [cap_int]; done) | (refine Wk.eq ?_; congr 1 <;> omega)) (Env.wk_nil _)))), (by first | rfl | trivial)⟩
  · -- h0 else
    refine vwp_exit ?_
    simp only [thenQ, blockQ, jumpQ, stayQ, if_true, reduceIte, Nat.reduceEqDiff]
    refine vwp_seq (vwp_region ?_)
    refine vops_go tabOk [] (by simp only [go_sem]; rfl) (by first | trivial | (simp; done) | (simp [in64]; omega)) ?_
    -- call 0: t38 = CALL 41(f41, t37)  if op2 not
    refine vops_call (hc := fun _ => c_law08_GreatList x.body) rfl (by simp only [go_sem]; rfl) rfl b_law08_GreatList (by simp only [go_sem]; exact WkL.refl _) rfl (fun hg => by simp only [go_sem]; try (intros; first | assumption | trivial | simp_all)) ?_
    simp only [go_sem]
    refine vops_go tabOk [] (by simp only [go_sem]; rfl) (by first | trivial | (simp; done) | (simp [in64]; omega)) ?_
    refine vops_done [2] ?_
    simp only [go_sem, thenQ, blockQ, jumpQ, stayQ]
    refine vwp_ret ?_
    -- result 0
    simp only [thenQ, blockQ, jumpQ, stayQ, RetQ, go_sem]
    refine ⟨by simp, Wk.eq ?_⟩
    have e1 : 4000 ≤ y.1 ∨ y.2 = x.deps.length := by simp at h0; omega
    have e3 := capsum_le x.deps y.2
    have e4 : decide (4000 ≤ patchSize x) = decide (4000 ≤ (y.1 : Int)) := by
      refine decide_eq_decide.2 ?_; unfold patchSize
      rcases e1 with e1 | e1
      · omega
      · rw [e1, List.take_length] at hv; omega
    rw [greatPatch, e4]; simp only [Bool.cond_true_left]

/-! counterpane/counterpanelaw13.GreatList -/
theorem b_law13_GreatList : bodied Go.Proofs.Tryz.prog 10 = true := by rw [bodied, Tryz.func10]; rfl
theorem c_law13_GreatList (l : List Patch) : VPure Go.Proofs.Tryz.prog G 10 [.list 3 (l.map cPatch)] (.bool (greatPatches l)) := by
  refine vpure_know fun hk => ?_
  simp only [factsL, facts, maxB, List.length_map] at hk
  refine vpure_of (ts := [2]) Tryz.func10 rfl (by simp [Tryz.ntmps10]) rfl rfl ?_
  rw [Tryz.ntmps10]
  refine vwp_reg tabOk [] [0] (by simp only [go_sem]; rfl) (by first | trivial | (simp; done) | (simp [in64]; omega)) ?_
  refine vwp_seq ?_
  refine vwp_reg tabOk [] [0, 7] (by simp only [go_sem]; rfl) (by first | trivial | (simp; done) | (simp [in64]; omega)) ?_
  refine vwp_cond (by simp only [go_sem]; rfl) (fun h0 => ?_) (fun h0 => ?_)
  · -- h0 then
    refine vwp_reg tabOk [] [2] (by simp only [go_sem]; rfl) (by first | trivial | (simp; done) | (simp [in64]; omega)) ?_
    refine vwp_ret ?_
    -- result 0
    simp only [thenQ, blockQ, jumpQ, stayQ, RetQ, go_sem]
    refine ⟨by simp, Wk.eq ?_⟩
    simp at h0; rw [greatPatches]; congr 1; symm; simp; left; omega
  · -- h0 else
    refine vwp_skip ?_
    try simp only [thenQ, blockQ, jumpQ, stayQ]
    refine vwp_reg tabOk [] [0, 3] (by simp only [go_sem]; rfl) (by first | trivial | (simp; done) | (simp [in64]; omega)) ?_
    refine vwp_seq ?_
    refine vwp_reg tabOk [] [0, 3, 4] (by simp only [go_sem]; rfl) (by first | trivial | (simp; done) | (simp [in64]; omega)) ?_
    refine vwp_block ?_
    -- loop 0
    refine vwp_loopW (fun y : Nat × Nat => [(0, .list 3 (l.map cPatch)), (3, .int .i64 (y.1 : Int)), (4, .int .i64 (y.2 : Int))]) (fun y => []) (fun y => y.2 ≤ l.length ∧ y.1 = patchTot (l.take y.2) ∧ (l.take y.2).any greatPatch = false ∧ y.1 ≤ 500) (fun y => l.length - y.2) (0, 0) ⟨Nat.zero_le _, by rfl, by rfl, by simp⟩ (Env.wk_cons (by first | exact Wk.refl _ | exact Wk.nils _ | (refine Wk.eq ?_; simp; done) | (refine Wk.eq ?_; congr 1 <;> omega)) (Env.wk_cons (by first | exact Wk.refl _ | exact Wk.nils _ | (refine Wk.eq ?_; simp; done) | (refine Wk.eq ?_; congr 1 <;> omega)) (Env.wk_cons (by first | exact Wk.refl _ | exact Wk.nils _ | (refine Wk.eq ?_; simp; done) | (refine Wk.eq ?_; congr 1 <;> omega)) (Env.wk_nil _)))) rfl ?_
    rintro y ⟨hi, hv, hok, hb⟩
    refine vwp_seq ?_
    refine vwp_reg tabOk [] [0, 3, 4, 11] (by simp only [go_sem]; rfl) (by first | trivial | (simp; done) | (simp [in64]; omega)) ?_
    refine vwp_cond (by simp only [go_sem]; rfl) (fun h1 => ?_) (fun h1 => ?_)
    · -- h1 then
      have h1' : y.2 < l.length := by simp at h1; omega
      have hf := facts_map hk.1.2 l[y.2] (List.getElem_mem h1')
      simp only [cPatch, factsL, facts, maxB, List.length_map] at hf
      refine vwp_skip ?_
      try simp only [thenQ, blockQ, jumpQ, stayQ]
      refine vwp_seq ?_
      refine vwp_block ?_
      -- r7 drawn
      refine vwp_seq (vwp_drawD mixed (by kernel_rfl) (eF := ?_) ?_ [0, 3, 4] rfl ?_)
      rotate_left
      · -- the operations
        refine dall_go tabOk (by simp only [go_sem, getD_map, h1']; rfl) (by first | trivial | (simp [h1']; done) | (simp [h1', in64]; omega)) ?_
        exact dall_nil
      simp only [go_sem, thenQ, blockQ, jumpQ, stayQ]
      refine vwp_seq (vwp_region ?_)
      refine vops_go tabOk [] (by simp only [go_sem, getD_map, h1']; rfl) (by first | trivial | (simp [h1']; done) | (simp [h1', in64]; omega)) ?_
      -- call 0: t34 = CALL 22(f22, t33)
      refine vops_call (hc := fun _ => c_law13_Great l[y.2]) rfl (by simp only [go_sem, getD_map, h1']; rfl) rfl b_law13_Great (by simp only [go_sem]; exact WkL.refl _) rfl (fun hg => by simp only [go_sem]; try (intros; first | assumption | trivial | simp_all)) ?_
      simp only [go_sem]
      refine vops_go tabOk [] (by simp only [go_sem, getD_map, h1']; rfl) (by first | trivial | (simp [h1']; done) | (simp [h1', in64]; omega)) ?_
      refine vops_done [0, 3, 4, 38] ?_
      simp only [go_sem, thenQ, blockQ, jumpQ, stayQ]
      refine vwp_cond (by simp only [go_sem]; rfl) (fun h2 => ?_) (fun h2 => ?_)
      · -- h2 then
        refine vwp_reg tabOk [] [2] (by simp only [go_sem]; rfl) (by first | trivial | (simp; done) | (simp [in64]; omega)) ?_
        refine vwp_ret ?_
        -- result 1
        simp only [thenQ, blockQ, jumpQ, stayQ, RetQ, go_sem]
        refine ⟨by simp, Wk.eq ?_⟩
        rw [greatPatches]; congr 1; symm; simp only [Bool.or_eq_true, decide_eq_true_eq]; right; rw [Bool.cond_true_left, Bool.or_eq_true] at h2; rcases h2 with h2 | h2
        · left; exact any_true _ _ _ h1' h2
        · right; have e1 := patchTot_le l (y.2 + 1); rw [patchTot_take _ _ h1'] at e1; simp at h2; omega
      · -- h2 else
        refine vwp_skip ?_
        try simp only [thenQ, blockQ, jumpQ, stayQ]
        refine vwp_reg1 tabOk [] [0, 3, 4] (by simp only [go_sem]; rfl) (by first | trivial | (simp; done) | (simp [in64]; omega)) ?_
        try simp only [thenQ, blockQ, jumpQ, stayQ]
        -- round 0
        exact ⟨(y.1 + (1 + l[y.2].body.length + l[y.2].deps.length), y.2 + 1), ⟨by simp; omega, by simp only []; rw [patchTot_take _ _ h1', hv], by simp only []; simp at h2; rw [take_any _ _ _ h1', hok, h2.1]; rfl, by simp at h2; simp only []; omega⟩, by simp; omega, (Env.wk_cons (by first | exact Wk.refl _ | exact Wk.nils _ | (refine Wk.eq ?_; simp; done) | (refine Wk.eq ?_; congr 1 <;> omega)) (Env.wk_cons (by first | exact Wk.refl _ | exact Wk.nils _ | (refine Wk.eq ?_; simp; done) | (refine Wk.eq ?_; congr 1 <;> omega)) (Env.wk_cons (by first | exact Wk.refl _ | exact Wk.nils _ | (refine Wk.eq ?_; simp; done) | (refine Wk.eq ?_; congr 1 <;> omega)) (Env.wk_nil _)))), (by first | rfl | trivial)⟩
    · -- h1 else
      refine vwp_exit ?_
      simp only [thenQ, blockQ, jumpQ, stayQ, if_true, reduceIte, Nat.reduceEqDiff]
      refine vwp_reg tabOk [] [2] (by simp only [go_sem]; rfl) (by first | trivial | (simp; done) | (simp [in64]; omega)) ?_
      refine vwp_ret ?_
      -- result 2
      simp only [thenQ, blockQ, jumpQ, stayQ, RetQ, go_sem]
      refine ⟨by simp, Wk.eq ?_⟩
      have : y.2 = l.length := by simp at h1; omega
      rw [this, List.take_length] at hok hv; rw [greatPatches, hok]; simp at h0; congr 1; symm; simp; omega

/-! counterpane/counterpanelaw17.Great -/
theorem b_law17_Great : bodied Go.Proofs.Tryz.prog 9 = true := by rw [bodied, Tryz.func9]; rfl
theorem c_law17_Great (x : Msg) : VPure Go.Proofs.Tryz.prog G 9 [.agg (cMsg x)] (.bool (greatMsg x)) := by
  refine vpure_know fun hk => ?_
  simp only [factsL, facts, cMsg, maxB, List.length_map] at hk
  refine vpure_of (ts := [2]) Tryz.func9 rfl (by simp [Tryz.ntmps9]) rfl rfl ?_
  rw [Tryz.ntmps9]
  refine vwp_reg tabOk [] [1] (by simp only [go_sem]; rfl) (by first | trivial | (simp; done) | (simp [in64]; omega)) ?_
  refine vwp_reg tabOk [] [1, 3] (by simp only [go_sem]; rfl) (by first | trivial | (simp; done) | (simp [in64]; omega)) ?_
  refine vwp_seq ?_
  refine vwp_reg tabOk [] [1, 3, 4] (by simp only [go_sem]; rfl) (by first | trivial | (simp; done) | (simp [in64]; omega)) ?_
  refine vwp_block ?_
  -- loop 0
  refine vwp_loopW (fun y : Nat × Nat => [(1, .ptr 0 0), (3, .int .i64 (y.1 : Int)), (4, .int .i64 (y.2 : Int))]) (fun y => [.box (cMsg x)]) (fun y => y.2 ≤ x.names.length ∧ y.1 = x.names.length + x.have_.length + capsum2 (x.names.take y.2) ∧ y.1 ≤ 281474976910656 + 12000 + 4000 * y.2) (fun y => x.names.length - y.2) (x.names.length + x.have_.length, 0) ⟨Nat.zero_le _, by simp [capsum2], by simp; omega⟩ (Env.wk_cons (by first | exact Wk.refl _ | exact Wk.nils _ | (refine Wk.eq ?_; simp; done) | (refine Wk.eq ?_; simp [cap2_int]; done) | (refine Wk.eq ?_; congr 1 <;> omega)) (Env.wk_cons (by first | exact Wk.refl _ | exact Wk.nils _ | (refine Wk.eq ?_; simp; done) | (refine Wk.eq ?_; simp [cap2_int]; done) | (refine Wk.eq ?_; congr 1 <;> omega)) (Env.wk_cons (by first | exact Wk.refl _ | exact Wk.nils _ | (refine Wk.eq ?_; simp; done) | (refine Wk.eq ?_; simp [cap2_int]; done) | (refine Wk.eq ?_; congr 1 <;> omega)) (Env.wk_nil _)))) rfl ?_
  rintro y ⟨hi, hv, hb⟩
  refine vwp_seq ?_
  refine vwp_reg tabOk [] [1, 3, 4, 21] (by simp only [go_sem]; rfl) (by first | trivial | (simp; done) | (simp [in64]; omega)) ?_
  refine vwp_cond (by simp only [go_sem]; rfl) (fun h0 => ?_) (fun h0 => ?_)
  · -- h0 then
    have h0' : y.2 < x.names.length := by simp at h0; omega
    refine vwp_skip ?_
    try simp only [thenQ, blockQ, jumpQ, stayQ]
    refine vwp_seq ?_
    refine vwp_block ?_
    refine vwp_reg1 tabOk [] [1, 3, 4] (by simp only [go_sem]; rfl) (by first | trivial | (have c4 := cap2_le (x.names.getD y.2 []).length; simp [in64, cap2_int, h0', -List.getD_eq_getElem?_getD]; omega)) ?_
    try simp only [thenQ, blockQ, jumpQ, stayQ]
    refine vwp_reg1 tabOk [] [1, 3, 4] (by simp only [go_sem]; rfl) (by first | trivial | (simp; done) | (simp [in64]; omega)) ?_
    try simp only [thenQ, blockQ, jumpQ, stayQ]
    -- round 0
    exact ⟨(y.1 + cap2 (x.names.getD y.2 []).length, y.2 + 1), ⟨by simp; omega, by simp only []; rw [capsum2_take _ _ h0', getD_lt x.names y.2 [] h0']; omega, by have := cap2_le (x.names.getD y.2 []).length; simp only []; omega⟩, by simp; omega, (Env.wk_cons (by first | exact Wk.refl _ | exact Wk.nils _ | (refine Wk.eq ?_; simp; done) | (refine Wk.eq ?_; simp [cap2_int]; done) | (refine Wk.eq ?_; congr 1 <;> omega)) (Env.wk_cons (by first | exact Wk.refl _ | exact Wk.nils _ | (refine Wk.eq ?_; simp; done) | (refine Wk.eq ?_; simp [cap2_int]; done) | (refine Wk.eq ?_; congr 1 <;> omega)) (Env.wk_cons (by first | exact Wk.refl _ | exact Wk.nils _ | (refine Wk.eq ?_; simp; done) | (refine Wk.eq ?_; simp [cap2_int]; done) | (refine Wk.eq ?_; congr 1 <;> omega)) (Env.wk_nil _)))), (by first | rfl | trivial)⟩
  · -- h0 else
    refine vwp_exit ?_
    simp only [thenQ, blockQ, jumpQ, stayQ, if_true, reduceIte, Nat.reduceEqDiff]
    refine vwp_seq ?_
    refine vwp_reg tabOk [] [1, 3, 5] (by simp only [go_sem]; rfl) (by first | trivial | (simp; done) | (simp [in64]; omega)) ?_
    refine vwp_block ?_
    -- loop 1
    refine vwp_loopW (fun z : Nat × Nat => [(1, .ptr 0 0), (3, .int .i64 (z.1 : Int)), (5, .int .i64 (z.2 : Int))]) (fun z => [.box (cMsg x)]) (fun z => z.2 ≤ x.have_.length ∧ z.1 = y.1 + capsum2 (x.have_.take z.2) ∧ z.1 ≤ y.1 + 4000 * z.2) (fun z => x.have_.length - z.2) (y.1, 0) ⟨Nat.zero_le _, by simp [capsum2], by simp⟩ (Env.wk_cons (by first | exact Wk.refl _ | exact Wk.nils _ | (refine Wk.eq ?_; simp; done) | (refine Wk.eq ?_; simp [cap2_int]; done) | (refine Wk.eq ?_; congr 1 <;> omega)) (Env.wk_cons (by first | exact Wk.refl _ | exact Wk.nils _ | (refine Wk.eq ?_; simp; done) | (refine Wk.eq ?_; simp [cap2_int]; done) | (refine Wk.eq ?_; congr 1 <;> omega)) (Env.wk_cons (by first | exact Wk.refl _ | exact Wk.nils _ | (refine Wk.eq ?_; simp; done) | (refine Wk.eq ?_; simp [cap2_int]; done) | (refine Wk.eq ?_; congr 1 <;> omega)) (Env.wk_nil _)))) rfl ?_
    rintro z ⟨hi2, hv2, hb2⟩
    refine vwp_seq ?_
    refine vwp_reg tabOk [] [1, 3, 5, 41] (by simp only [go_sem]; rfl) (by first | trivial | (simp; done) | (simp [in64]; omega)) ?_
    refine vwp_cond (by simp only [go_sem]; rfl) (fun h1 => ?_) (fun h1 => ?_)
    · -- h1 then
      have h1' : z.2 < x.have_.length := by simp at h1; omega
      refine vwp_skip ?_
      try simp only [thenQ, blockQ, jumpQ, stayQ]
      refine vwp_seq ?_
      refine vwp_block ?_
      refine vwp_reg1 tabOk [] [1, 3, 5] (by simp only [go_sem]; rfl) (by first | trivial | (have c4 := cap2_le (x.have_.getD z.2 []).length; simp [in64, cap2_int, h1', -List.getD_eq_getElem?_getD]; omega)) ?_
      try simp only [thenQ, blockQ, jumpQ, stayQ]
      refine vwp_reg1 tabOk [] [1, 3, 5] (by simp only [go_sem]; rfl) (by first | trivial | (simp; done) | (simp [in64]; omega)) ?_
      try simp only [thenQ, blockQ, jumpQ, stayQ]
      -- round 0
      exact ⟨(z.1 + cap2 (x.have_.getD z.2 []).length, z.2 + 1), ⟨by simp; omega, by simp only []; rw [capsum2_take _ _ h1', getD_lt x.have_ z.2 [] h1']; omega, by have := cap2_le (x.have_.getD z.2 []).length; simp only []; omega⟩, by simp; omega, (Env.wk_cons (by first | exact Wk.refl _ | exact Wk.nils _ | (refine Wk.eq ?_; simp; done) | (refine Wk.eq ?_; simp [cap2_int]; done) | (refine Wk.eq ?_; congr 1 <;> omega)) (Env.wk_cons (by first | exact Wk.refl _ | exact Wk.nils _ | (refine Wk.eq ?_; simp; done) | (refine Wk.eq ?_; simp [cap2_int]; done) | (refine Wk.eq ?_; congr 1 <;> omega)) (Env.wk_cons (by first | exact Wk.refl _ | exact Wk.nils _ | (refine Wk.eq ?_; simp; done) | (refine Wk.eq ?_; simp [cap2_int]; done) | (refine Wk.eq ?_; congr 1 <;> omega)) (Env.wk_nil _)))), (by first | rfl | trivial)⟩
    · -- h1 else
      refine vwp_exit ?_
      simp only [thenQ, blockQ, jumpQ, stayQ, if_true, reduceIte, Nat.reduceEqDiff]
      refine vwp_seq (vwp_region ?_)
      refine vops_go tabOk [] (by simp only [go_sem]; rfl) (by first | trivial | (simp; done) | (simp [in64]; omega)) ?_
      -- call 0: t58 = CALL 10(f10, t57)  if op2 not
      refine vops_call (hc := fun _ => c_law13_GreatList x.patches) rfl (by simp only [go_sem]; rfl) rfl b_law13_GreatList (by simp only [go_sem]; exact WkL.refl _) rfl (fun hg => by simp only [go_sem]; try (intros; first | assumption | trivial | simp_all)) ?_
      simp only [go_sem]
      refine vops_go tabOk [] (by simp only [go_sem]; rfl) (by first | trivial | (simp; done) | (simp [in64]; omega)) ?_
      refine vops_done [2] ?_
      simp only [go_sem, thenQ, blockQ, jumpQ, stayQ]
      refine vwp_ret ?_
      -- result 0
      simp only [thenQ, blockQ, jumpQ, stayQ, RetQ, go_sem]
      refine ⟨by simp, Wk.eq ?_⟩
      have e1 : 2000 ≤ y.1 ∨ y.2 = x.names.length := by simp at h0; omega
      have e2 : 2000 ≤ z.1 ∨ z.2 = x.have_.length := by simp at h1; omega
      have e3 := capsum2_le x.names y.2
      have e4 := capsum2_le x.have_ z.2
      have e5 : decide (2000 ≤ msgSize x) = decide (2000 ≤ (z.1 : Int)) := by
        refine decide_eq_decide.2 ?_; unfold msgSize
        rcases e1 with e1 | e1 <;> rcases e2 with e2 | e2
        · omega
        · omega
        · rw [e1, List.take_length] at hv; omega
        · rw [e1, List.take_length] at hv; rw [e2, List.take_length] at hv2; omega
      rw [greatMsg, e5]; simp only [Bool.cond_true_left]

/-! counterpane/counterpaneref17.labels -/
theorem b_ref17_labels : bodied Go.Proofs.Tryz.prog 47 = true := by rw [bodied, Tryz.func47]; rfl
theorem c_ref17_labels (l : List Str) : VPure Go.Proofs.Tryz.prog G 47 [.list 1 (l.map cS)] (.bool (namesB l)) := by
  refine vpure_know fun hk => ?_
  simp only [factsL, facts, maxB, List.length_map] at hk
  refine vpure_of (ts := [2]) Tryz.func47 rfl (by simp [Tryz.ntmps47]) rfl rfl ?_
  rw [Tryz.ntmps47]
  refine vwp_reg tabOk [] [0] (by simp only [go_sem]; rfl) (by first | trivial | (simp; done) | (simp [in64]; omega)) ?_
  refine vwp_seq ?_
  refine vwp_reg tabOk [] [0, 3] (by simp only [go_sem]; rfl) (by first | trivial | (simp; done) | (simp [in64]; omega)) ?_
  refine vwp_block ?_
  -- loop 0
  refine vwp_loopW (fun i : Nat => [(0, .list 1 (l.map cS)), (3, .int .i64 (i : Int))]) (fun i => []) (fun i => i ≤ l.length ∧ namesB (l.take i) = true) (fun i => l.length - i) 0 ⟨Nat.zero_le _, by rfl⟩ (Env.wk_cons (by first | exact Wk.refl _ | exact Wk.nils _ | (refine Wk.eq ?_; simp; done) | (refine Wk.eq ?_; congr 1 <;> omega)) (Env.wk_cons (by first | exact Wk.refl _ | exact Wk.nils _ | (refine Wk.eq ?_; simp; done) | (refine Wk.eq ?_; congr 1 <;> omega)) (Env.wk_nil _))) rfl ?_
  rintro i ⟨hi, hok⟩
  refine vwp_seq ?_
  refine vwp_reg tabOk [] [0, 3, 7] (by simp only [go_sem]; rfl) (by first | trivial | (simp; done) | (simp [in64]; omega)) ?_
  refine vwp_cond (by simp only [go_sem]; rfl) (fun h0 => ?_) (fun h0 => ?_)
  · -- h0 then
    have h0' : i < l.length := by simp at h0; omega
    refine vwp_skip ?_
    try simp only [thenQ, blockQ, jumpQ, stayQ]
    refine vwp_seq ?_
    refine vwp_block ?_
    -- r4 drawn
    refine vwp_seq (vwp_drawD mixed (by kernel_rfl) (eF := ?_) ?_ [0, 3, 31] rfl ?_)
    rotate_left
    · -- the operations
      refine dall_go tabOk (by simp only [go_sem]; rfl) (by first | (simp [h0']; done) | (simp [h0', in64]; omega) | (simp [h0', in64]; repeat' (first | omega | intro _ | constructor))) ?_
      -- call 0: t14 = CALL 57(f57, t13)
      refine dall_call (hc := fun _ => c_ref13_Label (l.getD i [])) rfl (by simp only [go_sem]; rfl) b_ref13_Label (by simp only [go_sem]; exact WkL.refl _) rfl (fun hg => by simp only [go_sem]; try (intros; first | assumption | trivial | simp_all)) ?_
      simp only [go_sem]
      refine dall_go tabOk (by simp only [go_sem]; rfl) (by first | (simp [h0']; done) | (simp [h0', in64]; omega) | (simp [h0', in64]; repeat' (first | omega | intro _ | constructor))) ?_
      exact dall_nil
    simp only [go_sem, thenQ, blockQ, jumpQ, stayQ]
    refine vwp_cond (by simp only [go_sem]; rfl) (fun h1 => ?_) (fun h1 => ?_)
    · -- h1 then
      refine vwp_reg tabOk [] [2] (by simp only [go_sem]; rfl) (by first | trivial | (simp; done) | (simp [in64]; omega)) ?_
      refine vwp_ret ?_
      -- result 0
      simp only [thenQ, blockQ, jumpQ, stayQ, RetQ, go_sem]
      refine ⟨by simp, Wk.eq ?_⟩
      rw [stepN_go] at h1; rw [namesB_false _ i h0' (by simpa using h1)]
    · -- h1 else
      refine vwp_skip ?_
      try simp only [thenQ, blockQ, jumpQ, stayQ]
      refine vwp_reg1 tabOk [] [0, 3] (by simp only [go_sem]; rfl) (by first | trivial | (simp; done) | (simp [in64]; omega)) ?_
      try simp only [thenQ, blockQ, jumpQ, stayQ]
      -- round 0
      exact ⟨i + 1, ⟨by omega, by rw [namesB_take _ _ h0', hok]; rw [stepN_go] at h1; simpa using h1⟩, by omega, (Env.wk_cons (by first | exact Wk.refl _ | exact Wk.nils _ | (refine Wk.eq ?_; simp; done) | (refine Wk.eq ?_; congr 1 <;> omega)) (Env.wk_cons (by first | exact Wk.refl _ | exact Wk.nils _ | (refine Wk.eq ?_; simp; done) | (refine Wk.eq ?_; congr 1 <;> omega)) (Env.wk_nil _))), (by first | rfl | trivial)⟩
  · -- h0 else
    refine vwp_exit ?_
    simp only [thenQ, blockQ, jumpQ, stayQ, if_true, reduceIte, Nat.reduceEqDiff]
    refine vwp_reg tabOk [] [2] (by simp only [go_sem]; rfl) (by first | trivial | (simp; done) | (simp [in64]; omega)) ?_
    refine vwp_ret ?_
    -- result 1
    simp only [thenQ, blockQ, jumpQ, stayQ, RetQ, go_sem]
    refine ⟨by simp, Wk.eq ?_⟩
    have : i = l.length := by simp at h0; omega
    subst this; rw [List.take_length] at hok; rw [hok]
end Go.Proofs.YtldfghgjllaljaaGreatDoor.Q
end

section
/- Walks of the readers, in the logic 'Q'. -/
set_option linter.unusedVariables false
set_option linter.unusedSimpArgs false
set_option maxRecDepth 100000
namespace Go.Proofs.YtldfghgjllaljaaGreatDoor.Q
open Go Go.Q

/-! (*counterpane/counterpaneref13.Reader).Number -/
theorem b_ref13_Reader_Number : bodied Go.Proofs.Tryz.prog 35 = true := by rw [bodied, Tryz.func35]; rfl
theorem c_ref13_Reader_Number (x : Rd) : VCalls Go.Proofs.Tryz.prog G 35 [.ptr 0 0] [.box (cRd x)] [] (fun r H => r = .int .i64 ((rdNum x).1 : Int) ∧ H = [.box (cRd (rdNum x).2)]) := by
  refine vcalls_know fun hk hK => ?_
  simp only [List.mem_singleton, forall_eq, factsO, cRd, factsL, facts, maxB] at hK
  refine vcalls_of2 tabOk (rs := _) 1 Tryz.func35 rfl (by simp [Tryz.ntmps35]) rfl (by first | (simp; done) | exact Nat.le_refl _) ?_
  rw [Tryz.ntmps35]
  refine vwp_reg tabOk [] [0] (by simp only [go_sem]; rfl) (by first | trivial | (simp; done) | (simp [in64]; omega)) ?_
  refine vwp_reg tabOk [] [0, 3] (by simp only [go_sem]; rfl) (by first | trivial | (simp; done) | (simp [in64]; omega)) ?_
  refine vwp_reg tabOk [] [0, 3, 4] (by simp only [go_sem]; rfl) (by first | trivial | (simp; done) | (simp [in64]; omega)) ?_
  refine vwp_seq ?_
  refine vwp_block ?_
  -- loop 0
  refine vwp_loopW (fun i : Nat => [(0, .ptr 0 0), (3, .int .i64 (i : Int)), (4, .int .i64 (numOf (x.b.take i) : Int))]) (fun i => [.box (cRd x)]) (fun i => i ≤ 11 ∧ i ≤ x.b.length ∧ (x.b.take i).all isD = true) (fun i => 11 - i) 0 ⟨Nat.zero_le _, Nat.zero_le _, by rfl⟩ (Env.wk_cons (by first | exact Wk.refl _ | exact Wk.nils _ | (refine Wk.eq ?_; simp; done) | (refine Wk.eq ?_; congr 1 <;> omega)) (Env.wk_cons (by first | exact Wk.refl _ | exact Wk.nils _ | (refine Wk.eq ?_; simp; done) | (refine Wk.eq ?_; congr 1 <;> omega)) (Env.wk_cons (by first | exact Wk.refl _ | exact Wk.nils _ | (refine Wk.eq ?_; simp; done) | (refine Wk.eq ?_; congr 1 <;> omega)) (Env.wk_nil _)))) rfl ?_
  rintro i ⟨hi, hi2, hok⟩
  refine vwp_seq ?_
  refine vwp_reg tabOk [] [0, 3, 4, 33] (by simp only [go_sem]; rfl) (by first | trivial | (simp; done) | (simp; omega) | (simp; repeat' (first | omega | intro _ | constructor))) ?_
  refine vwp_cond (by simp only [go_sem]; rfl) (fun h0 => ?_) (fun h0 => ?_)
  · -- h0 then
    have h0' : i < x.b.length := by simp at h0; omega
    have hd : isD (x.b.getD i 0) = true := by simp [-List.getD_eq_getElem?_getD] at h0; simp only [isD, decide_eq_true_eq]; omega
    have h11 : i < 11 := by simp at h0; omega
    have hw := wrap_dig _ hd
    have hn := numOf_big x.b i hi2 hi hok
    have h9 : (x.b.getD i 0).toNat - 48 ≤ 9 := by simp only [isD, decide_eq_true_eq] at hd; omega
    refine vwp_skip ?_
    try simp only [thenQ, blockQ, jumpQ, stayQ]
    refine vwp_block ?_
    refine vwp_reg tabOk [] [0, 3, 4] (by simp only [go_sem]; rfl) (by first | trivial | (simp [hw, in64, h0', -List.getD_eq_getElem?_getD]; omega)) ?_
    refine vwp_reg1 tabOk [] [0, 3, 4] (by simp only [go_sem]; rfl) (by first | trivial | (simp; done) | (simp [in64]; omega)) ?_
    try simp only [thenQ, blockQ, jumpQ, stayQ]
    -- round 0
    exact ⟨i + 1, ⟨by omega, by omega, by rw [take_all isD x.b i h0']; rw [hok, Bool.true_and, ← getD_lt x.b i 0 h0']; exact hd⟩, by omega, Env.wk_cons (Wk.refl _) (Env.wk_cons (Wk.refl _) (Env.wk_cons (Wk.eq (by rw [numOf_take x.b i h0', ← getD_lt x.b i 0 h0', hw]; congr 1)) (Env.wk_nil _))), by trivial⟩
  · -- h0 else
    refine vwp_exit ?_
    simp only [thenQ, blockQ, jumpQ, stayQ, if_true, reduceIte, Nat.reduceEqDiff]
    refine vwp_seq ?_
    refine vwp_reg tabOk [] [0, 3, 4, 84] (by simp only [go_sem]; rfl) (by first | trivial | (simp; done) | (simp; omega) | (simp; intro a1 a2 a3 a4; refine ⟨?_, ?_⟩ <;> omega) | (simp; repeat' (first | omega | intro _ | constructor))) ?_
    refine vwp_cond (by simp only [go_sem]; rfl) (fun h1 => ?_) (fun h1 => ?_)
    · -- h1 then
      have hno : numOk x.b x.bad = false := by
        cases hn : numOk x.b x.bad with
        | false => rfl
        | true =>
          exfalso
          simp only [numOk, Bool.and_eq_true, Bool.not_eq_true', decide_eq_true_eq] at hn
          obtain ⟨hb, h2, h3, h4, h5, h6⟩ := hn
          have hi3 : i = lead x.b := by
            have := lead_ge x.b i hi2 hok
            by_cases hi4 : i < 11
            · refine (lead_eq x.b i hi2 hok fun h => ?_).symm
              simp [-List.getD_eq_getElem?_getD, h, hi4] at h0
              rw [getD_lt x.b i 0 h] at h0
              rw [isD, decide_eq_false_iff_not]; omega
            · omega
          subst hi3
          rw [hb] at h1
          simp only [h5, cond_false, cond_true] at h1
          simp [-List.getD_eq_getElem?_getD, u8_48] at h1
          rcases h1 with h1 | h1
          · omega
          · exact h6 ⟨by omega, h1.2⟩
      refine vwp_reg tabOk [] [] (by simp only [go_sem]; rfl) (by first | trivial | (simp; done) | (simp [in64]; omega)) ?_
      refine vwp_reg tabOk [] [2] (by simp only [go_sem]; rfl) (by first | trivial | (simp; done) | (simp [in64]; omega)) ?_
      refine vwp_ret ?_
      -- result 0
      try simp only [thenQ, blockQ, jumpQ, stayQ, go_sem]
      refine ⟨by simp, _, _, rfl, by first | trivial | simp, ?_⟩
      rw [show rdNum x = (0, ⟨x.b, true⟩) from by rw [rdNum, hno]; rfl]
      exact ⟨rfl, rfl⟩
    · -- h1 else
      have hok2 : numOk x.b x.bad = true ∧ lead x.b = i ∧ x.bad = false ∧ i < x.b.length := by
        simp [-List.getD_eq_getElem?_getD, u8_58, u8_48] at h1
        obtain ⟨⟨⟨⟨hb, h2⟩, h3⟩, h5⟩, h6⟩ := h1
        have hlt : i < x.b.length := by omega
        have hl : lead x.b = i := lead_eq x.b i hi2 hok fun h => by rw [getD_lt x.b i 0 h] at h5; rw [h5]; rfl
        refine ⟨?_, hl, hb, hlt⟩
        rw [numOk, hb, hl, Bool.not_false, Bool.true_and, decide_eq_true_eq]
        exact ⟨by omega, hi, hlt, h5, fun h => h6 (by omega) h.2⟩
      obtain ⟨hok2a, hok2b, hok2c, hok2d⟩ := hok2
      refine vwp_skip ?_
      try simp only [thenQ, blockQ, jumpQ, stayQ]
      refine vwp_reg tabOk [] [4] (by simp only [go_sem]; rfl) (by simp [in64]; omega) ?_
      refine vwp_reg tabOk [] [2] (by simp only [go_sem]; rfl) (by first | trivial | (simp; done) | (simp [in64]; omega)) ?_
      refine vwp_ret ?_
      -- result 1
      try simp only [thenQ, blockQ, jumpQ, stayQ, go_sem]
      refine ⟨by simp, _, _, rfl, by first | trivial | simp, ?_⟩
      rw [show rdNum x = (numOf (x.b.take (lead x.b)), ⟨x.b.drop (lead x.b + 1), false⟩) from by rw [rdNum, hok2a]; rfl, hok2b, hok2c]
      exact ⟨rfl, rfl⟩

/-! (*counterpane/counterpaneref13.Reader).Text -/
theorem b_ref13_Reader_Text : bodied Go.Proofs.Tryz.prog 54 = true := by rw [bodied, Tryz.func54]; rfl
theorem c_ref13_Reader_Text (x : Rd) : VCalls Go.Proofs.Tryz.prog G 54 [.ptr 0 0] [.box (cRd x)] [] (fun r H => r = .str (rdTxt x).1 ∧ H = [.box (cRd (rdTxt x).2)]) := by
  refine vcalls_know fun hk hK => ?_
  simp only [List.mem_singleton, forall_eq, factsO, cRd, factsL, facts, maxB] at hK
  refine vcalls_of2 tabOk (rs := _) 1 Tryz.func54 rfl (by simp [Tryz.ntmps54]) rfl (by first | (simp; done) | exact Nat.le_refl _) ?_
  rw [Tryz.ntmps54]
  refine vwp_reg tabOk [] [0] (by simp only [go_sem]; rfl) (by first | trivial | (simp; done) | (simp [in64]; omega)) ?_
  refine vwp_seq (vwp_region ?_)
  refine vops_go tabOk [] (by simp only [go_sem]; rfl) (by first | trivial | (simp; done) | (simp [in64]; omega)) ?_
  -- call 0: t6 = CALL 35(f35, t5)
  refine vops_callH (hc := c_ref13_Reader_Number x) rfl rfl rfl b_ref13_Reader_Number [0] [] [] rfl rfl rfl (by simp only [go_sem]; exact WkL.refl _) (by simp only [go_sem]) ?_
  rintro r0 H0 ⟨rfl, rfl⟩
  simp only [go_sem]
  refine vops_go tabOk [] (by simp only [go_sem]; rfl) (by first | trivial | (simp; done) | (simp [in64]; omega)) ?_
  refine vops_done [0, 3] ?_
  simp only [go_sem, thenQ, blockQ, jumpQ, stayQ]
  refine vwp_seq ?_
  refine vwp_reg tabOk [] [0, 3, 19] (by simp only [go_sem]; rfl) (by first | trivial | (simp; done) | (simp [in64]; omega)) ?_
  refine vwp_cond (by simp only [go_sem]; rfl) (fun h0 => ?_) (fun h0 => ?_)
  · -- h0 then
    have h2 : (rdNum x).2.bad = true ∨ (rdNum x).2.b.length < (rdNum x).1 := by
      rw [Bool.cond_true_left, Bool.or_eq_true, decide_eq_true_eq] at h0; exact h0.imp id fun h => by omega
    refine vwp_reg tabOk [] [] (by simp only [go_sem]; rfl) (by first | trivial | (simp; done) | (simp [in64]; omega)) ?_
    refine vwp_reg tabOk [] [2] (by simp only [go_sem]; rfl) (by first | trivial | (simp; done) | (simp [in64]; omega)) ?_
    refine vwp_ret ?_
    -- result 0
    try simp only [thenQ, blockQ, jumpQ, stayQ, go_sem]
    refine ⟨by simp, _, _, rfl, by first | trivial | simp, ?_⟩
    rw [show rdTxt x = ([], ⟨(rdNum x).2.b, true⟩) from by rw [rdTxt, if_pos h2]]; exact ⟨rfl, rfl⟩
  · -- h0 else
    have h2 : (rdNum x).2.bad = false ∧ (rdNum x).1 ≤ (rdNum x).2.b.length := by
      rw [Bool.cond_true_left, Bool.or_eq_false_iff, decide_eq_false_iff_not] at h0; exact ⟨h0.1, by omega⟩
    refine vwp_skip ?_
    try simp only [thenQ, blockQ, jumpQ, stayQ]
    refine vwp_reg tabOk [] [0, 3, 4] (by simp only [go_sem]; rfl) (by simp; omega) ?_
    refine vwp_reg tabOk [] [4] (by simp only [go_sem]; rfl) (by simp; omega) ?_
    refine vwp_reg tabOk [] [2] (by simp only [go_sem]; rfl) (by first | trivial | (simp; done) | (simp [in64]; omega)) ?_
    refine vwp_ret ?_
    -- result 1
    try simp only [thenQ, blockQ, jumpQ, stayQ, go_sem]
    refine ⟨by simp, _, _, rfl, by first | trivial | simp, ?_⟩
    rw [show rdTxt x = ((rdNum x).2.b.take (rdNum x).1, ⟨(rdNum x).2.b.drop (rdNum x).1, false⟩) from by rw [rdTxt, if_neg (by rw [h2.1]; simp; omega)], h2.1]; exact ⟨rfl, rfl⟩

/-! (*counterpane/counterpaneref13.Reader).List -/
theorem b_ref13_Reader_List : bodied Go.Proofs.Tryz.prog 36 = true := by rw [bodied, Tryz.func36]; rfl
theorem c_ref13_Reader_List (x : Rd) : VCalls Go.Proofs.Tryz.prog G 36 [.ptr 0 0] [.box (cRd x)] [] (fun r H => r = .list 1 ((rdLst x).1.map cS) ∧ H = [.box (cRd (rdLst x).2)]) := by
  refine vcalls_know fun hk hK => ?_
  simp only [List.mem_singleton, forall_eq, factsO, cRd, factsL, facts, maxB] at hK
  have hlt := rdNum_lt x
  refine vcalls_of2 tabOk (rs := _) 1 Tryz.func36 rfl (by simp [Tryz.ntmps36]) rfl (by first | (simp; done) | exact Nat.le_refl _) ?_
  rw [Tryz.ntmps36]
  refine vwp_reg tabOk [] [0] (by simp only [go_sem]; rfl) (by first | trivial | (simp; done) | (simp [in64]; omega)) ?_
  refine vwp_reg tabOk [] [0, 3] (by simp only [go_sem]; rfl) (by first | trivial | (simp; done) | (simp [in64]; omega)) ?_
  refine vwp_seq (vwp_region ?_)
  refine vops_go tabOk [] (by simp only [go_sem]; rfl) (by first | trivial | (simp; done) | (simp [in64]; omega)) ?_
  -- call 0: t8 = CALL 35(f35, t7)
  refine vops_callH (hc := c_ref13_Reader_Number x) rfl rfl rfl b_ref13_Reader_Number [0] [] [] rfl rfl rfl (by simp only [go_sem]; exact WkL.refl _) (by simp only [go_sem]) ?_
  rintro r0 H0 ⟨rfl, rfl⟩
  simp only [go_sem]
  refine vops_go tabOk [] (by simp only [go_sem]; rfl) (by first | trivial | (simp; done) | (simp [in64]; omega)) ?_
  refine vops_done [0, 3, 4] ?_
  simp only [go_sem, thenQ, blockQ, jumpQ, stayQ]
  refine vwp_seq ?_
  refine vwp_reg tabOk [] [0, 3, 4, 5] (by simp only [go_sem]; rfl) (by first | trivial | (simp; done) | (simp [in64]; omega)) ?_
  refine vwp_block ?_
  refine vwp_own 3 9 1 rfl ?_
  refine vwp_keep [0, 3, 4, 5] ?_
  simp only [go_sem]
  -- loop 0
  refine vwp_loopW (fun y : Nat × List Str × Rd => [(0, .ptr 0 0), (3, .arr 1 y.2.1.length), (4, .int .i64 ((rdNum x).1 : Int)), (5, .int .i64 (y.1 : Int))]) (fun y => [.box (cRd y.2.2), .arr 9 1 (y.2.1.map cS)]) (fun y => reading rdTxt (rdNum x).1 (rdNum x).2 y.1 y.2.1 y.2.2) (fun y => (rdNum x).1 - y.1) (0, [], (rdNum x).2) (reading_start _ _ _) (Env.wk_cons (by first | exact Wk.refl _ | exact Wk.nils _ | (refine Wk.eq ?_; simp; done) | (refine Wk.eq ?_; congr 1 <;> omega)) (Env.wk_cons (by first | exact Wk.refl _ | exact Wk.nils _ | (refine Wk.eq ?_; simp; done) | (refine Wk.eq ?_; congr 1 <;> omega)) (Env.wk_cons (by first | exact Wk.refl _ | exact Wk.nils _ | (refine Wk.eq ?_; simp; done) | (refine Wk.eq ?_; congr 1 <;> omega)) (Env.wk_cons (by first | exact Wk.refl _ | exact Wk.nils _ | (refine Wk.eq ?_; simp; done) | (refine Wk.eq ?_; congr 1 <;> omega)) (Env.wk_nil _))))) rfl ?_
  rintro y hr
  refine vwp_seq ?_
  refine vwp_reg tabOk [] [0, 3, 4, 5, 18] (by simp only [go_sem]; rfl) (by first | trivial | (simp; done) | (simp [in64]; omega)) ?_
  refine vwp_cond (by simp only [go_sem]; rfl) (fun h0 => ?_) (fun h0 => ?_)
  · -- h0 then
    have h0' : y.1 < (rdNum x).1 ∧ y.2.2.bad = false := by simp at h0; exact ⟨by omega, h0.2⟩
    have h5 := hr.2.1
    have h6 := hr.1
    refine vwp_skip ?_
    try simp only [thenQ, blockQ, jumpQ, stayQ]
    refine vwp_seq ?_
    refine vwp_block ?_
    refine vwp_seq (vwp_region ?_)
    refine vops_go tabOk [] (by simp only [go_sem]; rfl) (by first | trivial | (simp; done) | (simp [in64]; omega)) ?_
    -- call 1: t22 = CALL 54(f54, t21)
    refine vops_callH (hc := c_ref13_Reader_Text y.2.2) rfl rfl rfl b_ref13_Reader_Text [0] [] [] rfl rfl rfl (by simp only [go_sem]; exact WkL.refl _) (by simp only [go_sem]) ?_
    rintro r1 H1 ⟨rfl, rfl⟩
    simp only [go_sem]
    refine vops_go tabOk [] (by simp only [go_sem]; rfl) (by first | trivial | (simp; done) | (simp [in64]; omega)) ?_
    refine vops_done [0, 3, 4, 5, 6] ?_
    simp only [go_sem, thenQ, blockQ, jumpQ, stayQ]
    refine vwp_reg1 tabOk [] [0, 3, 4, 5] (by simp only [go_sem]; rfl) (by first | trivial | (simp; done) | (simp [in64]; omega)) ?_
    try simp only [thenQ, blockQ, jumpQ, stayQ]
    refine vwp_reg1 tabOk [] [0, 3, 4, 5] (by simp only [go_sem]; rfl) (by first | trivial | (simp; done) | (simp [in64]; omega)) ?_
    try simp only [thenQ, blockQ, jumpQ, stayQ]
    -- round 0
    
    exact ⟨(y.1 + 1, y.2.1 ++ [(rdTxt y.2.2).1], (rdTxt y.2.2).2), reading_step hr h0'.1 h0'.2, by simp; omega, (Env.wk_cons (by first | exact Wk.refl _ | exact Wk.nils _ | (refine Wk.eq ?_; simp; done) | (refine Wk.eq ?_; congr 1 <;> omega)) (Env.wk_cons (by first | exact Wk.refl _ | exact Wk.nils _ | (refine Wk.eq ?_; simp; done) | (refine Wk.eq ?_; congr 1 <;> omega)) (Env.wk_cons (by first | exact Wk.refl _ | exact Wk.nils _ | (refine Wk.eq ?_; simp; done) | (refine Wk.eq ?_; congr 1 <;> omega)) (Env.wk_cons (by first | exact Wk.refl _ | exact Wk.nils _ | (refine Wk.eq ?_; simp; done) | (refine Wk.eq ?_; congr 1 <;> omega)) (Env.wk_nil _))))), by simp [cS, cRd]⟩
  · -- h0 else
    refine vwp_exit ?_
    simp only [thenQ, blockQ, jumpQ, stayQ, if_true, reduceIte, Nat.reduceEqDiff]
    refine vwp_freeze 1 9 1 (y.2.1.map cS) rfl ?_
    simp only [go_sem]
    refine vwp_reg tabOk [] [2] (by simp only [go_sem]; rfl) (by first | trivial | (simp; done) | (simp [in64]; omega)) ?_
    refine vwp_ret ?_
    -- result 0
    try simp only [thenQ, blockQ, jumpQ, stayQ, go_sem]
    refine ⟨by simp, _, _, rfl, by first | trivial | simp, ?_⟩
    have h2 : rdLst x = (y.2.1, y.2.2) := reading_end hr (by have h6 := hr.1; simp at h0; by_cases h7 : y.1 = (rdNum x).1; exact .inl h7; exact .inr (h0 (by omega)))
    rw [h2]; refine ⟨?_, rfl⟩; simp only [go_sem]; rw [List.take_of_length_le (by simp)]
end Go.Proofs.YtldfghgjllaljaaGreatDoor.Q
end

section
/- Walks of what writes and reads patches, in the logic 'Q'. -/
set_option linter.unusedVariables false
set_option linter.unusedSimpArgs false
set_option maxRecDepth 100000
namespace Go.Proofs.YtldfghgjllaljaaGreatDoor.Q
open Go Go.Q

/-! counterpane/counterpaneref13.Put -/
theorem b_ref13_Put : bodied Go.Proofs.Tryz.prog 48 = true := by rw [bodied, Tryz.func48]; rfl
set_option maxHeartbeats 40000000 in
theorem c_ref13_Put (x : Patch) (h : (patchEnc x).length ≤ 1000000000) : VPure Go.Proofs.Tryz.prog G 48 [.agg (cPatch x)] (.tuple [.list 1 ((putPatch x).1.map encB), .int .i64 (putPatch x).2]) := by
  refine vpure_know fun hk => ?_
  simp only [factsL, facts, cPatch, maxB, List.length_map] at hk
  have hB := h
  rw [patchEnc, List.length_append, List.length_append, List.length_append] at hB
  have hn := txt_ge x.name
  refine vpure_of (ts := [2, 3]) Tryz.func48 rfl (by simp [Tryz.ntmps48]) rfl rfl ?_
  rw [Tryz.ntmps48]
  refine vwp_reg tabOk [] [1] (by simp only [go_sem]; rfl) (by first | trivial | (simp; done) | (simp [in64]; omega)) ?_
  refine vwp_seq ?_
  refine vwp_seq (vwp_region ?_)
  refine vops_go tabOk [] (by simp only [go_sem]; rfl) (by first | trivial | (simp; done) | (simp [in64]; omega)) ?_
  -- call 0: t8 = CALL 40(f40, t7)
  refine vops_call (hc := fun _ => c_ref13_Right x) rfl (by simp only [go_sem]; rfl) rfl b_ref13_Right (by simp only [go_sem]; exact WkL.refl _) rfl (fun hg => by simp only [go_sem]; try (intros; first | assumption | trivial | simp_all)) ?_
  simp only [go_sem]
  refine vops_go tabOk [] (by simp only [go_sem]; rfl) (by first | trivial | (simp; done) | (simp [in64]; omega)) ?_
  refine vops_done [1, 9] ?_
  simp only [go_sem, thenQ, blockQ, jumpQ, stayQ]
  refine vwp_cond (by simp only [go_sem]; rfl) (fun h0 => ?_) (fun h0 => ?_)
  · -- h0 then
    refine vwp_reg tabOk [] [2, 3] (by simp only [go_sem]; rfl) (by first | trivial | (simp; done) | (simp [in64]; omega)) ?_
    refine vwp_ret ?_
    -- result 0
    simp only [thenQ, blockQ, jumpQ, stayQ, RetQ, go_sem]
    refine ⟨by simp, ?_⟩
    rw [show putPatch x = ([], 1) from by rw [putPatch, if_neg (by simpa using h0)]]
    exact Wk.tuple ⟨Wk.nils _, Wk.refl _, trivial⟩
  · -- h0 else
    refine vwp_skip ?_
    try simp only [thenQ, blockQ, jumpQ, stayQ]
    refine vwp_reg tabOk [] [1, 4] (by simp only [go_sem]; rfl) (by first | trivial | (simp; done) | (simp [in64]; omega)) ?_
    refine vwp_own 4 5 1 rfl ?_
    refine vwp_keep [1, 4] ?_
    simp only [go_sem]
    -- r4 drawn, effects at [13]
    refine vwp_seq (vwp_drawE1 mixed (by kernel_rfl) 13 [0, 0, 0, 0, 0, 0, 0, 0, 0, 0, 0, 0, 0, 0, 1] (by kernel_rfl) (f0 := ?f0_r4) (f1 := ?f1_r4) (H1 := ?H1_r4) (g1 := ?g1_r4) (v1 := ?v1_r4) (by simp only [go_sem]; rfl) ?hs0_r4 ?he1_r4 ?hg1_r4 ?hs1_r4 ?hk1_r4 ?hv1_r4 [1, 4] rfl ?hq_r4)
    case hs0_r4 =>
      refine dstage_go tabOk (by simp only [go_sem]; rfl) (by first | trivial | (simp; done) | (simp [maxB]; omega)) ?_
      -- call 1: t13 = CALL 72(f72, t12)
      refine dstage_call (hc := fun _ => c_ref13_text x.name (by omega)) rfl (by simp only [go_sem]; rfl) b_ref13_text (by simp only [go_sem]; exact WkL.refl _) rfl (fun hg => by simp only [go_sem]) rfl (by decide) ?_
      refine dstage_go tabOk (by simp only [go_sem]; rfl) (by first | trivial | (simp; done) | (simp [maxB]; omega)) ?_
      -- call 2: t16 = CALL 73(f73, t15)
      refine dstage_call (hc := fun _ => c_ref13_list x.deps (by omega)) rfl (by simp only [go_sem]; rfl) b_ref13_list (by simp only [go_sem]; exact WkL.refl _) rfl (fun hg => by simp only [go_sem]) rfl (by decide) ?_
      refine dstage_go tabOk (by simp only [go_sem]; rfl) (by first | trivial | (simp; done) | (simp [maxB]; omega)) ?_
      -- call 3: t21 = CALL 74(f74, t20)
      refine dstage_call (hc := fun _ => c_ref13_number x.body.length (by simp [in64]; omega)) rfl (by simp only [go_sem]; rfl) b_ref13_number (by simp only [go_sem]; exact WkL.refl _) rfl (fun hg => by simp only [go_sem]) rfl (by decide) ?_
      refine dstage_go tabOk (by simp only [go_sem]; rfl) (by first | trivial | (simp; done) | (simp [maxB]; omega)) ?_
      exact dstage_nil
    case he1_r4 =>
      -- t23 = append(t10, t22)
      refine effOk_app (O := ?O0_r4) tabOk ?h0_r4 ?hO0_r4
      case h0_r4 => simp only [go_sem]; exact rfl
      case hO0_r4 => simp; omega
    case hg1_r4 => rfl
    case hs1_r4 =>
      refine dstage_go tabOk (by simp only [go_sem]; rfl) (by first | trivial | (simp; done) | (simp [maxB]; omega)) ?_
      -- call 1: t13 = CALL 72(f72, t12)
      refine dstage_call (hc := fun _ => c_ref13_text x.name (by omega)) rfl (by simp only [go_sem]; rfl) b_ref13_text (by simp only [go_sem]; exact WkL.refl _) rfl (fun hg => by simp only [go_sem]) rfl (by decide) ?_
      refine dstage_go tabOk (by simp only [go_sem]; rfl) (by first | trivial | (simp; done) | (simp [maxB]; omega)) ?_
      -- call 2: t16 = CALL 73(f73, t15)
      refine dstage_call (hc := fun _ => c_ref13_list x.deps (by omega)) rfl (by simp only [go_sem]; rfl) b_ref13_list (by simp only [go_sem]; exact WkL.refl _) rfl (fun hg => by simp only [go_sem]) rfl (by decide) ?_
      refine dstage_go tabOk (by simp only [go_sem]; rfl) (by first | trivial | (simp; done) | (simp [maxB]; omega)) ?_
      -- call 3: t21 = CALL 74(f74, t20)
      refine dstage_call (hc := fun _ => c_ref13_number x.body.length (by simp [in64]; omega)) rfl (by simp only [go_sem]; rfl) b_ref13_number (by simp only [go_sem]; exact WkL.refl _) rfl (fun hg => by simp only [go_sem]) rfl (by decide) ?_
      refine dstage_go tabOk (by simp only [go_sem]; rfl) (by first | trivial | (simp; done) | (simp [maxB]; omega)) ?_
      exact dstage_nil
    case hk1_r4 => simp [keptOk, inStage, mapE, go_sem]
    case hv1_r4 => simp [mapE, go_sem]
    simp only [go_sem, mapE, thenQ, blockQ, jumpQ, stayQ]
    refine vwp_seq ?_
    refine vwp_reg tabOk [] [1, 4, 5] (by simp only [go_sem]; rfl) (by first | trivial | (simp; done) | (simp [in64]; omega)) ?_
    refine vwp_block ?_
    -- loop 0
    refine vwp_loopW (fun i : Nat => [(1, .ptr 0 0), (4, .arr 1 (txt x.name ++ lst x.deps ++ num x.body.length ++ prims (x.body.take i)).length), (5, .int .i64 (i : Int))]) (fun i => [.box (cPatch x), .arr 5 1 ((txt x.name ++ lst x.deps ++ num x.body.length ++ prims (x.body.take i)).map encB)]) (fun i => i ≤ x.body.length) (fun i => x.body.length - i) 0 (Nat.zero_le _) (Env.wk_cons (Wk.refl _) (Env.wk_cons (Wk.eq (by simp [prims])) (Env.wk_cons (Wk.refl _) (Env.wk_nil _)))) (by simp [prims, cPatch]) ?_
    rintro i hi
    refine vwp_seq ?_
    refine vwp_reg tabOk [] [1, 4, 5, 28] (by simp only [go_sem]; rfl) (by first | trivial | (simp; done) | (simp [in64]; omega)) ?_
    refine vwp_cond (by simp only [go_sem]; rfl) (fun h1 => ?_) (fun h1 => ?_)
    · -- h1 then
      have h1' : i < x.body.length := by simp at h1; omega
      have hb := primB_bounds (patchB_prim (by simpa using h0) i h1')
      have hle := prims_le x.body (i + 1)
      rw [prims_take x.body i h1', List.length_append] at hle
      have he : (primEnc x.body[i]).length = (primEnc x.body[i]).length := rfl
      conv at he => rhs; rw [primEnc]
      simp only [List.length_append] at he
      have g1 := txt_ge x.body[i].path
      have g2 := txt_ge x.body[i].to
      have g3 := txt_ge x.body[i].frm
      refine vwp_skip ?_
      try simp only [thenQ, blockQ, jumpQ, stayQ]
      refine vwp_seq ?_
      refine vwp_block ?_
      refine vwp_reg tabOk [] [1, 4, 5, 6] (by simp only [go_sem, getD_map, h1']; rfl) (by first | trivial | (simp [h1']; done) | (simp [h1']; omega)) ?_
      -- r9 drawn, effects at [28]
      refine vwp_drawE1 mixed (by kernel_rfl) 28 [0, 0, 0, 0, 0, 0, 0, 0, 0, 0, 0, 0, 0, 0, 0, 0, 0, 0, 0, 0, 0, 0, 0, 0, 0, 0, 0, 0, 0, 1] (by kernel_rfl) (f0 := ?f0_r9) (f1 := ?f1_r9) (H1 := ?H1_r9) (g1 := ?g1_r9) (v1 := ?v1_r9) (by simp only [go_sem]; rfl) ?hs0_r9 ?he1_r9 ?hg1_r9 ?hs1_r9 ?hk1_r9 ?hv1_r9 [1, 4, 5] rfl ?hq_r9
      case hs0_r9 =>
        refine dstage_go tabOk (by simp only [go_sem]; rfl) (by first | trivial | (simp; done) | (simp [maxB]; omega)) ?_
        -- call 4: t39 = CALL 74(f74, t38)
        refine dstage_call (hc := fun _ => c_ref13_number x.body[i].kind hb.1) rfl (by simp only [go_sem]; rfl) b_ref13_number (by simp only [go_sem]; exact WkL.refl _) rfl (fun hg => by simp only [go_sem]) rfl (by decide) ?_
        refine dstage_go tabOk (by simp only [go_sem]; rfl) (by first | trivial | (simp; done) | (simp [maxB]; omega)) ?_
        -- call 5: t42 = CALL 72(f72, t41)
        refine dstage_call (hc := fun _ => c_ref13_text x.body[i].path (by omega)) rfl (by simp only [go_sem]; rfl) b_ref13_text (by simp only [go_sem]; exact WkL.refl _) rfl (fun hg => by simp only [go_sem]) rfl (by decide) ?_
        refine dstage_go tabOk (by simp only [go_sem]; rfl) (by first | trivial | (simp; done) | (simp [maxB]; omega)) ?_
        -- call 6: t46 = CALL 72(f72, t45)
        refine dstage_call (hc := fun _ => c_ref13_text x.body[i].to (by omega)) rfl (by simp only [go_sem]; rfl) b_ref13_text (by simp only [go_sem]; exact WkL.refl _) rfl (fun hg => by simp only [go_sem]) rfl (by decide) ?_
        refine dstage_go tabOk (by simp only [go_sem]; rfl) (by first | trivial | (simp; done) | (simp [maxB]; omega)) ?_
        -- call 7: t50 = CALL 72(f72, t49)
        refine dstage_call (hc := fun _ => c_ref13_text x.body[i].frm (by omega)) rfl (by simp only [go_sem]; rfl) b_ref13_text (by simp only [go_sem]; exact WkL.refl _) rfl (fun hg => by simp only [go_sem]) rfl (by decide) ?_
        refine dstage_go tabOk (by simp only [go_sem]; rfl) (by first | trivial | (simp; done) | (simp [maxB]; omega)) ?_
        -- call 8: t54 = CALL 74(f74, t53)
        refine dstage_call (hc := fun _ => c_ref13_number x.body[i].at_ hb.2) rfl (by simp only [go_sem]; rfl) b_ref13_number (by simp only [go_sem]; exact WkL.refl _) rfl (fun hg => by simp only [go_sem]) rfl (by decide) ?_
        refine dstage_go tabOk (by simp only [go_sem]; rfl) (by first | trivial | (simp; done) | (simp [maxB]; omega)) ?_
        -- call 9: t58 = CALL 73(f73, t57)
        refine dstage_call (hc := fun _ => c_ref13_list x.body[i].old (by omega)) rfl (by simp only [go_sem]; rfl) b_ref13_list (by simp only [go_sem]; exact WkL.refl _) rfl (fun hg => by simp only [go_sem]) rfl (by decide) ?_
        refine dstage_go tabOk (by simp only [go_sem]; rfl) (by first | trivial | (simp; done) | (simp [maxB]; omega)) ?_
        -- call 10: t62 = CALL 73(f73, t61)
        refine dstage_call (hc := fun _ => c_ref13_list x.body[i].new (by omega)) rfl (by simp only [go_sem]; rfl) b_ref13_list (by simp only [go_sem]; exact WkL.refl _) rfl (fun hg => by simp only [go_sem]) rfl (by decide) ?_
        refine dstage_go tabOk (by simp only [go_sem]; rfl) (by first | trivial | (simp; done) | (simp [maxB]; omega)) ?_
        exact dstage_nil
      case he1_r9 =>
        -- t64 = append(t36, t63)
        refine effOk_app (O := ?O0_r9) tabOk ?h0_r9 ?hO0_r9
        case h0_r9 => simp only [go_sem]; exact rfl
        case hO0_r9 => simp; omega
      case hg1_r9 => rfl
      case hs1_r9 =>
        refine dstage_go tabOk (by simp only [go_sem]; rfl) (by first | trivial | (simp; done) | (simp [maxB]; omega)) ?_
        -- call 4: t39 = CALL 74(f74, t38)
        refine dstage_call (hc := fun _ => c_ref13_number x.body[i].kind hb.1) rfl (by simp only [go_sem]; rfl) b_ref13_number (by simp only [go_sem]; exact WkL.refl _) rfl (fun hg => by simp only [go_sem]) rfl (by decide) ?_
        refine dstage_go tabOk (by simp only [go_sem]; rfl) (by first | trivial | (simp; done) | (simp [maxB]; omega)) ?_
        -- call 5: t42 = CALL 72(f72, t41)
        refine dstage_call (hc := fun _ => c_ref13_text x.body[i].path (by omega)) rfl (by simp only [go_sem]; rfl) b_ref13_text (by simp only [go_sem]; exact WkL.refl _) rfl (fun hg => by simp only [go_sem]) rfl (by decide) ?_
        refine dstage_go tabOk (by simp only [go_sem]; rfl) (by first | trivial | (simp; done) | (simp [maxB]; omega)) ?_
        -- call 6: t46 = CALL 72(f72, t45)
        refine dstage_call (hc := fun _ => c_ref13_text x.body[i].to (by omega)) rfl (by simp only [go_sem]; rfl) b_ref13_text (by simp only [go_sem]; exact WkL.refl _) rfl (fun hg => by simp only [go_sem]) rfl (by decide) ?_
        refine dstage_go tabOk (by simp only [go_sem]; rfl) (by first | trivial | (simp; done) | (simp [maxB]; omega)) ?_
        -- call 7: t50 = CALL 72(f72, t49)
        refine dstage_call (hc := fun _ => c_ref13_text x.body[i].frm (by omega)) rfl (by simp only [go_sem]; rfl) b_ref13_text (by simp only [go_sem]; exact WkL.refl _) rfl (fun hg => by simp only [go_sem]) rfl (by decide) ?_
        refine dstage_go tabOk (by simp only [go_sem]; rfl) (by first | trivial | (simp; done) | (simp [maxB]; omega)) ?_
        -- call 8: t54 = CALL 74(f74, t53)
        refine dstage_call (hc := fun _ => c_ref13_number x.body[i].at_ hb.2) rfl (by simp only [go_sem]; rfl) b_ref13_number (by simp only [go_sem]; exact WkL.refl _) rfl (fun hg => by simp only [go_sem]) rfl (by decide) ?_
        refine dstage_go tabOk (by simp only [go_sem]; rfl) (by first | trivial | (simp; done) | (simp [maxB]; omega)) ?_
        -- call 9: t58 = CALL 73(f73, t57)
        refine dstage_call (hc := fun _ => c_ref13_list x.body[i].old (by omega)) rfl (by simp only [go_sem]; rfl) b_ref13_list (by simp only [go_sem]; exact WkL.refl _) rfl (fun hg => by simp only [go_sem]) rfl (by decide) ?_
        refine dstage_go tabOk (by simp only [go_sem]; rfl) (by first | trivial | (simp; done) | (simp [maxB]; omega)) ?_
        -- call 10: t62 = CALL 73(f73, t61)
        refine dstage_call (hc := fun _ => c_ref13_list x.body[i].new (by omega)) rfl (by simp only [go_sem]; rfl) b_ref13_list (by simp only [go_sem]; exact WkL.refl _) rfl (fun hg => by simp only [go_sem]) rfl (by decide) ?_
        refine dstage_go tabOk (by simp only [go_sem]; rfl) (by first | trivial | (simp; done) | (simp [maxB]; omega)) ?_
        exact dstage_nil
      case hk1_r9 => simp [keptOk, inStage, mapE, go_sem]
      case hv1_r9 => simp [mapE, go_sem]
      simp only [go_sem, mapE, thenQ, blockQ, jumpQ, stayQ]
      try simp only [thenQ, blockQ, jumpQ, stayQ]
      refine vwp_trim 2 (by simp) (by simp) ?_
      simp only [go_sem]
      refine vwp_reg1 tabOk [] [1, 4, 5] (by simp only [go_sem]; rfl) (by first | trivial | (simp; done) | (simp [in64]; omega)) ?_
      try simp only [thenQ, blockQ, jumpQ, stayQ]
      -- round 0
      exact ⟨i + 1, by omega, by omega, Env.wk_cons (Wk.refl _) (Env.wk_cons (Wk.eq (by rw [prims_take x.body i h1', primEnc]; simp [Nat.add_assoc])) (Env.wk_cons (Wk.refl _) (Env.wk_nil _))), by rw [prims_take x.body i h1', primEnc]; simp [cPatch]⟩
    · -- h1 else
      refine vwp_exit ?_
      simp only [thenQ, blockQ, jumpQ, stayQ, if_true, reduceIte, Nat.reduceEqDiff]
      refine vwp_reg tabOk [] [2, 3] (by simp only [go_sem]; rfl) (by first | trivial | (simp; done) | (simp [in64]; omega)) ?_
      refine vwp_ret ?_
      -- result 1
      simp only [thenQ, blockQ, jumpQ, stayQ, RetQ, go_sem]
      refine ⟨by simp, Wk.eq ?_⟩
      have e1 : i = x.body.length := by simp at h1; omega
      rw [show putPatch x = (patchEnc x, 0) from by rw [putPatch, if_pos (by simpa using h0)], List.take_of_length_le (by simp), e1, List.take_length, patchEnc]
end Go.Proofs.YtldfghgjllaljaaGreatDoor.Q
end

section
/- Plain laws of patches: sorting. Nothing here speaks of the program's code. -/
set_option linter.unusedVariables false
set_option linter.unusedSimpArgs false
namespace Go.Q

/-! Sorting by names. -/
/-- Does 'a' stand behind 'b'? -/
def strGt (a b : Str) : Bool := !(Op.bytesLess a b || decide (a = b))
def insP (x : Patch) : List Patch → List Patch
  | [] => [x]
  | y :: r => if strGt y.name x.name then x :: y :: r else y :: insP x r
/-- An insertion under way. -/
def insQ (x : Patch) (l : List Patch) : List Patch := if l.any (fun y => strGt y.name x.name) then insP x l else l
def hasN (l : List Patch) (n : Str) : Bool := l.any fun y => decide (y.name = n)
def sortGo : List Patch → List Patch → Option (List Patch)
  | acc, [] => some acc
  | acc, x :: r => if patchB x && !hasN acc x.name then sortGo (insP x acc) r else none
def sortedP (l : List Patch) : Option (List Patch) := if 256 < l.length then none else sortGo [] l
/-- The sorted patches, and the error's number. -/
def sortP (l : List Patch) : List Patch × Int := match sortedP l with | some s => (s, 0) | none => ([], 1)

theorem insP_none {x : Patch} : ∀ {l : List Patch}, l.any (fun y => strGt y.name x.name) = false → insP x l = l ++ [x]
  | [], _ => rfl
  | y :: r, h => by
    simp only [List.any_cons, Bool.or_eq_false_iff] at h
    simp [insP, h.1, insP_none h.2]
theorem insP_some {x : Patch} (y : Patch) : ∀ {l : List Patch}, l.any (fun y => strGt y.name x.name) = true → insP x (l ++ [y]) = insP x l ++ [y]
  | [], h => by simp at h
  | z :: r, h => by
    simp only [List.cons_append, insP]
    split
    · rfl
    · rename_i hz
      simp only [List.any_cons, hz, Bool.false_or] at h
      rw [insP_some y h]; rfl
theorem insP_snoc {x : Patch} (y : Patch) : ∀ {l : List Patch}, l.any (fun y => strGt y.name x.name) = false → strGt y.name x.name = true → insP x (l ++ [y]) = l ++ [x, y]
  | [], _, hy => by simp [insP, hy]
  | z :: r, h, hy => by
    simp only [List.any_cons, Bool.or_eq_false_iff] at h
    simp [insP, h.1, insP_snoc y h.2 hy]
theorem insQ_take (x : Patch) (l : List Patch) (z : Nat) (h : z < l.length) : insQ x (l.take (z + 1)) = (if !((l.take z).any fun y => strGt y.name x.name) && strGt l[z].name x.name then insQ x (l.take z) ++ [x] else insQ x (l.take z)) ++ [l[z]] := by
  rw [List.take_succ_eq_append_getElem h]
  generalize l.take z = t
  generalize l[z] = y
  unfold insQ
  rw [List.any_append]
  cases h1 : t.any fun y => strGt y.name x.name with
  | true => simp [insP_some _ h1]
  | false =>
    cases h2 : strGt y.name x.name with
    | true => simp [h2, insP_snoc _ h1 h2]
    | false => simp [h2]
theorem insQ_full (x : Patch) (l : List Patch) : (if l.any (fun y => strGt y.name x.name) then insQ x l else insQ x l ++ [x]) = insP x l := by
  unfold insQ
  cases h1 : l.any fun y => strGt y.name x.name with
  | true => simp
  | false => simp [insP_none h1]
theorem insP_length (x : Patch) : ∀ (l : List Patch), (insP x l).length = l.length + 1
  | [] => rfl
  | y :: r => by
    simp only [insP]; split
    · simp
    · simp [insP_length x r]
theorem insQ_le (x : Patch) (l : List Patch) : (insQ x l).length ≤ l.length + 1 := by
  unfold insQ; split
  · rw [insP_length]; exact Nat.le_refl _
  · omega

end Go.Q
end

section
/- Walks of the document's reading of patches, in the logic 'Q'. -/
set_option linter.unusedVariables false
set_option linter.unusedSimpArgs false
set_option maxRecDepth 100000
namespace Go.Proofs.YtldfghgjllaljaaGreatDoor.Q
open Go Go.Q

/-! counterpane/counterpaneref13.Get -/
theorem b_ref13_Get : bodied Go.Proofs.Tryz.prog 55 = true := by rw [bodied, Tryz.func55]; rfl
set_option maxHeartbeats 4000000 in
theorem c_ref13_Get (s : Str) : VPure Go.Proofs.Tryz.prog G 55 [.list 1 (s.map encB)] (.tuple [.agg (cPatch (getPatch s).1), .int .i64 (getPatch s).2]) := by
  refine vpure_of2 tabOk (rs := _) Tryz.func55 rfl (by simp [Tryz.ntmps55]) rfl rfl ?_
  rw [Tryz.ntmps55]
  refine vwp_reg tabOk [] [0, 2] (by simp only [go_sem]; rfl) (by first | trivial | (simp; done) | (simp [in64]; omega)) ?_
  refine vwp_reg tabOk [] [2, 4] (by simp only [go_sem]; rfl) (by first | trivial | (simp; done) | (simp [in64]; omega)) ?_
  refine vwp_reg tabOk [] [2, 4, 5] (by simp only [go_sem]; rfl) (by first | trivial | (simp; done) | (simp [in64]; omega)) ?_
  refine vwp_seq (vwp_region ?_)
  refine vops_go tabOk [] (by simp only [go_sem]; rfl) (by first | trivial | (simp; done) | (simp [in64]; omega)) ?_
  -- call 0: t14 = CALL 54(f54, t13)
  refine vops_callH (hc := c_ref13_Reader_Text (⟨s, false⟩ : Rd)) rfl rfl rfl b_ref13_Reader_Text [1] [] [] rfl rfl rfl (by simp only [go_sem]; exact WkL.refl _) (by simp only [go_sem]) ?_
  rintro r0 H0 ⟨rfl, rfl⟩
  simp only [go_sem]
  refine vops_go tabOk [] (by simp only [go_sem]; rfl) (by first | trivial | (simp; done) | (simp [in64]; omega)) ?_
  refine vops_done [2, 4, 5] ?_
  simp only [go_sem, thenQ, blockQ, jumpQ, stayQ]
  refine vwp_seq (vwp_region ?_)
  refine vops_go tabOk [] (by simp only [go_sem]; rfl) (by first | trivial | (simp; done) | (simp [in64]; omega)) ?_
  -- call 1: t17 = CALL 36(f36, t16)
  refine vops_callH (hc := c_ref13_Reader_List ((rdTxt ⟨s, false⟩).2)) rfl rfl rfl b_ref13_Reader_List [1] [] [] rfl rfl rfl (by simp only [go_sem]; exact WkL.refl _) (by simp only [go_sem]) ?_
  rintro r1 H1 ⟨rfl, rfl⟩
  simp only [go_sem]
  refine vops_go tabOk [] (by simp only [go_sem]; rfl) (by first | trivial | (simp; done) | (simp [in64]; omega)) ?_
  refine vops_done [2, 4, 5] ?_
  simp only [go_sem, thenQ, blockQ, jumpQ, stayQ]
  refine vwp_seq (vwp_region ?_)
  refine vops_go tabOk [] (by simp only [go_sem]; rfl) (by first | trivial | (simp; done) | (simp [in64]; omega)) ?_
  -- call 2: t20 = CALL 35(f35, t19)
  refine vops_callH (hc := c_ref13_Reader_Number ((rdLst (rdTxt ⟨s, false⟩).2).2)) rfl rfl rfl b_ref13_Reader_Number [1] [] [] rfl rfl rfl (by simp only [go_sem]; exact WkL.refl _) (by simp only [go_sem]) ?_
  rintro r2 H2 ⟨rfl, rfl⟩
  simp only [go_sem]
  refine vops_go tabOk [] (by simp only [go_sem]; rfl) (by first | trivial | (simp; done) | (simp [in64]; omega)) ?_
  refine vops_done [2, 4, 5, 6] ?_
  simp only [go_sem, thenQ, blockQ, jumpQ, stayQ]
  refine vwp_seq ?_
  refine vwp_ownCell 2 2 86 7 _ rfl rfl ?_
  simp only [go_sem]
  refine vwp_reg tabOk [] [2, 4, 5, 6, 7] (by simp only [go_sem]; rfl) (by first | trivial | (simp; done) | (simp [in64]; omega)) ?_
  refine vwp_block ?_
  -- loop 0
  refine vwp_loopW (fun y : Nat × List Prim × Rd => [(2, .ptr 0 0), (4, .ptr 1 0), (5, .ptr 2 0), (6, .int .i64 ((rdNum (rdLst (rdTxt ⟨s, false⟩).2).2).1 : Int)), (7, .int .i64 (y.1 : Int))]) (fun y => [.box [.str [], .nils, .nils], .box (cRd y.2.2), .box [.str (rdTxt ⟨s, false⟩).1, .list 1 ((rdLst (rdTxt ⟨s, false⟩).2).1.map cS), .arr 3 y.2.1.length], .arr 86 7 (y.2.1.map cPrim)]) (fun y => reading rdPrim (rdNum (rdLst (rdTxt ⟨s, false⟩).2).2).1 (rdNum (rdLst (rdTxt ⟨s, false⟩).2).2).2 y.1 y.2.1 y.2.2) (fun y => (rdNum (rdLst (rdTxt ⟨s, false⟩).2).2).1 - y.1) (0, [], (rdNum (rdLst (rdTxt ⟨s, false⟩).2).2).2) (reading_start _ _ _) (Env.wk_cons (by first | exact Wk.refl _ | exact Wk.nils _ | (refine Wk.eq ?_; simp; done) | (refine Wk.eq ?_; congr 1 <;> omega)) (Env.wk_cons (by first | exact Wk.refl _ | exact Wk.nils _ | (refine Wk.eq ?_; simp; done) | (refine Wk.eq ?_; congr 1 <;> omega)) (Env.wk_cons (by first | exact Wk.refl _ | exact Wk.nils _ | (refine Wk.eq ?_; simp; done) | (refine Wk.eq ?_; congr 1 <;> omega)) (Env.wk_cons (by first | exact Wk.refl _ | exact Wk.nils _ | (refine Wk.eq ?_; simp; done) | (refine Wk.eq ?_; congr 1 <;> omega)) (Env.wk_cons (by first | exact Wk.refl _ | exact Wk.nils _ | (refine Wk.eq ?_; simp; done) | (refine Wk.eq ?_; congr 1 <;> omega)) (Env.wk_nil _)))))) rfl ?_
  rintro y hr
  refine vwp_seq ?_
  refine vwp_reg tabOk [] [2, 4, 5, 6, 7, 30] (by simp only [go_sem]; rfl) (by first | trivial | (simp; done) | (simp [in64]; omega)) ?_
  refine vwp_cond (by simp only [go_sem]; rfl) (fun h0 => ?_) (fun h0 => ?_)
  · -- h0 then
    have h0' : y.1 < (rdNum (rdLst (rdTxt ⟨s, false⟩).2).2).1 ∧ y.2.2.bad = false := by simp at h0; exact ⟨by omega, h0.2⟩
    have h5 := hr.2.1
    have h6 := hr.1
    have h7 := rdNum_lt ((rdLst (rdTxt ⟨s, false⟩).2).2)
    refine vwp_skip ?_
    try simp only [thenQ, blockQ, jumpQ, stayQ]
    refine vwp_seq ?_
    refine vwp_block ?_
    refine vwp_reg tabOk [] [2, 4, 5, 6, 7, 8] (by simp only [go_sem]; rfl) (by first | trivial | (simp; done) | (simp [in64]; omega)) ?_
    refine vwp_seq (vwp_region ?_)
    refine vops_go tabOk [] (by simp only [go_sem]; rfl) (by first | trivial | (simp; done) | (simp [in64]; omega)) ?_
    -- call 3: t34 = CALL 35(f35, t33)
    refine vops_callH (hc := c_ref13_Reader_Number (y.2.2)) rfl rfl rfl b_ref13_Reader_Number [1] [] [] rfl rfl rfl (by simp only [go_sem]; exact WkL.refl _) (by simp only [go_sem]) ?_
    rintro r3 H3 ⟨rfl, rfl⟩
    simp only [go_sem]
    refine vops_go tabOk [] (by simp only [go_sem]; rfl) (by first | trivial | (simp; done) | (simp [in64]; omega)) ?_
    refine vops_done [2, 4, 5, 6, 7, 8] ?_
    simp only [go_sem, thenQ, blockQ, jumpQ, stayQ]
    refine vwp_seq (vwp_region ?_)
    refine vops_go tabOk [] (by simp only [go_sem]; rfl) (by first | trivial | (simp; done) | (simp [in64]; omega)) ?_
    -- call 4: t37 = CALL 54(f54, t36)
    refine vops_callH (hc := c_ref13_Reader_Text ((rdNum y.2.2).2)) rfl rfl rfl b_ref13_Reader_Text [1] [] [] rfl rfl rfl (by simp only [go_sem]; exact WkL.refl _) (by simp only [go_sem]) ?_
    rintro r4 H4 ⟨rfl, rfl⟩
    simp only [go_sem]
    refine vops_go tabOk [] (by simp only [go_sem]; rfl) (by first | trivial | (simp; done) | (simp [in64]; omega)) ?_
    refine vops_done [2, 4, 5, 6, 7, 8] ?_
    simp only [go_sem, thenQ, blockQ, jumpQ, stayQ]
    refine vwp_seq (vwp_region ?_)
    refine vops_go tabOk [] (by simp only [go_sem]; rfl) (by first | trivial | (simp; done) | (simp [in64]; omega)) ?_
    -- call 5: t40 = CALL 54(f54, t39)
    refine vops_callH (hc := c_ref13_Reader_Text ((rdTxt (rdNum y.2.2).2).2)) rfl rfl rfl b_ref13_Reader_Text [1] [] [] rfl rfl rfl (by simp only [go_sem]; exact WkL.refl _) (by simp only [go_sem]) ?_
    rintro r5 H5 ⟨rfl, rfl⟩
    simp only [go_sem]
    refine vops_go tabOk [] (by simp only [go_sem]; rfl) (by first | trivial | (simp; done) | (simp [in64]; omega)) ?_
    refine vops_done [2, 4, 5, 6, 7, 8] ?_
    simp only [go_sem, thenQ, blockQ, jumpQ, stayQ]
    refine vwp_seq (vwp_region ?_)
    refine vops_go tabOk [] (by simp only [go_sem]; rfl) (by first | trivial | (simp; done) | (simp [in64]; omega)) ?_
    -- call 6: t43 = CALL 54(f54, t42)
    refine vops_callH (hc := c_ref13_Reader_Text ((rdTxt (rdTxt (rdNum y.2.2).2).2).2)) rfl rfl rfl b_ref13_Reader_Text [1] [] [] rfl rfl rfl (by simp only [go_sem]; exact WkL.refl _) (by simp only [go_sem]) ?_
    rintro r6 H6 ⟨rfl, rfl⟩
    simp only [go_sem]
    refine vops_go tabOk [] (by simp only [go_sem]; rfl) (by first | trivial | (simp; done) | (simp [in64]; omega)) ?_
    refine vops_done [2, 4, 5, 6, 7, 8] ?_
    simp only [go_sem, thenQ, blockQ, jumpQ, stayQ]
    refine vwp_seq (vwp_region ?_)
    refine vops_go tabOk [] (by simp only [go_sem]; rfl) (by first | trivial | (simp; done) | (simp [in64]; omega)) ?_
    -- call 7: t46 = CALL 35(f35, t45)
    refine vops_callH (hc := c_ref13_Reader_Number ((rdTxt (rdTxt (rdTxt (rdNum y.2.2).2).2).2).2)) rfl rfl rfl b_ref13_Reader_Number [1] [] [] rfl rfl rfl (by simp only [go_sem]; exact WkL.refl _) (by simp only [go_sem]) ?_
    rintro r7 H7 ⟨rfl, rfl⟩
    simp only [go_sem]
    refine vops_go tabOk [] (by simp only [go_sem]; rfl) (by first | trivial | (simp; done) | (simp [in64]; omega)) ?_
    refine vops_done [2, 4, 5, 6, 7, 8] ?_
    simp only [go_sem, thenQ, blockQ, jumpQ, stayQ]
    refine vwp_seq (vwp_region ?_)
    refine vops_go tabOk [] (by simp only [go_sem]; rfl) (by first | trivial | (simp; done) | (simp [in64]; omega)) ?_
    -- call 8: t49 = CALL 36(f36, t48)
    refine vops_callH (hc := c_ref13_Reader_List ((rdNum (rdTxt (rdTxt (rdTxt (rdNum y.2.2).2).2).2).2).2)) rfl rfl rfl b_ref13_Reader_List [1] [] [] rfl rfl rfl (by simp only [go_sem]; exact WkL.refl _) (by simp only [go_sem]) ?_
    rintro r8 H8 ⟨rfl, rfl⟩
    simp only [go_sem]
    refine vops_go tabOk [] (by simp only [go_sem]; rfl) (by first | trivial | (simp; done) | (simp [in64]; omega)) ?_
    refine vops_done [2, 4, 5, 6, 7, 8] ?_
    simp only [go_sem, thenQ, blockQ, jumpQ, stayQ]
    refine vwp_seq (vwp_region ?_)
    refine vops_go tabOk [] (by simp only [go_sem]; rfl) (by first | trivial | (simp; done) | (simp [in64]; omega)) ?_
    -- call 9: t52 = CALL 36(f36, t51)
    refine vops_callH (hc := c_ref13_Reader_List ((rdLst (rdNum (rdTxt (rdTxt (rdTxt (rdNum y.2.2).2).2).2).2).2).2)) rfl rfl rfl b_ref13_Reader_List [1] [] [] rfl rfl rfl (by simp only [go_sem]; exact WkL.refl _) (by simp only [go_sem]) ?_
    rintro r9 H9 ⟨rfl, rfl⟩
    simp only [go_sem]
    refine vops_go tabOk [] (by simp only [go_sem]; rfl) (by first | trivial | (simp; done) | (simp [in64]; omega)) ?_
    refine vops_done [2, 4, 5, 6, 7, 8] ?_
    simp only [go_sem, thenQ, blockQ, jumpQ, stayQ]
    refine vwp_reg1 tabOk [] [2, 4, 5, 6, 7] (by simp only [go_sem]; rfl) (by first | trivial | (simp; done) | (simp [in64]; omega)) ?_
    try simp only [thenQ, blockQ, jumpQ, stayQ]
    refine vwp_trim 4 (by simp) (by simp) ?_
    simp only [go_sem, mapE]
    refine vwp_reg1 tabOk [] [2, 4, 5, 6, 7] (by simp only [go_sem]; rfl) (by first | trivial | (simp; done) | (simp [in64]; omega)) ?_
    try simp only [thenQ, blockQ, jumpQ, stayQ]
    -- round 0
    
    exact ⟨(y.1 + 1, y.2.1 ++ [(rdPrim y.2.2).1], (rdPrim y.2.2).2), reading_step hr h0'.1 h0'.2, by simp; omega, (Env.wk_cons (by first | exact Wk.refl _ | exact Wk.nils _ | (refine Wk.eq ?_; simp; done) | (refine Wk.eq ?_; congr 1 <;> omega)) (Env.wk_cons (by first | exact Wk.refl _ | exact Wk.nils _ | (refine Wk.eq ?_; simp; done) | (refine Wk.eq ?_; congr 1 <;> omega)) (Env.wk_cons (by first | exact Wk.refl _ | exact Wk.nils _ | (refine Wk.eq ?_; simp; done) | (refine Wk.eq ?_; congr 1 <;> omega)) (Env.wk_cons (by first | exact Wk.refl _ | exact Wk.nils _ | (refine Wk.eq ?_; simp; done) | (refine Wk.eq ?_; congr 1 <;> omega)) (Env.wk_cons (by first | exact Wk.refl _ | exact Wk.nils _ | (refine Wk.eq ?_; simp; done) | (refine Wk.eq ?_; congr 1 <;> omega)) (Env.wk_nil _)))))), by simp [cPrim, cRd, rdPrim]⟩
  · -- h0 else
    refine vwp_exit ?_
    simp only [thenQ, blockQ, jumpQ, stayQ, if_true, reduceIte, Nat.reduceEqDiff]
    refine vwp_seq ?_
    have he : rdPatch ⟨s, false⟩ = (⟨(rdTxt ⟨s, false⟩).1, (rdLst (rdTxt ⟨s, false⟩).2).1, y.2.1⟩, y.2.2) := by
      have h6 := hr.1
      have h2 := reading_end hr (by simp at h0; by_cases h7 : y.1 = (rdNum (rdLst (rdTxt ⟨s, false⟩).2).2).1; exact .inl h7; exact .inr (h0 (by omega)))
      simp only [rdPatch, rdList, h2]
    refine vwp_freeze 3 86 7 (y.2.1.map cPrim) rfl ?_
    simp only [go_sem]
    rw [List.take_of_length_le (by simp)]
    refine vwp_seq (vwp_region ?_)
    refine vops_go tabOk [] (by simp only [go_sem]; rfl) (by first | trivial | (simp; done) | (simp [in64]; omega)) ?_
    -- call 10: t73 = CALL 40(f40, t72)  if op11 not
    refine vops_call (hc := fun _ => c_ref13_Right ⟨(rdTxt ⟨s, false⟩).1, (rdLst (rdTxt ⟨s, false⟩).2).1, y.2.1⟩) rfl (by simp only [go_sem]; rfl) rfl b_ref13_Right (by simp only [go_sem]; exact WkL.refl _) rfl (fun hg => by simp only [go_sem]; try (intros; first | assumption | trivial | simp_all)) ?_
    simp only [go_sem]
    refine vops_go tabOk [] (by simp only [go_sem]; rfl) (by first | trivial | (simp; done) | (simp [in64]; omega)) ?_
    refine vops_done [2, 5, 75] ?_
    simp only [go_sem, thenQ, blockQ, jumpQ, stayQ]
    refine vwp_cond (by simp only [go_sem]; rfl) (fun h1 => ?_) (fun h1 => ?_)
    · -- h1 then
      refine vwp_reg tabOk [] [2, 3] (by simp only [go_sem]; rfl) (by first | trivial | (simp; done) | (simp [in64]; omega)) ?_
      refine vwp_ret ?_
      -- result 0
      try simp only [thenQ, blockQ, jumpQ, stayQ, go_sem]
      refine ⟨by simp, _, _, rfl, trivial, ?_⟩
      simp only [go_sem]
      have h2 : getPatch s = (⟨[], [], []⟩, 3) := by
        rw [getPatch, if_pos (by rw [he]; simpa [or_assoc, and_assoc] using h1)]
      rw [h2]; exact Wk.tuple ⟨Wk.agg ⟨Wk.refl _, Wk.nils _, Wk.nils _, trivial⟩, Wk.refl _, trivial⟩
    · -- h1 else
      refine vwp_skip ?_
      try simp only [thenQ, blockQ, jumpQ, stayQ]
      refine vwp_reg tabOk [] [2, 3] (by simp only [go_sem]; rfl) (by first | trivial | (simp; done) | (simp [in64]; omega)) ?_
      refine vwp_ret ?_
      -- result 1
      try simp only [thenQ, blockQ, jumpQ, stayQ, go_sem]
      refine ⟨by simp, _, _, rfl, trivial, ?_⟩
      simp only [go_sem]
      have h2 : getPatch s = (⟨(rdTxt ⟨s, false⟩).1, (rdLst (rdTxt ⟨s, false⟩).2).1, y.2.1⟩, 0) := by
        rw [getPatch, if_neg (by rw [he]; simpa [or_assoc, and_assoc] using h1), he]
      rw [h2]; exact Wk.refl _

/-! counterpane/counterpaneref14.Sorted -/
theorem b_ref14_Sorted : bodied Go.Proofs.Tryz.prog 21 = true := by rw [bodied, Tryz.func21]; rfl
set_option maxHeartbeats 4000000 in
theorem c_ref14_Sorted (l : List Patch) : VPure Go.Proofs.Tryz.prog G 21 [.list 3 (l.map cPatch)] (.tuple [.list 3 ((sortP l).1.map cPatch), .int .i64 (sortP l).2]) := by
  refine vpure_know fun hk => ?_
  simp only [factsL, facts, maxB, List.length_map] at hk
  refine vpure_of (ts := [2, 3]) Tryz.func21 rfl (by simp [Tryz.ntmps21]) rfl rfl ?_
  rw [Tryz.ntmps21]
  refine vwp_reg tabOk [] [0] (by simp only [go_sem]; rfl) (by first | trivial | (simp; done) | (simp [in64]; omega)) ?_
  refine vwp_seq ?_
  refine vwp_reg tabOk [] [0, 11] (by simp only [go_sem]; rfl) (by first | trivial | (simp; done) | (simp [in64]; omega)) ?_
  refine vwp_cond (by simp only [go_sem]; rfl) (fun h0 => ?_) (fun h0 => ?_)
  · -- h0 then
    refine vwp_reg tabOk [] [2, 3] (by simp only [go_sem]; rfl) (by first | trivial | (simp; done) | (simp [in64]; omega)) ?_
    refine vwp_ret ?_
    -- result 0
    simp only [thenQ, blockQ, jumpQ, stayQ, RetQ, go_sem]
    refine ⟨by simp, ?_⟩
    rw [show sortP l = ([], 1) from by rw [sortP, sortedP, if_pos (by simp at h0; omega)]]
    exact Wk.tuple ⟨Wk.nils _, Wk.refl _, trivial⟩
  · -- h0 else
    have h256 : l.length ≤ 256 := by simp at h0; omega
    refine vwp_skip ?_
    try simp only [thenQ, blockQ, jumpQ, stayQ]
    refine vwp_reg tabOk [] [0, 4] (by simp only [go_sem]; rfl) (by first | trivial | (simp; done) | (simp [in64]; omega)) ?_
    refine vwp_seq ?_
    refine vwp_reg tabOk [] [0, 4, 5] (by simp only [go_sem]; rfl) (by first | trivial | (simp; done) | (simp [in64]; omega)) ?_
    refine vwp_block ?_
    -- loop 0
    refine vwp_loopW (fun y : Nat × List Patch => [(0, .list 3 (l.map cPatch)), (4, .list 3 (y.2.map cPatch)), (5, .int .i64 (y.1 : Int))]) (fun y => []) (fun y => y.1 ≤ l.length ∧ sortGo [] l = sortGo y.2 (l.drop y.1) ∧ y.2.length = y.1) (fun y => l.length - y.1) (0, []) ⟨Nat.zero_le _, rfl, rfl⟩ (Env.wk_cons (by first | exact Wk.refl _ | exact Wk.nils _ | (refine Wk.eq ?_; simp; done) | (refine Wk.eq ?_; congr 1 <;> omega)) (Env.wk_cons (by first | exact Wk.refl _ | exact Wk.nils _ | (refine Wk.eq ?_; simp; done) | (refine Wk.eq ?_; congr 1 <;> omega)) (Env.wk_cons (by first | exact Wk.refl _ | exact Wk.nils _ | (refine Wk.eq ?_; simp; done) | (refine Wk.eq ?_; congr 1 <;> omega)) (Env.wk_nil _)))) rfl ?_
    rintro y ⟨hi, hs, hl⟩
    refine vwp_seq ?_
    refine vwp_reg tabOk [] [0, 4, 5, 15] (by simp only [go_sem]; rfl) (by first | trivial | (simp; done) | (simp [in64]; omega)) ?_
    refine vwp_cond (by simp only [go_sem]; rfl) (fun h1 => ?_) (fun h1 => ?_)
    · -- h1 then
      have h1' : y.1 < l.length := by simp at h1; omega
      refine vwp_skip ?_
      try simp only [thenQ, blockQ, jumpQ, stayQ]
      refine vwp_seq ?_
      refine vwp_block ?_
      refine vwp_seq ?_
      refine vwp_seq (vwp_region ?_)
      refine vops_go tabOk [] (by simp only [go_sem, getD_map, h1']; rfl) (by first | trivial | (simp [h1']; done) | (simp [h1']; omega)) ?_
      -- call 0: t22 = CALL 40(f40, t21)
      refine vops_call (hc := fun _ => c_ref13_Right l[y.1]) rfl (by simp only [go_sem, getD_map, h1']; rfl) rfl b_ref13_Right (by simp only [go_sem]; exact WkL.refl _) rfl (fun hg => by simp only [go_sem]; try (intros; first | assumption | trivial | simp_all)) ?_
      simp only [go_sem]
      refine vops_go tabOk [] (by simp only [go_sem, getD_map, h1']; rfl) (by first | trivial | (simp [h1']; done) | (simp [h1']; omega)) ?_
      refine vops_done [0, 4, 5, 23] ?_
      simp only [go_sem, thenQ, blockQ, jumpQ, stayQ]
      refine vwp_cond (by simp only [go_sem]; rfl) (fun h2 => ?_) (fun h2 => ?_)
      · -- h2 then
        refine vwp_reg tabOk [] [2, 3] (by simp only [go_sem]; rfl) (by first | trivial | (simp; done) | (simp [in64]; omega)) ?_
        refine vwp_ret ?_
        -- result 1
        simp only [thenQ, blockQ, jumpQ, stayQ, RetQ, go_sem]
        refine ⟨by simp, ?_⟩
        rw [show sortP l = ([], 1) from by rw [sortP, sortedP, if_neg (by omega), hs, List.drop_eq_getElem_cons h1', sortGo, if_neg (by simp at h2; simp [h2])]]
        exact Wk.tuple ⟨Wk.nils _, Wk.refl _, trivial⟩
      · -- h2 else
        refine vwp_skip ?_
        try simp only [thenQ, blockQ, jumpQ, stayQ]
        refine vwp_reg tabOk [] [0, 4, 5, 6] (by simp only [go_sem]; rfl) (by first | trivial | (simp; done) | (simp [in64]; omega)) ?_
        refine vwp_reg tabOk [] [0, 4, 5, 6, 7] (by simp only [go_sem]; rfl) (by first | trivial | (simp; done) | (simp [in64]; omega)) ?_
        refine vwp_seq ?_
        refine vwp_reg tabOk [] [0, 4, 5, 6, 7, 8] (by simp only [go_sem]; rfl) (by first | trivial | (simp; done) | (simp [in64]; omega)) ?_
        refine vwp_block ?_
        refine vwp_own 6 48 3 rfl ?_
        refine vwp_keep [0, 4, 5, 6, 7, 8] ?_
        simp only [go_sem]
        -- loop 1
        refine vwp_loopW (fun z : Nat => [(0, .list 3 (l.map cPatch)), (4, .list 3 (y.2.map cPatch)), (5, .int .i64 (y.1 : Int)), (6, .arr 0 (insQ l[y.1] (y.2.take z)).length), (7, .bool ((y.2.take z).any fun q => strGt q.name l[y.1].name)), (8, .int .i64 (z : Int))]) (fun z => [.arr 48 3 ((insQ l[y.1] (y.2.take z)).map cPatch)]) (fun z => z ≤ y.2.length ∧ hasN (y.2.take z) l[y.1].name = false) (fun z => y.2.length - z) 0 ⟨Nat.zero_le _, rfl⟩ (Env.wk_cons (by first | exact Wk.refl _ | exact Wk.nils _ | (refine Wk.eq ?_; simp; done) | (refine Wk.eq ?_; congr 1 <;> omega)) (Env.wk_cons (by first | exact Wk.refl _ | exact Wk.nils _ | (refine Wk.eq ?_; simp; done) | (refine Wk.eq ?_; congr 1 <;> omega)) (Env.wk_cons (by first | exact Wk.refl _ | exact Wk.nils _ | (refine Wk.eq ?_; simp; done) | (refine Wk.eq ?_; congr 1 <;> omega)) (Env.wk_cons (by first | exact Wk.refl _ | exact Wk.nils _ | (refine Wk.eq ?_; simp; done) | (refine Wk.eq ?_; congr 1 <;> omega)) (Env.wk_cons (by first | exact Wk.refl _ | exact Wk.nils _ | (refine Wk.eq ?_; simp; done) | (refine Wk.eq ?_; congr 1 <;> omega)) (Env.wk_cons (by first | exact Wk.refl _ | exact Wk.nils _ | (refine Wk.eq ?_; simp; done) | (refine Wk.eq ?_; congr 1 <;> omega)) (Env.wk_nil _))))))) rfl ?_
        rintro z ⟨hz, hn⟩
        refine vwp_seq ?_
        refine vwp_reg tabOk [] [0, 4, 5, 6, 7, 8, 27] (by simp only [go_sem]; rfl) (by first | trivial | (simp; done) | (simp [in64]; omega)) ?_
        refine vwp_cond (by simp only [go_sem]; rfl) (fun h3 => ?_) (fun h3 => ?_)
        · -- h3 then
          have h3' : z < y.2.length := by simp at h3; omega
          have hB := insQ_le l[y.1] (y.2.take z)
          rw [List.length_take] at hB
          refine vwp_skip ?_
          try simp only [thenQ, blockQ, jumpQ, stayQ]
          refine vwp_seq ?_
          refine vwp_block ?_
          refine vwp_seq ?_
          -- r14 drawn
          refine vwp_seq (vwp_drawD mixed (by kernel_rfl) (eF := ?_) ?_ [0, 4, 5, 6, 7, 8, 40] rfl ?_)
          rotate_left
          · -- the operations
            refine dall_go tabOk (by simp only [go_sem, getD_map, h1', h3']; rfl) (by first | trivial | (simp [h1', h3']; done) | (simp [h1', h3']; omega)) ?_
            exact dall_nil
          simp only [go_sem, thenQ, blockQ, jumpQ, stayQ]
          refine vwp_cond (by simp only [go_sem]; rfl) (fun h4 => ?_) (fun h4 => ?_)
          · -- h4 then
            refine vwp_reg tabOk [] [2, 3] (by simp only [go_sem]; rfl) (by first | trivial | (simp; done) | (simp [in64]; omega)) ?_
            refine vwp_ret ?_
            -- result 2
            simp only [thenQ, blockQ, jumpQ, stayQ, RetQ, go_sem]
            refine ⟨by simp, ?_⟩
            have hh : hasN y.2 l[y.1].name = true := any_true _ _ z h3' h4
            rw [show sortP l = ([], 1) from by rw [sortP, sortedP, if_neg (by omega), hs, List.drop_eq_getElem_cons h1', sortGo, if_neg (by simp [hh])]]
            exact Wk.tuple ⟨Wk.nils _, Wk.refl _, trivial⟩
          · -- h4 else
            refine vwp_skip ?_
            try simp only [thenQ, blockQ, jumpQ, stayQ]
            refine vwp_seq ?_
            -- r16 drawn
            refine vwp_seq (vwp_drawD mixed (by kernel_rfl) (eF := ?_) ?_ [0, 4, 5, 6, 7, 8, 55] rfl ?_)
            rotate_left
            · -- the operations
              refine dall_go tabOk (by simp only [go_sem, getD_map, h1', h3']; rfl) (by first | trivial | (simp [h1', h3']; done) | (simp [h1', h3']; omega)) ?_
              exact dall_nil
            simp only [go_sem, thenQ, blockQ, jumpQ, stayQ]
            refine vwp_cond (by simp only [go_sem]; rfl) (fun h5 => ?_) (fun h5 => ?_)
            · -- h5 then
              refine vwp_reg tabOk [] [0, 4, 5, 6, 8] (by simp only [go_sem, getD_map, h1']; rfl) (by first | trivial | (simp [h1', hB]; done) | (simp [h1']; omega)) ?_
              refine vwp_reg1 tabOk [] [0, 4, 5, 6, 7, 8] (by simp only [go_sem]; rfl) (by first | trivial | (simp; done) | (simp [in64]; omega)) ?_
              try simp only [thenQ, blockQ, jumpQ, stayQ]
              refine vwp_reg1 tabOk [] [0, 4, 5, 6, 7, 8] (by simp only [go_sem, getD_map, h3']; rfl) (by first | trivial | (simp [h3', hB]; done) | (simp [h3']; omega)) ?_
              try simp only [thenQ, blockQ, jumpQ, stayQ]
              refine vwp_reg1 tabOk [] [0, 4, 5, 6, 7, 8] (by simp only [go_sem]; rfl) (by first | trivial | (simp; done) | (simp [in64]; omega)) ?_
              try simp only [thenQ, blockQ, jumpQ, stayQ]
              -- round 0
              have hn2 : hasN (y.2.take (z + 1)) l[y.1].name = false := by rw [hasN, take_any _ _ _ h3', ← hasN, hn]; exact h4
              have h5' : (!((y.2.take z).any fun q => strGt q.name l[y.1].name) && strGt y.2[z].name l[y.1].name) = true := by rw [strGt, ← h5]; cases ((y.2.take z).any fun q => strGt q.name l[y.1].name) <;> rfl
              have ha2 : ((y.2.take (z + 1)).any fun q => strGt q.name l[y.1].name) = true := by rw [take_any _ _ _ h3']; revert h5'; cases ((y.2.take z).any fun q => strGt q.name l[y.1].name) <;> simp
              exact ⟨z + 1, ⟨by omega, hn2⟩, by omega, Env.wk_cons (Wk.refl _) (Env.wk_cons (Wk.refl _) (Env.wk_cons (Wk.refl _) (Env.wk_cons (Wk.eq (by rw [insQ_take _ _ _ h3', if_pos (by simp [h5'])]; simp)) (Env.wk_cons (Wk.eq (by rw [ha2])) (Env.wk_cons (Wk.eq (by congr 1)) (Env.wk_nil _)))))), by rw [insQ_take _ _ _ h3', if_pos (by simp [h5'])]; simp [cPatch]⟩
            · -- h5 else
              refine vwp_skip ?_
              try simp only [thenQ, blockQ, jumpQ, stayQ]
              refine vwp_reg1 tabOk [] [0, 4, 5, 6, 7, 8] (by simp only [go_sem, getD_map, h3']; rfl) (by first | trivial | (simp [h3', hB]; done) | (simp [h3']; omega)) ?_
              try simp only [thenQ, blockQ, jumpQ, stayQ]
              refine vwp_reg1 tabOk [] [0, 4, 5, 6, 7, 8] (by simp only [go_sem]; rfl) (by first | trivial | (simp; done) | (simp [in64]; omega)) ?_
              try simp only [thenQ, blockQ, jumpQ, stayQ]
              -- round 1
              have hn2 : hasN (y.2.take (z + 1)) l[y.1].name = false := by rw [hasN, take_any _ _ _ h3', ← hasN, hn]; exact h4
              have h5' : (!((y.2.take z).any fun q => strGt q.name l[y.1].name) && strGt y.2[z].name l[y.1].name) = false := by rw [strGt, ← h5]; cases ((y.2.take z).any fun q => strGt q.name l[y.1].name) <;> rfl
              have ha2 : ((y.2.take (z + 1)).any fun q => strGt q.name l[y.1].name) = ((y.2.take z).any fun q => strGt q.name l[y.1].name) := by rw [take_any _ _ _ h3']; revert h5'; cases ((y.2.take z).any fun q => strGt q.name l[y.1].name) <;> simp
              exact ⟨z + 1, ⟨by omega, hn2⟩, by omega, Env.wk_cons (Wk.refl _) (Env.wk_cons (Wk.refl _) (Env.wk_cons (Wk.refl _) (Env.wk_cons (Wk.eq (by rw [insQ_take _ _ _ h3', if_neg (by simp [h5'])]; simp)) (Env.wk_cons (Wk.eq (by rw [ha2])) (Env.wk_cons (Wk.eq (by congr 1)) (Env.wk_nil _)))))), by rw [insQ_take _ _ _ h3', if_neg (by simp [h5'])]; simp [cPatch]⟩
        · -- h3 else
          have hze : z = y.2.length := by simp at h3; omega
          subst hze
          rw [List.take_length] at hn
          have hgo : (patchB l[y.1] && !hasN y.2 l[y.1].name) = true := by rw [hn]; simpa using h2
          have hB := insQ_le l[y.1] y.2
          rw [List.take_length]
          refine vwp_exit ?_
          simp only [thenQ, blockQ, jumpQ, stayQ, if_true, reduceIte, Nat.reduceEqDiff]
          refine vwp_seq ?_
          refine vwp_reg tabOk [] [0, 5, 6, 71] (by simp only [go_sem]; rfl) (by first | trivial | (simp; done) | (simp [in64]; omega)) ?_
          refine vwp_cond (by simp only [go_sem]; rfl) (fun h6 => ?_) (fun h6 => ?_)
          · -- h6 then
            rw [Bool.not_eq_true'] at h6
            have hf := insQ_full l[y.1] y.2
            rw [h6, if_neg (by simp)] at hf
            refine vwp_reg1 tabOk [] [0, 5, 6] (by simp only [go_sem, getD_map, h1']; rfl) (by first | trivial | (simp [h1', hB]; done) | (simp [h1']; omega)) ?_
            try simp only [thenQ, blockQ, jumpQ, stayQ]
            refine vwp_freeze 0 48 3 _ rfl ?_
            simp only [go_sem]
            refine vwp_trim 0 (by simp) (by simp) ?_
            simp only [go_sem, mapE]
            rw [List.take_of_length_le (by simp)]
            refine vwp_reg1 tabOk [] [0, 4, 5] (by simp only [go_sem]; rfl) (by first | trivial | (simp; done) | (simp [in64]; omega)) ?_
            try simp only [thenQ, blockQ, jumpQ, stayQ]
            refine vwp_reg1 tabOk [] [0, 4, 5] (by simp only [go_sem]; rfl) (by first | trivial | (simp; done) | (simp [in64]; omega)) ?_
            try simp only [thenQ, blockQ, jumpQ, stayQ]
            -- round 0
            exact ⟨(y.1 + 1, insP l[y.1] y.2), ⟨by simp only []; omega, by simp only []; rw [hs, List.drop_eq_getElem_cons h1', sortGo, if_pos hgo], by simp only []; rw [insP_length, hl]⟩, by simp only []; omega, Env.wk_cons (Wk.refl _) (Env.wk_cons (Wk.eq (by rw [← hf] <;> simp [cPatch])) (Env.wk_cons (Wk.refl _) (Env.wk_nil _))), by trivial⟩
          · -- h6 else
            rw [Bool.not_eq_false'] at h6
            have hf := insQ_full l[y.1] y.2
            rw [h6, if_pos rfl] at hf
            refine vwp_skip ?_
            try simp only [thenQ, blockQ, jumpQ, stayQ]
            refine vwp_freeze 0 48 3 _ rfl ?_
            simp only [go_sem]
            refine vwp_trim 0 (by simp) (by simp) ?_
            simp only [go_sem, mapE]
            rw [List.take_of_length_le (by simp)]
            refine vwp_reg1 tabOk [] [0, 4, 5] (by simp only [go_sem]; rfl) (by first | trivial | (simp; done) | (simp [in64]; omega)) ?_
            try simp only [thenQ, blockQ, jumpQ, stayQ]
            refine vwp_reg1 tabOk [] [0, 4, 5] (by simp only [go_sem]; rfl) (by first | trivial | (simp; done) | (simp [in64]; omega)) ?_
            try simp only [thenQ, blockQ, jumpQ, stayQ]
            -- round 1
            exact ⟨(y.1 + 1, insP l[y.1] y.2), ⟨by simp only []; omega, by simp only []; rw [hs, List.drop_eq_getElem_cons h1', sortGo, if_pos hgo], by simp only []; rw [insP_length, hl]⟩, by simp only []; omega, Env.wk_cons (Wk.refl _) (Env.wk_cons (Wk.eq (by rw [← hf] <;> simp [cPatch])) (Env.wk_cons (Wk.refl _) (Env.wk_nil _))), by trivial⟩
    · -- h1 else
      refine vwp_exit ?_
      simp only [thenQ, blockQ, jumpQ, stayQ, if_true, reduceIte, Nat.reduceEqDiff]
      refine vwp_reg tabOk [] [2, 3] (by simp only [go_sem]; rfl) (by first | trivial | (simp; done) | (simp [in64]; omega)) ?_
      refine vwp_ret ?_
      -- result 3
      simp only [thenQ, blockQ, jumpQ, stayQ, RetQ, go_sem]
      refine ⟨by simp, Wk.eq ?_⟩
      rw [show sortP l = (y.2, 0) from by rw [sortP, sortedP, if_neg (by omega), hs, show y.1 = l.length by simp at h1; omega, List.drop_length, sortGo]]
end Go.Proofs.YtldfghgjllaljaaGreatDoor.Q
end

section
/- Plain laws of messages and bundles: their bytes, how they are read, and how long they are. Nothing here speaks of the program's code. -/
set_option linter.unusedVariables false
set_option linter.unusedSimpArgs false
namespace Go.Q

/-- A bundle's bytes, laid till they are too many. -/
def bunGo : Str → List Patch → Str
  | out, [] => out
  | out, p :: r => if out.length ≤ 32768 then bunGo (out ++ txt (putPatch p).1) r else out
/-- A bundle, and the error's number. -/
def bunR (l : List Patch) : Str × Int := match sortedP l with | some s => (bunGo (num s.length) s, 0) | none => ([], 1)
def putBunR (l : List Patch) : Str × Int :=
  if (bunR l).2 ≠ 0 then ([], (bunR l).2) else if 32768 < (bunR l).1.length then ([], 2) else ((bunR l).1, 0)

def rmA (x : Msg) : Bool := bif bif bif decide (x.kind < 1) then true else decide (3 < x.kind) then true else !namesB x.names then true else !namesB x.have_
def rmB (x : Msg) : Bool := bif bif !decide (x.kind = 1) then decide (0 < (x.names.length : Int) + (x.have_.length : Int)) else false then true
    else bif !decide (x.kind = 2) then decide (0 < (x.patches.length : Int)) else false
def rmC (x : Msg) : Bool := bif decide ((sortP x.patches).2 = 0) then
    bif bif bif decide (x.kind = 3) then decide (1 ≤ x.err) else false then decide (x.err ≤ 1000) else false then true
    else bif !decide (x.kind = 3) then decide (x.err = 0) else false
  else false
/-- Is it a message? -/
def rightM (m : Msg) : Bool := !rmA m && (!rmB m && rmC m)
def msgR (m : Msg) : Str := num m.kind ++ lst m.names ++ lst m.have_ ++ num m.err ++ (bunR m.patches).1
def putMsgR (m : Msg) : Str × Int := if rightM m then (if 32768 < (msgR m).length then ([], 2) else (msgR m, 0)) else ([], 1)

def rdPat (r : Rd) : Patch × Rd := ((getPatch (rdTxt r).1).1, ⟨(rdTxt r).2.b, (rdTxt r).2.bad || decide ((getPatch (rdTxt r).1).2 ≠ 0)⟩)
def rdPats (r : Rd) : List Patch × Rd := rdList rdPat r
def rdMsg (r : Rd) : Msg × Rd :=
  let k := rdNum r
  let n := rdLst k.2
  let h := rdLst n.2
  let e := rdNum h.2
  let p := rdPats e.2
  (⟨(k.1 : Int), n.1, h.1, (e.1 : Int), p.1⟩, p.2)
def msg0 : Msg := ⟨0, [], [], 0, []⟩
def getBunR (s : Str) : List Patch × Int :=
  if (rdPats ⟨s, false⟩).2.bad = true ∨ (putBunR (rdPats ⟨s, false⟩).1).2 ≠ 0 ∨ (putBunR (rdPats ⟨s, false⟩).1).1 ≠ s then ([], 3) else ((rdPats ⟨s, false⟩).1, 0)
def getMsgR (s : Str) : Msg × Int :=
  if (rdMsg ⟨s, false⟩).2.bad = true ∨ (putMsgR (rdMsg ⟨s, false⟩).1).2 ≠ 0 ∨ (putMsgR (rdMsg ⟨s, false⟩).1).1 ≠ s then (msg0, 3) else ((rdMsg ⟨s, false⟩).1, 0)

theorem bunGo_long {out : Str} {l : List Patch} (h : ¬ out.length ≤ 32768) : bunGo out l = out := by
  cases l with
  | nil => rfl
  | cons p r => rw [bunGo, if_neg h]

/-! How long. -/
theorem in64_nat (n : Nat) (h : n ≤ 9223372036854775807) : in64 (n : Int) := ⟨by omega, by omega⟩
theorem num_nat (n : Nat) (h : n ≤ 9223372036854775807) : (num (n : Int)).length ≤ 22 := num_len _ (in64_nat n h)

theorem rdNum_rest (r : Rd) : ((rdNum r).2.bad = true ∧ (rdNum r).2.b = r.b ∧ (rdNum r).1 = 0) ∨ ((rdNum r).2.bad = false ∧ (rdNum r).2.b.length + 2 ≤ r.b.length) := by
  rw [rdNum]
  split
  · rename_i h
    simp only [numOk, Bool.and_eq_true, decide_eq_true_eq] at h
    right; simp; omega
  · left; simp
theorem rdNum_le (r : Rd) : (rdNum r).2.b.length ≤ r.b.length := by
  rcases rdNum_rest r with h | h
  · rw [h.2.1]; exact Nat.le_refl _
  · omega
theorem rdNum_bad (r : Rd) (h : r.bad = true) : (rdNum r).2.bad = true := by
  rw [rdNum, show numOk r.b r.bad = false from by simp [numOk, h]]; rfl

theorem rdTxt_rest (r : Rd) : ((rdTxt r).2.bad = true ∧ (rdTxt r).2.b.length ≤ r.b.length ∧ (rdTxt r).1 = []) ∨ ((rdTxt r).2.bad = false ∧ (rdTxt r).1.length + (rdTxt r).2.b.length + 2 ≤ r.b.length) := by
  have h1 := rdNum_le r
  rw [rdTxt]
  split
  · left; exact ⟨rfl, h1, rfl⟩
  · rename_i h
    right
    rcases rdNum_rest r with h2 | h2
    · exact absurd (.inl h2.1) h
    · have h3 : (rdNum r).1 ≤ (rdNum r).2.b.length := Nat.le_of_not_lt fun h4 => h (.inr h4)
      refine ⟨rfl, ?_⟩
      simp only [List.length_take, List.length_drop]; omega
theorem rdTxt_le (r : Rd) : (rdTxt r).2.b.length ≤ r.b.length := by rcases rdTxt_rest r with h | h <;> omega
theorem rdTxt_len (r : Rd) : (rdTxt r).1.length ≤ r.b.length := by
  rcases rdTxt_rest r with h | h
  · rw [h.2.2]; simp
  · omega
theorem rdTxt_bad (r : Rd) (h : r.bad = true) : (rdTxt r).2.bad = true := by
  rw [rdTxt, if_pos (.inl (rdNum_bad r h))]

theorem txt_len (s : Str) (h : s.length ≤ 9223372036854775807) : (txt s).length ≤ s.length + 22 := by
  have := num_nat s.length h
  rw [txt, List.length_append]; omega
theorem txts_cons (s : Str) (l : List Str) : txts (s :: l) = txt s ++ txts l := by simp [txts]

theorem rdMany_txts : ∀ (n : Nat) (r : Rd), r.b.length ≤ 1000000000 → (txts (rdMany rdTxt n r).1).length + 22 * (rdMany rdTxt n r).2.b.length ≤ 22 * r.b.length + (if r.bad then 0 else 22) ∧ (rdMany rdTxt n r).2.b.length ≤ r.b.length
  | 0, r, _ => by simp [rdMany, txts]
  | n + 1, r, hb => by
    rw [rdMany]
    cases hr : r.bad with
    | true => simp [txts]
    | false =>
      simp only [Bool.false_eq_true, if_false]
      have h1 := rdTxt_rest r
      have h2 := rdTxt_le r
      obtain ⟨h3, h4⟩ := rdMany_txts n (rdTxt r).2 (by omega)
      have h5 := txt_len (rdTxt r).1 (by have := rdTxt_len r; omega)
      rw [txts_cons, List.length_append]
      rcases h1 with ⟨h6, h7, h8⟩ | ⟨h6, h7⟩
      · rw [h6, if_pos rfl] at h3
        rw [h8] at h5 ⊢
        simp only [List.length_nil] at h5
        omega
      · rw [h6, if_neg (by simp)] at h3
        omega
theorem rdLst_len (r : Rd) (hb : r.b.length ≤ 1000000000) : (lst (rdLst r).1).length ≤ 22 * r.b.length + 44 ∧ (rdLst r).2.b.length ≤ r.b.length := by
  have h1 := rdNum_le r
  obtain ⟨h2, h3⟩ := rdMany_txts (rdNum r).1 (rdNum r).2 (by omega)
  have h4 : (rdLst r).1 = (rdMany rdTxt (rdNum r).1 (rdNum r).2).1 := rfl
  have h5 : (rdLst r).2 = (rdMany rdTxt (rdNum r).1 (rdNum r).2).2 := rfl
  rw [← h4, ← h5] at h2
  rw [← h5] at h3
  have hn : (rdLst r).1.length ≤ 100000000000 := by
    rw [h4]
    have h6 : ∀ (n : Nat) (r : Rd), (rdMany rdTxt n r).1.length ≤ n := by
      intro n
      induction n with
      | zero => intro r; simp [rdMany]
      | succ n ih => intro r; rw [rdMany]; split <;> simp; exact ih _
    have := h6 (rdNum r).1 (rdNum r).2
    have := rdNum_lt r
    omega
  have h7 := num_nat (rdLst r).1.length (by omega)
  refine ⟨?_, by omega⟩
  rw [lst, List.length_append]
  split at h2 <;> omega
theorem rdMany_len {α : Type} (one : Rd → α × Rd) : ∀ (n : Nat) (r : Rd), (rdMany one n r).1.length ≤ n
  | 0, r => by simp [rdMany]
  | n + 1, r => by rw [rdMany]; split <;> simp; exact rdMany_len one n _
theorem rdLst_bad (r : Rd) (h : r.bad = true) : (rdLst r).2.bad = true := by
  have h1 := rdNum_bad r h
  rw [rdLst, rdList]
  cases (rdNum r).1 with
  | zero => exact h1
  | succ n => rw [rdMany, h1]; simpa using h1

/-- A change that is read well is not longer than what it is read of, but for the numbers. -/
theorem rdPrim_rest (r : Rd) (hb : r.b.length ≤ 1000000000) : (primEnc (rdPrim r).1).length ≤ 48 * r.b.length + 400 ∧ (rdPrim r).2.b.length ≤ r.b.length := by
  let r1 := (rdNum r).2
  let r2 := (rdTxt r1).2
  let r3 := (rdTxt r2).2
  let r4 := (rdTxt r3).2
  let r5 := (rdNum r4).2
  let r6 := (rdLst r5).2
  have a1 : r1.b.length ≤ r.b.length := rdNum_le r
  have a2 : r2.b.length ≤ r1.b.length := rdTxt_le r1
  have a3 : r3.b.length ≤ r2.b.length := rdTxt_le r2
  have a4 : r4.b.length ≤ r3.b.length := rdTxt_le r3
  have a5 : r5.b.length ≤ r4.b.length := rdNum_le r4
  obtain ⟨l6, a6⟩ := rdLst_len r5 (by omega)
  obtain ⟨l7, a7⟩ := rdLst_len r6 (by show r6.b.length ≤ _; exact Nat.le_trans a6 (by omega))
  have n1 := num_nat (rdNum r).1 (by have := rdNum_lt r; omega)
  have n5 := num_nat (rdNum r4).1 (by have := rdNum_lt r4; omega)
  have t2 : (rdTxt r1).1.length ≤ r1.b.length := rdTxt_len r1
  have t3 : (rdTxt r2).1.length ≤ r2.b.length := rdTxt_len r2
  have t4 : (rdTxt r3).1.length ≤ r3.b.length := rdTxt_len r3
  have u2 := txt_len (rdTxt r1).1 (by omega)
  have u3 := txt_len (rdTxt r2).1 (by omega)
  have u4 := txt_len (rdTxt r3).1 (by omega)
  have e1 : (rdPrim r).1 = ⟨((rdNum r).1 : Int), (rdTxt r1).1, (rdTxt r2).1, (rdTxt r3).1, ((rdNum r4).1 : Int), (rdLst r5).1, (rdLst r6).1⟩ := rfl
  have e2 : (rdPrim r).2 = (rdLst r6).2 := rfl
  rw [e1, e2, primEnc]
  simp only [List.length_append]
  have a6' : r6.b.length ≤ r5.b.length := a6
  constructor
  · omega
  · omega

theorem rdPrims_enc : ∀ (n : Nat) (r : Rd), r.b.length ≤ 1000000000 → ∀ p ∈ (rdMany rdPrim n r).1, (primEnc p).length ≤ 48 * r.b.length + 400
  | 0, r, _, p, hp => by simp [rdMany] at hp
  | n + 1, r, hb, p, hp => by
    rw [rdMany] at hp
    obtain ⟨h1, h2⟩ := rdPrim_rest r hb
    cases hr : r.bad with
    | true => simp [hr] at hp
    | false =>
      simp only [hr, Bool.false_eq_true, if_false, List.mem_cons] at hp
      rcases hp with rfl | hp
      · exact h1
      · have := rdPrims_enc n (rdPrim r).2 (by omega) p hp; omega

theorem prims_len (l : List Prim) (k : Nat) (h : ∀ p ∈ l, (primEnc p).length ≤ k) : (prims l).length ≤ l.length * k := by
  induction l with
  | nil => simp [prims]
  | cons p l ih =>
    have h1 := h p (by simp)
    have h2 := ih fun q hq => h q (by simp [hq])
    rw [show prims (p :: l) = primEnc p ++ prims l by simp [prims], List.length_append, List.length_cons, Nat.add_mul, Nat.one_mul]
    omega

/-- The patch that is read of bytes is not too long. -/
theorem getPatch_enc (s : Str) (hs : s.length ≤ 60000) : (patchEnc (getPatch s).1).length ≤ 1000000000 := by
  rw [getPatch]
  split
  · have h1 := txt_len [] (by simp)
    have h2 := num_nat 0 (by omega)
    simp only [patchEnc, lst, txts, prims, List.length_append, List.map_nil, List.flatten_nil, List.length_nil] at h1 ⊢
    have h3 : ((0 : Nat) : Int) = 0 := rfl
    have h4 : (num ((([] : List Str).length : Nat) : Int)) = num 0 := rfl
    have h5 : (num ((([] : List Prim).length : Nat) : Int)) = num 0 := rfl
    omega
  · rename_i h
    have hp : patchB (rdPatch ⟨s, false⟩).1 = true := by
      cases h1 : patchB (rdPatch ⟨s, false⟩).1 with
      | true => rfl
      | false => exact absurd (.inr (.inr h1)) h
    have h256 : (rdPatch ⟨s, false⟩).1.body.length ≤ 256 := by
      simp only [patchB, Bool.and_eq_true, decide_eq_true_eq] at hp
      exact hp.1.2
    have e1 : (rdPatch ⟨s, false⟩).1 = ⟨(rdTxt ⟨s, false⟩).1, (rdLst (rdTxt ⟨s, false⟩).2).1, (rdList rdPrim (rdLst (rdTxt ⟨s, false⟩).2).2).1⟩ := rfl
    have a1 : (rdTxt ⟨s, false⟩).2.b.length ≤ s.length := rdTxt_le ⟨s, false⟩
    have a2 : (rdTxt ⟨s, false⟩).1.length ≤ s.length := rdTxt_len ⟨s, false⟩
    obtain ⟨a3, a4⟩ := rdLst_len (rdTxt ⟨s, false⟩).2 (by omega)
    have a5 := rdNum_le (rdLst (rdTxt ⟨s, false⟩).2).2
    have a6 := rdPrims_enc (rdNum (rdLst (rdTxt ⟨s, false⟩).2).2).1 (rdNum (rdLst (rdTxt ⟨s, false⟩).2).2).2 (by omega)
    have a7 := prims_len _ (48 * (rdNum (rdLst (rdTxt ⟨s, false⟩).2).2).2.b.length + 400) a6
    have a8 := txt_len (rdTxt ⟨s, false⟩).1 (by omega)
    rw [e1]
    have h256 : (rdList rdPrim (rdLst (rdTxt ⟨s, false⟩).2).2).1.length ≤ 256 := h256
    have a9 := num_nat (rdList rdPrim (rdLst (rdTxt ⟨s, false⟩).2).2).1.length (by omega)
    rw [patchEnc]
    simp only [List.length_append]
    have b1 : (rdMany rdPrim (rdNum (rdLst (rdTxt ⟨s, false⟩).2).2).1 (rdNum (rdLst (rdTxt ⟨s, false⟩).2).2).2).1 = (rdList rdPrim (rdLst (rdTxt ⟨s, false⟩).2).2).1 := rfl
    rw [b1] at a7
    have b2 : (rdList rdPrim (rdLst (rdTxt ⟨s, false⟩).2).2).1.length * (48 * (rdNum (rdLst (rdTxt ⟨s, false⟩).2).2).2.b.length + 400) ≤ 256 * (48 * 60000 + 400) := Nat.mul_le_mul h256 (by omega)
    omega

theorem rdPats_enc : ∀ (n : Nat) (r : Rd), r.b.length ≤ 60000 → ∀ p ∈ (rdMany rdPat n r).1, (patchEnc p).length ≤ 1000000000
  | 0, r, _, p, hp => by simp [rdMany] at hp
  | n + 1, r, hb, p, hp => by
    rw [rdMany] at hp
    cases hr : r.bad with
    | true => simp [hr] at hp
    | false =>
      simp only [hr, Bool.false_eq_true, if_false, List.mem_cons] at hp
      rcases hp with rfl | hp
      · exact getPatch_enc _ (by have := rdTxt_len r; omega)
      · exact rdPats_enc n (rdPat r).2 (by show (rdTxt r).2.b.length ≤ _; have := rdTxt_le r; omega) p hp
theorem insP_mem {x p : Patch} : ∀ {l : List Patch}, p ∈ insP x l → p = x ∨ p ∈ l
  | [], h => by simp [insP] at h; exact .inl h
  | y :: r, h => by
    simp only [insP] at h
    split at h
    · simpa using h
    · simp only [List.mem_cons] at h ⊢
      rcases h with h | h
      · exact .inr (.inl h)
      · rcases insP_mem h with h | h
        · exact .inl h
        · exact .inr (.inr h)
theorem sortGo_mem {p : Patch} : ∀ {l acc s : List Patch}, sortGo acc l = some s → p ∈ s → p ∈ acc ∨ p ∈ l
  | [], acc, s, h, hp => by simp [sortGo] at h; subst h; exact .inl hp
  | x :: r, acc, s, h, hp => by
    simp only [sortGo] at h
    split at h
    · rcases sortGo_mem h hp with h1 | h1
      · rcases insP_mem h1 with h2 | h2
        · exact .inr (by simp [h2])
        · exact .inl h2
      · exact .inr (by simp [h1])
    · simp at h
theorem sortP_mem {l : List Patch} {p : Patch} (h : p ∈ (sortP l).1) : p ∈ l := by
  rw [sortP] at h
  cases hs : sortedP l with
  | none => simp [hs] at h
  | some s =>
    simp only [hs] at h
    rw [sortedP] at hs
    split at hs
    · simp at hs
    · rcases sortGo_mem hs h with h1 | h1
      · simp at h1
      · exact h1
theorem sortP_err {l : List Patch} : ((sortP l).2 = 0 ∧ sortedP l = some (sortP l).1) ∨ ((sortP l).2 = 1 ∧ sortedP l = none ∧ (sortP l).1 = []) := by
  rw [sortP]; cases sortedP l <;> simp
theorem putPatch_len {p : Patch} {k : Nat} (h : (patchEnc p).length ≤ k) : (putPatch p).1.length ≤ k := by
  rw [putPatch]; split
  · exact h
  · simp
theorem bunGo_drop (s : List Patch) (i : Nat) (out : Str) (hi : i < s.length) (ho : out.length ≤ 32768) : bunGo out (s.drop i) = bunGo (out ++ txt (putPatch s[i]).1) (s.drop (i + 1)) := by
  rw [List.drop_eq_getElem_cons hi, bunGo, if_pos ho]
theorem sortGo_length : ∀ {l acc s : List Patch}, sortGo acc l = some s → s.length = acc.length + l.length
  | [], acc, s, h => by simp [sortGo] at h; subst h; simp
  | x :: r, acc, s, h => by
    simp only [sortGo] at h
    split at h
    · rw [sortGo_length h, insP_length]; simp; omega
    · simp at h
theorem sortP_length (l : List Patch) : (sortP l).1.length ≤ 256 := by
  rcases sortP_err (l := l) with ⟨_, h⟩ | ⟨_, _, h⟩
  · rw [sortedP] at h
    split at h
    · simp at h
    · have := sortGo_length h; simp at this; omega
  · rw [h]; simp
theorem bunGo_le : ∀ (l : List Patch) (out : Str), (∀ p ∈ l, (patchEnc p).length ≤ 1000000000) → out.length ≤ 1100000000 → (bunGo out l).length ≤ 1100000000
  | [], out, _, h => h
  | p :: r, out, hp, h => by
    rw [bunGo]
    split
    · refine bunGo_le r _ (fun q hq => hp q (by simp [hq])) ?_
      have h1 := putPatch_len (hp p (by simp))
      have h2 := txt_len (putPatch p).1 (by omega)
      rw [List.length_append]; omega
    · exact h
theorem bunR_le (l : List Patch) (h : ∀ p ∈ l, (patchEnc p).length ≤ 1000000000) : (bunR l).1.length ≤ 1100000000 := by
  rw [bunR]
  have h1 := sortP_err (l := l)
  have h2 := sortP_length l
  cases hs : sortedP l with
  | none => simp
  | some s =>
    rw [hs] at h1
    rcases h1 with ⟨_, h1⟩ | ⟨_, h1, _⟩
    · simp only [Option.some.injEq] at h1
      subst h1
      have := num_nat (sortP l).1.length (by omega)
      exact bunGo_le _ _ (fun p hp => h p (sortP_mem hp)) (by omega)
    · simp at h1
theorem rightM_bounds {x : Msg} (h : rightM x = true) : in64 x.kind ∧ in64 x.err := by
  simp only [rightM, Bool.and_eq_true, Bool.not_eq_true'] at h
  obtain ⟨h1, h2, h3⟩ := h
  simp only [rmA, Bool.cond_true_left, Bool.or_eq_false_iff, decide_eq_false_iff_not] at h1
  simp only [rmC, Bool.cond_true_left, Bool.cond_false_right, Bool.and_eq_true, Bool.or_eq_true, Bool.not_eq_true', decide_eq_true_eq, decide_eq_false_iff_not] at h3
  unfold in64
  obtain ⟨⟨⟨a, b⟩, _⟩, _⟩ := h1
  obtain ⟨_, c⟩ := h3
  omega
theorem rdMsg_bounds (s : Str) (hs : s.length ≤ 60000) : (lst (rdMsg ⟨s, false⟩).1.names).length ≤ 1000000000 ∧ (lst (rdMsg ⟨s, false⟩).1.have_).length ≤ 1000000000 ∧ ∀ p ∈ (rdMsg ⟨s, false⟩).1.patches, (patchEnc p).length ≤ 1000000000 := by
  have a1 : (rdNum ⟨s, false⟩).2.b.length ≤ s.length := rdNum_le ⟨s, false⟩
  obtain ⟨a2, a3⟩ := rdLst_len (rdNum ⟨s, false⟩).2 (by omega)
  obtain ⟨a4, a5⟩ := rdLst_len (rdLst (rdNum ⟨s, false⟩).2).2 (by omega)
  have a6 := rdNum_le (rdLst (rdLst (rdNum ⟨s, false⟩).2).2).2
  have a7 := rdNum_le (rdNum (rdLst (rdLst (rdNum ⟨s, false⟩).2).2).2).2
  refine ⟨?_, ?_, ?_⟩
  · show (lst (rdLst (rdNum ⟨s, false⟩).2).1).length ≤ _; omega
  · show (lst (rdLst (rdLst (rdNum ⟨s, false⟩).2).2).1).length ≤ _; omega
  · exact rdPats_enc _ _ (by omega)
end Go.Q
end

section
/- Walks of the document's bundles and messages, in the logic 'Q'. -/
set_option linter.unusedVariables false
set_option linter.unusedSimpArgs false
set_option maxRecDepth 100000
namespace Go.Proofs.YtldfghgjllaljaaGreatDoor.Q
open Go Go.Q

/-! counterpane/counterpaneref17.bundle -/
theorem b_ref17_bundle : bodied Go.Proofs.Tryz.prog 28 = true := by rw [bodied, Tryz.func28]; rfl
set_option maxHeartbeats 4000000 in
theorem c_ref17_bundle (l : List Patch) (h : ∀ p ∈ l, (patchEnc p).length ≤ 1000000000) : VPure Go.Proofs.Tryz.prog G 28 [.list 3 (l.map cPatch)] (.tuple [.str (bunR l).1, .int .i64 (bunR l).2]) := by
  have hS := sortP_length l
  have hN := num_nat (sortP l).1.length (by omega)
  rw [num] at hN
  refine vpure_of (ts := [2, 3]) Tryz.func28 rfl (by simp [Tryz.ntmps28]) rfl rfl ?_
  rw [Tryz.ntmps28]
  refine vwp_reg tabOk [] [0] (by simp only [go_sem]; rfl) (by first | trivial | (simp; done) | (simp [in64]; omega)) ?_
  refine vwp_seq (vwp_region ?_)
  refine vops_go tabOk [] (by simp only [go_sem]; rfl) (by first | trivial | (simp; done) | (simp [in64]; omega)) ?_
  -- call 0: t11 = CALL 21(f21, t10)
  refine vops_call (hc := fun _ => c_ref14_Sorted l) rfl (by simp only [go_sem]; rfl) rfl b_ref14_Sorted (by simp only [go_sem]; exact WkL.refl _) rfl (fun hg => by simp only [go_sem]; try (intros; first | assumption | trivial | simp_all)) ?_
  simp only [go_sem]
  refine vops_go tabOk [] (by simp only [go_sem]; rfl) (by first | trivial | (simp; done) | (simp [in64]; omega)) ?_
  refine vops_done [0, 4] ?_
  simp only [go_sem, thenQ, blockQ, jumpQ, stayQ]
  refine vwp_seq ?_
  refine vwp_reg tabOk [] [0, 15] (by simp only [go_sem]; rfl) (by first | trivial | (simp; done) | (simp [in64]; omega)) ?_
  refine vwp_cond (by simp only [go_sem]; rfl) (fun h0 => ?_) (fun h0 => ?_)
  · -- h0 then
    refine vwp_reg tabOk [] [2, 3] (by simp only [go_sem]; rfl) (by first | trivial | (simp; done) | (simp [in64]; omega)) ?_
    refine vwp_ret ?_
    -- result 0
    simp only [thenQ, blockQ, jumpQ, stayQ, RetQ, go_sem]
    refine ⟨by simp, Wk.eq ?_⟩
    have he := sortP_err (l := l)
    rcases he with ⟨e1, _⟩ | ⟨_, e2, _⟩
    · simp [e1] at h0
    · rw [bunR, e2]
  · -- h0 else
    refine vwp_skip ?_
    try simp only [thenQ, blockQ, jumpQ, stayQ]
    refine vwp_seq (vwp_region ?_)
    refine vops_go tabOk [] (by simp only [go_sem]; rfl) (by first | trivial | (simp; done) | (simp [maxB]; simp at hN; omega)) ?_
    -- call 1: t18 = CALL 29(f29, t17)
    refine vops_call (hc := fun _ => c_Itoa (sortP l).1.length (in64_nat _ (by omega))) rfl (by simp only [go_sem]; rfl) rfl b_strconv_Itoa (by simp only [go_sem]; exact WkL.refl _) rfl (fun hg => by simp only [go_sem]; try (intros; first | assumption | trivial | simp_all)) ?_
    simp only [go_sem]
    refine vops_go tabOk [] (by simp only [go_sem]; rfl) (by first | trivial | (simp; done) | (simp [maxB]; simp at hN; omega)) ?_
    refine vops_done [0, 5] ?_
    simp only [go_sem, thenQ, blockQ, jumpQ, stayQ]
    refine vwp_seq ?_
    refine vwp_reg tabOk [] [0, 5, 6] (by simp only [go_sem]; rfl) (by first | trivial | (simp; done) | (simp [in64]; omega)) ?_
    refine vwp_block ?_
    -- loop 0
    refine vwp_loopW (fun y : Nat × Str => [(0, .list 3 ((sortP l).1.map cPatch)), (5, .str y.2), (6, .int .i64 (y.1 : Int))]) (fun y => []) (fun y => y.1 ≤ (sortP l).1.length ∧ bunGo (num (sortP l).1.length) (sortP l).1 = bunGo y.2 ((sortP l).1.drop y.1) ∧ y.2.length ≤ 1100000000) (fun y => (sortP l).1.length - y.1) (0, num (sortP l).1.length) ⟨Nat.zero_le _, rfl, by simp only [num]; omega⟩ (Env.wk_cons (by first | exact Wk.refl _ | exact Wk.nils _ | (refine Wk.eq ?_; simp; done) | (refine Wk.eq ?_; congr 1 <;> omega)) (Env.wk_cons (by first | exact Wk.refl _ | exact Wk.nils _ | (refine Wk.eq ?_; simp; done) | (refine Wk.eq ?_; congr 1 <;> omega)) (Env.wk_cons (by first | exact Wk.refl _ | exact Wk.nils _ | (refine Wk.eq ?_; simp; done) | (refine Wk.eq ?_; congr 1 <;> omega)) (Env.wk_nil _)))) rfl ?_
    rintro y ⟨hi, hs, hl⟩
    refine vwp_seq ?_
    refine vwp_reg tabOk [] [0, 5, 6, 28] (by simp only [go_sem]; rfl) (by first | trivial | (simp; done) | (simp [in64]; omega)) ?_
    refine vwp_cond (by simp only [go_sem]; rfl) (fun h1 => ?_) (fun h1 => ?_)
    · -- h1 then
      have h1' : y.1 < (sortP l).1.length := by simp at h1; omega
      have hle : y.2.length ≤ 32768 := by simp at h1; omega
      have hp := h _ (sortP_mem (List.getElem_mem h1'))
      have hp2 := putPatch_len hp
      have ht := txt_len (putPatch (sortP l).1[y.1]).1 (by omega)
      refine vwp_skip ?_
      try simp only [thenQ, blockQ, jumpQ, stayQ]
      refine vwp_seq ?_
      refine vwp_block ?_
      refine vwp_seq (vwp_region ?_)
      refine vops_go tabOk [] (by simp only [go_sem, getD_map, h1']; rfl) (by first | trivial | (simp [h1']; done) | (simp [h1']; omega)) ?_
      -- call 2: t36 = CALL 48(f48, t35)
      refine vops_call (hc := fun _ => c_ref13_Put (sortP l).1[y.1] hp) rfl (by simp only [go_sem, getD_map, h1']; rfl) rfl b_ref13_Put (by simp only [go_sem]; exact WkL.refl _) rfl (fun hg => by simp only [go_sem]; try (intros; first | assumption | trivial | simp_all)) ?_
      simp only [go_sem]
      refine vops_go tabOk [] (by simp only [go_sem, getD_map, h1']; rfl) (by first | trivial | (simp [h1']; done) | (simp [h1']; omega)) ?_
      refine vops_done [0, 5, 6, 7] ?_
      simp only [go_sem, thenQ, blockQ, jumpQ, stayQ]
      refine vwp_region ?_
      refine vops_go tabOk [] (by simp only [go_sem]; rfl) (by first | trivial | (simp; done) | (simp [maxB]; omega)) ?_
      -- call 3: t42 = CALL 49(f49, t41)
      refine vops_call (hc := fun _ => c_ref17_text (putPatch (sortP l).1[y.1]).1 (by omega)) rfl (by simp only [go_sem]; rfl) rfl b_ref17_text (by simp only [go_sem]; exact WkL.refl _) rfl (fun hg => by simp only [go_sem]; try (intros; first | assumption | trivial | simp_all)) ?_
      simp only [go_sem]
      refine vops_go tabOk [] (by simp only [go_sem]; rfl) (by first | trivial | (simp; done) | (simp [maxB]; omega)) ?_
      refine vops_done [0, 5, 6] ?_
      simp only [go_sem, thenQ, blockQ, jumpQ, stayQ]
      try simp only [thenQ, blockQ, jumpQ, stayQ]
      refine vwp_reg1 tabOk [] [0, 5, 6] (by simp only [go_sem]; rfl) (by first | trivial | (simp; done) | (simp [in64]; omega)) ?_
      try simp only [thenQ, blockQ, jumpQ, stayQ]
      -- round 0
      exact ⟨(y.1 + 1, y.2 ++ txt (putPatch (sortP l).1[y.1]).1), ⟨by simp only []; omega, by simp only []; rw [hs, bunGo_drop _ _ _ h1' hle], by simp only [List.length_append]; omega⟩, by simp only []; omega, (Env.wk_cons (by first | exact Wk.refl _ | exact Wk.nils _ | (refine Wk.eq ?_; simp; done) | (refine Wk.eq ?_; congr 1 <;> omega)) (Env.wk_cons (by first | exact Wk.refl _ | exact Wk.nils _ | (refine Wk.eq ?_; simp; done) | (refine Wk.eq ?_; congr 1 <;> omega)) (Env.wk_cons (by first | exact Wk.refl _ | exact Wk.nils _ | (refine Wk.eq ?_; simp; done) | (refine Wk.eq ?_; congr 1 <;> omega)) (Env.wk_nil _)))), (by first | rfl | trivial)⟩
    · -- h1 else
      refine vwp_exit ?_
      simp only [thenQ, blockQ, jumpQ, stayQ, if_true, reduceIte, Nat.reduceEqDiff]
      refine vwp_reg tabOk [] [2, 3] (by simp only [go_sem]; rfl) (by first | trivial | (simp; done) | (simp [in64]; omega)) ?_
      refine vwp_ret ?_
      -- result 1
      simp only [thenQ, blockQ, jumpQ, stayQ, RetQ, go_sem]
      refine ⟨by simp, Wk.eq ?_⟩
      have he := sortP_err (l := l)
      rcases he with ⟨_, e1⟩ | ⟨e1, _⟩
      · have hx : bunGo y.2 ((sortP l).1.drop y.1) = y.2 := by
          by_cases hc : y.2.length ≤ 32768
          · rw [show y.1 = (sortP l).1.length by simp at h1; omega, List.drop_length, bunGo]
          · exact bunGo_long hc
        rw [bunR, e1]; simp only []; rw [hs, hx]
      · simp [e1] at h0

/-! counterpane/counterpaneref17.PutBundle -/
theorem b_ref17_PutBundle : bodied Go.Proofs.Tryz.prog 14 = true := by rw [bodied, Tryz.func14]; rfl
theorem c_ref17_PutBundle (l : List Patch) (h : ∀ p ∈ l, (patchEnc p).length ≤ 1000000000) : VPure Go.Proofs.Tryz.prog G 14 [.list 3 (l.map cPatch)] (.tuple [.list 1 ((putBunR l).1.map encB), .int .i64 (putBunR l).2]) := by
  have hB := bunR_le l h
  refine vpure_of (ts := [2, 3]) Tryz.func14 rfl (by simp [Tryz.ntmps14]) rfl rfl ?_
  rw [Tryz.ntmps14]
  refine vwp_reg tabOk [] [0] (by simp only [go_sem]; rfl) (by first | trivial | (simp; done) | (simp [in64]; omega)) ?_
  refine vwp_seq (vwp_region ?_)
  refine vops_go tabOk [] (by simp only [go_sem]; rfl) (by first | trivial | (simp; done) | (simp [in64]; omega)) ?_
  -- call 0: t8 = CALL 28(f28, t7)
  refine vops_call (hc := fun _ => c_ref17_bundle l h) rfl (by simp only [go_sem]; rfl) rfl b_ref17_bundle (by simp only [go_sem]; exact WkL.refl _) rfl (fun hg => by simp only [go_sem]; try (intros; first | assumption | trivial | simp_all)) ?_
  simp only [go_sem]
  refine vops_go tabOk [] (by simp only [go_sem]; rfl) (by first | trivial | (simp; done) | (simp [in64]; omega)) ?_
  refine vops_done [4, 5] ?_
  simp only [go_sem, thenQ, blockQ, jumpQ, stayQ]
  refine vwp_seq ?_
  refine vwp_reg tabOk [] [4, 5, 12] (by simp only [go_sem]; rfl) (by first | trivial | (simp; done) | (simp [in64]; omega)) ?_
  refine vwp_cond (by simp only [go_sem]; rfl) (fun h0 => ?_) (fun h0 => ?_)
  · -- h0 then
    refine vwp_reg tabOk [] [2, 3] (by simp only [go_sem]; rfl) (by first | trivial | (simp; done) | (simp [in64]; omega)) ?_
    refine vwp_ret ?_
    -- result 0
    simp only [thenQ, blockQ, jumpQ, stayQ, RetQ, go_sem]
    refine ⟨by simp, ?_⟩
    rw [show putBunR l = ([], (bunR l).2) from by rw [putBunR, if_pos (by simpa using h0)]]
    exact Wk.tuple ⟨Wk.nils _, Wk.refl _, trivial⟩
  · -- h0 else
    refine vwp_skip ?_
    try simp only [thenQ, blockQ, jumpQ, stayQ]
    refine vwp_seq ?_
    refine vwp_reg tabOk [] [4, 16] (by simp only [go_sem]; rfl) (by first | trivial | (simp; done) | (simp [in64]; omega)) ?_
    refine vwp_cond (by simp only [go_sem]; rfl) (fun h1 => ?_) (fun h1 => ?_)
    · -- h1 then
      refine vwp_reg tabOk [] [2, 3] (by simp only [go_sem]; rfl) (by first | trivial | (simp; done) | (simp [in64]; omega)) ?_
      refine vwp_ret ?_
      -- result 1
      simp only [thenQ, blockQ, jumpQ, stayQ, RetQ, go_sem]
      refine ⟨by simp, ?_⟩
      rw [show putBunR l = ([], 2) from by rw [putBunR, if_neg (by simpa using h0), if_pos (by simp at h1; omega)]]
      exact Wk.tuple ⟨Wk.nils _, Wk.refl _, trivial⟩
    · -- h1 else
      refine vwp_skip ?_
      try simp only [thenQ, blockQ, jumpQ, stayQ]
      refine vwp_reg tabOk [] [2, 3] (by simp only [go_sem]; rfl) (by first | trivial | (simp; done) | (simp [in64]; omega)) ?_
      refine vwp_ret ?_
      -- result 2
      simp only [thenQ, blockQ, jumpQ, stayQ, RetQ, go_sem]
      refine ⟨by simp, Wk.eq ?_⟩
      rw [show putBunR l = ((bunR l).1, 0) from by rw [putBunR, if_neg (by simpa using h0), if_neg (by simp at h1; omega)]]

/-! counterpane/counterpaneref17.Right -/
theorem b_ref17_Right : bodied Go.Proofs.Tryz.prog 27 = true := by rw [bodied, Tryz.func27]; rfl
set_option maxHeartbeats 4000000 in
theorem c_ref17_Right (x : Msg) : VPure Go.Proofs.Tryz.prog G 27 [.agg (cMsg x)] (.bool (rightM x)) := by
  refine vpure_know fun hk => ?_
  simp only [factsL, facts, cMsg, maxB, List.length_map] at hk
  refine vpure_of (ts := [2]) Tryz.func27 rfl (by simp [Tryz.ntmps27]) rfl rfl ?_
  rw [Tryz.ntmps27]
  refine vwp_reg tabOk [] [1] (by simp only [go_sem]; rfl) (by first | trivial | (simp; done) | (simp [in64]; omega)) ?_
  refine vwp_seq ?_
  refine vwp_seq (vwp_region ?_)
  refine vops_go tabOk [] (by simp only [go_sem]; rfl) (by first | trivial | (simp; done) | (simp [in64]; omega)) ?_
  -- call 0: t16 = CALL 47(f47, t15)  if op8 not
  refine vops_call (hc := fun _ => c_ref17_labels x.names) rfl (by simp only [go_sem]; rfl) rfl b_ref17_labels (by simp only [go_sem]; exact WkL.refl _) rfl (fun hg => by simp only [go_sem]; try (intros; first | assumption | trivial | simp_all)) ?_
  simp only [go_sem]
  refine vops_go tabOk [] (by simp only [go_sem]; rfl) (by first | trivial | (simp; done) | (simp [in64]; omega)) ?_
  -- call 1: t22 = CALL 47(f47, t21)  if op14 not
  refine vops_call (hc := fun _ => c_ref17_labels x.have_) rfl (by simp only [go_sem]; rfl) rfl b_ref17_labels (by simp only [go_sem]; exact WkL.refl _) rfl (fun hg => by simp only [go_sem]; try (intros; first | assumption | trivial | simp_all)) ?_
  simp only [go_sem]
  refine vops_go tabOk [] (by simp only [go_sem]; rfl) (by first | trivial | (simp; done) | (simp [in64]; omega)) ?_
  refine vops_done [1, 24] ?_
  simp only [go_sem, thenQ, blockQ, jumpQ, stayQ]
  refine vwp_cond (by simp only [go_sem]; rfl) (fun h0 => ?_) (fun h0 => ?_)
  · -- h0 then
    refine vwp_reg tabOk [] [2] (by simp only [go_sem]; rfl) (by first | trivial | (simp; done) | (simp [in64]; omega)) ?_
    refine vwp_ret ?_
    -- result 0
    simp only [thenQ, blockQ, jumpQ, stayQ, RetQ, go_sem]
    refine ⟨by simp, Wk.eq ?_⟩
    rw [rightM, show rmA x = true from h0]; rfl
  · -- h0 else
    refine vwp_skip ?_
    try simp only [thenQ, blockQ, jumpQ, stayQ]
    refine vwp_seq ?_
    refine vwp_reg tabOk [] [1, 48] (by simp only [go_sem]; rfl) (by first | trivial | (simp; done) | (simp [in64]; omega)) ?_
    refine vwp_cond (by simp only [go_sem]; rfl) (fun h1 => ?_) (fun h1 => ?_)
    · -- h1 then
      refine vwp_reg tabOk [] [2] (by simp only [go_sem]; rfl) (by first | trivial | (simp; done) | (simp [in64]; omega)) ?_
      refine vwp_ret ?_
      -- result 1
      simp only [thenQ, blockQ, jumpQ, stayQ, RetQ, go_sem]
      refine ⟨by simp, Wk.eq ?_⟩
      rw [rightM, show rmB x = true from h1]; simp
    · -- h1 else
      refine vwp_skip ?_
      try simp only [thenQ, blockQ, jumpQ, stayQ]
      refine vwp_seq (vwp_region ?_)
      refine vops_go tabOk [] (by simp only [go_sem]; rfl) (by first | trivial | (simp; done) | (simp [in64]; omega)) ?_
      -- call 2: t52 = CALL 21(f21, t51)
      refine vops_call (hc := fun _ => c_ref14_Sorted x.patches) rfl (by simp only [go_sem]; rfl) rfl b_ref14_Sorted (by simp only [go_sem]; exact WkL.refl _) rfl (fun hg => by simp only [go_sem]; try (intros; first | assumption | trivial | simp_all)) ?_
      simp only [go_sem]
      refine vops_go tabOk [] (by simp only [go_sem]; rfl) (by first | trivial | (simp; done) | (simp [in64]; omega)) ?_
      refine vops_done [1, 4] ?_
      simp only [go_sem, thenQ, blockQ, jumpQ, stayQ]
      refine vwp_reg tabOk [] [2] (by simp only [go_sem]; rfl) (by first | trivial | (simp; done) | (simp [in64]; omega)) ?_
      refine vwp_ret ?_
      -- result 2
      simp only [thenQ, blockQ, jumpQ, stayQ, RetQ, go_sem]
      refine ⟨by simp, Wk.eq ?_⟩
      rw [rightM, show rmA x = false from h0, show rmB x = false from h1]; rfl

/-! counterpane/counterpaneref17.Put -/
theorem b_ref17_Put : bodied Go.Proofs.Tryz.prog 12 = true := by rw [bodied, Tryz.func12]; rfl
set_option maxHeartbeats 4000000 in
theorem c_ref17_Put (x : Msg) (hn : (lst x.names).length ≤ 1000000000) (hh : (lst x.have_).length ≤ 1000000000) (h : ∀ p ∈ x.patches, (patchEnc p).length ≤ 1000000000) : VPure Go.Proofs.Tryz.prog G 12 [.agg (cMsg x)] (.tuple [.list 1 ((putMsgR x).1.map encB), .int .i64 (putMsgR x).2]) := by
  have hB := bunR_le x.patches h
  refine vpure_of (ts := [2, 3]) Tryz.func12 rfl (by simp [Tryz.ntmps12]) rfl rfl ?_
  rw [Tryz.ntmps12]
  refine vwp_reg tabOk [] [1] (by simp only [go_sem]; rfl) (by first | trivial | (simp; done) | (simp [in64]; omega)) ?_
  refine vwp_seq ?_
  refine vwp_seq (vwp_region ?_)
  refine vops_go tabOk [] (by simp only [go_sem]; rfl) (by first | trivial | (simp; done) | (simp [in64]; omega)) ?_
  -- call 0: t7 = CALL 27(f27, t6)
  refine vops_call (hc := fun _ => c_ref17_Right x) rfl (by simp only [go_sem]; rfl) rfl b_ref17_Right (by simp only [go_sem]; exact WkL.refl _) rfl (fun hg => by simp only [go_sem]; try (intros; first | assumption | trivial | simp_all)) ?_
  simp only [go_sem]
  refine vops_go tabOk [] (by simp only [go_sem]; rfl) (by first | trivial | (simp; done) | (simp [in64]; omega)) ?_
  refine vops_done [1, 8] ?_
  simp only [go_sem, thenQ, blockQ, jumpQ, stayQ]
  refine vwp_cond (by simp only [go_sem]; rfl) (fun h0 => ?_) (fun h0 => ?_)
  · -- h0 then
    refine vwp_reg tabOk [] [2, 3] (by simp only [go_sem]; rfl) (by first | trivial | (simp; done) | (simp [in64]; omega)) ?_
    refine vwp_ret ?_
    -- result 0
    simp only [thenQ, blockQ, jumpQ, stayQ, RetQ, go_sem]
    refine ⟨by simp, ?_⟩
    rw [show putMsgR x = ([], 1) from by rw [putMsgR, if_neg (by simpa using h0)]]
    exact Wk.tuple ⟨Wk.nils _, Wk.refl _, trivial⟩
  · -- h0 else
    have hb := rightM_bounds (by simpa using h0)
    have hk1 := num_len x.kind hb.1
    have hk2 := num_len x.err hb.2
    rw [num, List.length_append] at hk1 hk2
    simp only [List.length_cons, List.length_nil] at hk1 hk2
    refine vwp_skip ?_
    try simp only [thenQ, blockQ, jumpQ, stayQ]
    refine vwp_seq (vwp_region ?_)
    refine vops_go tabOk [] (by simp only [go_sem]; rfl) (by first | trivial | (simp; done) | (simp [in64]; omega)) ?_
    -- call 1: t12 = CALL 28(f28, t11)
    refine vops_call (hc := fun _ => c_ref17_bundle x.patches h) rfl (by simp only [go_sem]; rfl) rfl b_ref17_bundle (by simp only [go_sem]; exact WkL.refl _) rfl (fun hg => by simp only [go_sem]; try (intros; first | assumption | trivial | simp_all)) ?_
    simp only [go_sem]
    refine vops_go tabOk [] (by simp only [go_sem]; rfl) (by first | trivial | (simp; done) | (simp [in64]; omega)) ?_
    refine vops_done [1, 4] ?_
    simp only [go_sem, thenQ, blockQ, jumpQ, stayQ]
    -- r4 drawn
    refine vwp_seq (vwp_drawD mixed (by kernel_rfl) (eF := ?_) ?_ [4] rfl ?_)
    rotate_left
    · -- the operations
      refine dall_go tabOk (by simp only [go_sem]; rfl) (by first | trivial | (simp; done) | (simp [maxB]; omega)) ?_
      -- call 2: t17 = CALL 29(f29, t16)
      refine dall_call (hc := fun _ => c_Itoa x.kind hb.1) rfl (by simp only [go_sem]; rfl) b_strconv_Itoa (by simp only [go_sem]; exact WkL.refl _) rfl (fun hg => by simp only [go_sem]; try (intros; first | assumption | trivial | simp_all)) ?_
      simp only [go_sem]
      refine dall_go tabOk (by simp only [go_sem]; rfl) (by first | trivial | (simp; done) | (simp [maxB]; omega)) ?_
      -- call 3: t21 = CALL 30(f30, t20)
      refine dall_call (hc := fun _ => c_ref17_list x.names (by omega)) rfl (by simp only [go_sem]; rfl) b_ref17_list (by simp only [go_sem]; exact WkL.refl _) rfl (fun hg => by simp only [go_sem]; try (intros; first | assumption | trivial | simp_all)) ?_
      simp only [go_sem]
      refine dall_go tabOk (by simp only [go_sem]; rfl) (by first | trivial | (simp; done) | (simp [maxB]; omega)) ?_
      -- call 4: t25 = CALL 30(f30, t24)
      refine dall_call (hc := fun _ => c_ref17_list x.have_ (by omega)) rfl (by simp only [go_sem]; rfl) b_ref17_list (by simp only [go_sem]; exact WkL.refl _) rfl (fun hg => by simp only [go_sem]; try (intros; first | assumption | trivial | simp_all)) ?_
      simp only [go_sem]
      refine dall_go tabOk (by simp only [go_sem]; rfl) (by first | trivial | (simp; done) | (simp [maxB]; omega)) ?_
      -- call 5: t29 = CALL 29(f29, t28)
      refine dall_call (hc := fun _ => c_Itoa x.err hb.2) rfl (by simp only [go_sem]; rfl) b_strconv_Itoa (by simp only [go_sem]; exact WkL.refl _) rfl (fun hg => by simp only [go_sem]; try (intros; first | assumption | trivial | simp_all)) ?_
      simp only [go_sem]
      refine dall_go tabOk (by simp only [go_sem]; rfl) (by first | trivial | (simp; done) | (simp [maxB]; omega)) ?_
      exact dall_nil
    simp only [go_sem, thenQ, blockQ, jumpQ, stayQ]
    refine vwp_seq ?_
    refine vwp_reg tabOk [] [4, 36] (by simp only [go_sem]; rfl) (by first | trivial | (simp; done) | (simp [in64]; omega)) ?_
    refine vwp_cond (by simp only [go_sem]; rfl) (fun h1 => ?_) (fun h1 => ?_)
    · -- h1 then
      refine vwp_reg tabOk [] [2, 3] (by simp only [go_sem]; rfl) (by first | trivial | (simp; done) | (simp [in64]; omega)) ?_
      refine vwp_ret ?_
      -- result 1
      simp only [thenQ, blockQ, jumpQ, stayQ, RetQ, go_sem]
      refine ⟨by simp, ?_⟩
      have he : (Lib.itoa x.kind ++ [58] ++ lst x.names ++ lst x.have_ ++ Lib.itoa x.err ++ [58] ++ (bunR x.patches).1) = msgR x := by simp [msgR, num]
      rw [he] at h1
      rw [show putMsgR x = ([], 2) from by rw [putMsgR, if_pos (by simpa using h0), if_pos (by simp at h1; omega)]]
      exact Wk.tuple ⟨Wk.nils _, Wk.refl _, trivial⟩
    · -- h1 else
      refine vwp_skip ?_
      try simp only [thenQ, blockQ, jumpQ, stayQ]
      refine vwp_reg tabOk [] [2, 3] (by simp only [go_sem]; rfl) (by first | trivial | (simp; done) | (simp [in64]; omega)) ?_
      refine vwp_ret ?_
      -- result 2
      simp only [thenQ, blockQ, jumpQ, stayQ, RetQ, go_sem]
      refine ⟨by simp, Wk.eq ?_⟩
      have he : (Lib.itoa x.kind ++ [58] ++ lst x.names ++ lst x.have_ ++ Lib.itoa x.err ++ [58] ++ (bunR x.patches).1) = msgR x := by simp [msgR, num]
      rw [he] at h1 ⊢
      rw [show putMsgR x = (msgR x, 0) from by rw [putMsgR, if_pos (by simpa using h0), if_neg (by simp at h1; omega)]]

/-! counterpane/counterpaneref17.patches -/
theorem b_ref17_patches : bodied Go.Proofs.Tryz.prog 37 = true := by rw [bodied, Tryz.func37]; rfl
set_option maxHeartbeats 4000000 in
theorem c_ref17_patches (x : Rd) : VCalls Go.Proofs.Tryz.prog G 37 [.ptr 0 0] [.box (cRd x)] [] (fun r H => r = .list 3 ((rdPats x).1.map cPatch) ∧ H = [.box (cRd (rdPats x).2)]) := by
  refine vcalls_know fun hk hK => ?_
  simp only [List.mem_singleton, forall_eq, factsO, cRd, factsL, facts, maxB] at hK
  have hlt := rdNum_lt x
  refine vcalls_of2 tabOk (rs := _) 1 Tryz.func37 rfl (by simp [Tryz.ntmps37]) rfl (by first | (simp; done) | exact Nat.le_refl _) ?_
  rw [Tryz.ntmps37]
  refine vwp_reg tabOk [] [0] (by simp only [go_sem]; rfl) (by first | trivial | (simp; done) | (simp [in64]; omega)) ?_
  refine vwp_reg tabOk [] [0, 3] (by simp only [go_sem]; rfl) (by first | trivial | (simp; done) | (simp [in64]; omega)) ?_
  refine vwp_seq (vwp_region ?_)
  refine vops_go tabOk [] (by simp only [go_sem]; rfl) (by first | trivial | (simp; done) | (simp [in64]; omega)) ?_
  -- call 0: t10 = CALL 35(f35, t9)
  refine vops_callH (hc := c_ref13_Reader_Number x) rfl rfl rfl b_ref13_Reader_Number [0] [] [] rfl rfl rfl (by simp only [go_sem]; exact WkL.refl _) (by simp only [go_sem]) ?_
  rintro r0 H0 ⟨rfl, rfl⟩
  simp only [go_sem]
  refine vops_go tabOk [] (by simp only [go_sem]; rfl) (by first | trivial | (simp; done) | (simp [in64]; omega)) ?_
  refine vops_done [0, 3, 4] ?_
  simp only [go_sem, thenQ, blockQ, jumpQ, stayQ]
  refine vwp_seq ?_
  refine vwp_reg tabOk [] [0, 3, 4, 5] (by simp only [go_sem]; rfl) (by first | trivial | (simp; done) | (simp [in64]; omega)) ?_
  refine vwp_block ?_
  refine vwp_own 3 48 3 rfl ?_
  refine vwp_keep [0, 3, 4, 5] ?_
  simp only [go_sem]
  -- loop 0
  refine vwp_loopW (fun y : Nat × List Patch × Rd => [(0, .ptr 0 0), (3, .arr 1 y.2.1.length), (4, .int .i64 ((rdNum x).1 : Int)), (5, .int .i64 (y.1 : Int))]) (fun y => [.box (cRd y.2.2), .arr 48 3 (y.2.1.map cPatch)]) (fun y => reading rdPat (rdNum x).1 (rdNum x).2 y.1 y.2.1 y.2.2) (fun y => (rdNum x).1 - y.1) (0, [], (rdNum x).2) (reading_start _ _ _) (Env.wk_cons (by first | exact Wk.refl _ | exact Wk.nils _ | (refine Wk.eq ?_; simp; done) | (refine Wk.eq ?_; congr 1 <;> omega)) (Env.wk_cons (by first | exact Wk.refl _ | exact Wk.nils _ | (refine Wk.eq ?_; simp; done) | (refine Wk.eq ?_; congr 1 <;> omega)) (Env.wk_cons (by first | exact Wk.refl _ | exact Wk.nils _ | (refine Wk.eq ?_; simp; done) | (refine Wk.eq ?_; congr 1 <;> omega)) (Env.wk_cons (by first | exact Wk.refl _ | exact Wk.nils _ | (refine Wk.eq ?_; simp; done) | (refine Wk.eq ?_; congr 1 <;> omega)) (Env.wk_nil _))))) rfl ?_
  rintro y hr
  refine vwp_seq ?_
  refine vwp_reg tabOk [] [0, 3, 4, 5, 20] (by simp only [go_sem]; rfl) (by first | trivial | (simp; done) | (simp [in64]; omega)) ?_
  refine vwp_cond (by simp only [go_sem]; rfl) (fun h0 => ?_) (fun h0 => ?_)
  · -- h0 then
    have h0' : y.1 < (rdNum x).1 ∧ y.2.2.bad = false := by simp at h0; exact ⟨by omega, h0.2⟩
    have h5 := hr.2.1
    have h6 := hr.1
    refine vwp_skip ?_
    try simp only [thenQ, blockQ, jumpQ, stayQ]
    refine vwp_seq ?_
    refine vwp_block ?_
    refine vwp_seq (vwp_region ?_)
    refine vops_go tabOk [] (by simp only [go_sem]; rfl) (by first | trivial | (simp; done) | (simp [in64]; omega)) ?_
    -- call 1: t24 = CALL 54(f54, t23)
    refine vops_callH (hc := c_ref13_Reader_Text y.2.2) rfl rfl rfl b_ref13_Reader_Text [0] [] [] rfl rfl rfl (by simp only [go_sem]; exact WkL.refl _) (by simp only [go_sem]) ?_
    rintro r1 H1 ⟨rfl, rfl⟩
    simp only [go_sem]
    refine vops_go tabOk [] (by simp only [go_sem]; rfl) (by first | trivial | (simp; done) | (simp [in64]; omega)) ?_
    refine vops_done [0, 3, 4, 5, 6] ?_
    simp only [go_sem, thenQ, blockQ, jumpQ, stayQ]
    refine vwp_seq (vwp_region ?_)
    refine vops_go tabOk [] (by simp only [go_sem]; rfl) (by first | trivial | (simp; done) | (simp [in64]; omega)) ?_
    -- call 2: t28 = CALL 55(f55, t27)
    refine vops_call (hc := fun _ => c_ref13_Get (rdTxt y.2.2).1) rfl (by simp only [go_sem]; rfl) rfl b_ref13_Get (by simp only [go_sem]; exact WkL.refl _) rfl (fun hg => by simp only [go_sem]; try (intros; first | assumption | trivial | simp_all)) ?_
    simp only [go_sem]
    refine vops_go tabOk [] (by simp only [go_sem]; rfl) (by first | trivial | (simp; done) | (simp [in64]; omega)) ?_
    refine vops_done [0, 3, 4, 5, 7, 8] ?_
    simp only [go_sem, thenQ, blockQ, jumpQ, stayQ]
    refine vwp_seq ?_
    refine vwp_reg tabOk [] [0, 3, 4, 5, 7, 32] (by simp only [go_sem]; rfl) (by first | trivial | (simp; done) | (simp [in64]; omega)) ?_
    refine vwp_cond (by simp only [go_sem]; rfl) (fun h1 => ?_) (fun h1 => ?_)
    · -- h1 then
      refine vwp_reg1 tabOk [] [0, 3, 4, 5, 7] (by simp only [go_sem]; rfl) (by first | trivial | (simp; done) | (simp [in64]; omega)) ?_
      try simp only [thenQ, blockQ, jumpQ, stayQ]
      refine vwp_reg1 tabOk [] [0, 3, 4, 5] (by simp only [go_sem]; rfl) (by first | trivial | (simp; done) | (simp [in64]; omega)) ?_
      try simp only [thenQ, blockQ, jumpQ, stayQ]
      refine vwp_trim 2 (by simp) (by simp) ?_
      simp only [go_sem, mapE]
      refine vwp_reg1 tabOk [] [0, 3, 4, 5] (by simp only [go_sem]; rfl) (by first | trivial | (simp; done) | (simp [in64]; omega)) ?_
      try simp only [thenQ, blockQ, jumpQ, stayQ]
      -- round 0
      exact ⟨(y.1 + 1, y.2.1 ++ [(rdPat y.2.2).1], (rdPat y.2.2).2), reading_step hr h0'.1 h0'.2, by simp only []; omega, Env.wk_cons (Wk.refl _) (Env.wk_cons (Wk.eq (by simp)) (Env.wk_cons (Wk.refl _) (Env.wk_cons (Wk.refl _) (Env.wk_nil _)))), by simp [cPatch, cRd, rdPat, show decide ((getPatch (rdTxt y.2.2).1).2 ≠ 0) = true from by simpa using h1]⟩
    · -- h1 else
      refine vwp_skip ?_
      try simp only [thenQ, blockQ, jumpQ, stayQ]
      refine vwp_reg1 tabOk [] [0, 3, 4, 5] (by simp only [go_sem]; rfl) (by first | trivial | (simp; done) | (simp [in64]; omega)) ?_
      try simp only [thenQ, blockQ, jumpQ, stayQ]
      refine vwp_trim 2 (by simp) (by simp) ?_
      simp only [go_sem, mapE]
      refine vwp_reg1 tabOk [] [0, 3, 4, 5] (by simp only [go_sem]; rfl) (by first | trivial | (simp; done) | (simp [in64]; omega)) ?_
      try simp only [thenQ, blockQ, jumpQ, stayQ]
      -- round 1
      exact ⟨(y.1 + 1, y.2.1 ++ [(rdPat y.2.2).1], (rdPat y.2.2).2), reading_step hr h0'.1 h0'.2, by simp only []; omega, Env.wk_cons (Wk.refl _) (Env.wk_cons (Wk.eq (by simp)) (Env.wk_cons (Wk.refl _) (Env.wk_cons (Wk.refl _) (Env.wk_nil _)))), by simp [cPatch, cRd, rdPat, show decide ((getPatch (rdTxt y.2.2).1).2 ≠ 0) = false from by simpa using h1]⟩
  · -- h0 else
    refine vwp_exit ?_
    simp only [thenQ, blockQ, jumpQ, stayQ, if_true, reduceIte, Nat.reduceEqDiff]
    have h2 : rdPats x = (y.2.1, y.2.2) := reading_end hr (by have h6 := hr.1; simp at h0; by_cases h7 : y.1 = (rdNum x).1; exact .inl h7; exact .inr (h0 (by omega)))
    refine vwp_freeze 1 48 3 (y.2.1.map cPatch) rfl ?_
    simp only [go_sem]
    refine vwp_reg tabOk [] [2] (by simp only [go_sem]; rfl) (by first | trivial | (simp; done) | (simp [in64]; omega)) ?_
    refine vwp_ret ?_
    -- result 0
    try simp only [thenQ, blockQ, jumpQ, stayQ, go_sem]
    refine ⟨by simp, _, _, rfl, by first | trivial | simp, ?_⟩
    rw [h2]; refine ⟨?_, rfl⟩; simp only [go_sem]; rw [List.take_of_length_le (by simp)]

/-! counterpane/counterpaneref17.GetBundle -/
theorem b_ref17_GetBundle : bodied Go.Proofs.Tryz.prog 18 = true := by rw [bodied, Tryz.func18]; rfl
set_option maxHeartbeats 4000000 in
theorem c_ref17_GetBundle (s : Str) (hs : s.length ≤ 60000) : VPure Go.Proofs.Tryz.prog G 18 [.list 1 (s.map encB)] (.tuple [.list 3 ((getBunR s).1.map cPatch), .int .i64 (getBunR s).2]) := by
  have hn : (rdNum (⟨s, false⟩ : Rd)).2.b.length ≤ s.length := rdNum_le ⟨s, false⟩
  have hE : ∀ p ∈ (rdPats ⟨s, false⟩).1, (patchEnc p).length ≤ 1000000000 := rdPats_enc _ _ (by omega)
  refine vpure_of (ts := [2, 3]) Tryz.func18 rfl (by simp [Tryz.ntmps18]) rfl rfl ?_
  rw [Tryz.ntmps18]
  refine vwp_reg tabOk [] [0] (by simp only [go_sem]; rfl) (by first | trivial | (simp; done) | (simp [in64]; omega)) ?_
  refine vwp_reg tabOk [] [0, 4] (by simp only [go_sem]; rfl) (by first | trivial | (simp; done) | (simp [in64]; omega)) ?_
  refine vwp_seq (vwp_region ?_)
  refine vops_go tabOk [] (by simp only [go_sem]; rfl) (by first | trivial | (simp; done) | (simp [in64]; omega)) ?_
  -- call 0: t13 = CALL 37(f37, t12)
  refine vops_callH (hc := c_ref17_patches ⟨s, false⟩) rfl rfl rfl b_ref17_patches [0] [] [] rfl rfl rfl (by simp only [go_sem]; exact WkL.refl _) (by simp only [go_sem]) ?_
  rintro r0 H0 ⟨rfl, rfl⟩
  simp only [go_sem]
  refine vops_go tabOk [] (by simp only [go_sem]; rfl) (by first | trivial | (simp; done) | (simp [in64]; omega)) ?_
  refine vops_done [0, 4, 5] ?_
  simp only [go_sem, thenQ, blockQ, jumpQ, stayQ]
  refine vwp_seq (vwp_region ?_)
  refine vops_go tabOk [] (by simp only [go_sem]; rfl) (by first | trivial | (simp; done) | (simp [in64]; omega)) ?_
  -- call 1: t16 = CALL 14(f14, t15)
  refine vops_call (hc := fun _ => c_ref17_PutBundle (rdPats ⟨s, false⟩).1 hE) rfl (by simp only [go_sem]; rfl) rfl b_ref17_PutBundle (by simp only [go_sem]; exact WkL.refl _) rfl (fun hg => by simp only [go_sem]; try (intros; first | assumption | trivial | simp_all)) ?_
  simp only [go_sem]
  refine vops_go tabOk [] (by simp only [go_sem]; rfl) (by first | trivial | (simp; done) | (simp [in64]; omega)) ?_
  refine vops_done [0, 4, 5, 6, 7] ?_
  simp only [go_sem, thenQ, blockQ, jumpQ, stayQ]
  refine vwp_seq ?_
  refine vwp_reg tabOk [] [5, 33] (by simp only [go_sem]; rfl) (by first | trivial | (simp; done) | (simp [in64]; omega)) ?_
  refine vwp_cond (by simp only [go_sem]; rfl) (fun h0 => ?_) (fun h0 => ?_)
  · -- h0 then
    refine vwp_reg tabOk [] [2, 3] (by simp only [go_sem]; rfl) (by first | trivial | (simp; done) | (simp [in64]; omega)) ?_
    refine vwp_ret ?_
    -- result 0
    simp only [thenQ, blockQ, jumpQ, stayQ, RetQ, go_sem]
    refine ⟨by simp, ?_⟩
    rw [show getBunR s = ([], 3) from by rw [getBunR, if_pos (by simpa [or_assoc] using h0)]]
    exact Wk.tuple ⟨Wk.nils _, Wk.refl _, trivial⟩
  · -- h0 else
    refine vwp_skip ?_
    try simp only [thenQ, blockQ, jumpQ, stayQ]
    refine vwp_reg tabOk [] [2, 3] (by simp only [go_sem]; rfl) (by first | trivial | (simp; done) | (simp [in64]; omega)) ?_
    refine vwp_ret ?_
    -- result 1
    simp only [thenQ, blockQ, jumpQ, stayQ, RetQ, go_sem]
    refine ⟨by simp, Wk.eq ?_⟩
    rw [show getBunR s = ((rdPats ⟨s, false⟩).1, 0) from by rw [getBunR, if_neg (by simpa [and_assoc] using h0)]]

/-! counterpane/counterpaneref17.Get -/
theorem b_ref17_Get : bodied Go.Proofs.Tryz.prog 16 = true := by rw [bodied, Tryz.func16]; rfl
set_option maxHeartbeats 4000000 in
theorem c_ref17_Get (s : Str) (hs : s.length ≤ 60000) : VPure Go.Proofs.Tryz.prog G 16 [.list 1 (s.map encB)] (.tuple [.agg (cMsg (getMsgR s).1), .int .i64 (getMsgR s).2]) := by
  obtain ⟨q1, q2, q3⟩ := rdMsg_bounds s hs
  refine vpure_of2 tabOk (rs := _) Tryz.func16 rfl (by simp [Tryz.ntmps16]) rfl rfl ?_
  rw [Tryz.ntmps16]
  refine vwp_reg tabOk [] [0, 2] (by simp only [go_sem]; rfl) (by first | trivial | (simp; done) | (simp [in64]; omega)) ?_
  refine vwp_reg tabOk [] [0, 2, 4] (by simp only [go_sem]; rfl) (by first | trivial | (simp; done) | (simp [in64]; omega)) ?_
  refine vwp_reg tabOk [] [0, 2, 4, 5] (by simp only [go_sem]; rfl) (by first | trivial | (simp; done) | (simp [in64]; omega)) ?_
  refine vwp_seq (vwp_region ?_)
  refine vops_go tabOk [] (by simp only [go_sem]; rfl) (by first | trivial | (simp; done) | (simp [in64]; omega)) ?_
  -- call 0: t13 = CALL 35(f35, t12)
  refine vops_callH (hc := c_ref13_Reader_Number (⟨s, false⟩ : Rd)) rfl rfl rfl b_ref13_Reader_Number [1] [] [] rfl rfl rfl (by simp only [go_sem]; exact WkL.refl _) (by simp only [go_sem]) ?_
  rintro r0 H0 ⟨rfl, rfl⟩
  simp only [go_sem]
  refine vops_go tabOk [] (by simp only [go_sem]; rfl) (by first | trivial | (simp; done) | (simp [in64]; omega)) ?_
  refine vops_done [0, 2, 4, 5] ?_
  simp only [go_sem, thenQ, blockQ, jumpQ, stayQ]
  refine vwp_seq (vwp_region ?_)
  refine vops_go tabOk [] (by simp only [go_sem]; rfl) (by first | trivial | (simp; done) | (simp [in64]; omega)) ?_
  -- call 1: t16 = CALL 36(f36, t15)
  refine vops_callH (hc := c_ref13_Reader_List ((rdNum ⟨s, false⟩).2)) rfl rfl rfl b_ref13_Reader_List [1] [] [] rfl rfl rfl (by simp only [go_sem]; exact WkL.refl _) (by simp only [go_sem]) ?_
  rintro r1 H1 ⟨rfl, rfl⟩
  simp only [go_sem]
  refine vops_go tabOk [] (by simp only [go_sem]; rfl) (by first | trivial | (simp; done) | (simp [in64]; omega)) ?_
  refine vops_done [0, 2, 4, 5] ?_
  simp only [go_sem, thenQ, blockQ, jumpQ, stayQ]
  refine vwp_seq (vwp_region ?_)
  refine vops_go tabOk [] (by simp only [go_sem]; rfl) (by first | trivial | (simp; done) | (simp [in64]; omega)) ?_
  -- call 2: t19 = CALL 36(f36, t18)
  refine vops_callH (hc := c_ref13_Reader_List ((rdLst (rdNum ⟨s, false⟩).2).2)) rfl rfl rfl b_ref13_Reader_List [1] [] [] rfl rfl rfl (by simp only [go_sem]; exact WkL.refl _) (by simp only [go_sem]) ?_
  rintro r2 H2 ⟨rfl, rfl⟩
  simp only [go_sem]
  refine vops_go tabOk [] (by simp only [go_sem]; rfl) (by first | trivial | (simp; done) | (simp [in64]; omega)) ?_
  refine vops_done [0, 2, 4, 5] ?_
  simp only [go_sem, thenQ, blockQ, jumpQ, stayQ]
  refine vwp_seq (vwp_region ?_)
  refine vops_go tabOk [] (by simp only [go_sem]; rfl) (by first | trivial | (simp; done) | (simp [in64]; omega)) ?_
  -- call 3: t22 = CALL 35(f35, t21)
  refine vops_callH (hc := c_ref13_Reader_Number ((rdLst (rdLst (rdNum ⟨s, false⟩).2).2).2)) rfl rfl rfl b_ref13_Reader_Number [1] [] [] rfl rfl rfl (by simp only [go_sem]; exact WkL.refl _) (by simp only [go_sem]) ?_
  rintro r3 H3 ⟨rfl, rfl⟩
  simp only [go_sem]
  refine vops_go tabOk [] (by simp only [go_sem]; rfl) (by first | trivial | (simp; done) | (simp [in64]; omega)) ?_
  refine vops_done [0, 2, 4, 5] ?_
  simp only [go_sem, thenQ, blockQ, jumpQ, stayQ]
  refine vwp_seq (vwp_region ?_)
  refine vops_go tabOk [] (by simp only [go_sem]; rfl) (by first | trivial | (simp; done) | (simp [in64]; omega)) ?_
  -- call 4: t25 = CALL 37(f37, t24)
  refine vops_callH (hc := c_ref17_patches ((rdNum (rdLst (rdLst (rdNum ⟨s, false⟩).2).2).2).2)) rfl rfl rfl b_ref17_patches [1] [] [] rfl rfl rfl (by simp only [go_sem]; exact WkL.refl _) (by simp only [go_sem]) ?_
  rintro r4 H4 ⟨rfl, rfl⟩
  simp only [go_sem]
  refine vops_go tabOk [] (by simp only [go_sem]; rfl) (by first | trivial | (simp; done) | (simp [in64]; omega)) ?_
  refine vops_done [0, 2, 4, 5] ?_
  simp only [go_sem, thenQ, blockQ, jumpQ, stayQ]
  refine vwp_seq (vwp_region ?_)
  refine vops_go tabOk [] (by simp only [go_sem]; rfl) (by first | trivial | (simp; done) | (simp [in64]; omega)) ?_
  -- call 5: t29 = CALL 12(f12, t28)
  refine vops_call (hc := fun _ => c_ref17_Put (rdMsg ⟨s, false⟩).1 q1 q2 q3) rfl (by simp only [go_sem]; rfl) rfl b_ref17_Put (by simp only [go_sem]; exact WkL.refl _) rfl (fun hg => by simp only [go_sem]; try (intros; first | assumption | trivial | simp_all)) ?_
  simp only [go_sem]
  refine vops_go tabOk [] (by simp only [go_sem]; rfl) (by first | trivial | (simp; done) | (simp [in64]; omega)) ?_
  refine vops_done [0, 2, 4, 5, 6, 7] ?_
  simp only [go_sem, thenQ, blockQ, jumpQ, stayQ]
  refine vwp_seq ?_
  refine vwp_reg tabOk [] [2, 5, 46] (by simp only [go_sem]; rfl) (by first | trivial | (simp; done) | (simp [in64]; omega)) ?_
  refine vwp_cond (by simp only [go_sem]; rfl) (fun h0 => ?_) (fun h0 => ?_)
  · -- h0 then
    refine vwp_reg tabOk [] [2, 3] (by simp only [go_sem]; rfl) (by first | trivial | (simp; done) | (simp [in64]; omega)) ?_
    refine vwp_ret ?_
    -- result 0
    try simp only [thenQ, blockQ, jumpQ, stayQ, go_sem]
    refine ⟨by simp, _, _, rfl, trivial, ?_⟩
    simp only [go_sem]
    have hM : (rdMsg ⟨s, false⟩).2 = (rdPats (rdNum (rdLst (rdLst (rdNum ⟨s, false⟩).2).2).2).2).2 := rfl
    rw [show getMsgR s = (msg0, 3) from by rw [getMsgR, if_pos (by rw [hM]; simpa [or_assoc] using h0)]]
    exact Wk.tuple ⟨Wk.agg ⟨Wk.refl _, Wk.nils _, Wk.nils _, Wk.refl _, Wk.nils _, trivial⟩, Wk.refl _, trivial⟩
  · -- h0 else
    refine vwp_skip ?_
    try simp only [thenQ, blockQ, jumpQ, stayQ]
    refine vwp_reg tabOk [] [2, 3] (by simp only [go_sem]; rfl) (by first | trivial | (simp; done) | (simp [in64]; omega)) ?_
    refine vwp_ret ?_
    -- result 1
    try simp only [thenQ, blockQ, jumpQ, stayQ, go_sem]
    refine ⟨by simp, _, _, rfl, trivial, ?_⟩
    simp only [go_sem]
    have hM : (rdMsg ⟨s, false⟩).2 = (rdPats (rdNum (rdLst (rdLst (rdNum ⟨s, false⟩).2).2).2).2).2 := rfl
    rw [show getMsgR s = ((rdMsg ⟨s, false⟩).1, 0) from by rw [getMsgR, if_neg (by rw [hM]; simpa [and_assoc] using h0)]]
    exact Wk.refl _
end Go.Proofs.YtldfghgjllaljaaGreatDoor.Q
end

section
/- The number that AppendUint lays behind a slice of the call's own: the kit's own walk of the library's text, turned so that it says that nothing else is touched. -/
set_option linter.unusedVariables false
set_option linter.unusedSimpArgs false
namespace Go.Q
section
variable {P : Program} {w : World}

theorem run_app_q {t ty e : TypeId} {i : TypeInfo} {z : Value} {k by_ : Nat} (hd : P.underlying t = some (.slice e)) (hi : P.info? e = some i) (hzz : i.zero = some z) (hz : i.size = k) (hby : i.bytes = by_) (hzs : z.cells.size = k) (hk : 0 < k)
    {v : Value} {n : Nat} {xs : List Value} (hown : w.ownsRow 0 e k v n xs) {m c : Nat} {ad : Addr} {news : List Value} (hl : news.length = m * k) (h1 : ∀ u ∈ news, u.oneCell' = true)
    (hc : ∀ j u, news[j]? = some u → w.cell? (ad.add j) = some u) (h63 : n + m ≤ maxLen) (hbb : (n + m) * by_ ≤ 140737488355328) :
    ∃ v' w', (Builtin.append_ #[t, t] ty #[v, .slice (some ad) m c]).run P w = .ok v' w' ∧ w'.ownsRow 0 e k v' (n + m) (xs ++ news) ∧ w.grownBy w' v.ownBlock ∧ (v'.ownBlock = v.ownBlock ∨ ∀ b, v'.ownBlock = some b → w.heap.size ≤ b) := by
  have h64 : n + m ≤ 9223372036854775807 := by simp only [maxLen] at h63; omega
  by_cases hnil : v = .slice none 0 0 ∧ n = 0
  · obtain ⟨rfl, rfl⟩ := hnil
    have hx0 : xs = [] := List.eq_nil_of_length_eq_zero (by simpa using hown.1)
    subst hx0
    obtain ⟨v', w', h1', h2', h3', _⟩ := run_append_own (P := P) w w.heap.size t ty e i z k by_ hd hi hzz hz hby hzs hk _ 0 [] (World.ownsRow_nil w w.heap.size e k) ad m c news hl hc h1 h63 hbb (Nat.le_refl _)
    refine ⟨v', w', h1', ⟨h2'.1, ?_⟩, h3', .inr fun b hb => (h2'.lt b hb).1⟩
    rcases h2'.2 with h | ⟨gb, cap, cur, q1, q2, q3⟩
    · exact .inl h
    · exact .inr ⟨gb, cap, cur, q1, Nat.zero_le _, q3⟩
  · obtain ⟨v', w', h1', h2', h3', _⟩ := run_append_own (P := P) w 0 t ty e i z k by_ hd hi hzz hz hby hzs hk v n xs hown ad m c news hl hc h1 h63 hbb (Nat.zero_le _)
    refine ⟨v', w', h1', h2', h3', ?_⟩
    rcases hown.2 with h | ⟨gb, cap, cur, rfl, _, hgb, hnc, _⟩
    · exact absurd h hnil
    · by_cases hroom : n + m ≤ cap
      · obtain ⟨w2, e1, _⟩ := run_append_fits (P := P) w 0 t ty e i k hd hi hz gb n cap xs hown ad m c news hl hc h1 hroom
        rw [h1'] at e1
        cases e1
        exact .inl rfl
      · have hh : ∀ j u, xs[j]? = some u → w.cell? ((⟨gb, 0, none⟩ : Addr).add j) = some u := hown.cells (g := gb) rfl
        have e1 := run_append_grow (P := P) w t ty e i z hd hi hzz ⟨gb, 0, none⟩ n cap xs (by rw [hown.1, hz]) hh ad m c news (by rw [hl, hz]) hc (by omega) (by omega) (growslice_fits (by omega) (by rw [hby]; exact hbb))
        rw [h1'] at e1
        cases e1
        right
        intro b hb
        simp only [Value.ownBlock, Option.some.injEq] at hb
        omega

theorem run_appstr_q {t u ty e : TypeId} {i : TypeInfo} (hd : P.underlying t = some (.slice e)) (hu : P.underlying u = some .string) (hi : P.info? e = some i) (hz3 : i.zero = some (.int .u8 0)) (hz : i.size = 1) (hb2 : i.bytes = 1)
    {v : Value} {n : Nat} {xs : List Value} (hown : w.ownsRow 0 e 1 v n xs) (s : List UInt8) (hB : n + s.length ≤ 137438953472) :
    ∃ v' w', (Builtin.append_ #[t, u] ty #[v, .string ⟨s.toArray⟩]).run P w = .ok v' w' ∧ w'.ownsRow 0 e 1 v' (n + s.length) (xs ++ Lib.byteCells s) ∧ w.grownBy w' v.ownBlock ∧ (v'.ownBlock = v.ownBlock ∨ ∀ b, v'.ownBlock = some b → w.heap.size ≤ b) := by
  have hsc : Lib.strCells ⟨s.toArray⟩ = Lib.byteCells s := by simp [Lib.strCells, Lib.byteCells]
  rw [← hsc]
  by_cases hnil : v = .slice none 0 0 ∧ n = 0
  · obtain ⟨rfl, rfl⟩ := hnil
    have hx0 : xs = [] := List.eq_nil_of_length_eq_zero (by simpa using hown.1)
    subst hx0
    obtain ⟨v', w', h1', h2', h3', _⟩ := Lib.run_append_own_string (P := P) w w.heap.size t u ty e i hd hu hi hz3 hz hb2 _ 0 [] (World.ownsRow_nil w w.heap.size e 1) ⟨s.toArray⟩ (by rw [size_mk]; unfold maxLen; omega) (by rw [size_mk]; omega) (Nat.le_refl _)
    rw [size_mk] at h2'
    refine ⟨v', w', h1', ⟨h2'.1, ?_⟩, h3', .inr fun b hb => (h2'.lt b hb).1⟩
    rcases h2'.2 with h | ⟨gb, cap, cur, q1, q2, q3⟩
    · exact .inl h
    · exact .inr ⟨gb, cap, cur, q1, Nat.zero_le _, q3⟩
  · obtain ⟨v', w', h1', h2', h3', _⟩ := Lib.run_append_own_string (P := P) w 0 t u ty e i hd hu hi hz3 hz hb2 v n xs hown ⟨s.toArray⟩ (by rw [size_mk]; unfold maxLen; omega) (by rw [size_mk]; omega) (Nat.zero_le _)
    rw [size_mk] at h2'
    refine ⟨v', w', h1', h2', h3', ?_⟩
    rcases hown.2 with h | ⟨gb, cap, cur, rfl, _, hgb, hnc, hcm, hcs, _⟩
    · exact absurd h hnil
    · by_cases hroom : n + s.length ≤ cap
      · have e1 := Lib.run_append_room_string (P := P) w t u ty e i hd hu hi hz gb n cap cur hgb ⟨s.toArray⟩ (by rw [size_mk]; exact hroom) (by rw [size_mk]; omega)
        rw [h1'] at e1
        cases e1
        exact .inl rfl
      · have hh : ∀ j u, xs[j]? = some u → w.cell? ((⟨gb, 0, none⟩ : Addr).add j) = some u := hown.cells (g := gb) rfl
        have e1 := Lib.run_append_grow_string (P := P) w t u ty e i _ hd hu hi hz3 ⟨gb, 0, none⟩ n cap xs (by rw [hown.1, hz]) hh ⟨s.toArray⟩ (by rw [size_mk]; omega) (by rw [size_mk]; omega) (growslice_fits (by rw [size_mk]; omega) (by rw [size_mk, hb2]; omega))
        rw [h1'] at e1
        cases e1
        right
        intro b hb
        simp only [Value.ownBlock, Option.some.injEq] at hb
        omega

theorem wpList_app_q {ops : Array Oper} {rest : List Oper} {o : Oper} {a : Act} {Q : Exit → Act → World → Prop} (hgd : o.guard = none) (s x : Operand) (t : TypeId)
    (ho : o.op = .call { callee := .builtin .append, args := #[s, x], argTypes := #[t, t] }) {e : TypeId} {i : TypeInfo} {z : Value} {k by_ : Nat} (hd : P.underlying t = some (.slice e)) (hi : P.info? e = some i) (hzz : i.zero = some z) (hz : i.size = k) (hby : i.bytes = by_) (hzs : z.cells.size = k) (hk : 0 < k)
    (v : Value) (n : Nat) (xs : List Value) (hs : a.eval s = v) (hown : w.ownsRow 0 e k v n xs) (ad : Addr) (m c : Nat) (news : List Value) (hx : a.eval x = .slice (some ad) m c) (hl : news.length = m * k) (hc : ∀ j u, news[j]? = some u → w.cell? (ad.add j) = some u) (h1 : ∀ u ∈ news, u.oneCell' = true)
    (h63 : n + m ≤ maxLen) (hbb : (n + m) * by_ ≤ 140737488355328)
    (h : ∀ v' w', w'.ownsRow 0 e k v' (n + m) (xs ++ news) → w.grownBy w' v.ownBlock → (v'.ownBlock = v.ownBlock ∨ ∀ b, v'.ownBlock = some b → w.heap.size ≤ b) → wpList P ops Q rest (a.put o.dst v') w') : wpList P ops Q (o :: rest) a w := by
  refine wpList_plain hgd fun K hK => ?_
  obtain ⟨v', w', hr, h2, h3, h4⟩ := run_app_q (ty := o.type) hd hi hzz hz hby hzs hk hown (c := c) hl h1 hc h63 hbb
  unfold Oper.wp execOp
  simp only [ho, resolve, invoke, builtin, Sem.run_bind, Sem.run_pure, Result.andThen_ok, List.map_toArray, List.map_cons, List.map_nil, hs, hx, hr]
  exact hK _ _ (h v' w' h2 h3 h4)

theorem wpList_appstr_q {ops : Array Oper} {rest : List Oper} {o : Oper} {a : Act} {Q : Exit → Act → World → Prop} (hgd : o.guard = none) (sl x : Operand) (t u : TypeId)
    (ho : o.op = .call { callee := .builtin .append, args := #[sl, x], argTypes := #[t, u] }) {e : TypeId} {i : TypeInfo} (hd : P.underlying t = some (.slice e)) (hu : P.underlying u = some .string) (hi : P.info? e = some i) (hz3 : i.zero = some (.int .u8 0)) (hz : i.size = 1) (hb2 : i.bytes = 1)
    (v : Value) (n : Nat) (xs : List Value) (hs : a.eval sl = v) (hown : w.ownsRow 0 e 1 v n xs) (s : List UInt8) (hx : a.eval x = .string ⟨s.toArray⟩) (hB : n + s.length ≤ 137438953472)
    (h : ∀ v' w', w'.ownsRow 0 e 1 v' (n + s.length) (xs ++ Lib.byteCells s) → w.grownBy w' v.ownBlock → (v'.ownBlock = v.ownBlock ∨ ∀ b, v'.ownBlock = some b → w.heap.size ≤ b) → wpList P ops Q rest (a.put o.dst v') w') : wpList P ops Q (o :: rest) a w := by
  refine wpList_plain hgd fun K hK => ?_
  obtain ⟨v', w', hr, h2, h3, h4⟩ := run_appstr_q (ty := o.type) hd hu hi hz3 hz hb2 hown s hB
  unfold Oper.wp execOp
  simp only [ho, resolve, invoke, builtin, Sem.run_bind, Sem.run_pure, Result.andThen_ok, List.map_toArray, List.map_cons, List.map_nil, hs, hx, hr]
  exact hK _ _ (h v' w' h2 h3 h4)
end
end Go.Q
namespace Go.Proofs
open Go.Shelf Go.RowKit Go.Sort Go.Lib
variable {P : Program} {ρ : Ren}

set_option maxHeartbeats 6400000 in
set_option maxRecDepth 100000 in
/-- internal/strconv.AppendUint(dst, i, 10), i BELOW 100: WHAT COMES BACK OWNS dst's CELLS AND, BEHIND THEM, i's DECIMAL NUMERAL. No table is read. Below the call's own blocks nothing has turned. -/
theorem Tryz.appU_small (L : LaysM.n288 P ρ) (n u : Nat) (hu : u < 100) (sv : Value) (xs : List Value) (w : World) (hown : w.ownsRow 0 (ρ.t 5) 1 sv n xs) (hlim : n + 20 ≤ 137438953472) :
    Calls P (ρ.f 288) #[sv, .int .u64 u, .int .i64 10] w fun e w' => ∃ v', e = .returned v' ∧ w'.ownsRow 0 (ρ.t 5) 1 v' (n + (Lib.decDigits u).length) (xs ++ Lib.byteCells (Lib.decDigits u)) ∧ w.grownBy w' sv.ownBlock ∧ (v'.ownBlock = sv.ownBlock ∨ ∀ b, v'.ownBlock = some b → w.heap.size ≤ b) := by
  have mixed := L.mixed
  have t5 := L.t5; have a5 := L.a5; have z5 := L.z5; have v5 := L.v5
  have t37 := L.t37; have u37 := run_underlying L.t37; have a37 := L.a37; have z37 := L.z37; have v37 := L.v37
  have t53 := L.t53; have a53 := L.a53; have z53 := L.z53; have v53 := L.v53
  have t3 := L.t3; have a3 := L.a3; have z3 := L.z3; have v3 := L.v3
  have t4 := L.t4; have a4 := L.a4; have z4 := L.z4; have v4 := L.v4
  have t9 := L.t9; have a9 := L.a9; have z9 := L.z9; have v9 := L.v9
  have t171 := L.t171; have a171 := L.a171; have z171 := L.z171; have v171 := L.v171
  have t0 := L.t0; have a0 := L.a0; have z0 := L.z0; have v0 := L.v0
  have t173 := L.t173; have a173 := L.a173; have z173 := L.z173; have v173 := L.v173
  have e283 : ∀ args w, (callFunc (ρ.f 283) args).run P w = .ok (.enter (ρ.f 283) args) w := enters_of L.f283 (by kernel_rfl) rfl
  obtain ⟨i0, hi, hz0, hz1, hz2⟩ := info_parts L.i5
  have hlen : (Lib.decDigits u).length ≤ 20 := by
    rw [Lib.decDigits_length]
    by_cases h10 : u < 10
    · rw [Lib.nDigits_small h10]; omega
    · rw [Lib.nDigits_big h10, Lib.nDigits_small (show u / 10 < 10 by omega)]; omega
  have hsz : (⟨(Lib.decDigits u).toArray⟩ : ByteArray).size = (Lib.decDigits u).length := by simp [ByteArray.size]
  go_enter L.f288, Body.n288_ntmps ρ
  go_wp2_with (first
    | (go_at_fn (ρ.f 283); refine (Any.internal_strconv_small { L with } u hu _).mono ?_; rintro e w' ⟨rfl, rfl⟩)
    | (at_builtin; refine Go.Q.wpList_appstr_q rfl _ _ (ρ.t 37) (ρ.t 9) rfl L.t37 L.t9 hi hz0 hz1 hz2 _ _ _ rfl hown (Lib.decDigits u) rfl (by omega) ?_))
  intro v' w1 hown' hgrow hdis
  go_wp2
  go_ret
  exact ⟨v', rfl, hown', hgrow, hdis⟩

set_option maxHeartbeats 12800000 in
set_option maxRecDepth 100000 in
/-- internal/strconv.AppendUint(dst, i, 10), i FROM 100 ON: likewise; the digits are laid in an array of the call's own and appended. -/
theorem Tryz.appU_big (L : LaysM.n288 P ρ) (n u : Nat) (hu : 100 ≤ u) (hu64 : u < 18446744073709551616) (sv : Value) (xs : List Value) (w : World) (hown : w.ownsRow 0 (ρ.t 5) 1 sv n xs) (hlim : n + 20 ≤ 137438953472)
    (htab : Lib.TabIs P w "internal/strconv.uint64pow10" .u64 Lib.pow10Tab) :
    Calls P (ρ.f 288) #[sv, .int .u64 u, .int .i64 10] w fun e w' => ∃ v', e = .returned v' ∧ w'.ownsRow 0 (ρ.t 5) 1 v' (n + (Lib.decDigits u).length) (xs ++ Lib.byteCells (Lib.decDigits u)) ∧ w.grownBy w' sv.ownBlock ∧ (v'.ownBlock = sv.ownBlock ∨ ∀ b, v'.ownBlock = some b → w.heap.size ≤ b) := by
  have mixed := L.mixed
  have t5 := L.t5; have a5 := L.a5; have z5 := L.z5; have v5 := L.v5
  have t37 := L.t37; have u37 := run_underlying L.t37; have a37 := L.a37; have z37 := L.z37; have v37 := L.v37
  have t53 := L.t53; have a53 := L.a53; have z53 := L.z53; have v53 := L.v53
  have t3 := L.t3; have a3 := L.a3; have z3 := L.z3; have v3 := L.v3
  have t4 := L.t4; have a4 := L.a4; have z4 := L.z4; have v4 := L.v4
  have t9 := L.t9; have a9 := L.a9; have z9 := L.z9; have v9 := L.v9
  have t171 := L.t171; have a171 := L.a171; have z171 := L.z171; have v171 := L.v171
  have t0 := L.t0; have a0 := L.a0; have z0 := L.z0; have v0 := L.v0
  have t173 := L.t173; have a173 := L.a173; have z173 := L.z173; have v173 := L.v173
  have e284 : ∀ args w, (callFunc (ρ.f 284) args).run P w = .ok (.enter (ρ.f 284) args) w := enters_of L.f284 (by kernel_rfl) rfl
  have e285 : ∀ args w, (callFunc (ρ.f 285) args).run P w = .ok (.enter (ρ.f 285) args) w := enters_of L.f285 (by kernel_rfl) rfl
  obtain ⟨i0, hi, hz0, hz1, hz2⟩ := info_parts L.i5
  have hu1 : 1 ≤ u := by omega
  have hnd20 : Lib.nDigits u ≤ 20 := by have := Lib.numDigits_eq u hu1 hu64; split at this <;> omega
  have hal : P.arrayLen (ρ.t 171) = 24 := by simp [Program.arrayLen, L.t171]
  -- 'a[:nd]', for the walk to take
  have hsl : ∀ W, (Instr.sliceAt (ρ.t 171) (.pointer (some ⟨w.heap.size, 0, none⟩)) none (some (.int .i64 (Lib.nDigits u : Int))) none).run P W = .ok (.slice (some ⟨w.heap.size, 0, none⟩) (Lib.nDigits u) 24) W := fun W => by
    rw [run_sliceAt_array_h W (ρ.t 171) ⟨w.heap.size, 0, none⟩ (by simp [Program.arrayLen, Program.elem, L.t171]) .i64 (Lib.nDigits u : Int) (by omega) (by rw [hal]; omega)]
    go_simp
  -- formatBase10's contract at the new block's row of zeros
  have hH0 := Lib.holds_zero0 w (ρ.t 171) (Lib.nDigits u) (by omega)
  have hfmt := Any.internal_strconv_formatBase10 { L with } w.heap.size 0 24 u (Array.replicate (Lib.nDigits u) 0) (w.alloc (.cells Lib.zeros24 (ρ.t 171))) hH0 (by rw [Array.size_replicate]; exact Lib.lt_pow_nDigits u) hu64 (by rw [Array.size_replicate]; omega)
  rw [Array.size_replicate] at hfmt
  have HH0 := Lib.hid hH0
  have iu : (100 : Int) ≤ (u : Int) := by omega
  clear hH0 hal
  go_enter L.f288, Body.n288_ntmps ρ
  go_wp2_with (first
    | (go_at_fn (ρ.f 284); refine (Any.internal_strconv_numDigits { L with } u hu1 hu64 _ (Lib.tabIs_alloc htab _)).mono ?_; rintro e w' ⟨rfl, rfl⟩))
  go_at_fn (ρ.f 285)
  refine hfmt.mono ?_
  rintro e w' ⟨rfl, k, v', dk, rfl, hF⟩
  -- THE WORLD THAT formatBase10 LEAVES: the old one, draws, new blocks: dst IS OWNED AS BEFORE; the array's first nd cells are the numeral
  have hcells : ∀ j u', (Lib.byteCells (Lib.decDigits u))[j]? = some u' → ((putRow (fun (b : UInt8) => Value.int .u8 (b.toNat : Int)) (w.alloc (.cells Lib.zeros24 (ρ.t 171))) w.heap.size 0 dk).drewN k).cell? ((⟨w.heap.size, 0, none⟩ : Addr).add j) = some u' := by
    intro j u' hj
    have hjl : j < (Lib.decDigits u).length := by
      have h5 := (List.getElem?_eq_some_iff.1 hj).1
      rwa [Lib.byteCells_length] at h5
    have e5 : (Lib.byteCells (Lib.decDigits u))[j]? = some (Value.int .u8 ((Lib.decDigits u)[j].toNat : Int)) := by simp [Lib.byteCells, hjl]
    rw [e5] at hj
    cases hj
    rw [Lib.row_is_numeral hF j hjl, Lib.add_plain, World.cell?_drewN]
    exact cell?_putRow (fun (b : UInt8) => Value.int .u8 (b.toNat : Int)) _ w.heap.size 0 _ dk HH0.out (by rw [hF.size, Array.size_replicate]) j (by rw [hF.size]; rw [Lib.decDigits_length] at hjl; exact hjl)
  obtain ⟨os, eo⟩ := Lib.fin_at w (.cells Lib.zeros24 (ρ.t 171)) dk k 0
  have hown2 : ((putRow (fun (b : UInt8) => Value.int .u8 (b.toNat : Int)) (w.alloc (.cells Lib.zeros24 (ρ.t 171))) w.heap.size 0 dk).drewN k).ownsRow 0 (ρ.t 5) 1 sv n xs := by rw [eo]; exact Lib.ownsRow_grow hown k os
  have hnx2 : Below w.heap.size w ((putRow (fun (b : UInt8) => Value.int .u8 (b.toNat : Int)) (w.alloc (.cells Lib.zeros24 (ρ.t 171))) w.heap.size 0 dk).drewN k) := by rw [eo]; exact Lib.below_grow w.heap.size w (Nat.le_refl _) k os
  have hsz2 : w.heap.size ≤ ((putRow (fun (b : UInt8) => Value.int .u8 (b.toNat : Int)) (w.alloc (.cells Lib.zeros24 (ρ.t 171))) w.heap.size 0 dk).drewN k).heap.size := by rw [eo]; exact Lib.size_grow w k os
  generalize (putRow (fun (b : UInt8) => Value.int .u8 (b.toNat : Int)) (w.alloc (.cells Lib.zeros24 (ρ.t 171))) w.heap.size 0 dk).drewN k = W2 at hcells hown2 hnx2 hsz2 ⊢
  clear eo HH0 hfmt
  go_wp2_with (at_builtin; refine Go.Q.wpList_app_q rfl _ _ (ρ.t 37) rfl L.t37 hi hz0 hz1 hz2 rfl (by decide) _ _ _ rfl hown2 ⟨w.heap.size, 0, none⟩ (Lib.nDigits u) 24 (Lib.byteCells (Lib.decDigits u)) rfl ?c0 hcells ?c2 ?c3 ?c4 ?_)
  case c0 => rw [Lib.byteCells_length, Lib.decDigits_length, Nat.mul_one]
  case c2 => intro u' hu'; simp only [Lib.byteCells, List.mem_map] at hu'; obtain ⟨b, _, rfl⟩ := hu'; rfl
  case c3 => unfold maxLen; omega
  case c4 => omega
  intro v2 w3 hown' hgrow hdis
  go_wp2
  go_ret
  refine ⟨v2, rfl, by rw [Lib.decDigits_length]; exact hown', ⟨hgrow.os.trans hnx2.os, hgrow.tape.trans hnx2.tape, hgrow.output.trans hnx2.output, Nat.le_trans hnx2.size hgrow.size, fun k hk hne => (hgrow.block k (by omega) hne).trans (hnx2.block k hk)⟩, ?_⟩
  rcases hdis with h | h
  · exact .inl h
  · exact .inr fun b hb => Nat.le_trans hsz2 (h b hb)
end Go.Proofs
end

section
/- Walks of the bytes of numbers, texts and lists, laid behind a slice of the call's own, in the logic 'Q'. -/
set_option linter.unusedVariables false
set_option linter.unusedSimpArgs false
set_option maxRecDepth 100000
namespace Go.Proofs.YtldfghgjllaljaaGreatDoor.Q
open Go Go.Q

theorem relLL_bytes {F : Nat → Prop} {w : World} : ∀ (s : List UInt8), RelLL F w 1 (s.map encB) (Lib.byteCells s)
  | [] => by simp [RelLL, Lib.byteCells]
  | b :: s => by
    have := relLL_bytes (F := F) (w := w) s
    simp only [List.map_cons, RelLL, Lib.byteCells] at this ⊢
    exact ⟨[.int .u8 (b.toNat : Int)], _, rfl, rfl, by simp only [encB, RelL, Rel]; exact ⟨_, _, rfl, rfl, rfl⟩, by simp [Value.oneCell'], this⟩

theorem b_internal_strconv_AppendUint : bodied Go.Proofs.Tryz.prog 89 = true := by rw [bodied, Tryz.func89]; rfl
theorem c_AppendUint0 (u : Nat) (hu : u < 18446744073709551616) (s : Str) (hs : s.length + 20 ≤ 137438953472) : VCalls Go.Proofs.Tryz.prog G 89 [.arr 0 (s.map encB).length, .int .u64 (u : Int), .int .i64 10] [.arr 5 1 (s.map encB)] [0]
    (fun r H => r = .arr 0 ((s.map encB).length + ((Lib.decDigits u).map encB).length) ∧ H = [.arr 5 1 (s.map encB ++ (Lib.decDigits u).map encB)]) := by
  have hl : (Lib.decDigits u).length ≤ 20 := by rw [Lib.decDigits_length]; exact Lib.nDigits_le20 u hu
  refine vcalls_grown rfl (by simp [maxB]; omega) fun F w h us ms hown hr hG hh => ?_
  simp only [RelL, Rel] at hr
  obtain ⟨_, _, rfl, rfl, _, _, rfl, rfl, rfl⟩ := hr
  have hb := glob_here hG
  by_cases h100 : u < 100
  · refine (Go.Proofs.Tryz.appU_small Tryz.laysM288 (s.map encB).length u h100 h us w hown (by simp; omega)).mono ?_
    rintro e w' ⟨v', rfl, h1, h2, h3⟩
    exact ⟨v', _, rfl, relLL_bytes _, by simpa using (show w'.ownsRow 0 5 1 v' _ _ from h1), h2, h3⟩
  · refine (Go.Proofs.Tryz.appU_big Tryz.laysM288 (s.map encB).length u (by omega) hu h us w hown (by simp; omega) hb.pow10).mono ?_
    rintro e w' ⟨v', rfl, h1, h2, h3⟩
    exact ⟨v', _, rfl, relLL_bytes _, by simpa using (show w'.ownsRow 0 5 1 v' _ _ from h1), h2, h3⟩
theorem c_AppendUint (u : Nat) (hu : u < 18446744073709551616) (s : Str) (hs : s.length + 20 ≤ 137438953472) : VCalls Go.Proofs.Tryz.prog G 89 [.arr 0 s.length, .int .u64 (u : Int), .int .i64 10] [.arr 5 1 (s.map encB)] [0]
    (fun r H => r = .arr 0 (s ++ Lib.itoa u).length ∧ H = [.arr 5 1 ((s ++ Lib.itoa u).map encB)]) := by
  have h := c_AppendUint0 u hu s hs
  rw [List.length_map] at h
  refine h.mono fun r H h2 => ?_
  rw [Lib.itoa_nonneg]
  simpa using h2

/-! internal/strconv.AppendInt -/
theorem b_internal_strconv_AppendInt : bodied Go.Proofs.Tryz.prog 61 = true := by rw [bodied, Tryz.func61]; rfl
theorem c_internal_strconv_AppendInt (s : Str) (n : Nat) (hn : n ≤ 9223372036854775807) (hs : s.length ≤ 137000000000) : VCalls Go.Proofs.Tryz.prog G 61 [.arr 0 s.length, .int .i64 (n : Int), .int .i64 10] [.arr 5 1 (s.map encB)] [0] (fun r H => r = .arr 0 (s ++ Lib.itoa n).length ∧ H = [.arr 5 1 ((s ++ Lib.itoa n).map encB)]) := by
  have hw : IntKind.u64.wrap (n : Int) = n := by simp [IntKind.wrap, IntKind.bits, IntKind.signed]; omega
  refine vcalls_of2 tabOk (rs := _) 1 Tryz.func61 rfl (by simp [Tryz.ntmps61]) rfl (by first | (simp; done) | exact Nat.le_refl _) ?_
  rw [Tryz.ntmps61]
  refine vwp_reg tabOk [] [0, 1, 2] (by simp only [go_sem, hw]; rfl) (by first | trivial | (simp; done) | (simp [in64]; omega)) ?_
  refine vwp_reg tabOk [] [0, 1, 2, 7] (by simp only [go_sem, hw]; rfl) (by first | trivial | (simp; done) | (simp [in64]; omega)) ?_
  refine vwp_seq ?_
  refine vwp_reg tabOk [] [0, 2, 7, 11] (by simp only [go_sem, hw]; rfl) (by first | trivial | (simp; done) | (simp [in64]; omega)) ?_
  refine vwp_cond (by simp only [go_sem]; rfl) (fun h0 => ?_) (fun h0 => ?_)
  · -- h0 then
    exact absurd h0 (by simp)
  · -- h0 else
    refine vwp_skip ?_
    try simp only [thenQ, blockQ, jumpQ, stayQ]
    refine vwp_seq (vwp_region ?_)
    refine vops_go tabOk [] (by simp only [go_sem, hw]; rfl) (by first | trivial | (simp; done) | (simp [in64]; omega)) ?_
    -- call 0: t20 = CALL 89(f89, t17, t18, t19)
    refine vops_callH (hc := c_AppendUint n (by omega) s (by omega)) rfl rfl rfl b_internal_strconv_AppendUint [0] [0] [0] rfl rfl rfl (by simp only [go_sem]; exact WkL.refl _) (by simp only [go_sem]) ?_
    rintro r0 H0 ⟨rfl, rfl⟩
    simp only [go_sem, hw]
    refine vops_go tabOk [] (by simp only [go_sem, hw]; rfl) (by first | trivial | (simp; done) | (simp [in64]; omega)) ?_
    refine vops_done [6] ?_
    simp only [go_sem, thenQ, blockQ, jumpQ, stayQ]
    refine vwp_ret ?_
    -- result 0
    try simp only [thenQ, blockQ, jumpQ, stayQ, go_sem]
    refine ⟨by simp, _, _, rfl, by first | trivial | simp, ?_⟩
    rfl

/-! strconv.AppendInt -/
theorem b_strconv_AppendInt : bodied Go.Proofs.Tryz.prog 43 = true := by rw [bodied, Tryz.func43]; rfl
theorem c_strconv_AppendInt (s : Str) (n : Nat) (hn : n ≤ 9223372036854775807) (hs : s.length ≤ 137000000000) : VCalls Go.Proofs.Tryz.prog G 43 [.arr 0 s.length, .int .i64 (n : Int), .int .i64 10] [.arr 5 1 (s.map encB)] [0] (fun r H => r = .arr 0 (s ++ Lib.itoa n).length ∧ H = [.arr 5 1 ((s ++ Lib.itoa n).map encB)]) := by
  refine vcalls_of2 tabOk (rs := _) 1 Tryz.func43 rfl (by simp [Tryz.ntmps43]) rfl (by first | (simp; done) | exact Nat.le_refl _) ?_
  rw [Tryz.ntmps43]
  refine vwp_reg tabOk [] [0, 1, 2] (by simp only [go_sem]; rfl) (by first | trivial | (simp; done) | (simp [in64]; omega)) ?_
  refine vwp_seq (vwp_region ?_)
  refine vops_go tabOk [] (by simp only [go_sem]; rfl) (by first | trivial | (simp; done) | (simp [in64]; omega)) ?_
  -- call 0: t10 = CALL 61(f61, t7, t8, t9)
  refine vops_callH (hc := c_internal_strconv_AppendInt s n hn hs) rfl rfl rfl b_internal_strconv_AppendInt [0] [0] [0] rfl rfl rfl (by simp only [go_sem]; exact WkL.refl _) (by simp only [go_sem]) ?_
  rintro r0 H0 ⟨rfl, rfl⟩
  simp only [go_sem]
  refine vops_go tabOk [] (by simp only [go_sem]; rfl) (by first | trivial | (simp; done) | (simp [in64]; omega)) ?_
  refine vops_done [6] ?_
  simp only [go_sem, thenQ, blockQ, jumpQ, stayQ]
  refine vwp_ret ?_
  -- result 0
  try simp only [thenQ, blockQ, jumpQ, stayQ, go_sem]
  refine ⟨by simp, _, _, rfl, by first | trivial | simp, ?_⟩
  rfl

/-! counterpane/codec.number -/
theorem b_codec_number : bodied Go.Proofs.Tryz.prog 24 = true := by rw [bodied, Tryz.func24]; rfl
theorem c_codec_number (s : Str) (n : Nat) (hn : n ≤ 9223372036854775807) (hs : s.length ≤ 137000000000) : VCalls Go.Proofs.Tryz.prog G 24 [.arr 0 s.length, .int .i64 (n : Int)] [.arr 5 1 (s.map encB)] [0] (fun r H => r = .arr 0 (s ++ num n).length ∧ H = [.arr 5 1 ((s ++ num n).map encB)]) := by
  have hl := num_nat n hn
  rw [num, List.length_append] at hl
  simp only [List.length_cons, List.length_nil] at hl
  refine vcalls_of2 tabOk (rs := _) 1 Tryz.func24 rfl (by simp [Tryz.ntmps24]) rfl (by first | (simp; done) | exact Nat.le_refl _) ?_
  rw [Tryz.ntmps24]
  refine vwp_reg tabOk [] [0, 1] (by simp only [go_sem]; rfl) (by first | trivial | (simp; done) | (simp [in64]; omega)) ?_
  refine vwp_seq (vwp_region ?_)
  refine vops_go tabOk [] (by simp only [go_sem]; rfl) (by first | trivial | (simp; done) | (simp [-List.length_append]; rw [List.length_append]; omega)) ?_
  -- call 0: t7 = CALL 43(f43, t5, t6, 10)
  refine vops_callH (hc := c_strconv_AppendInt s n hn hs) rfl rfl rfl b_strconv_AppendInt [0] [0] [0] rfl rfl rfl (by simp only [go_sem]; exact WkL.refl _) (by simp only [go_sem]) ?_
  rintro r0 H0 ⟨rfl, rfl⟩
  simp only [go_sem]
  refine vops_go tabOk [] (by simp only [go_sem]; rfl) (by first | trivial | (simp; done) | (simp [-List.length_append]; rw [List.length_append]; omega)) ?_
  refine vops_done [4] ?_
  simp only [go_sem, thenQ, blockQ, jumpQ, stayQ]
  refine vwp_ret ?_
  -- result 0
  try simp only [thenQ, blockQ, jumpQ, stayQ, go_sem]
  refine ⟨by simp, _, _, rfl, by first | trivial | simp, ?_⟩
  refine ⟨?_, by simp [num, encB]⟩
  simp only [go_sem]; rw [num, ← List.append_assoc]; simp; try omega

/-! counterpane/codec.text -/
theorem b_codec_text : bodied Go.Proofs.Tryz.prog 44 = true := by rw [bodied, Tryz.func44]; rfl
theorem c_codec_text (s : Str) (x : Str) (hx : x.length ≤ 1000000000) (hs : s.length ≤ 130000000000) : VCalls Go.Proofs.Tryz.prog G 44 [.arr 0 s.length, .list 1 (x.map encB)] [.arr 5 1 (s.map encB)] [0] (fun r H => r = .arr 0 (s ++ txt x).length ∧ H = [.arr 5 1 ((s ++ txt x).map encB)]) := by
  have hl := num_nat x.length (by omega)
  refine vcalls_of2 tabOk (rs := _) 1 Tryz.func44 rfl (by simp [Tryz.ntmps44]) rfl (by first | (simp; done) | exact Nat.le_refl _) ?_
  rw [Tryz.ntmps44]
  refine vwp_reg tabOk [] [0, 1] (by simp only [go_sem]; rfl) (by first | trivial | (simp; done) | (simp [in64]; omega)) ?_
  refine vwp_seq (vwp_region ?_)
  refine vops_go tabOk [] (by simp only [go_sem]; rfl) (by first | trivial | (simp; done) | (simp [-List.length_append]; rw [List.length_append]; omega) | (simp [in64]; omega)) ?_
  -- call 0: t8 = CALL 24(f24, t5, t7)
  refine vops_callH (hc := c_codec_number s x.length (by omega) (by omega)) rfl rfl rfl b_codec_number [0] [0] [0] rfl rfl rfl (by simp only [go_sem]; exact ⟨Wk.refl _, Wk.refl _, trivial⟩) (by simp only [go_sem]) ?_
  rintro r0 H0 ⟨rfl, rfl⟩
  simp only [go_sem]
  refine vops_go tabOk [] (by simp only [go_sem]; rfl) (by first | trivial | (simp; done) | (simp [-List.length_append]; rw [List.length_append]; omega) | (simp [in64]; omega)) ?_
  refine vops_done [4] ?_
  simp only [go_sem, thenQ, blockQ, jumpQ, stayQ]
  refine vwp_ret ?_
  -- result 0
  try simp only [thenQ, blockQ, jumpQ, stayQ, go_sem]
  refine ⟨by simp, _, _, rfl, by first | trivial | simp, ?_⟩
  refine ⟨?_, by simp [txt]⟩
  simp only [go_sem]; rw [txt, ← List.append_assoc]; simp; try omega

/-! counterpane/codec.list -/
theorem b_codec_list : bodied Go.Proofs.Tryz.prog 25 = true := by rw [bodied, Tryz.func25]; rfl
set_option maxHeartbeats 4000000 in
theorem c_codec_list (s : Str) (l : List Str) (hl : (lst l).length ≤ 1000000000) (hs : s.length ≤ 100000000000) : VCalls Go.Proofs.Tryz.prog G 25 [.arr 0 s.length, .list 1 (l.map cS)] [.arr 5 1 (s.map encB)] [0] (fun r H => r = .arr 0 (s ++ lst l).length ∧ H = [.arr 5 1 ((s ++ lst l).map encB)]) := by
  refine vcalls_know fun hk hK => ?_
  simp only [factsL, facts, maxB, List.length_map] at hk
  have hnl := num_nat l.length (by omega)
  rw [lst, List.length_append] at hl
  refine vcalls_of2 tabOk (rs := _) 1 Tryz.func25 rfl (by simp [Tryz.ntmps25]) rfl (by first | (simp; done) | exact Nat.le_refl _) ?_
  rw [Tryz.ntmps25]
  refine vwp_reg tabOk [] [0, 1] (by simp only [go_sem]; rfl) (by first | trivial | (simp; done) | (simp [in64]; omega)) ?_
  refine vwp_seq (vwp_region ?_)
  refine vops_go tabOk [] (by simp only [go_sem]; rfl) (by first | trivial | (simp; done) | (simp [in64]; omega)) ?_
  -- call 0: t10 = CALL 24(f24, t7, t9)
  refine vops_callH (hc := c_codec_number s l.length (by omega) (by omega)) rfl rfl rfl b_codec_number [0] [0] [0] rfl rfl rfl (by simp only [go_sem]; exact WkL.refl _) (by simp only [go_sem]) ?_
  rintro r0 H0 ⟨rfl, rfl⟩
  simp only [go_sem]
  refine vops_go tabOk [] (by simp only [go_sem]; rfl) (by first | trivial | (simp; done) | (simp [in64]; omega)) ?_
  refine vops_done [0, 1] ?_
  simp only [go_sem, thenQ, blockQ, jumpQ, stayQ]
  refine vwp_seq ?_
  refine vwp_reg tabOk [] [0, 11, 12, 13] (by simp only [go_sem]; rfl) (by first | trivial | (simp; done) | (simp [in64]; omega)) ?_
  refine vwp_block ?_
  -- loop 0
  refine vwp_loopW (fun i : Nat => [(0, .arr 0 (s ++ num l.length ++ txts (l.take i)).length), (11, .list 1 (l.map cS)), (12, .int .i64 (l.length : Int)), (13, .int .i64 (i : Int))]) (fun i => [.arr 5 1 ((s ++ num l.length ++ txts (l.take i)).map encB)]) (fun i => i ≤ l.length) (fun i => l.length - i) 0 (Nat.zero_le _) (Env.wk_cons (by first | exact Wk.refl _ | exact Wk.nils _ | (refine Wk.eq ?_; simp; done) | (refine Wk.eq ?_; simp [txts]; done) | (refine Wk.eq ?_; congr 1 <;> omega)) (Env.wk_cons (by first | exact Wk.refl _ | exact Wk.nils _ | (refine Wk.eq ?_; simp; done) | (refine Wk.eq ?_; simp [txts]; done) | (refine Wk.eq ?_; congr 1 <;> omega)) (Env.wk_cons (by first | exact Wk.refl _ | exact Wk.nils _ | (refine Wk.eq ?_; simp; done) | (refine Wk.eq ?_; simp [txts]; done) | (refine Wk.eq ?_; congr 1 <;> omega)) (Env.wk_cons (by first | exact Wk.refl _ | exact Wk.nils _ | (refine Wk.eq ?_; simp; done) | (refine Wk.eq ?_; simp [txts]; done) | (refine Wk.eq ?_; congr 1 <;> omega)) (Env.wk_nil _))))) (by simp [txts]) ?_
  rintro i hi
  refine vwp_reg tabOk [] [0, 11, 12, 13, 14] (by simp only [go_sem]; rfl) (by first | trivial | (simp; done) | (simp [in64]; omega)) ?_
  refine vwp_seq ?_
  refine vwp_cond (by simp only [go_sem]; rfl) (fun h0 => ?_) (fun h0 => ?_)
  · -- h0 then
    have h0' : i < l.length := by simp at h0; omega
    have ht := txts_take l i h0'
    have hle := txts_le l (i + 1)
    rw [ht, List.length_append] at hle
    have hli : l[i].length ≤ (txt l[i]).length := txt_ge _
    refine vwp_skip ?_
    try simp only [thenQ, blockQ, jumpQ, stayQ]
    refine vwp_seq ?_
    refine vwp_block ?_
    refine vwp_reg tabOk [] [0, 6, 11, 12, 13] (by simp only [go_sem]; rfl) (by first | trivial | (simp; done) | (simp [h0']; done) | (simp; omega)) ?_
    refine vwp_region ?_
    refine vops_go tabOk [] (by simp only [go_sem]; rfl) (by first | trivial | (simp; done) | (simp [in64]; omega)) ?_
    -- call 1: t20 = CALL 44(f44, t17, t19)
    refine vops_callH (hc := c_codec_text (s ++ num l.length ++ txts (l.take i)) (l.getD i []) (by rw [getD_lt l i [] h0']; omega) (by simp only [List.length_append]; omega)) rfl rfl rfl b_codec_text [0] [0] [0] rfl rfl rfl (by simp only [go_sem]; exact WkL.refl _) (by simp only [go_sem]) ?_
    rintro r1 H1 ⟨rfl, rfl⟩
    simp only [go_sem]
    refine vops_go tabOk [] (by simp only [go_sem]; rfl) (by first | trivial | (simp; done) | (simp [in64]; omega)) ?_
    refine vops_done [0, 11, 12, 13] ?_
    simp only [go_sem, thenQ, blockQ, jumpQ, stayQ]
    try simp only [thenQ, blockQ, jumpQ, stayQ]
    refine vwp_reg1 tabOk [] [0, 11, 12, 13] (by simp only [go_sem]; rfl) (by first | trivial | (simp; done) | (simp [in64]; omega)) ?_
    try simp only [thenQ, blockQ, jumpQ, stayQ]
    -- round 0
    exact ⟨i + 1, by omega, by omega, Env.wk_cons (Wk.eq (by rw [txts_take l i h0', getD_lt l i [] h0']; simp [Nat.add_assoc])) (Env.wk_cons (Wk.refl _) (Env.wk_cons (Wk.refl _) (Env.wk_cons (Wk.refl _) (Env.wk_nil _)))), by rw [txts_take l i h0', getD_lt l i [] h0']; simp⟩
  · -- h0 else
    refine vwp_exit ?_
    simp only [thenQ, blockQ, jumpQ, stayQ, if_true, reduceIte, Nat.reduceEqDiff]
    refine vwp_reg tabOk [] [4] (by simp only [go_sem]; rfl) (by first | trivial | (simp; done) | (simp [in64]; omega)) ?_
    refine vwp_ret ?_
    -- result 0
    try simp only [thenQ, blockQ, jumpQ, stayQ, go_sem]
    refine ⟨by simp, _, _, rfl, by first | trivial | simp, ?_⟩
    have : i = l.length := by simp at h0; omega
    subst this; rw [List.take_length]; refine ⟨?_, by simp [lst]⟩
    simp only [go_sem]; simp [lst, Nat.add_assoc]
end Go.Proofs.YtldfghgjllaljaaGreatDoor.Q
end

section
/- Walks of what looks at texts rune by rune, in the logic 'Q'. -/
set_option linter.unusedVariables false
set_option linter.unusedSimpArgs false
set_option maxRecDepth 100000
namespace Go.Proofs.YtldfghgjllaljaaGreatDoor.Q
open Go Go.Q
open Go.RowKit (Below)

theorem b_strings_IndexByte : bodied Go.Proofs.Tryz.prog 127 = true := by rw [bodied, Tryz.func127]; rfl
theorem c_strings_IndexByte (s : Str) (c : UInt8) : VPure Go.Proofs.Tryz.prog G 127 [.str s, .int .u8 (c.toNat : Int)] (.int .i64 (Lib.indexByte s c)) := by
  refine vpure_same fun F w ms hr hG => ⟨.int .i64 (Lib.indexByte s c), by simp only [Rel], ?_⟩
  simp only [RelL, Rel] at hr
  obtain ⟨_, _, rfl, ⟨rfl, _⟩, _, _, rfl, rfl, rfl⟩ := hr
  refine (Tryz.strings_IndexByte ⟨s.toArray⟩ (c.toNat : Int) w).mono ?_
  rintro e w' ⟨rfl, rfl⟩
  refine ⟨?_, Below.refl _ _⟩
  simp
theorem b_unicode_utf8_ValidRune : bodied Go.Proofs.Tryz.prog 128 = true := by rw [bodied, Tryz.func128]; rfl
theorem c_utf8_ValidRune (r : Int) : VPure Go.Proofs.Tryz.prog G 128 [.int .i32 r] (.bool (Lib.validRune r)) := by
  refine vpure_same fun F w ms hr hG => ⟨.bool (Lib.validRune r), by simp only [Rel], ?_⟩
  simp only [RelL, Rel] at hr
  obtain ⟨_, _, rfl, rfl, rfl⟩ := hr
  refine (Tryz.utf8_ValidRune r w).mono ?_
  rintro e w' ⟨rfl, rfl⟩
  exact ⟨rfl, Below.refl _ _⟩

/-- Where a rune stands in a text of runes below 128. -/
def runeIdx (s : Str) (r : Int) : Int := if 0 ≤ r ∧ r < 128 then Lib.indexByte s r.toNat.toUInt8 else -1
theorem indexByte_none {s : Str} {c : UInt8} (h : ∀ b ∈ s, b ≠ c) : Lib.indexByte s c = -1 := by
  induction s with
  | nil => rfl
  | cons b s ih =>
    have h1 := h b (by simp)
    simp [Lib.indexByte, h1, ih fun b hb => h b (by simp [hb])]
theorem runeAt_low (s : Str) (q : Nat) (hq : q < s.length) (h : (s.getD q 0).toNat < 128) : runeAt s q = ((s.getD q 0).toNat, 1) := by
  have h1 : (⟨s.toArray⟩ : ByteArray).get! (q + 0) = s.getD q 0 := by
    rw [get_at _ q (by simpa [ByteArray.size] using hq), getD_lt s q 0 hq]; rfl
  simp only [runeAt, Utf8.decode, h1, if_pos h]

theorem runeStr_high {r : Int} (hv : Lib.validRune r = true) (h : 128 ≤ r) : ∃ k, (runeStr r).length = k + 1 ∧ k < 4 ∧ 128 ≤ ((runeStr r).getD k 0).toNat := by
  obtain ⟨h1, h2, h3⟩ := encode_facts r (by rw [validRune_eq]; exact hv) h
  have hs : (Utf8.encode r).size = (runeStr r).length := by unfold runeStr; rw [Array.length_toList]; rfl
  refine ⟨(runeStr r).length - 1, by omega, by omega, ?_⟩
  have h4 := h3 (by omega)
  rw [getD_lt _ _ _ (by omega)]
  simp only [hs] at h4
  exact h4
theorem getD_lt128 {s : Str} (hs : ∀ b ∈ s, b.toNat < 128) (k : Nat) : (s.getD k 0).toNat < 128 := by
  by_cases h : k < s.length
  · rw [getD_lt s k 0 h]; exact hs _ (List.getElem_mem h)
  · rw [List.getD_eq_getElem?_getD, List.getElem?_eq_none (by omega)]; decide
theorem wrap8 {r : Int} (h : 0 ≤ r ∧ r < 128) : IntKind.u8.wrap r = (r.toNat.toUInt8.toNat : Int) := by
  have h1 : r.toNat.toUInt8.toNat = r.toNat := by simp; omega
  rw [h1]; simp [IntKind.wrap, IntKind.bits, IntKind.signed]; omega

/-! strings.IndexRune -/
theorem b_strings_IndexRune : bodied Go.Proofs.Tryz.prog 109 = true := by rw [bodied, Tryz.func109]; rfl
set_option maxHeartbeats 4000000 in
theorem c_strings_IndexRune (s : Str) (hs : ∀ b ∈ s, b.toNat < 128) (r : Int) : VPure Go.Proofs.Tryz.prog G 109 [.str s, .int .i32 r] (.int .i64 (runeIdx s r)) := by
  refine vpure_know fun hk => ?_
  simp only [factsL, facts, maxB] at hk
  refine vpure_of (ts := [4]) Tryz.func109 rfl (by simp [Tryz.ntmps109]) rfl rfl ?_
  rw [Tryz.ntmps109]
  refine vwp_reg tabOk [] [0, 1] (by simp only [go_sem]; rfl) (by first | trivial | (simp; done) | (simp [in64]; omega)) ?_
  refine vwp_block ?_
  refine vwp_reg tabOk [] [0, 1, 160] (by simp only [go_sem]; rfl) (by first | trivial | (simp; done) | (simp [in64]; omega)) ?_
  refine vwp_cond (by simp only [go_sem]; rfl) (fun h0 => ?_) (fun h0 => ?_)
  · -- h0 then
    have h0a : 0 ≤ r ∧ r < 128 := by simp at h0; omega
    have hw := wrap8 h0a
    refine vwp_seq (vwp_region ?_)
    refine vops_go tabOk [] (by simp only [go_sem]; rfl) (by first | trivial | (simp; done) | (simp [in64]; omega)) ?_
    -- call 0: t170 = CALL 127(f127, t167, t169)
    refine vops_call (hc := fun _ => c_strings_IndexByte s r.toNat.toUInt8) rfl (by simp only [go_sem]; rfl) rfl b_strings_IndexByte (by simp only [go_sem]; rw [hw]; exact WkL.refl _) rfl (fun hg => by simp only [go_sem]; try (intros; first | assumption | trivial | simp_all)) ?_
    simp only [go_sem]
    refine vops_go tabOk [] (by simp only [go_sem]; rfl) (by first | trivial | (simp; done) | (simp [in64]; omega)) ?_
    refine vops_done [4] ?_
    simp only [go_sem, thenQ, blockQ, jumpQ, stayQ]
    refine vwp_ret ?_
    -- result 0
    simp only [thenQ, blockQ, jumpQ, stayQ, RetQ, go_sem]
    refine ⟨by simp, Wk.eq ?_⟩
    rw [runeIdx, if_pos h0a]
  · -- h0 else
    refine vwp_reg tabOk [] [0, 1, 171] (by simp only [go_sem]; rfl) (by first | trivial | (simp; done) | (simp [in64]; omega)) ?_
    refine vwp_cond (by simp only [go_sem]; rfl) (fun h1 => ?_) (fun h1 => ?_)
    · -- h1 then
      refine vwp_seq ?_
      refine vwp_seq (vwp_region ?_)
      refine vops_go tabOk [] (by simp only [go_sem]; rfl) (by first | trivial | (simp; done) | (simp [in64]; omega)) ?_
      -- t175 = range(t174)
      refine vops_step1 (step_range (s := s) rfl (by kernel_rfl) (by simp only [go_sem])) rfl rfl ?_
      simp only [go_sem]
      refine vops_done [175] ?_
      simp only [go_sem, thenQ, blockQ, jumpQ, stayQ]
      refine vwp_block ?_
      -- loop 0
      refine vwp_loopW (fun q : Nat => [(175, .obj 0)]) (fun q => [.strIter s q]) (fun q => q ≤ s.length) (fun q => s.length - q) 0 (Nat.zero_le _) (Env.wk_cons (by first | exact Wk.refl _ | exact Wk.nils _ | (refine Wk.eq ?_; simp; done) | (refine Wk.eq ?_; congr 1 <;> omega)) (Env.wk_nil _)) rfl ?_
      rintro q hq0
      rcases Nat.lt_or_ge q s.length with hq | hq
      · -- case 0
        refine vwp_seq (vwp_region ?_)
        -- t176 = next(t175)
        refine vops_step1 (step_next (i := 0) (q := q) rfl (by simp only [go_sem]) rfl hq) rfl rfl ?_
        simp only [go_sem, List.set]
        refine vops_go tabOk [] (by simp only [go_sem]; rfl) (by first | trivial | (simp; done) | (simp [in64]; omega)) ?_
        refine vops_done [175, 176, 177] ?_
        simp only [go_sem, thenQ, blockQ, jumpQ, stayQ]
        refine vwp_seq ?_
        refine vwp_cond (by simp only [go_sem]; rfl) (fun h2 => ?_) (fun h2 => ?_)
        · -- h2 then
          have hlt := getD_lt128 hs q
          have hrl := runeAt_low s q hq hlt
          rw [hrl]
          refine vwp_skip ?_
          try simp only [thenQ, blockQ, jumpQ, stayQ]
          refine vwp_block ?_
          refine vwp_reg tabOk [] [5, 6, 175] (by simp only [go_sem]; rfl) (by first | trivial | (simp; done) | (simp [in64]; omega)) ?_
          refine vwp_reg tabOk [] [5, 175, 181] (by simp only [go_sem]; rfl) (by first | trivial | (simp; done) | (simp [in64]; omega)) ?_
          refine vwp_cond (by simp only [go_sem]; rfl) (fun h3 => ?_) (fun h3 => ?_)
          · -- h3 then
            exfalso; simp [-List.getD_eq_getElem?_getD] at h3; omega
          · -- h3 else
            refine vwp_skip ?_
            try simp only [thenQ, blockQ, jumpQ, stayQ]
            -- round 0
            exact ⟨q + 1, by omega, by omega, (Env.wk_cons2 (by simp only [go_sem]; first | exact Wk.refl _ | exact Wk.nils _ | (refine Wk.eq ?_; simp; done) | (refine Wk.eq ?_; congr 1 <;> omega)) (Env.wk_nil _)), (by first | rfl | trivial)⟩
        · -- h2 else
          cases h2
      · -- case 1
        refine vwp_seq (vwp_region ?_)
        -- t176 = next(t175)
        refine vops_step1 (step_nextEnd (i := 0) (q := q) rfl (by simp only [go_sem]) rfl hq) rfl rfl ?_
        simp only [go_sem]
        refine vops_go tabOk [] (by simp only [go_sem]; rfl) (by first | trivial | (simp; done) | (simp [in64]; omega)) ?_
        refine vops_done [175, 176, 177] ?_
        simp only [go_sem, thenQ, blockQ, jumpQ, stayQ]
        refine vwp_seq ?_
        refine vwp_cond (by simp only [go_sem]; rfl) (fun h4 => ?_) (fun h4 => ?_)
        · -- h4 then
          cases h4
        · -- h4 else
          refine vwp_exit ?_
          simp only [thenQ, blockQ, jumpQ, stayQ, if_true, reduceIte, Nat.reduceEqDiff]
          refine vwp_reg tabOk [] [4] (by simp only [go_sem]; rfl) (by first | trivial | (simp; done) | (simp [in64]; omega)) ?_
          refine vwp_ret ?_
          -- result 1
          simp only [thenQ, blockQ, jumpQ, stayQ, RetQ, go_sem]
          refine ⟨by simp, Wk.eq ?_⟩
          rw [runeIdx, if_neg (by simp at h1; omega)]
    · -- h1 else
      refine vwp_seq (vwp_region ?_)
      refine vops_go tabOk [] (by simp only [go_sem]; rfl) (by first | trivial | (simp; done) | (simp [in64]; omega)) ?_
      -- call 1: t185 = CALL 128(f128, t184)
      refine vops_call (hc := fun _ => c_utf8_ValidRune r) rfl (by simp only [go_sem]; rfl) rfl b_unicode_utf8_ValidRune (by simp only [go_sem]; exact WkL.refl _) rfl (fun hg => by simp only [go_sem]; try (intros; first | assumption | trivial | simp_all)) ?_
      simp only [go_sem]
      refine vops_go tabOk [] (by simp only [go_sem]; rfl) (by first | trivial | (simp; done) | (simp [in64]; omega)) ?_
      refine vops_done [0, 1, 183] ?_
      simp only [go_sem, thenQ, blockQ, jumpQ, stayQ]
      refine vwp_cond (by simp only [go_sem]; rfl) (fun h5 => ?_) (fun h5 => ?_)
      · -- h5 then
        refine vwp_reg tabOk [] [4] (by simp only [go_sem]; rfl) (by first | trivial | (simp; done) | (simp [in64]; omega)) ?_
        refine vwp_ret ?_
        -- result 2
        simp only [thenQ, blockQ, jumpQ, stayQ, RetQ, go_sem]
        refine ⟨by simp, Wk.eq ?_⟩
        rw [runeIdx, if_neg (by simp at h0; omega)]
      · -- h5 else
        have h5a : Lib.validRune r = true := by simpa using h5
        have h128 : 128 ≤ r := by simp [Lib.validRune] at h5a h0; omega
        obtain ⟨k, hk2, hk4, hkb⟩ := runeStr_high h5a h128
        have hsk := getD_lt128 hs k
        refine vwp_scope1 1 (fun _ _ => False) rfl ?_ (fun _ _ h => h.elim)
        refine vwp_seq (vwp_region ?_)
        refine vops_go tabOk [] (by simp only [go_sem]; rfl) (by first | trivial | (simp; done) | (simp [in64, hk2]; omega) | (simp [hk2]; done)) ?_
        -- t18 = convert(t17) :21>9
        refine vops_step1 (step_runeStr rfl (by kernel_rfl) (by kernel_rfl) (by simp only [go_sem]; rfl)) rfl rfl ?_
        simp only [go_sem]
        refine vops_go tabOk [] (by simp only [go_sem]; rfl) (by first | trivial | (simp; done) | (simp [in64, hk2]; omega) | (simp [hk2]; done)) ?_
        refine vops_done [0, 1, 7] ?_
        simp only [go_sem, thenQ, blockQ, jumpQ, stayQ]
        refine vwp_reg tabOk [] [0, 1, 7, 8] (by simp only [go_sem]; rfl) (by simp [hk2, in64]; omega) ?_
        refine vwp_reg tabOk [] [0, 1, 7, 8, 9] (by simp only [go_sem]; rfl) (by first | trivial | (simp; done) | (simp [in64]; omega)) ?_
        refine vwp_reg tabOk [] [0, 1, 7, 8, 9, 10] (by simp only [go_sem]; rfl) (by first | trivial | (simp; done) | (simp [in64]; omega)) ?_
        refine vwp_seq ?_
        refine vwp_block ?_
        -- loop 1
        refine vwp_loopW (fun u : Unit => [(0, .str s), (1, .int .i32 r), (7, .str (runeStr r)), (8, .int .i64 (k : Int)), (9, .int .i64 (k : Int)), (10, .int .i64 0)]) (fun u => []) (fun u => True) (fun u => 0) () trivial (Env.wk_cons (by first | exact Wk.refl _ | exact Wk.nils _ | (refine Wk.eq ?_; simp; done) | (refine Wk.eq ?_; congr 1 <;> omega)) (Env.wk_cons (by first | exact Wk.refl _ | exact Wk.nils _ | (refine Wk.eq ?_; simp; done) | (refine Wk.eq ?_; congr 1 <;> omega)) (Env.wk_cons (by first | exact Wk.refl _ | exact Wk.nils _ | (refine Wk.eq ?_; simp; done) | (refine Wk.eq ?_; congr 1 <;> omega)) (Env.wk_cons (by first | exact Wk.refl _ | exact Wk.nils _ | (refine Wk.eq ?_; simp; done) | (refine Wk.eq ?_; congr 1 <;> omega)) (Env.wk_cons (by first | exact Wk.refl _ | exact Wk.nils _ | (refine Wk.eq ?_; simp; done) | (refine Wk.eq ?_; congr 1 <;> omega)) (Env.wk_cons (by first | exact Wk.refl _ | exact Wk.nils _ | (refine Wk.eq ?_; simp; done) | (refine Wk.eq ?_; congr 1 <;> omega)) (Env.wk_nil _))))))) rfl ?_
        rintro u hu
        refine vwp_seq ?_
        refine vwp_reg tabOk [] [0, 1, 7, 8, 9, 10, 26] (by simp only [go_sem]; rfl) (by first | trivial | (simp; done) | (simp [in64]; omega)) ?_
        refine vwp_cond (by simp only [go_sem]; rfl) (fun h6 => ?_) (fun h6 => ?_)
        · -- h6 then
          refine vwp_skip ?_
          try simp only [thenQ, blockQ, jumpQ, stayQ]
          refine vwp_block ?_
          refine vwp_scope1 0 (fun _ _ => False) rfl ?_ (fun _ _ h => h.elim)
          refine vwp_seq ?_
          -- r6 drawn
          refine vwp_seq (vwp_drawD mixed (by kernel_rfl) (eF := ?_) ?_ [0, 1, 7, 8, 9, 10, 33] rfl ?_)
          rotate_left
          · -- the operations
            refine dall_go tabOk (by simp only [go_sem]; rfl) (by first | trivial | (simp; done) | (simp [hk2]; simp at h6; omega)) ?_
            exact dall_nil
          simp only [go_sem, thenQ, blockQ, jumpQ, stayQ]
          refine vwp_cond (by simp only [go_sem]; rfl) (fun h7 => ?_) (fun h7 => ?_)
          · -- h7 then
            have hni : Lib.indexByte (s.drop (k + 1)) ((runeStr r).getD k 0) = -1 := indexByte_none fun b hb e => by have := hs b (List.mem_of_mem_drop hb); rw [e] at this; omega
            have hks : k < s.length := by simp at h6; omega
            -- r7 drawn
            refine vwp_seq (vwp_drawD mixed (by kernel_rfl) (eF := ?_) ?_ [0, 1, 7, 8, 9, 10, 11] rfl ?_)
            rotate_left
            · -- the operations
              refine dall_go tabOk (by simp only [go_sem]; rfl) (by first | trivial | (simp; done) | (simp [hk2, in64]; omega)) ?_
              -- call 2: t41 = CALL 127(f127, t37, t40)
              refine dall_call (hc := fun _ => c_strings_IndexByte (s.drop (k + 1)) ((runeStr r).getD k 0)) rfl (by simp only [go_sem]; rfl) b_strings_IndexByte (by simp only [go_sem]; exact WkL.refl _) rfl (fun hg => by simp only [go_sem]; try (intros; first | assumption | trivial | simp_all)) ?_
              simp only [go_sem]
              refine dall_go tabOk (by simp only [go_sem]; rfl) (by first | trivial | (simp; done) | (simp [hk2, in64]; omega)) ?_
              exact dall_nil
            simp only [go_sem, thenQ, blockQ, jumpQ, stayQ]
            refine vwp_seq ?_
            refine vwp_reg tabOk [] [0, 1, 7, 8, 9, 10, 11, 43] (by simp only [go_sem]; rfl) (by first | trivial | (simp; done) | (simp [in64]; omega)) ?_
            refine vwp_cond (by simp only [go_sem]; rfl) (fun h8 => ?_) (fun h8 => ?_)
            · -- h8 then
              refine vwp_reg tabOk [] [4] (by simp only [go_sem]; rfl) (by first | trivial | (simp; done) | (simp [in64]; omega)) ?_
              refine vwp_ret ?_
              -- result 3
              simp only [thenQ, blockQ, jumpQ, stayQ, RetQ, go_sem]
              refine ⟨by simp, Wk.eq ?_⟩
              rw [runeIdx, if_neg (by simp at h0; omega)]
            · -- h8 else
              exfalso; rw [hni] at h8; simp at h8
          · -- h7 else
            exfalso; simp [-List.getD_eq_getElem?_getD] at h7; omega
        · -- h6 else
          refine vwp_exit ?_
          simp only [thenQ, blockQ, jumpQ, stayQ, if_true, reduceIte, Nat.reduceEqDiff]
          refine vwp_seq ?_
          refine vwp_reg tabOk [] [4] (by simp only [go_sem]; rfl) (by first | trivial | (simp; done) | (simp [in64]; omega)) ?_
          refine vwp_ret ?_
          -- result 4
          simp only [thenQ, blockQ, jumpQ, stayQ, RetQ, go_sem]
          refine ⟨by simp, Wk.eq ?_⟩
          rw [runeIdx, if_neg (by simp at h0; omega)]

/-! strings.ContainsRune -/
theorem c_strings_ContainsRune (s : Str) (hs : ∀ b ∈ s, b.toNat < 128) (r : Int) : VPure Go.Proofs.Tryz.prog G 88 [.str s, .int .i32 r] (.bool (decide (0 ≤ runeIdx s r))) := by
  refine vpure_of (ts := [4]) Tryz.func88 rfl (by simp [Tryz.ntmps88]) rfl rfl ?_
  rw [Tryz.ntmps88]
  refine vwp_reg tabOk [] [0, 1] (by simp only [go_sem]; rfl) (by first | trivial | (simp; done) | (simp [in64]; omega)) ?_
  refine vwp_seq (vwp_region ?_)
  refine vops_go tabOk [] (by simp only [go_sem]; rfl) (by first | trivial | (simp; done) | (simp [in64]; omega)) ?_
  -- call 0: t7 = CALL 109(f109, t5, t6)
  refine vops_call (hc := fun _ => c_strings_IndexRune s hs r) rfl (by simp only [go_sem]; rfl) rfl b_strings_IndexRune (by simp only [go_sem]; exact WkL.refl _) rfl (fun hg => by simp only [go_sem]; try (intros; first | assumption | trivial | simp_all)) ?_
  simp only [go_sem]
  refine vops_go tabOk [] (by simp only [go_sem]; rfl) (by first | trivial | (simp; done) | (simp [in64]; omega)) ?_
  refine vops_done [4] ?_
  simp only [go_sem, thenQ, blockQ, jumpQ, stayQ]
  refine vwp_ret ?_
  -- result 0
  simp only [thenQ, blockQ, jumpQ, stayQ, RetQ, go_sem]
  refine ⟨by simp, Wk.eq ?_⟩
  rfl

/-- The first byte of which something is true. -/
def firstP (p : Int → Bool) (s : Str) : Int := match s.findIdx? fun b => p (b.toNat : Int) with | some i => (i : Int) | none => -1
theorem firstP_at {p : Int → Bool} {s : Str} {q : Nat} (hq : q < s.length) (ha : ∀ j, j < q → p ((s.getD j 0).toNat : Int) = false) (hp : p ((s.getD q 0).toNat : Int) = true) : firstP p s = q := by
  have : s.findIdx? (fun b => p (b.toNat : Int)) = some q := by
    rw [List.findIdx?_eq_some_iff_getElem]
    rw [getD_lt s q 0 hq] at hp
    refine ⟨hq, hp, fun j hj => ?_⟩
    have := ha j hj
    rw [getD_lt s j 0 (by omega)] at this
    rw [this]; simp
  rw [firstP, this]
theorem firstP_none {p : Int → Bool} {s : Str} (ha : ∀ j, j < s.length → p ((s.getD j 0).toNat : Int) = false) : firstP p s = -1 := by
  have : s.findIdx? (fun b => p (b.toNat : Int)) = none := by
    rw [List.findIdx?_eq_none_iff]
    intro b hb
    obtain ⟨j, hj, rfl⟩ := List.getElem_of_mem hb
    have := ha j hj
    rwa [getD_lt s j 0 hj] at this
  rw [firstP, this]
theorem firstP_nonneg (p : Int → Bool) (s : Str) : decide (0 ≤ firstP p s) = s.any fun b => p (b.toNat : Int) := by
  rw [firstP]
  cases h : s.findIdx? fun b => p (b.toNat : Int) with
  | some i =>
    rw [List.findIdx?_eq_some_iff_getElem] at h
    obtain ⟨h1, h2, _⟩ := h
    have : (s.any fun b => p (b.toNat : Int)) = true := List.any_eq_true.2 ⟨s[i], List.getElem_mem h1, h2⟩
    rw [this]; simp
  | none =>
    rw [List.findIdx?_eq_none_iff] at h
    have : (s.any fun b => p (b.toNat : Int)) = false := by
      rw [List.any_eq_false]; intro b hb; simp [h b hb]
    rw [this]; rfl
/-- A predicate of runes: what it says, and that it is true of all from 128 on. -/
structure RuneP (P : Program) (G : Glob) (g : FuncId) (p : Int → Bool) : Prop where
  body : bodied P g = true
  pure : ∀ r, VPure P G g [.int .i32 r] (.bool (p r))
  high : ∀ r, 128 ≤ r → p r = true
theorem runeP_at {p : Int → Bool} (hh : ∀ r, 128 ≤ r → p r = true) (s : Str) (q : Nat) (hq : q < s.length) : (p ((runeAt s q).1 : Int) = p ((s.getD q 0).toNat : Int)) ∧ 1 ≤ (runeAt s q).2 ∧ (p ((s.getD q 0).toNat : Int) = false → (runeAt s q).2 = 1) := by
  by_cases h : (s.getD q 0).toNat < 128
  · rw [runeAt_low s q hq h]; exact ⟨rfl, Nat.le_refl _, fun _ => rfl⟩
  · have h1 := hh ((s.getD q 0).toNat : Int) (by omega)
    have h2 := decode_high ⟨s.toArray⟩ q (by simpa [ByteArray.size] using hq) (by
      have : (⟨s.toArray⟩ : ByteArray)[q]'(by simpa [ByteArray.size] using hq) = s.getD q 0 := by rw [getD_lt s q 0 hq]; rfl
      rw [this]; omega)
    refine ⟨?_, h2.2, fun h3 => by rw [h1] at h3; cases h3⟩
    rw [h1]
    exact hh _ (by have := h2.1; simp only [runeAt]; omega)

/-! strings.indexFunc -/
theorem b_strings_indexFunc : bodied Go.Proofs.Tryz.prog 126 = true := by rw [bodied, Tryz.func126]; rfl
theorem c_strings_indexFunc (g : FuncId) (p : Int → Bool) (hp : RuneP Go.Proofs.Tryz.prog G g p) (s : Str) : VPure Go.Proofs.Tryz.prog G 126 [.str s, .func (.func g) [] [], .bool true] (.int .i64 (firstP p s)) := by
  refine vpure_know fun hk => ?_
  simp only [factsL, facts, maxB] at hk
  refine vpure_of (ts := [6]) Tryz.func126 rfl (by simp [Tryz.ntmps126]) rfl rfl ?_
  rw [Tryz.ntmps126]
  refine vwp_reg tabOk [] [0, 1, 2] (by simp only [go_sem]; rfl) (by first | trivial | (simp; done) | (simp [in64]; omega)) ?_
  refine vwp_seq ?_
  refine vwp_seq (vwp_region ?_)
  refine vops_go tabOk [] (by simp only [go_sem]; rfl) (by first | trivial | (simp; done) | (simp [in64]; omega)) ?_
  -- t10 = range(t9)
  refine vops_step1 (step_range (s := s) rfl (by kernel_rfl) (by simp only [go_sem])) rfl rfl ?_
  simp only [go_sem]
  refine vops_done [1, 2, 10] ?_
  simp only [go_sem, thenQ, blockQ, jumpQ, stayQ]
  refine vwp_block ?_
  -- loop 0
  refine vwp_loopW (fun q : Nat => [(1, .func (.func g) [] []), (2, .bool true), (10, .obj 0)]) (fun q => [.strIter s q]) (fun q => q ≤ s.length ∧ ∀ j, j < q → p ((s.getD j 0).toNat : Int) = false) (fun q => s.length - q) 0 ⟨Nat.zero_le _, fun j hj => by omega⟩ (Env.wk_cons (by first | exact Wk.refl _ | exact Wk.nils _ | (refine Wk.eq ?_; simp; done) | (refine Wk.eq ?_; congr 1 <;> omega)) (Env.wk_cons (by first | exact Wk.refl _ | exact Wk.nils _ | (refine Wk.eq ?_; simp; done) | (refine Wk.eq ?_; congr 1 <;> omega)) (Env.wk_cons (by first | exact Wk.refl _ | exact Wk.nils _ | (refine Wk.eq ?_; simp; done) | (refine Wk.eq ?_; congr 1 <;> omega)) (Env.wk_nil _)))) rfl ?_
  rintro q ⟨hq0, ha⟩
  rcases Nat.lt_or_ge q s.length with hq | hq
  · -- case 0
    refine vwp_seq (vwp_region ?_)
    -- t11 = next(t10)
    refine vops_step1 (step_next (i := 0) (q := q) rfl (by simp only [go_sem]) rfl hq) rfl rfl ?_
    simp only [go_sem, List.set]
    refine vops_go tabOk [] (by simp only [go_sem]; rfl) (by first | trivial | (simp; done) | (simp [in64]; omega)) ?_
    refine vops_done [1, 2, 10, 11, 12] ?_
    simp only [go_sem, thenQ, blockQ, jumpQ, stayQ]
    refine vwp_seq ?_
    refine vwp_cond (by simp only [go_sem]; rfl) (fun h0 => ?_) (fun h0 => ?_)
    · -- h0 then
      obtain ⟨hr1, hr2, hr3⟩ := runeP_at hp.high s q hq
      refine vwp_skip ?_
      try simp only [thenQ, blockQ, jumpQ, stayQ]
      refine vwp_block ?_
      refine vwp_reg tabOk [] [1, 2, 7, 8, 10] (by simp only [go_sem]; rfl) (by first | trivial | (simp; done) | (simp [in64]; omega)) ?_
      refine vwp_seq (vwp_region ?_)
      refine vops_go tabOk [] (by simp only [go_sem]; rfl) (by first | trivial | (simp; done) | (simp [in64]; omega)) ?_
      -- call 0: t17 = CALLV(t15, t16)
      refine vops_callVP (hc := (hp.pure _)) rfl (by simp only [go_sem]; rfl) rfl rfl hp.body (by simp only [go_sem]; exact WkL.refl _) rfl (by simp only [go_sem]) ?_
      simp only [go_sem]
      refine vops_go tabOk [] (by simp only [go_sem]; rfl) (by first | trivial | (simp; done) | (simp [in64]; omega)) ?_
      refine vops_done [1, 2, 7, 10, 19] ?_
      simp only [go_sem, thenQ, blockQ, jumpQ, stayQ]
      refine vwp_cond (by simp only [go_sem]; rfl) (fun h1 => ?_) (fun h1 => ?_)
      · -- h1 then
        refine vwp_reg tabOk [] [6] (by simp only [go_sem]; rfl) (by first | trivial | (simp; done) | (simp [in64]; omega)) ?_
        refine vwp_ret ?_
        -- result 0
        simp only [thenQ, blockQ, jumpQ, stayQ, RetQ, go_sem]
        refine ⟨by simp, Wk.eq ?_⟩
        rw [firstP_at hq ha (by rw [← hr1]; simpa using h1)]
      · -- h1 else
        refine vwp_skip ?_
        try simp only [thenQ, blockQ, jumpQ, stayQ]
        -- round 0
        have h1' : p ((s.getD q 0).toNat : Int) = false := by rw [← hr1]; simpa using h1
        rw [hr3 h1']
        exact ⟨q + 1, ⟨by omega, fun j hj => by rcases Nat.lt_or_ge j q with h | h; exact ha j h; rw [show j = q by omega]; exact h1'⟩, by omega, (Env.wk_cons2 (by simp only [go_sem]; first | exact Wk.refl _ | exact Wk.nils _ | (refine Wk.eq ?_; simp; done) | (refine Wk.eq ?_; congr 1 <;> omega)) (Env.wk_cons2 (by simp only [go_sem]; first | exact Wk.refl _ | exact Wk.nils _ | (refine Wk.eq ?_; simp; done) | (refine Wk.eq ?_; congr 1 <;> omega)) (Env.wk_cons2 (by simp only [go_sem]; first | exact Wk.refl _ | exact Wk.nils _ | (refine Wk.eq ?_; simp; done) | (refine Wk.eq ?_; congr 1 <;> omega)) (Env.wk_nil _)))), (by first | rfl | trivial)⟩
    · -- h0 else
      cases h0
  · -- case 1
    refine vwp_seq (vwp_region ?_)
    -- t11 = next(t10)
    refine vops_step1 (step_nextEnd (i := 0) (q := q) rfl (by simp only [go_sem]) rfl hq) rfl rfl ?_
    simp only [go_sem]
    refine vops_go tabOk [] (by simp only [go_sem]; rfl) (by first | trivial | (simp; done) | (simp [in64]; omega)) ?_
    refine vops_done [1, 2, 10, 11, 12] ?_
    simp only [go_sem, thenQ, blockQ, jumpQ, stayQ]
    refine vwp_seq ?_
    refine vwp_cond (by simp only [go_sem]; rfl) (fun h2 => ?_) (fun h2 => ?_)
    · -- h2 then
      cases h2
    · -- h2 else
      refine vwp_exit ?_
      simp only [thenQ, blockQ, jumpQ, stayQ, if_true, reduceIte, Nat.reduceEqDiff]
      refine vwp_reg tabOk [] [6] (by simp only [go_sem]; rfl) (by first | trivial | (simp; done) | (simp [in64]; omega)) ?_
      refine vwp_ret ?_
      -- result 1
      simp only [thenQ, blockQ, jumpQ, stayQ, RetQ, go_sem]
      refine ⟨by simp, Wk.eq ?_⟩
      rw [firstP_none fun j hj => ha j (by omega)]

/-! strings.IndexFunc -/
theorem b_strings_IndexFunc : bodied Go.Proofs.Tryz.prog 108 = true := by rw [bodied, Tryz.func108]; rfl
theorem c_strings_IndexFunc (g : FuncId) (p : Int → Bool) (hp : RuneP Go.Proofs.Tryz.prog G g p) (s : Str) : VPure Go.Proofs.Tryz.prog G 108 [.str s, .func (.func g) [] []] (.int .i64 (firstP p s)) := by
  refine vpure_of (ts := [4]) Tryz.func108 rfl (by simp [Tryz.ntmps108]) rfl rfl ?_
  rw [Tryz.ntmps108]
  refine vwp_reg tabOk [] [0, 1] (by simp only [go_sem]; rfl) (by first | trivial | (simp; done) | (simp [in64]; omega)) ?_
  refine vwp_seq (vwp_region ?_)
  refine vops_go tabOk [] (by simp only [go_sem]; rfl) (by first | trivial | (simp; done) | (simp [in64]; omega)) ?_
  -- call 0: t7 = CALL 126(f126, t5, t6, true)
  refine vops_call (hc := fun _ => c_strings_indexFunc g p hp s) rfl (by simp only [go_sem]; rfl) rfl b_strings_indexFunc (by simp only [go_sem]; exact WkL.refl _) rfl (fun hg => by simp only [go_sem]; try (intros; first | assumption | trivial | simp_all)) ?_
  simp only [go_sem]
  refine vops_go tabOk [] (by simp only [go_sem]; rfl) (by first | trivial | (simp; done) | (simp [in64]; omega)) ?_
  refine vops_done [4] ?_
  simp only [go_sem, thenQ, blockQ, jumpQ, stayQ]
  refine vwp_ret ?_
  -- result 0
  simp only [thenQ, blockQ, jumpQ, stayQ, RetQ, go_sem]
  refine ⟨by simp, Wk.eq ?_⟩
  rfl

/-! strings.ContainsFunc -/
theorem b_strings_ContainsFunc : bodied Go.Proofs.Tryz.prog 86 = true := by rw [bodied, Tryz.func86]; rfl
theorem c_strings_ContainsFunc (g : FuncId) (p : Int → Bool) (hp : RuneP Go.Proofs.Tryz.prog G g p) (s : Str) : VPure Go.Proofs.Tryz.prog G 86 [.str s, .func (.func g) [] []] (.bool (s.any fun b => p (b.toNat : Int))) := by
  refine vpure_of (ts := [4]) Tryz.func86 rfl (by simp [Tryz.ntmps86]) rfl rfl ?_
  rw [Tryz.ntmps86]
  refine vwp_reg tabOk [] [0, 1] (by simp only [go_sem]; rfl) (by first | trivial | (simp; done) | (simp [in64]; omega)) ?_
  refine vwp_seq (vwp_region ?_)
  refine vops_go tabOk [] (by simp only [go_sem]; rfl) (by first | trivial | (simp; done) | (simp [in64]; omega)) ?_
  -- call 0: t7 = CALL 108(f108, t5, t6)
  refine vops_call (hc := fun _ => c_strings_IndexFunc g p hp s) rfl (by simp only [go_sem]; rfl) rfl b_strings_IndexFunc (by simp only [go_sem]; exact WkL.refl _) rfl (fun hg => by simp only [go_sem]; try (intros; first | assumption | trivial | simp_all)) ?_
  simp only [go_sem]
  refine vops_go tabOk [] (by simp only [go_sem]; rfl) (by first | trivial | (simp; done) | (simp [in64]; omega)) ?_
  refine vops_done [4] ?_
  simp only [go_sem, thenQ, blockQ, jumpQ, stayQ]
  refine vwp_ret ?_
  -- result 0
  simp only [thenQ, blockQ, jumpQ, stayQ, RetQ, go_sem]
  refine ⟨by simp, Wk.eq ?_⟩
  rw [firstP_nonneg]

def letters1 : Str := "abcdefghijklmnopqrstuvwxyz0123456789.-".toUTF8.data.toList
def strange1 (r : Int) : Bool := !decide (0 ≤ runeIdx letters1 r)

/-! counterpane/named.Label$1 -/
theorem b_named_Label_1 : bodied Go.Proofs.Tryz.prog 87 = true := by rw [bodied, Tryz.func87]; rfl
theorem c_named_Label_1 (r : Int) : VPure Go.Proofs.Tryz.prog G 87 [.int .i32 r] (.bool (strange1 r)) := by
  refine vpure_of (ts := [2]) Tryz.func87 rfl (by simp [Tryz.ntmps87]) rfl rfl ?_
  rw [Tryz.ntmps87]
  refine vwp_reg tabOk [] [0] (by simp only [go_sem]; rfl) (by first | trivial | (simp; done) | (simp [in64]; omega)) ?_
  refine vwp_seq (vwp_region ?_)
  refine vops_go tabOk [] (by simp only [go_sem]; rfl) (by first | trivial | (simp; done) | (simp [in64]; omega)) ?_
  -- call 0: t4 = CALL 88(f88, str[..], t3)
  refine vops_call (hc := fun _ => c_strings_ContainsRune letters1 (by decide +kernel) r) rfl (by simp only [go_sem]; rfl) rfl b_strings_ContainsRune (by simp only [go_sem]; exact WkL.refl _) rfl (fun hg => by simp only [go_sem]; try (intros; first | assumption | trivial | simp_all)) ?_
  simp only [go_sem]
  refine vops_go tabOk [] (by simp only [go_sem]; rfl) (by first | trivial | (simp; done) | (simp [in64]; omega)) ?_
  refine vops_done [2] ?_
  simp only [go_sem, thenQ, blockQ, jumpQ, stayQ]
  refine vwp_ret ?_
  -- result 0
  simp only [thenQ, blockQ, jumpQ, stayQ, RetQ, go_sem]
  refine ⟨by simp, Wk.eq ?_⟩
  rfl

theorem strange1_byte (c : UInt8) : strange1 (c.toNat : Int) = !okL c := by
  have h : ∀ n : Fin 256, strange1 (n.val : Int) = !okL (UInt8.ofNat n.val) := by decide +kernel
  have := h ⟨c.toNat, c.toNat_lt⟩
  simpa using this
theorem strange1_any (s : Str) : (s.any fun b => strange1 (b.toNat : Int)) = !s.all okL := by
  induction s with
  | nil => rfl
  | cons b s ih => rw [List.any_cons, List.all_cons, ih, strange1_byte, Bool.not_and]
theorem strange1_high (r : Int) (h : 128 ≤ r) : strange1 r = true := by
  rw [strange1, runeIdx, if_neg (by omega)]; rfl

theorem runeP1 : RuneP Go.Proofs.Tryz.prog G 87 strange1 := ⟨b_named_Label_1, c_named_Label_1, strange1_high⟩

/-! counterpane/named.Label -/
theorem b_named_Label : bodied Go.Proofs.Tryz.prog 60 = true := by rw [bodied, Tryz.func60]; rfl
theorem c_named_Label (s : Str) : VPure Go.Proofs.Tryz.prog G 60 [.str s] (.bool (labelB s)) := by
  refine vpure_know fun hk => ?_
  simp only [factsL, facts, maxB] at hk
  refine vpure_of (ts := [2]) Tryz.func60 rfl (by simp [Tryz.ntmps60]) rfl rfl ?_
  rw [Tryz.ntmps60]
  refine vwp_reg tabOk [] [0] (by simp only [go_sem]; rfl) (by first | trivial | (simp; done) | (simp [in64]; omega)) ?_
  refine vwp_seq (vwp_region ?_)
  refine vops_go tabOk [] (by simp only [go_sem]; rfl) (by first | trivial | (simp; done) | (simp [in64]; omega)) ?_
  -- call 0: t5 = CALL 86(f86, t4, f87)
  refine vops_call (hc := fun _ => c_strings_ContainsFunc _ _ runeP1 s) rfl (by simp only [go_sem]; rfl) rfl b_strings_ContainsFunc (by simp only [go_sem]; exact WkL.refl _) rfl (fun hg => by simp only [go_sem]; try (intros; first | assumption | trivial | simp_all)) ?_
  simp only [go_sem]
  refine vops_go tabOk [] (by simp only [go_sem]; rfl) (by first | trivial | (simp; done) | (simp [in64]; omega)) ?_
  refine vops_done [0, 3] ?_
  simp only [go_sem, thenQ, blockQ, jumpQ, stayQ]
  refine vwp_reg tabOk [] [2] (by simp only [go_sem]; rfl) (by first | trivial | (simp; done) | (simp [in64]; omega)) ?_
  refine vwp_ret ?_
  -- result 0
  simp only [thenQ, blockQ, jumpQ, stayQ, RetQ, go_sem]
  refine ⟨by simp, Wk.eq ?_⟩
  rw [strange1_any, labelB]; cases hA : s.all okL <;> simp <;> (cases s <;> simp; omega)

def letters2 : Str := "abcdefghijklmnopqrstuvwxyz0123456789._-".toUTF8.data.toList
def strange2 (r : Int) : Bool := !decide (0 ≤ runeIdx letters2 r)

/-! counterpane/path.part$1 -/
theorem b_path_part_1 : bodied Go.Proofs.Tryz.prog 158 = true := by rw [bodied, Tryz.func158]; rfl
theorem c_path_part_1 (r : Int) : VPure Go.Proofs.Tryz.prog G 158 [.int .i32 r] (.bool (strange2 r)) := by
  refine vpure_of (ts := [2]) Tryz.func158 rfl (by simp [Tryz.ntmps158]) rfl rfl ?_
  rw [Tryz.ntmps158]
  refine vwp_reg tabOk [] [0] (by simp only [go_sem]; rfl) (by first | trivial | (simp; done) | (simp [in64]; omega)) ?_
  refine vwp_seq (vwp_region ?_)
  refine vops_go tabOk [] (by simp only [go_sem]; rfl) (by first | trivial | (simp; done) | (simp [in64]; omega)) ?_
  -- call 0: t4 = CALL 88(f88, str[..], t3)
  refine vops_call (hc := fun _ => c_strings_ContainsRune letters2 (by decide +kernel) r) rfl (by simp only [go_sem]; rfl) rfl b_strings_ContainsRune (by simp only [go_sem]; exact WkL.refl _) rfl (fun hg => by simp only [go_sem]; try (intros; first | assumption | trivial | simp_all)) ?_
  simp only [go_sem]
  refine vops_go tabOk [] (by simp only [go_sem]; rfl) (by first | trivial | (simp; done) | (simp [in64]; omega)) ?_
  refine vops_done [2] ?_
  simp only [go_sem, thenQ, blockQ, jumpQ, stayQ]
  refine vwp_ret ?_
  -- result 0
  simp only [thenQ, blockQ, jumpQ, stayQ, RetQ, go_sem]
  refine ⟨by simp, Wk.eq ?_⟩
  rfl

theorem strange2_byte (c : UInt8) : strange2 (c.toNat : Int) = !okP c := by
  have h : ∀ n : Fin 256, strange2 (n.val : Int) = !okP (UInt8.ofNat n.val) := by decide +kernel
  have := h ⟨c.toNat, c.toNat_lt⟩
  simpa using this
theorem strange2_any (s : Str) : (s.any fun b => strange2 (b.toNat : Int)) = !s.all okP := by
  induction s with
  | nil => rfl
  | cons b s ih => rw [List.any_cons, List.all_cons, ih, strange2_byte, Bool.not_and]
theorem strange2_high (r : Int) (h : 128 ≤ r) : strange2 r = true := by
  rw [strange2, runeIdx, if_neg (by omega)]; rfl

theorem runeP2 : RuneP Go.Proofs.Tryz.prog G 158 strange2 := ⟨b_path_part_1, c_path_part_1, strange2_high⟩

/-! counterpane/path.part -/
theorem b_path_part : bodied Go.Proofs.Tryz.prog 141 = true := by rw [bodied, Tryz.func141]; rfl
theorem c_path_part (s : Str) : VPure Go.Proofs.Tryz.prog G 141 [.str s] (.bool (partB s)) := by
  refine vpure_know fun hk => ?_
  simp only [factsL, facts, maxB] at hk
  refine vpure_of (ts := [2]) Tryz.func141 rfl (by simp [Tryz.ntmps141]) rfl rfl ?_
  rw [Tryz.ntmps141]
  refine vwp_reg tabOk [] [0] (by simp only [go_sem]; rfl) (by first | trivial | (simp; done) | (simp [in64]; omega)) ?_
  refine vwp_seq (vwp_region ?_)
  refine vops_go tabOk [] (by simp only [go_sem]; rfl) (by first | trivial | (simp; done) | (simp [in64]; omega)) ?_
  -- call 0: t5 = CALL 86(f86, t4, f158)
  refine vops_call (hc := fun _ => c_strings_ContainsFunc _ _ runeP2 s) rfl (by simp only [go_sem]; rfl) rfl b_strings_ContainsFunc (by simp only [go_sem]; exact WkL.refl _) rfl (fun hg => by simp only [go_sem]; try (intros; first | assumption | trivial | simp_all)) ?_
  simp only [go_sem]
  refine vops_go tabOk [] (by simp only [go_sem]; rfl) (by first | trivial | (simp; done) | (simp [in64]; omega)) ?_
  refine vops_done [0, 3] ?_
  simp only [go_sem, thenQ, blockQ, jumpQ, stayQ]
  refine vwp_reg tabOk [] [2] (by simp only [go_sem]; rfl) (by first | trivial | (simp; done) | (simp [in64]; omega)) ?_
  refine vwp_ret ?_
  -- result 0
  simp only [thenQ, blockQ, jumpQ, stayQ, RetQ, go_sem]
  refine ⟨by simp, Wk.eq ?_⟩
  rw [strange2_any, partB, show decide ((s.length : Int) ≤ 16) = decide (s.length ≤ 16) from decide_eq_decide.2 (by omega)]; cases hA : s.all okP <;> simp <;> (cases s <;> simp)
end Go.Proofs.YtldfghgjllaljaaGreatDoor.Q
end

section
/- Walks of strings.Index at one byte, and of strings.SplitSeq, in the logic 'Q'. -/
set_option linter.unusedVariables false
set_option linter.unusedSimpArgs false
set_option maxRecDepth 100000
namespace Go.Proofs.YtldfghgjllaljaaGreatDoor.Q
open Go Go.Q
open Go.RowKit (Below)

theorem b_internal_stringslite_Index : bodied Go.Proofs.Tryz.prog 162 = true := by rw [bodied, Tryz.func162]; rfl
theorem c_stringslite_Index (s : Str) (c : UInt8) : VPure Go.Proofs.Tryz.prog G 162 [.str s, .str [c]] (.int .i64 (Lib.indexByte s c)) := by
  refine vpure_same fun F w ms hr hG => ⟨.int .i64 (Lib.indexByte s c), by simp only [Rel], ?_⟩
  obtain ⟨rfl, _, _⟩ := str2 hr
  refine (Tryz.stringslite_Index_one ⟨s.toArray⟩ c w).mono ?_
  rintro e w' ⟨rfl, rfl⟩
  exact ⟨by simp, Below.refl _ _⟩

/-! strings.Index -/
theorem b_strings_Index : bodied Go.Proofs.Tryz.prog 161 = true := by rw [bodied, Tryz.func161]; rfl
theorem c_strings_Index (s : Str) (c : UInt8) : VPure Go.Proofs.Tryz.prog G 161 [.str s, .str [c]] (.int .i64 (Lib.indexByte s c)) := by
  refine vpure_of (ts := [4]) Tryz.func161 rfl (by simp [Tryz.ntmps161]) rfl rfl ?_
  rw [Tryz.ntmps161]
  refine vwp_reg tabOk [] [0, 1] (by simp only [go_sem]; rfl) (by first | trivial | (simp; done) | (simp [in64]; omega)) ?_
  refine vwp_seq (vwp_region ?_)
  refine vops_go tabOk [] (by simp only [go_sem]; rfl) (by first | trivial | (simp; done) | (simp [in64]; omega)) ?_
  -- call 0: t7 = CALL 162(f162, t5, t6)
  refine vops_call (hc := fun _ => c_stringslite_Index s c) rfl (by simp only [go_sem]; rfl) rfl b_internal_stringslite_Index (by simp only [go_sem]; exact WkL.refl _) rfl (fun hg => by simp only [go_sem]; try (intros; first | assumption | trivial | simp_all)) ?_
  simp only [go_sem]
  refine vops_go tabOk [] (by simp only [go_sem]; rfl) (by first | trivial | (simp; done) | (simp [in64]; omega)) ?_
  refine vops_done [4] ?_
  simp only [go_sem, thenQ, blockQ, jumpQ, stayQ]
  refine vwp_ret ?_
  -- result 0
  simp only [thenQ, blockQ, jumpQ, stayQ, RetQ, go_sem]
  refine ⟨by simp, Wk.eq ?_⟩
  rfl


theorem index_none {s : Str} (h : ∀ c ∈ s, c ≠ 47) : Lib.indexByte s 47 = -1 := by
  have h1 := indexByte_nonneg s 47
  have h2 := Lib.indexByte_ge s 47
  have h3 : s.contains 47 = false := by
    rw [Bool.eq_false_iff]; intro h4
    exact h 47 (by simpa using h4) rfl
  rw [h3] at h1
  have := of_decide_eq_false h1
  omega
theorem index_some : ∀ {a : Str} (r : Str), (∀ c ∈ a, c ≠ 47) → Lib.indexByte (a ++ 47 :: r) 47 = (a.length : Int)
  | [], r, _ => by simp [Lib.indexByte]
  | x :: a, r, h => by
    have ih := index_some (a := a) r fun c hc => h c (by simp [hc])
    have hx : (x == 47) = false := by simpa using h x (by simp)
    simp only [List.cons_append, Lib.indexByte, hx, ih]
    have : ((a.length : Int) == -1) = false := by simp
    simp [this]
theorem split_47 : ∀ (s : Str), (∀ c ∈ s, c ≠ 47) ∨ ∃ a r, s = a ++ 47 :: r ∧ ∀ c ∈ a, c ≠ 47
  | [] => .inl (by simp)
  | x :: s => by
    by_cases h : x = 47
    · exact .inr ⟨[], s, by simp [h], by simp⟩
    · rcases split_47 s with h1 | ⟨a, r, rfl, h1⟩
      · exact .inl fun c hc => by
          rcases List.mem_cons.1 hc with rfl | hc
          · exact h
          · exact h1 c hc
      · exact .inr ⟨x :: a, r, rfl, fun c hc => by
          rcases List.mem_cons.1 hc with rfl | hc
          · exact h
          · exact h1 c hc⟩
theorem c_Index_none {s : Str} (h : ∀ c ∈ s, c ≠ 47) : VPure Go.Proofs.Tryz.prog G 161 [.str s, .str [47]] (.int .i64 (-1)) := by
  have := c_strings_Index s 47
  rwa [index_none h] at this
theorem c_Index_some {a : Str} (r : Str) (h : ∀ c ∈ a, c ≠ 47) : VPure Go.Proofs.Tryz.prog G 161 [.str (a ++ 47 :: r), .str [47]] (.int .i64 (a.length : Int)) := by
  have := c_strings_Index (a ++ 47 :: r) 47
  rwa [index_some r h] at this

/-! strings.splitSeq -/
theorem b_strings_splitSeq : bodied Go.Proofs.Tryz.prog 157 = true := by rw [bodied, Tryz.func157]; rfl
theorem c_strings_splitSeq (s t : Str) : VCalls Go.Proofs.Tryz.prog G 157 [.str s, .str t, .int .i64 0] [] [] (fun r H => r = .func (.func 165) [] [.ptr 1 0, .ptr 0 0, .ptr 2 0] ∧ H = [.box [.str s], .box [.str t], .box [.int .i64 0]]) := by
  refine vcalls_of2 tabOk (rs := _) 3 Tryz.func157 rfl (by simp [Tryz.ntmps157]) rfl (by first | (simp; done) | exact Nat.le_refl _) ?_
  rw [Tryz.ntmps157]
  refine vwp_reg tabOk [] [3, 4, 5] (by simp only [go_sem]; rfl) (by first | trivial | (simp; done) | (simp [in64]; omega)) ?_
  refine vwp_reg tabOk [] [6] (by simp only [go_sem]; rfl) (by first | trivial | (simp; done) | (simp [in64]; omega)) ?_
  refine vwp_ret ?_
  -- result 0
  try simp only [thenQ, blockQ, jumpQ, stayQ, go_sem]
  refine ⟨by simp, _, _, rfl, by first | trivial | simp, ?_⟩
  first | exact ⟨rfl, rfl⟩ | rfl

/-! strings.SplitSeq -/
theorem b_strings_SplitSeq : bodied Go.Proofs.Tryz.prog 140 = true := by rw [bodied, Tryz.func140]; rfl
theorem c_strings_SplitSeq (s t : Str) : VCalls Go.Proofs.Tryz.prog G 140 [.str s, .str t] [] [] (fun r H => r = .func (.func 165) [] [.ptr 1 0, .ptr 0 0, .ptr 2 0] ∧ H = [.box [.str s], .box [.str t], .box [.int .i64 0]]) := by
  refine vcalls_of2 tabOk (rs := _) 3 Tryz.func140 rfl (by simp [Tryz.ntmps140]) rfl (by first | (simp; done) | exact Nat.le_refl _) ?_
  rw [Tryz.ntmps140]
  refine vwp_reg tabOk [] [0, 1] (by simp only [go_sem, List.getElem?_nil]; rfl) (by first | trivial | (simp; done) | (simp [in64]; omega)) ?_
  refine vwp_seq (vwp_region ?_)
  refine vops_go tabOk [] (by simp only [go_sem, List.getElem?_nil]; rfl) (by first | trivial | (simp; done) | (simp [in64]; omega)) ?_
  -- call 0: t7 = CALL 157(f157, t5, t6, 0)
  refine vops_callH (hc := c_strings_splitSeq s t) rfl rfl rfl b_strings_splitSeq [] [] [] rfl rfl rfl (by simp only [go_sem]; exact WkL.refl _) (by simp only [go_sem]) ?_
  rintro r0 H0 ⟨rfl, rfl⟩
  simp only [go_sem, List.getElem?_nil]
  refine vops_go tabOk [] (by simp only [go_sem, List.getElem?_nil]; rfl) (by first | trivial | (simp; done) | (simp [in64]; omega)) ?_
  refine vops_done [4] ?_
  simp only [go_sem, thenQ, blockQ, jumpQ, stayQ]
  refine vwp_ret ?_
  -- result 0
  try simp only [thenQ, blockQ, jumpQ, stayQ, go_sem]
  refine ⟨by simp, _, _, rfl, by first | trivial | simp, ?_⟩
  first | exact ⟨rfl, rfl⟩ | rfl
end Go.Proofs.YtldfghgjllaljaaGreatDoor.Q
end

section
/- strings.SplitSeq at a slash: its iterator, in the logic 'Q'. -/
set_option linter.unusedVariables false
set_option linter.unusedSimpArgs false
set_option maxRecDepth 100000
namespace Go.Proofs.YtldfghgjllaljaaGreatDoor.Q
open Go Go.Q

theorem iter_split {γ : Type} (p : Str) (J : CInv γ) (R : List Str → γ → Prop) (S : γ → Prop) (hY : ∀ done x rest, pieces p = done ++ x :: rest → ∀ s, R done s → RoundJ Go.Proofs.Tryz.prog G J s (.str x) fun b s' => if b = true then R (done ++ [x]) s' else S s') (s0 : γ) (h0 : R [] s0)
    {F B : Nat → Prop} {w : World} {b0 b1 b2 : Value} (sim : Sim F [.func (.yield J.l) #[] #[], b0, b1, b2] [.dead, .box [.str p], .box [.str [47]], .box [.int .i64 0]] w) {ms : List Value} (hr : RelL F [.func (.yield J.l) #[] #[], b0, b1, b2] w [.ptr 2 0, .ptr 1 0, .ptr 3 0] ms) (hG : G.G F w) (hJ : J.J s0 F B w)
    (hF : ∀ b, B b → ¬ F b) (hL : ∀ b, B b → ¬ liveBlock [.dead, .box [.str p], .box [.str [47]], .box [.int .i64 0]] [.func (.yield J.l) #[] #[], b0, b1, b2] b) :
    CallsIn Fence.wide 0 Go.Proofs.Tryz.prog 165 (.func (.yield J.l) #[] #[] :: ms).toArray w fun e w' => ∃ s B' F' v, e = .returned v ∧ (R (pieces p) s ∨ S s) ∧ J.J s F' B' w' ∧ (∀ b, B' b → ¬ F' b) ∧ (∀ b, F b → F' b) ∧ G.G F' w' ∧ (∀ b, F' b → b < w'.heap.size) ∧
      (∀ b, F' b ∨ B' b → F b ∨ B b ∨ liveBlock [.dead, .box [.str p], .box [.str [47]], .box [.int .i64 0]] [.func (.yield J.l) #[] #[], b0, b1, b2] b ∨ w.heap.size ≤ b) ∧ Upd (fun b => B b ∨ liveBlock [.dead, .box [.str p], .box [.str [47]], .box [.int .i64 0]] [.func (.yield J.l) #[] #[], b0, b1, b2] b) w w' := by
  refine iter_of (args := [.ptr 2 0, .ptr 1 0, .ptr 3 0]) (φ := fun s => R (pieces p) s ∨ S s) Tryz.func165 rfl (by simp [Tryz.ntmps165]) rfl ?_ sim hr hG hJ hF hL
  rw [Tryz.ntmps165]
  refine vwpJ_seq (vwpJ_reg tabOk [] [0, 1, 2, 3, 11] (by simp only [go_sem]; rfl) (by first | trivial | (simp; done) | (simp [in64]; omega)) ?_)
  refine vwpJ_cond (b := false) (by simp only [go_sem]; rfl) (fun h1 => absurd h1 (by decide)) (fun _ => ?_)
  refine vwpJ_skip ?_
  simp only [thenQ]
  refine vwpJ_seq (vwpJ_block ?_)
  refine vwpJ_loop (fun x : Str => [(0, .obj 0), (1, .ptr 2 0), (2, .ptr 1 0), (3, .ptr 3 0)]) (fun x => [.dead, .box [.str x], .box [.str [47]], .box [.int .i64 0]]) (fun x s => ∃ done, pieces p = done ++ pieces x ∧ R done s) (fun x => x.length) p ⟨[], rfl, h0⟩ (Env.wk_cons (Wk.refl _) (Env.wk_cons (Wk.refl _) (Env.wk_cons (Wk.refl _) (Env.wk_cons (Wk.refl _) (Env.wk_nil _))))) rfl ?_
  rintro x s ⟨done, hp, hR⟩
  refine vwpJ_block ?_
  refine vwpJ_knowH 1 (.box [.str x]) rfl fun hk => ?_
  have hk1 : x.length ≤ 140737488355328 := by simpa [factsO, factsL, facts, maxB] using hk
  rcases split_47 x with hno | ⟨a, r, rfl, hno⟩
  · rw [pieces_none hno] at hp
    refine vwpJ_seq (vwpJ_of ?_)
    refine vwp_region ?_
    refine vops_go tabOk [] (by simp only [go_sem]; rfl) (by first | trivial | (simp; done)) ?_
    refine vops_call (hc := fun _ => c_Index_none hno) rfl (by simp only [go_sem]; rfl) rfl b_strings_Index (by simp only [go_sem]; exact WkL.refl _) rfl (fun hg => by simp only [go_sem]) ?_
    simp only [go_sem]
    refine vops_go tabOk [] (by simp only [go_sem]; rfl) (by first | trivial | (simp; done)) ?_
    refine vops_done [0, 1, 2, 3, 7] ?_
    simp only [go_sem, thenQ]
    refine vwpJ_seq (vwpJ_reg tabOk [] [0, 1, 2, 3, 7, 33] (by simp only [go_sem]; rfl) (by first | trivial | (simp; done) | (simp [in64]; omega)) ?_)
    refine vwpJ_cond (b := true) (by simp only [go_sem]; rfl) (fun _ => ?_) (fun h1 => absurd h1 (by decide))
    refine vwpJ_exit ?_
    simp only [thenQ, blockQ, if_true]
    refine vwpJ_region ?_
    refine vopsJ_quiet tabOk rfl (by intro c hc; cases hc) rfl (by simp only [go_sem]; rfl) (by first | trivial | simp) ?_
    simp only [go_sem]
    refine vopsJ_quiet tabOk rfl (by intro c hc; cases hc) rfl (by simp only [go_sem]; rfl) (by first | trivial | simp) ?_
    simp only [go_sem]
    refine vopsJ_yield (v := .str x) rfl rfl rfl (by simp only [go_sem]) (by simp only [go_sem]) rfl (hY done x [] hp s hR) ?_
    intro b s' hb
    refine vopsJ_done ?_
    refine ⟨.inl rfl, ?_⟩
    cases b with
    | true => left; rw [hp]; exact hb
    | false => exact .inr hb
  · rw [pieces_cut r hno] at hp
    rw [List.length_append, List.length_cons] at hk1
    refine vwpJ_seq (vwpJ_of ?_)
    refine vwp_region ?_
    refine vops_go tabOk [] (by simp only [go_sem]; rfl) (by first | trivial | (simp; done)) ?_
    refine vops_call (hc := fun _ => c_Index_some r hno) rfl (by simp only [go_sem]; rfl) rfl b_strings_Index (by simp only [go_sem]; exact WkL.refl _) rfl (fun hg => by simp only [go_sem]) ?_
    simp only [go_sem]
    refine vops_go tabOk [] (by simp only [go_sem]; rfl) (by first | trivial | (simp; done)) ?_
    refine vops_done [0, 1, 2, 3, 7] ?_
    simp only [go_sem, thenQ]
    refine vwpJ_seq (vwpJ_reg tabOk [] [0, 1, 2, 3, 7, 33] (by simp only [go_sem]; rfl) (by first | trivial | (simp; done) | (simp [in64]; omega)) ?_)
    refine vwpJ_cond (b := decide ((a.length : Int) < 0)) (by simp only [go_sem]) (fun h1 => absurd h1 (by simp)) (fun _ => ?_)
    refine vwpJ_skip ?_
    simp only [thenQ]
    refine vwpJ_reg tabOk [] [0, 1, 2, 3, 7, 8] (by simp only [go_sem]; rfl) (by first | trivial | (simp; done) | (simp [in64]; omega)) ?_
    have e1 : List.take ((a.length : Int) + 0).toNat (a ++ 47 :: r) = a := by simp
    rw [e1]
    refine vwpJ_seq (vwpJ_seq (vwpJ_region ?_))
    refine vopsJ_quiet tabOk rfl (by intro c hc; cases hc) rfl (by simp only [go_sem]; rfl) (by first | trivial | simp) ?_
    simp only [go_sem]
    refine vopsJ_quiet tabOk rfl (by intro c hc; cases hc) rfl (by simp only [go_sem]; rfl) (by first | trivial | simp) ?_
    simp only [go_sem]
    refine vopsJ_yield (v := .str a) rfl rfl rfl (by simp only [go_sem]) (by simp only [go_sem]) rfl (hY done a (pieces r) hp s hR) ?_
    intro b s' hb
    simp only [go_sem]
    refine vopsJ_quiet tabOk rfl (by intro c hc; cases hc) rfl (by simp only [go_sem]; rfl) (by first | trivial | simp) ?_
    simp only [go_sem]
    refine vopsJ_done ?_
    simp only [thenQ]
    cases b with
    | false =>
      refine vwpJ_cond (b := true) (by simp only [go_sem]) (fun _ => ?_) (fun h1 => absurd h1 (by decide))
      refine vwpJ_ret ?_
      simp only [thenQ, blockQ]
      exact ⟨.inr trivial, .inr hb⟩
    | true =>
      refine vwpJ_cond (b := false) (by simp only [go_sem]) (fun h1 => absurd h1 (by decide)) (fun _ => ?_)
      refine vwpJ_skip ?_
      simp only [thenQ, blockQ]
      refine vwpJ_trim 4 (by omega) ?_
      simp only [go_sem]
      refine vwpJ_reg1 tabOk [] [0, 1, 2, 3] (by simp only [go_sem]; rfl) (by first | trivial | (simp; done) | (simp [in64]; omega)) ?_
      have e2 : List.drop ((a.length : Int) + ([47] : List UInt8).length).toNat (a ++ 47 :: r) = r := by
        have : ((a.length : Int) + ([47] : List UInt8).length).toNat = a.length + 1 := by simp
        rw [this, ← List.drop_drop]; simp
      refine ⟨r, ⟨done ++ [a], by rw [hp]; simp, hb⟩, by simp; omega, Env.wk_cons (Wk.refl _) (Env.wk_cons (Wk.refl _) (Env.wk_cons (Wk.refl _) (Env.wk_cons (Wk.refl _) (Env.wk_nil _)))), ?_⟩
      have e3 : List.drop ((a.length : Int) + ((1 : Nat) : Int)).toNat (a ++ 47 :: r) = r := e2
      rw [e3]
end Go.Proofs.YtldfghgjllaljaaGreatDoor.Q
end

section
/- path.Right: a range over strings.SplitSeq, in the logic 'Q'. -/
set_option linter.unusedVariables false
set_option linter.unusedSimpArgs false
set_option maxRecDepth 100000
namespace Go.Proofs.YtldfghgjllaljaaGreatDoor.Q
open Go Go.Q

theorem vp_path_Right (p : Str) : VCalls Go.Proofs.Tryz.prog G 115 [.str p] [] [] (fun r H => r = .bool (pathB p)) := by
  refine vcalls_know fun hk _ => ?_
  simp only [factsL, facts, maxB] at hk
  have hpl : ∀ s : Str, (pieces s).length ≤ s.length + 1 := by
    intro s
    induction s with
    | nil => simp [pieces]
    | cons c r ih =>
      simp only [pieces]
      split
      · simp only [List.length_cons]; omega
      · cases h : pieces r with
        | nil => simp
        | cons x t => rw [h] at ih; simp only [List.length_cons] at ih ⊢; omega
  refine vcalls_ofT Tryz.func115 rfl (by simp [Tryz.ntmps115]) ?_
  rw [Tryz.ntmps115]
  refine vwpT_seq ?_
  refine vwp_reg1 tabOk [] [0, 2] (by simp only [go_sem]; rfl) (by first | trivial | (simp; done)) ?_
  refine ⟨rfl, ?_⟩
  refine vwpT_seq ?_
  refine vwp_reg1 tabOk [] [0, 2, 3] (by simp only [go_sem]; rfl) (by first | trivial | (simp; done)) ?_
  refine ⟨rfl, ?_⟩
  refine vwpT_then ?_
  refine vwpT_seq ?_
  refine vwp_region ?_
  refine vops_go tabOk [] (by simp only [go_sem]; rfl) (by first | trivial | (simp; done)) ?_
  refine vops_callH (hc := c_strings_SplitSeq p [47]) rfl rfl rfl b_strings_SplitSeq [] [] [] rfl rfl rfl (by simp only [go_sem]; exact WkL.refl _) (by simp only [go_sem]) ?_
  rintro r0 H0 ⟨rfl, rfl⟩
  simp only [go_sem, List.getElem?_nil]
  refine vops_done [2, 3, 6] ?_
  refine ⟨rfl, ?_⟩
  simp only [go_sem]
  refine vwpT_range (γ := Nat × Bool) tabOk (rs := [.cell 2 4]) rfl (fun s => [.box [.bool false], .box [.int .i64 (s.1 : Int)]]) (0, false) [(2, .ptr 0 0), (3, .ptr 1 0)] (fun s => if s.2 then .done else .ready) (fun s => if s.2 then some .ret else none) (fI := 165)
    (cs := [.ptr 3 0, .ptr 2 0, .ptr 4 0]) (csI := [.ptr 2 0, .ptr 1 0, .ptr 3 0]) (HI := [.box [.str p], .box [.str [47]], .box [.int .i64 0]]) (φ := fun s => (s = ((pieces p).length, false) ∧ (pieces p).all partB = true) ∨ (s.2 = true ∧ (pieces p).all partB = false)) [2, 3, 4] [0, 1]
    (by simp only [go_sem]) (by rw [bodied, Tryz.func165]; rfl) rfl rfl (by simp) (by simp) (by decide) (by simp) (by simp) rfl rfl ?_ ?_ ?_ rfl ?_ ?_ ?_ ?_
  · exact ⟨Wk.refl _, Wk.refl _, Wk.refl _, trivial⟩
  · intro t
    simp only [Q.get]
    cases h : ((6 : Nat) == t) with
    | true =>
      have := eq_of_beq h
      subst this
      exact Wk.undef _
    | false =>
      cases h2 : ((2 : Nat) == t) with
      | true => exact Wk.refl _
      | false =>
        cases h3 : ((3 : Nat) == t) with
        | true => exact Wk.refl _
        | false => exact Wk.undef _
  · intro c hcK hcE hcS hcP hps has hbd hsz
    obtain ⟨cl, cD, cfn, ctmps, cps, cas, cbd, cenv, cK, cst, cpd, cne⟩ := c
    simp only at hcK hcE hcS hcP hps has hbd hsz
    subst hcK; subst hcE; subst hcS; subst hcP; subst hps; subst has; subst hbd
    intro F B ρ w ms sim hr hG hJ hBF hBL
    have hlen := sim.len
    simp only [List.length_cons, List.length_nil] at hlen
    obtain ⟨b0, b1, b2, rfl⟩ : ∃ b0 b1 b2, ρ = [b0, b1, b2] := by
      match ρ, hlen with
      | [b0, b1, b2], _ => exact ⟨b0, b1, b2, rfl⟩
    refine iter_split p _ (fun done s => s = (done.length, false) ∧ done.all partB = true) (fun s => s.2 = true ∧ (pieces p).all partB = false) ?_ (0, false) ⟨rfl, rfl⟩ sim hr hG hJ hBF hBL
    rintro done x rest hp s ⟨rfl, hall⟩
    have hdl : done.length < p.length + 1 := by
      have := hpl p
      rw [hp] at this
      simp only [List.length_append, List.length_cons] at this
      omega
    clear hJ sim hr hBL
    refine round_of (M := []) _ 7 rfl rfl rfl (by show 7 < ctmps.size; omega) ?_ ?_ ?_
    · intro t
      simp only [Q.get]
      cases h : ((2 : Nat) == t) <;> cases h : ((3 : Nat) == t) <;> rfl
    · intro t
      simp only [Q.get]
      cases h : ((2 : Nat) == t) <;> cases h : ((3 : Nat) == t) <;> rfl
    · show VWpR cl ⟨_, G, [], 2, ctmps.size⟩ _ _ [(7, .str x), (2, .ptr 0 0), (3, .ptr 1 0)] [.box [.bool false], .box [.int .i64 (done.length : Int)]]
      rw [hsz]
      refine vwpR_reg1 tabOk [] [2, 3, 4] rfl (fun _ _ h => by cases h.1) (by simp only [go_sem]; rfl) (by first | trivial | (simp; done)) ?_
      refine ⟨rfl, by simp, ?_⟩
      refine vwpR_block ?_
      refine vwpR_seq (vwpR_seq ?_)
      refine vwpR_region rfl (fun _ _ h => by simp [thenQ, blockQ, endQ] at h) ?_
      refine vops_go tabOk [] (by simp only [go_sem]; rfl) (by first | trivial | (simp; done)) ?_
      refine vops_call (hc := fun _ => c_path_part x) rfl (by simp only [go_sem]; rfl) rfl b_path_part (by simp only [go_sem]; exact WkL.refl _) rfl (fun hg => by simp only [go_sem]) ?_
      simp only [go_sem]
      refine vops_go tabOk [] (by simp only [go_sem]; rfl) (by first | trivial | (simp; done)) ?_
      refine vops_done [2, 3, 10] ?_
      simp only [go_sem, thenQ]
      refine vwpR_cond (b := !partB x) (by simp only [go_sem]) (fun h0 => ?_) (fun h0 => ?_)
      · have h0' : partB x = false := by simpa using h0
        refine vwpR_seq ?_
        refine vwpR_reg1 tabOk [] [2, 3] rfl (fun _ _ h => by simp [thenQ, blockQ, endQ] at h) (by simp only [go_sem]; rfl) (by first | trivial | (simp; done)) ?_
        simp only [thenQ]
        refine vwpR_ret ?_
        simp only [thenQ, blockQ, endQ]
        refine ⟨(done.length, true), ?_, rfl, rfl, by simp, rfl, rfl⟩
        rw [if_neg (by decide)]
        exact ⟨rfl, by rw [hp]; simp [h0']⟩
      · have h0' : partB x = true := by simpa using h0
        refine vwpR_skip ?_
        simp only [thenQ]
        refine vwpR_reg1 tabOk [] [2, 3] rfl (fun _ _ h => by simp [thenQ, blockQ, endQ] at h) (by simp only [go_sem]; rfl) (by first | trivial | (simp; done) | (simp [in64]; omega)) ?_
        simp only [blockQ, endQ]
        refine ⟨(done.length + 1, false), ?_, rfl, rfl, by simp, rfl, rfl⟩
        rw [if_pos trivial]
        exact ⟨by simp, by simp [hall, h0']⟩
  · intro s _
    cases s.2 <;> simp
  · intro s _
    cases s.2 <;> simp
  · rintro s hs hpn
    have hs2 : s.2 = false := by
      cases h : s.2 with
      | false => rfl
      | true => rw [h] at hpn; cases hpn
    rcases hs with ⟨rfl, hall⟩ | ⟨h1, _⟩
    · refine vops_all tabOk [] [2] (by simp only [go_sem]; rfl) (by first | trivial | (simp; done)) ?_
      refine ⟨rfl, _, _, rfl, by first | trivial | exact ⟨trivial, trivial⟩, ?_⟩
      rw [pathB, hall]
      simp [pack1V, ren]
      omega
    · rw [hs2] at h1; cases h1
  · rintro s hs hpn
    have hs2 : s.2 = true := by
      cases h : s.2 with
      | true => rfl
      | false => rw [h] at hpn; cases hpn
    rcases hs with ⟨rfl, hall⟩ | ⟨h1, h2⟩
    · cases hs2
    · refine ⟨_, _, rfl, by first | trivial | exact ⟨trivial, trivial⟩, ?_⟩
      rw [pathB, h2]
      rfl

theorem b_counterpane_path_Right : bodied Go.Proofs.Tryz.prog 115 = true := by rw [bodied, Tryz.func115]; rfl
theorem b_path_Right : bodied Go.Proofs.Tryz.prog 115 = true := by rw [bodied, Tryz.func115]; rfl
theorem c_path_Right (s : Str) : VPure Go.Proofs.Tryz.prog G 115 [.str s] (.bool (pathB s)) :=
  vpure_of_calls rfl ((vp_path_Right s).mono fun r H h => h ▸ Wk.refl _)
end Go.Proofs.YtldfghgjllaljaaGreatDoor.Q
end
