/- Part 5 of our proof: a logic over the model's code, contracts of the functions, and plain laws. -/
import Derived.Test.YtnobnefabagbhaaGreatDoorQ4
import Derived.Test.YtnobnefabagbhaaGreatDoorQ2
import Derived.Lib.ItoaMem
set_option linter.unusedVariables false
set_option linter.unusedSimpArgs false
set_option linter.unusedSectionVars false
set_option maxRecDepth 100000
section
/- Walks of what others lack (the program's inventory.Wants), in the logic 'Q'. -/
namespace Go.Proofs.YtnobnefabagbhaaGreatDoor.Q
open Go Go.Q
def idxF {α : Type} (f : α → Bool) (l : List α) : Int := match l.findIdx? f with
 | some i => (i : Int)
 | none => -1
theorem idxF_at {α : Type} {f : α → Bool} {l : List α} {i : Nat} (hi : i < l.length) (h : ∀ x ∈ l.take i, f x = false) (hf : f l[i] = true) : idxF f l = (i : Int) := by
 have : l.findIdx? f = some i := by
  rw [List.findIdx?_eq_some_iff_getElem]
  refine ⟨hi, hf, fun j hj => ?_⟩
  have := h l[j] (List.mem_take_iff_getElem.2 ⟨j, by omega, rfl⟩)
  simp [this]
 rw [idxF, this]
theorem idxF_none {α : Type} {f : α → Bool} {l : List α} (h : ∀ x ∈ l, f x = false) : idxF f l = -1 := by
 have : l.findIdx? f = none := List.findIdx?_eq_none_iff.2 fun x hx => h x hx
 rw [idxF, this]
theorem idxF_nn {α : Type} {f : α → Bool} {l : List α} : decide (0 ≤ idxF f l) = l.any f := by
 unfold idxF
 cases h : l.findIdx? f with
 | none =>
  rw [show l.any f = false from by
   rw [List.any_eq_false]
   intro x hx
   rw [List.findIdx?_eq_none_iff.1 h x hx]; decide]
  rfl
 | some i =>
  obtain ⟨h1, h2, _⟩ := List.findIdx?_eq_some_iff_getElem.1 h
  rw [show l.any f = true from List.any_eq_true.2 ⟨_, List.getElem_mem h1, h2⟩]
  simp
theorem idxF_spec {α : Type} {f : α → Bool} {l : List α} (h : idxF f l ≠ -1) : ∃ i, ∃ hi : i < l.length, idxF f l = (i : Int) ∧ f l[i] = true ∧ ∀ x ∈ l.take i, f x = false := by
 unfold idxF at h ⊢
 cases hf : l.findIdx? f with
 | none => rw [hf] at h; exact absurd rfl h
 | some i =>
  obtain ⟨h1, h2, h3⟩ := List.findIdx?_eq_some_iff_getElem.1 hf
  refine ⟨i, h1, rfl, h2, fun x hx => ?_⟩
  obtain ⟨j, hj, rfl⟩ := List.mem_take_iff_getElem.1 hx
  simpa using h3 j (by omega)
theorem idxF_bad {α : Type} {f : α → Bool} {l : List α} (h : idxF f l = -1) : ∀ x ∈ l, f x = false := by
 unfold idxF at h
 cases hf : l.findIdx? f with
 | none => exact fun x hx => List.findIdx?_eq_none_iff.1 hf x hx
 | some i => rw [hf] at h; simp at h
theorem any_eqS (l : List Str) (s : Str) : (l.any fun x => decide (s = x)) = decide (s ∈ l) := by
 rw [Bool.eq_iff_iff, List.any_eq_true, decide_eq_true_eq]
 exact ⟨fun ⟨x, h1, h2⟩ => by rw [of_decide_eq_true h2]; exact h1, fun h => ⟨s, h, by simp⟩⟩
theorem delRow_start {α : Type} {q : α → Bool} {l : List α} {i : Nat} (hi : i < l.length) (h : ∀ x ∈ l.take i, (!q x) = false) (hq : (!q l[i]) = true) : (l.take (i + 1)).filter q = l.take i := by
 rw [List.take_succ_eq_append_getElem hi, List.filter_append, List.filter_eq_self.2 fun x hx => by simpa using h x hx]
 rw [List.filter_cons, if_neg (by simpa using hq)]; simp
theorem rel_zeroC (F : Nat → Prop) (w : World) : RelL F [] w [.str [], .nils, .nils] zeroP.cells.toList := by
 refine ⟨_, _, rfl, by simp only [Rel]; exact ⟨rfl, Nat.zero_le _⟩, _, _, rfl, by simp only [Rel], _, _, rfl, by simp only [Rel], rfl⟩
def qW (d hv : List Str) (p : Patch) : Bool := decide (p.name ∈ d) && !decide (p.name ∈ hv)
def wantsP (ps : List Patch) (hv l : List Str) : List Patch × Int := if (downP ps l).2 = 0 then ((sortP ps).1.filter (qW (downP ps l).1 hv), 0) else ([], (downP ps l).2)
theorem downP_ofB {ps : List Patch} {l : List Str} (h : (downP ps l).2 = 0) : ofB ps = true := by
 cases hb : ofB ps with
 | true => rfl
 | false => rw [downP_no hb] at h; simp at h
theorem filter_takeS {α : Type} (q : α → Bool) (l : List α) (j : Nat) (hj : j < l.length) : (l.take (j + 1)).filter q = (l.take j).filter q ++ if q l[j] then [l[j]] else [] := by
 rw [List.take_succ_eq_append_getElem hj, List.filter_append]
 by_cases h : q l[j] = true <;> simp [h]
def delRow {α : Type} (q : α → Bool) (l : List α) (j : Nat) : List α := (l.take j).filter q ++ l.drop ((l.take j).filter q).length
theorem delRow_len {α : Type} (q : α → Bool) (l : List α) (j : Nat) : (delRow q l j).length = l.length := by
 have h1 := List.length_filter_le q (l.take j)
 have h2 := List.length_take_le' j l
 simp only [delRow, List.length_append, List.length_drop]; omega
theorem delRow_get {α : Type} (q : α → Bool) (l : List α) (j : Nat) (hj : j < l.length) : (delRow q l j)[j]'(by rw [delRow_len]; exact hj) = l[j] := by
 have h1 := List.length_filter_le q (l.take j)
 rw [List.length_take, Nat.min_eq_left (by omega)] at h1
 simp only [delRow]
 rw [List.getElem_append_right h1, List.getElem_drop]
 congr 1; omega
theorem delRow_keep {α : Type} (q : α → Bool) (l : List α) (j : Nat) (hj : j < l.length) (h : q l[j] = true) : delRow q l (j + 1) = (delRow q l j).set ((l.take j).filter q).length l[j] := by
 have h1 := List.length_filter_le q (l.take j)
 rw [List.length_take, Nat.min_eq_left (by omega)] at h1
 rw [delRow, filter_takeS q l j hj, if_pos h, delRow, List.set_append_right _ _ (Nat.le_refl _), Nat.sub_self, List.append_assoc]
 congr 1
 rw [List.length_append, List.drop_eq_getElem_cons (show ((l.take j).filter q).length < l.length by omega), List.set_cons_zero]
 rfl
theorem delRow_drop {α : Type} (q : α → Bool) (l : List α) (j : Nat) (hj : j < l.length) (h : q l[j] = false) : delRow q l (j + 1) = delRow q l j := by
 rw [delRow, filter_takeS q l j hj, if_neg (by simp [h]), List.append_nil]; rfl
theorem b_slices_Index_string_string : bodied Go.Proofs.Tryz.prog 86 = true := by rw [bodied, Tryz.func86]; rfl
theorem c_slices_Index_string_string (l : List Str) (s : Str) : VPure Go.Proofs.Tryz.prog G 86 [.list 1 (l.map cS), .str s] (.int .i64 (idxF (fun x => decide (s = x)) l)) := by
 refine vpure_know fun hk => ?_
 simp only [factsL, facts, maxB, List.length_map] at hk
 refine vpure_of (ts := [4]) Tryz.func86 rfl (by simp [Tryz.ntmps86]) rfl rfl ?_
 rw [Tryz.ntmps86]
 refine oR [0, 1] ?_
 refine vwp_seq ?_
 refine oR [0, 1, 7, 8] ?_
 refine vwp_block ?_
 refine vwp_loopW (fun i : Nat => [(0, .list 1 (l.map cS)), (1, .str s), (7, .int .i64 (l.length : Int)), (8, .int .i64 (i : Int))]) (fun i => []) (fun i => i ≤ l.length ∧ ∀ x ∈ l.take i, decide (s = x) = false) (fun i => l.length - i) 0 ⟨Nat.zero_le _, by simp⟩ (wC (wC (wC (wC (Env.wk_nil _))))) rfl ?_
 rintro i ⟨hi, hn⟩
 refine oR [0, 1, 7, 8, 9] ?_
 refine vwp_seq ?_
 refine oB (fun h0 => ?_) fun h0 => ?_
 ·
  have h0' : i < l.length := by simp at h0; omega
  refine vwp_skip ?_
  try simp only [thenQ, blockQ, jumpQ, stayQ]
  refine vwp_seq ?_
  refine vwp_block ?_
  refine oR [0, 1, 5, 7, 8] ?_
  refine vwp_reg tabOk [] [0, 1, 5, 7, 8, 16] (by simp only [go_sem]; rfl) (by first | (simp [h0']; done) | (simp [h0', in64]; omega)) ?_
  refine oB (fun h1 => ?_) fun h1 => ?_
  ·
   refine oR [4] ?_
   refine vwp_ret ?_
   simp only [thenQ, blockQ, jumpQ, stayQ, RetQ, go_sem]
   refine ⟨by simp, Wk.eq ?_⟩
   rw [getD_lt h0'] at h1
   rw [idxF_at h0' hn h1]
  ·
   refine vwp_skip ?_
   try simp only [thenQ, blockQ, jumpQ, stayQ]
   refine vwp_reg1 tabOk [] [0, 1, 7, 8] (by simp only [go_sem]; rfl) (by first | (simp [h0']; done) | (simp [h0', in64]; omega)) ?_
   try simp only [thenQ, blockQ, jumpQ, stayQ]
   exact ⟨i + 1, ⟨by omega, fun x hx => by rw [take_succ_mem h0'] at hx; rcases hx with hx | rfl; exact hn x hx; rw [getD_lt h0'] at h1; exact h1⟩, by omega, (wC (wC (wC (wC (Env.wk_nil _))))), (by first | rfl | trivial)⟩
 ·
  refine vwp_exit ?_
  simp only [thenQ, blockQ, jumpQ, stayQ, if_true, reduceIte, Nat.reduceEqDiff]
  refine oR [4] ?_
  refine vwp_ret ?_
  simp only [thenQ, blockQ, jumpQ, stayQ, RetQ, go_sem]
  refine ⟨by simp, Wk.eq ?_⟩
  have : i = l.length := by simp at h0; omega
  subst this; rw [List.take_length] at hn; rw [idxF_none hn]
theorem b_slices_Contains_string_string : bodied Go.Proofs.Tryz.prog 51 = true := by rw [bodied, Tryz.func51]; rfl
theorem c_slices_Contains_string_string (l : List Str) (s : Str) : VPure Go.Proofs.Tryz.prog G 51 [.list 1 (l.map cS), .str s] (.bool (decide (s ∈ l))) := by
 refine vpure_of (ts := [4]) Tryz.func51 rfl (by simp [Tryz.ntmps51]) rfl rfl ?_
 rw [Tryz.ntmps51]
 refine oR [0, 1] ?_
 refine vwp_seq (vwp_region ?_)
 refine oG [] ?_
 refine oC (fun _ => c_slices_Index_string_string l s) b_slices_Index_string_string ?_
 simp only [go_sem]
 refine oG [] ?_
 refine vops_done [4] ?_
 simp only [go_sem, thenQ, blockQ, jumpQ, stayQ]
 refine vwp_ret ?_
 simp only [thenQ, blockQ, jumpQ, stayQ, RetQ, go_sem]
 refine ⟨by simp, Wk.eq ?_⟩
 rw [← any_eqS, ← idxF_nn]
theorem b_inventory_Wants_1 : bodied Go.Proofs.Tryz.prog 78 = true := by rw [bodied, Tryz.func78]; rfl
theorem c_inventory_Wants_1 (d hv : List Str) (p : Patch) : VCalls Go.Proofs.Tryz.prog G 78 [.agg (cPatch p), .ptr 0 0, .ptr 1 0] [.box [.list 1 (d.map cS)], .box [.list 1 (hv.map cS)]] [] (fun r H => r = .bool (qW d hv p) ∧ H = [.box [.list 1 (d.map cS)], .box [.list 1 (hv.map cS)]]) := by
 refine vcalls_of2 tabOk (rs := _) 2 Tryz.func78 rfl (by simp [Tryz.ntmps78]) rfl (by first | (simp; done) | exact Nat.le_refl _) ?_
 rw [Tryz.ntmps78]
 refine oR [1, 2, 3] ?_
 refine vwp_seq (vwp_region ?_)
 refine oG [] ?_
 refine oC (fun _ => c_slices_Contains_string_string d p.name) b_slices_Contains_string_string ?_
 simp only [go_sem]
 refine oG [] ?_
 refine oC (fun _ => c_slices_Contains_string_string hv p.name) b_slices_Contains_string_string ?_
 simp only [go_sem]
 refine oG [] ?_
 refine vops_done [4] ?_
 simp only [go_sem, thenQ, blockQ, jumpQ, stayQ]
 refine vwp_ret ?_
 try simp only [thenQ, blockQ, jumpQ, stayQ, go_sem]
 refine ⟨by simp, _, _, rfl, by first | trivial | simp, ?_⟩
 have e : (bif decide (p.name ∈ d) then !decide (p.name ∈ hv) else false) = qW d hv p := by unfold qW; cases decide (p.name ∈ d) <;> rfl
 rw [e]; rfl
theorem b_inventory_chosen_1 : bodied Go.Proofs.Tryz.prog 108 = true := by rw [bodied, Tryz.func108]; rfl
theorem c_inventory_chosen_1 (d hv : List Str) (p : Patch) : VCalls Go.Proofs.Tryz.prog G 108 [.agg (cPatch p), .ptr 0 0] [.box [.func (.func 78) [] [.ptr 1 0, .ptr 2 0]], .box [.list 1 (d.map cS)], .box [.list 1 (hv.map cS)]] [] (fun r H => r = .bool (!qW d hv p) ∧ H = [.box [.func (.func 78) [] [.ptr 1 0, .ptr 2 0]], .box [.list 1 (d.map cS)], .box [.list 1 (hv.map cS)]]) := by
 refine vcalls_of2 tabOk (rs := _) 3 Tryz.func108 rfl (by simp [Tryz.ntmps108]) rfl (by first | (simp; done) | exact Nat.le_refl _) ?_
 rw [Tryz.ntmps108]
 refine oR [1, 2] ?_
 refine vwp_seq (vwp_region ?_)
 refine oG [] ?_
 refine vops_callVH (hc := c_inventory_Wants_1 d hv p) rfl (by simp only [go_sem]; rfl) rfl rfl b_inventory_Wants_1 [1, 2] [] [] rfl rfl rfl (by simp only [go_sem]; exact WkL.refl _) (by simp only [go_sem]) ?_
 rintro r0 H0 ⟨rfl, rfl⟩
 simp only [go_sem]
 refine oG [] ?_
 refine vops_done [3] ?_
 simp only [go_sem, thenQ, blockQ, jumpQ, stayQ]
 refine vwp_ret ?_
 try simp only [thenQ, blockQ, jumpQ, stayQ, go_sem]
 refine ⟨by simp, _, _, rfl, by first | trivial | simp, ?_⟩
 first | exact ⟨rfl, rfl⟩ | rfl
theorem b_slices_IndexFunc_api_Patch_api_Patch : bodied Go.Proofs.Tryz.prog 69 = true := by rw [bodied, Tryz.func69]; rfl
theorem c_slices_IndexFunc_api_Patch_api_Patch_del (l : List Patch) (d hv : List Str) (hl : l.length ≤ 1000000000) : VCalls Go.Proofs.Tryz.prog G 69 [.arr 0 l.length, .func (.func 108) [] [.ptr 1 0]] [.arr 45 3 (l.map cPatch), .box [.func (.func 78) [] [.ptr 2 0, .ptr 3 0]], .box [.list 1 (d.map cS)], .box [.list 1 (hv.map cS)]] [] (fun r H => r = .int .i64 (idxF (fun p => !qW d hv p) l) ∧ H = [.arr 45 3 (l.map cPatch), .box [.func (.func 78) [] [.ptr 2 0, .ptr 3 0]], .box [.list 1 (d.map cS)], .box [.list 1 (hv.map cS)]]) := by
 refine vcalls_of2 tabOk (rs := _) 4 Tryz.func69 rfl (by simp [Tryz.ntmps69]) rfl (by first | (simp; done) | exact Nat.le_refl _) ?_
 rw [Tryz.ntmps69]
 refine oR [0, 1] ?_
 refine vwp_seq ?_
 refine oR [0, 1, 7, 8] ?_
 refine vwp_block ?_
 refine vwp_loopW (fun i : Nat => [(0, .arr 0 l.length), (1, .func (.func 108) [] [.ptr 1 0]), (7, .int .i64 (l.length : Int)), (8, .int .i64 (i : Int))]) (fun i => [.arr 45 3 (l.map cPatch), .box [.func (.func 78) [] [.ptr 2 0, .ptr 3 0]], .box [.list 1 (d.map cS)], .box [.list 1 (hv.map cS)]]) (fun i => i ≤ l.length ∧ ∀ x ∈ l.take i, (!qW d hv x) = false) (fun i => l.length - i) 0 ⟨Nat.zero_le _, by simp⟩ (wC (wC (wC (wC (Env.wk_nil _))))) rfl ?_
 rintro i ⟨hi, hn⟩
 refine oR [0, 1, 7, 8, 9] ?_
 refine vwp_seq ?_
 refine oB (fun h0 => ?_) fun h0 => ?_
 ·
  have h0' : i < l.length := by simp at h0; omega
  refine vwp_skip ?_
  try simp only [thenQ, blockQ, jumpQ, stayQ]
  refine vwp_seq ?_
  refine vwp_block ?_
  refine oR [0, 1, 5, 7, 8] ?_
  refine vwp_seq (vwp_region ?_)
  refine vops_go tabOk [] (by simp only [go_sem, getD_map, h0']; rfl) (by first | (simp [h0']; done) | (simp [h0', in64]; omega)) ?_
  refine vops_callVH (hc := c_inventory_chosen_1 d hv l[i]) rfl (by simp only [go_sem]; rfl) rfl rfl b_inventory_chosen_1 [1, 2, 3] [] [] rfl rfl rfl (by simp only [go_sem]; exact WkL.refl _) (by simp only [go_sem]) ?_
  rintro r0 H0 ⟨rfl, rfl⟩
  simp only [go_sem]
  refine vops_done [0, 1, 5, 7, 8, 16] ?_
  simp only [go_sem, thenQ, blockQ, jumpQ, stayQ]
  refine oB (fun h1 => ?_) fun h1 => ?_
  ·
   refine oR [4] ?_
   refine vwp_ret ?_
   try simp only [thenQ, blockQ, jumpQ, stayQ, go_sem]
   refine ⟨by simp, _, _, rfl, by first | trivial | simp, ?_⟩
   rw [idxF_at h0' hn h1]
   rfl
  ·
   refine vwp_skip ?_
   try simp only [thenQ, blockQ, jumpQ, stayQ]
   refine vwp_reg1 tabOk [] [0, 1, 7, 8] (by simp only [go_sem]; rfl) (by first | (simp [h0']; done) | (simp [h0', in64]; omega)) ?_
   try simp only [thenQ, blockQ, jumpQ, stayQ]
   exact ⟨i + 1, ⟨by omega, fun x hx => by rw [take_succ_mem h0'] at hx; rcases hx with hx | rfl; exact hn x hx; exact h1⟩, by omega, (wC (wC (wC (wC (Env.wk_nil _))))), (by first | rfl | trivial)⟩
 ·
  refine vwp_exit ?_
  simp only [thenQ, blockQ, jumpQ, stayQ, if_true, reduceIte, Nat.reduceEqDiff]
  refine oR [4] ?_
  refine vwp_ret ?_
  try simp only [thenQ, blockQ, jumpQ, stayQ, go_sem]
  refine ⟨by simp, _, _, rfl, by first | trivial | simp, ?_⟩
  have : i = l.length := by simp at h0; omega
  subst this; rw [List.take_length] at hn; rw [idxF_none hn]
  rfl
theorem b_slices_DeleteFunc_api_Patch_api_Patch : bodied Go.Proofs.Tryz.prog 107 = true := by rw [bodied, Tryz.func107]; rfl
set_option maxHeartbeats 4000000 in
theorem c_slices_DeleteFunc_api_Patch_api_Patch (l : List Patch) (d hv : List Str) (hl : l.length ≤ 1000000000) : VCalls Go.Proofs.Tryz.prog G 107 [.arr 0 l.length, .func (.func 108) [] [.ptr 1 0]] [.arr 45 3 (l.map cPatch), .box [.func (.func 78) [] [.ptr 2 0, .ptr 3 0]], .box [.list 1 (d.map cS)], .box [.list 1 (hv.map cS)]] [0] (fun r H => ∃ xs : List (List V), r = .arr 0 (l.filter (qW d hv)).length ∧ H = [.arr 45 3 ((l.filter (qW d hv)).map cPatch ++ xs), .box [.func (.func 78) [] [.ptr 2 0, .ptr 3 0]], .box [.list 1 (d.map cS)], .box [.list 1 (hv.map cS)]]) := by
 refine vcalls_of2 tabOk (rs := _) 4 Tryz.func107 rfl (by simp [Tryz.ntmps107]) rfl (by first | (simp; done) | exact Nat.le_refl _) ?_
 rw [Tryz.ntmps107]
 refine oR [0, 1] ?_
 refine vwp_seq (vwp_region ?_)
 refine oG [] ?_
 refine vops_callH (hc := c_slices_IndexFunc_api_Patch_api_Patch_del l d hv hl) rfl rfl rfl b_slices_IndexFunc_api_Patch_api_Patch [0, 1, 2, 3] [] [] rfl rfl rfl (by simp only [go_sem]; exact WkL.refl _) (by simp only [go_sem]) ?_
 rintro r0 H0 ⟨rfl, rfl⟩
 simp only [go_sem]
 refine oG [] ?_
 refine vops_done [0, 1, 5] ?_
 simp only [go_sem, thenQ, blockQ, jumpQ, stayQ]
 refine vwp_seq ?_
 refine oR [0, 1, 5, 12] ?_
 refine oB (fun h0 => ?_) fun h0 => ?_
 ·
  refine oR [4] ?_
  refine vwp_ret ?_
  try simp only [thenQ, blockQ, jumpQ, stayQ, go_sem]
  refine ⟨by simp, _, _, rfl, by first | trivial | simp, ?_⟩
  rw [List.filter_eq_self.2 fun p hp => by have := idxF_bad (of_decide_eq_true h0) p hp; simpa using this]
  exact ⟨[], by first | rfl | trivial, by simp⟩
 ·
  obtain ⟨i, hi, he, hqi, hbf⟩ := idxF_spec (of_decide_eq_false h0)
  rw [he]
  refine vwp_skip ?_
  try simp only [thenQ, blockQ, jumpQ, stayQ]
  refine vwp_seq ?_
  refine oR [0, 1, 5, 6] ?_
  refine vwp_block ?_
  have hst := delRow_start hi hbf hqi
  refine vwp_loopW (fun j : Nat => [(0, .arr 0 l.length), (1, .func (.func 108) [] [.ptr 1 0]), (5, .int .i64 (((l.take j).filter (qW d hv)).length : Int)), (6, .int .i64 (j : Int))]) (fun j => [.arr 45 3 ((delRow (qW d hv) l j).map cPatch), .box [.func (.func 78) [] [.ptr 2 0, .ptr 3 0]], .box [.list 1 (d.map cS)], .box [.list 1 (hv.map cS)]]) (fun j => j ≤ l.length ∧ i < j) (fun j => l.length - j) (i + 1) ⟨by omega, by omega⟩ (Env.wk_cons (Wk.refl _) (Env.wk_cons (Wk.refl _) (Env.wk_cons (Wk.eq (by rw [hst, List.length_take, Nat.min_eq_left (by omega)])) (Env.wk_cons (Wk.refl _) (Env.wk_nil _))))) (by rw [delRow, hst, List.length_take, Nat.min_eq_left (by omega), List.take_append_drop]) ?_
  rintro j ⟨hj, hij⟩
  refine vwp_seq ?_
  refine oR [0, 1, 5, 6, 19] ?_
  refine oB (fun h1 => ?_) fun h1 => ?_
  ·
   have h1' : j < l.length := by simp at h1; omega
   have hkl := List.length_filter_le (qW d hv) (l.take j)
   rw [List.length_take, Nat.min_eq_left (by omega)] at hkl
   refine vwp_skip ?_
   try simp only [thenQ, blockQ, jumpQ, stayQ]
   refine vwp_seq ?_
   refine vwp_block ?_
   refine vwp_reg tabOk [] [0, 1, 5, 6, 7] (by simp only [go_sem, getD_map, delRow_len, h1', delRow_get]; rfl) (by first | trivial | (simp; done) | (simp [in64]; omega)) ?_
   refine vwp_seq (vwp_region ?_)
   refine oG [] ?_
   refine vops_callVH (hc := c_inventory_chosen_1 d hv l[j]) rfl (by simp only [go_sem]; rfl) rfl rfl b_inventory_chosen_1 [1, 2, 3] [] [] rfl rfl rfl (by simp only [go_sem]; exact WkL.refl _) (by simp only [go_sem]) ?_
   rintro r1 H1 ⟨rfl, rfl⟩
   simp only [go_sem]
   refine oG [] ?_
   refine vops_done [0, 1, 5, 6, 7, 29] ?_
   simp only [go_sem, thenQ, blockQ, jumpQ, stayQ]
   refine oB (fun h2 => ?_) fun h2 => ?_
   ·
    have hqj : qW d hv l[j] = true := by simpa using h2
    refine vwp_seq (vwp_region ?_)
    refine oG [] ?_
    refine vops_step1 (step_storeArr tabOk (i := 0) (e := 45) (k := 3) (j := ((l.take j).filter (qW d hv)).length) (xs := (delRow (qW d hv) l j).map cPatch) (cs := cPatch l[j]) (r := some 3) rfl (by simp only [go_sem]) rfl (by simp only [go_sem] <;> rfl) (by simp only [go_sem]) rfl (by simp only [go_sem] <;> rfl) rfl (by simp [delRow_len]; omega)) rfl rfl ?_
    simp only [go_sem]
    refine vops_done [0, 1, 5, 6] ?_
    simp only [go_sem, thenQ, blockQ, jumpQ, stayQ]
    refine vwp_reg1 tabOk [] [0, 1, 5, 6] (by simp only [go_sem]; rfl) (by first | trivial | (simp; done) | (simp [in64]; omega)) ?_
    try simp only [thenQ, blockQ, jumpQ, stayQ]
    refine vwp_trim 4 (by simp) (by simp) ?_
    simp only [go_sem, mapE]
    refine vwp_reg1 tabOk [] [0, 1, 5, 6] (by simp only [go_sem]; rfl) (by first | trivial | (simp; done) | (simp [in64]; omega)) ?_
    try simp only [thenQ, blockQ, jumpQ, stayQ]
    exact ⟨j + 1, ⟨by omega, by omega⟩, by omega, Env.wk_cons (Wk.refl _) (Env.wk_cons (Wk.refl _) (Env.wk_cons (Wk.eq (by rw [filter_takeS _ _ _ h1', if_pos hqj]; simp)) (Env.wk_cons (Wk.refl _) (Env.wk_nil _)))), by rw [delRow_keep _ _ _ h1' hqj, List.map_set]; rfl⟩
   ·
    have hqj : qW d hv l[j] = false := by simpa using h2
    refine vwp_skip ?_
    try simp only [thenQ, blockQ, jumpQ, stayQ]
    refine vwp_trim 4 (by simp) (by simp) ?_
    simp only [go_sem, mapE]
    refine vwp_reg1 tabOk [] [0, 1, 5, 6] (by simp only [go_sem]; rfl) (by first | trivial | (simp; done) | (simp [in64]; omega)) ?_
    try simp only [thenQ, blockQ, jumpQ, stayQ]
    exact ⟨j + 1, ⟨by omega, by omega⟩, by omega, Env.wk_cons (Wk.refl _) (Env.wk_cons (Wk.refl _) (Env.wk_cons (Wk.eq (by rw [filter_takeS _ _ _ h1', if_neg (by simp [hqj])]; simp)) (Env.wk_cons (Wk.refl _) (Env.wk_nil _)))), by rw [delRow_drop _ _ _ h1' hqj]⟩
  ·
   have hje : j = l.length := by simp at h1; omega
   subst hje
   have hlt : ((l.take l.length).filter (qW d hv)).length < l.length := by
    rw [List.take_length, List.length_filter_lt_length_iff_exists]
    exact ⟨l[i], List.getElem_mem hi, by simpa using hqi⟩
   have hLen : (((delRow (qW d hv) l l.length).map cPatch).take ((l.take l.length).filter (qW d hv)).length ++ List.replicate (((delRow (qW d hv) l l.length).map cPatch).length - ((l.take l.length).filter (qW d hv)).length) ([.str [], .nils, .nils] : List V)).length = l.length := by
    rw [List.length_append, List.length_take, List.length_replicate, List.length_map, delRow_len]; omega
   refine vwp_exit ?_
   simp only [thenQ, blockQ, jumpQ, stayQ, if_true, reduceIte, Nat.reduceEqDiff]
   refine vwp_seq (vwp_region ?_)
   refine oG [] ?_
   refine vops_sliceClear (i := 0) (k := 3) (e := 45) (n := ((l.take l.length).filter (qW d hv)).length) (z := zeroP) (zc := [.str [], .nils, .nils]) (xs := (delRow (qW d hv) l l.length).map cPatch) tabOk rfl rfl rfl rfl rfl rfl rfl rfl (by simp only [go_sem]; simp [delRow_len]) (by simp only [go_sem]) (by simp only [go_sem]) (by rw [List.length_map, delRow_len]; exact hlt) (zero_run (by kernel_rfl)) rfl rfl rel_zeroC (by decide) ?_
   simp only [go_sem]
   skip
   refine vops_done [0, 5] ?_
   simp only [go_sem, thenQ, blockQ, jumpQ, stayQ]
   refine vwp_seq (vwp_region ?_)
   refine oG [] ?_
   refine vops_step1 (step_sliceHi tabOk (i := 0) (n := ((l.take l.length).filter (qW d hv)).length) (xs := ((delRow (qW d hv) l l.length).map cPatch).take ((l.take l.length).filter (qW d hv)).length ++ List.replicate (((delRow (qW d hv) l l.length).map cPatch).length - ((l.take l.length).filter (qW d hv)).length) [.str [], .nils, .nils]) rfl rfl (by rw [hLen]; simp only [go_sem]) (by simp only [go_sem]) (by simp only [go_sem]) (by rw [hLen]; exact Nat.le_of_lt hlt)) rfl rfl ?_
   simp only [go_sem]
   refine oG [] ?_
   refine vops_done [4] ?_
   simp only [go_sem, thenQ, blockQ, jumpQ, stayQ]
   refine vwp_ret ?_
   try simp only [thenQ, blockQ, jumpQ, stayQ, go_sem]
   refine ⟨by simp, _, _, rfl, by first | trivial | simp, ?_⟩
   rw [delRow, List.take_length, List.map_append, List.take_append_of_le_length (by simp), List.take_of_length_le (by simp)]
   exact ⟨_, by first | rfl | trivial, rfl⟩
theorem c_closure_Sorted_own (l : List Patch) (h : ofB l = true) : VCalls Go.Proofs.Tryz.prog G 30 [.list 3 (l.map cPatch)] [] [] (fun r H => r = .tuple [.arr 3 (sortP l).1.length, .int .i64 0] ∧ H = [.map (mapP l), .dead, .box [.arr 3 (sortP l).1.length], .arr 45 3 ((sortP l).1.map cPatch)]) := by
 refine vcalls_of2 tabOk (rs := _) 4 Tryz.func30 rfl (by simp [Tryz.ntmps30]) rfl (by first | (simp; done) | exact Nat.le_refl _) ?_
 rw [Tryz.ntmps30]
 refine vwp_reg tabOk [] [0] (by simp only [go_sem, List.getElem?_nil]; rfl) (by first | trivial | (simp; done) | (simp [in64]; omega)) ?_
 refine vwp_seq ?_
 refine vwp_seq (vwp_region ?_)
 refine oL [] ?_
 refine vops_callH (hc := c_closure_of_ok l h) rfl rfl rfl b_closure_of [] [] [] rfl rfl rfl (by simp only [go_sem]; exact WkL.refl _) (by simp only [go_sem]) ?_
 rintro r0 H0 ⟨rfl, rfl⟩
 simp only [go_sem, List.getElem?_nil]
 refine oL [] ?_
 refine vops_done [0, 5] ?_
 simp only [go_sem, thenQ, blockQ, jumpQ, stayQ]
 refine vwp_reg tabOk [] [0, 12] (by simp only [go_sem, List.getElem?_nil]; rfl) (by first | trivial | (simp; done) | (simp [in64]; omega)) ?_
 refine oB (fun h0 => ?_) fun h0 => ?_
 ·
  simp at h0
 ·
  refine vwp_skip ?_
  try simp only [thenQ, blockQ, jumpQ, stayQ]
  refine vwp_seq (vwp_region ?_)
  refine oL [] ?_
  refine vops_callH (hc := c_slices_Values_api_Patch_api_Patch l) rfl rfl rfl b_slices_Values_api_Patch_api_Patch [] [] [] rfl rfl rfl (by simp only [go_sem]; exact WkL.refl _) (by simp only [go_sem]) ?_
  rintro r1 H1 ⟨rfl, rfl⟩
  simp only [go_sem, List.getElem?_nil]
  refine vops_callH (hc := c_slices_SortedFunc_api_Patch l (ofB_len h)) rfl rfl rfl b_slices_SortedFunc_api_Patch [1] [] [] rfl rfl rfl (by simp only [go_sem]; exact WkL.refl _) (by simp only [go_sem]) ?_
  rintro r2 H2 ⟨l', hp, hup, rfl, rfl⟩
  simp only [go_sem, List.getElem?_nil]
  refine oL [] ?_
  refine vops_done [2, 3] ?_
  simp only [go_sem, thenQ, blockQ, jumpQ, stayQ]
  refine vwp_ret ?_
  try simp only [thenQ, blockQ, jumpQ, stayQ, go_sem]
  refine ⟨by simp, _, _, rfl, by first | trivial | simp, ?_⟩
  rw [sortP_uniq h hp hup]
  exact ⟨rfl, rfl⟩
theorem b_inventory_chosen : bodied Go.Proofs.Tryz.prog 77 = true := by rw [bodied, Tryz.func77]; rfl
set_option maxHeartbeats 4000000 in
theorem c_inventory_chosen (l : List Patch) (h : ofB l = true) (d hv : List Str) : VCalls Go.Proofs.Tryz.prog G 77 [.list 3 (l.map cPatch), .func (.func 78) [] [.ptr 0 0, .ptr 1 0]] [.box [.list 1 (d.map cS)], .box [.list 1 (hv.map cS)]] [] (fun r H => r = .list 3 (((sortP l).1.filter (qW d hv)).map cPatch) ∧ H = [.box [.list 1 (d.map cS)], .box [.list 1 (hv.map cS)]]) := by
 have hlen := sortP_length l
 have h256 := ofB_len h
 refine vcalls_of2 tabOk (rs := _) 2 Tryz.func77 rfl (by simp [Tryz.ntmps77]) rfl (by first | (simp; done) | exact Nat.le_refl _) ?_
 rw [Tryz.ntmps77]
 refine vwp_reg tabOk [] [0, 3] (by simp only [go_sem, List.getElem?_nil]; rfl) (by first | trivial | (simp; done) | (simp [in64]; omega)) ?_
 refine vwp_seq (vwp_region ?_)
 refine oL [] ?_
 refine vops_callH (hc := c_closure_Sorted_own l h) rfl rfl rfl b_closure_Sorted [] [] [] rfl rfl rfl (by simp only [go_sem]; exact WkL.refl _) (by simp only [go_sem]) ?_
 rintro r0 H0 ⟨rfl, rfl⟩
 simp only [go_sem, List.getElem?_nil]
 refine oL [] ?_
 refine vops_done [0, 3] ?_
 simp only [go_sem, thenQ, blockQ, jumpQ, stayQ]
 refine vwp_seq (vwp_region ?_)
 refine oL [] ?_
 refine vops_callH (hc := c_slices_DeleteFunc_api_Patch_api_Patch (sortP l).1 d hv (by omega)) rfl rfl rfl b_slices_DeleteFunc_api_Patch_api_Patch [6, 2, 0, 1] [0] [6] rfl rfl rfl (by simp only [go_sem]; exact WkL.refl _) (by simp only [go_sem]) ?_
 rintro r1 H1 ⟨xs, rfl, rfl⟩
 simp only [go_sem, List.getElem?_nil]
 refine vops_freeze 6 45 3 _ rfl ?_
 simp only [go_sem]
 rw [List.take_append_of_le_length (by simp), List.take_of_length_le (by simp)]
 refine vops_go tabOk [] (by simp only [go_sem]; rfl) (by first | trivial | (simp; done)) ?_
 refine vops_done [4] ?_
 simp only [go_sem, thenQ, blockQ, jumpQ, stayQ]
 refine vwp_ret ?_
 try simp only [thenQ, blockQ, jumpQ, stayQ, go_sem]
 refine ⟨by simp, _, _, rfl, by first | trivial | simp, ?_⟩
 first | exact ⟨rfl, rfl⟩ | rfl
theorem b_inventory_Wants : bodied Go.Proofs.Tryz.prog 43 = true := by rw [bodied, Tryz.func43]; rfl
set_option maxHeartbeats 4000000 in
theorem c_inventory_Wants (ps : List Patch) (hv l : List Str) (hl : l.length ≤ 900000000) : VPure Go.Proofs.Tryz.prog G 43 [.list 3 (ps.map cPatch), .list 1 (hv.map cS), .list 1 (l.map cS)] (.tuple [.list 3 ((wantsP ps hv l).1.map cPatch), .int .i64 (wantsP ps hv l).2]) := by
 refine vpure_of (ts := [6, 7]) Tryz.func43 rfl (by simp [Tryz.ntmps43]) rfl rfl ?_
 rw [Tryz.ntmps43]
 refine vwp_reg tabOk [] [0, 2, 4] (by simp only [go_sem, List.getElem?_nil]; rfl) (by first | trivial | (simp; done) | (simp [in64]; omega)) ?_
 refine vwp_seq (vwp_region ?_)
 refine oL [] ?_
 refine vops_call (hc := fun _ => c_closure_Down ps l hl) rfl (by simp only [go_sem, List.getElem?_nil]; rfl) rfl b_closure_Down (by simp only [go_sem, List.getElem?_nil]; exact WkL.refl _) rfl (fun hg => by simp only [go_sem]; try (intros; first | assumption | trivial | simp_all)) ?_
 simp only [go_sem]
 refine oL [] ?_
 refine vops_done [0, 4, 8, 9] ?_
 simp only [go_sem, thenQ, blockQ, jumpQ, stayQ]
 refine vwp_seq ?_
 refine vwp_reg tabOk [] [0, 4, 8, 9, 17] (by simp only [go_sem, List.getElem?_nil]; rfl) (by first | trivial | (simp; done) | (simp [in64]; omega)) ?_
 refine oB (fun h0 => ?_) fun h0 => ?_
 ·
  refine vwp_reg tabOk [] [6, 7] (by simp only [go_sem, List.getElem?_nil]; rfl) (by first | trivial | (simp; done) | (simp [in64]; omega)) ?_
  refine vwp_ret ?_
  simp only [thenQ, blockQ, jumpQ, stayQ, RetQ, go_sem]
  rw [show wantsP ps hv l = ([], (downP ps l).2) from by rw [wantsP, if_neg (by simpa using h0)]]
  refine ⟨by simp, ?_⟩
  exact Wk.tuple ⟨Wk.nils _, Wk.refl _, trivial⟩
 ·
  have h0' : (downP ps l).2 = 0 := by simpa using h0
  refine vwp_skip ?_
  try simp only [thenQ, blockQ, jumpQ, stayQ]
  refine vwp_seq (vwp_region ?_)
  refine oL [] ?_
  refine vops_callH (hc := c_inventory_chosen ps (downP_ofB h0') (downP ps l).1 hv) rfl rfl rfl b_inventory_chosen [1, 0] [] [] rfl rfl rfl (by simp only [go_sem]; exact WkL.refl _) (by simp only [go_sem]) ?_
  rintro r1 H1 ⟨rfl, rfl⟩
  simp only [go_sem, List.getElem?_nil]
  refine oL [] ?_
  refine vops_done [6, 7] ?_
  simp only [go_sem, thenQ, blockQ, jumpQ, stayQ]
  refine vwp_ret ?_
  simp only [thenQ, blockQ, jumpQ, stayQ, RetQ, go_sem]
  refine ⟨by simp, Wk.eq ?_⟩
  rw [wantsP, if_pos h0']
theorem b_ref16_Wants : bodied Go.Proofs.Tryz.prog 45 = true := by rw [bodied, Tryz.func45]; rfl
set_option maxHeartbeats 4000000 in
theorem c_ref16_Wants (ps : List Patch) (hv l : List Str) (hl : l.length ≤ 100000000) : VPure Go.Proofs.Tryz.prog G 45 [.list 3 (ps.map cPatch), .list 1 (hv.map cS), .list 1 (l.map cS)] (.tuple [.list 3 ((wantsP ps hv l).1.map cPatch), .int .i64 (wantsP ps hv l).2]) := by
 refine vpure_of (ts := [6, 7]) Tryz.func45 rfl (by simp [Tryz.ntmps45]) rfl rfl ?_
 rw [Tryz.ntmps45]
 refine oR [0, 1, 2] ?_
 refine vwp_seq (vwp_region ?_)
 refine oG [] ?_
 refine oC (fun _ => c_ref14_Down ps l hl) b_ref14_Down ?_
 simp only [go_sem]
 refine oG [] ?_
 refine vops_done [0, 1, 8, 9] ?_
 simp only [go_sem, thenQ, blockQ, jumpQ, stayQ]
 refine vwp_seq ?_
 refine oR [0, 1, 8, 9, 19] ?_
 refine oB (fun h0 => ?_) fun h0 => ?_
 ·
  refine oR [6, 7] ?_
  refine vwp_ret ?_
  simp only [thenQ, blockQ, jumpQ, stayQ, RetQ, go_sem]
  rw [show wantsP ps hv l = ([], (downP ps l).2) from by rw [wantsP, if_neg (by simpa using h0)]]
  refine ⟨by simp, ?_⟩
  exact Wk.tuple ⟨Wk.nils _, Wk.refl _, trivial⟩
 ·
  have h0' : (downP ps l).2 = 0 := by simpa using h0
  have h256 := ofB_len (downP_ofB h0')
  have hlS := sortP_length ps
  refine vwp_skip ?_
  try simp only [thenQ, blockQ, jumpQ, stayQ]
  refine vwp_seq (vwp_region ?_)
  refine oG [] ?_
  refine oC (fun _ => c_ref14_Sorted ps) b_ref14_Sorted ?_
  simp only [go_sem]
  refine oG [] ?_
  refine vops_done [0, 1, 8] ?_
  simp only [go_sem, thenQ, blockQ, jumpQ, stayQ]
  refine oR [0, 1, 8, 10] ?_
  refine vwp_seq ?_
  refine oR [0, 1, 8, 10, 11] ?_
  refine vwp_block ?_
  refine vwp_own 10 45 3 rfl ?_
  refine vwp_keep [0, 1, 8, 10, 11] ?_
  simp only [go_sem]
  refine vwp_loopW (fun i : Nat => [(0, .list 3 ((sortP ps).1.map cPatch)), (1, .list 1 (hv.map cS)), (8, .list 1 ((downP ps l).1.map cS)), (10, .arr 0 (((sortP ps).1.take i).filter (qW (downP ps l).1 hv)).length), (11, .int .i64 (i : Int))]) (fun i => [.arr 45 3 ((((sortP ps).1.take i).filter (qW (downP ps l).1 hv)).map cPatch)]) (fun i => i ≤ (sortP ps).1.length) (fun i => (sortP ps).1.length - i) 0 (Nat.zero_le _) (wC (wC (wC (wC (wC (Env.wk_nil _)))))) rfl ?_
  rintro i hi
  refine vwp_seq ?_
  refine oR [0, 1, 8, 10, 11, 29] ?_
  refine oB (fun h1 => ?_) fun h1 => ?_
  ·
   have h1' : i < (sortP ps).1.length := by simp at h1; omega
   have hfl := List.length_filter_le (qW (downP ps l).1 hv) ((sortP ps).1.take i)
   rw [List.length_take, Nat.min_eq_left (by omega)] at hfl
   refine vwp_skip ?_
   try simp only [thenQ, blockQ, jumpQ, stayQ]
   refine vwp_seq ?_
   refine vwp_block ?_
   refine vwp_seq (vwp_region ?_)
   refine vops_go tabOk [] (by simp only [go_sem, getD_map, h1']; rfl) (by first | trivial | (simp [h1']; done) | (simp [h1']; omega) | (simp [h1']; intros; omega)) ?_
   refine vops_call (hc := fun _ => c_ref14_Has (downP ps l).1 (sortP ps).1[i].name) rfl (by simp only [go_sem, getD_map, h1']; rfl) rfl b_ref14_Has (by simp only [go_sem]; exact WkL.refl _) rfl (fun hg => by simp only [go_sem]; try (intros; first | assumption | trivial | simp_all)) ?_
   simp only [go_sem]
   refine vops_go tabOk [] (by simp only [go_sem, getD_map, h1']; rfl) (by first | trivial | (simp [h1']; done) | (simp [h1']; omega) | (simp [h1']; intros; omega)) ?_
   refine vops_call (hc := fun _ => c_ref14_Has hv (sortP ps).1[i].name) rfl (by simp only [go_sem, getD_map, h1']; rfl) rfl b_ref14_Has (by simp only [go_sem]; exact WkL.refl _) rfl (fun hg => by simp only [go_sem]; try (intros; first | assumption | trivial | simp_all)) ?_
   simp only [go_sem]
   refine vops_go tabOk [] (by simp only [go_sem, getD_map, h1']; rfl) (by first | trivial | (simp [h1']; done) | (simp [h1']; omega) | (simp [h1']; intros; omega)) ?_
   refine vops_done [0, 1, 8, 10, 11, 48] ?_
   simp only [go_sem, thenQ, blockQ, jumpQ, stayQ]
   refine oB (fun h2 => ?_) fun h2 => ?_
   ·
    have hq : qW (downP ps l).1 hv (sortP ps).1[i] = true := by unfold qW; revert h2; cases decide ((sortP ps).1[i].name ∈ (downP ps l).1) <;> simp
    refine vwp_reg1 tabOk [] [0, 1, 8, 10, 11] (by simp only [go_sem, getD_map, h1']; rfl) (by first | trivial | (simp [h1']; done) | (simp [h1']; omega)) ?_
    try simp only [thenQ, blockQ, jumpQ, stayQ]
    refine vwp_reg1 tabOk [] [0, 1, 8, 10, 11] (by simp only [go_sem]; rfl) (by first | trivial | (simp; done) | (simp [in64]; omega)) ?_
    try simp only [thenQ, blockQ, jumpQ, stayQ]
    exact ⟨i + 1, by omega, by omega, Env.wk_cons (Wk.refl _) (Env.wk_cons (Wk.refl _) (Env.wk_cons (Wk.refl _) (Env.wk_cons (Wk.eq (by rw [filter_takeS _ _ _ h1', if_pos hq]; simp)) (Env.wk_cons (Wk.refl _) (Env.wk_nil _))))), by rw [filter_takeS _ _ _ h1', if_pos hq]; simp [cPatch]⟩
   ·
    have hq : qW (downP ps l).1 hv (sortP ps).1[i] = false := by unfold qW; revert h2; cases decide ((sortP ps).1[i].name ∈ (downP ps l).1) <;> simp
    refine vwp_skip ?_
    try simp only [thenQ, blockQ, jumpQ, stayQ]
    refine vwp_reg1 tabOk [] [0, 1, 8, 10, 11] (by simp only [go_sem]; rfl) (by first | trivial | (simp; done) | (simp [in64]; omega)) ?_
    try simp only [thenQ, blockQ, jumpQ, stayQ]
    exact ⟨i + 1, by omega, by omega, Env.wk_cons (Wk.refl _) (Env.wk_cons (Wk.refl _) (Env.wk_cons (Wk.refl _) (Env.wk_cons (Wk.eq (by rw [filter_takeS _ _ _ h1', if_neg (by simp [hq])]; simp)) (Env.wk_cons (Wk.refl _) (Env.wk_nil _))))), by rw [filter_takeS _ _ _ h1', if_neg (by simp [hq])]; simp [cPatch]⟩
  ·
   refine vwp_exit ?_
   simp only [thenQ, blockQ, jumpQ, stayQ, if_true, reduceIte, Nat.reduceEqDiff]
   refine vwp_freeze 0 45 3 _ rfl ?_
   simp only [go_sem]
   refine vwp_trim 0 (by simp) (by simp) ?_
   simp only [go_sem, mapE]
   try rw [List.take_of_length_le (by simp)]
   refine oR [6, 7] ?_
   refine vwp_ret ?_
   simp only [thenQ, blockQ, jumpQ, stayQ, RetQ, go_sem]
   refine ⟨by simp, Wk.eq ?_⟩
   have hi2 : i = (sortP ps).1.length := by simp at h1; omega
   subst hi2
   rw [wantsP, if_pos h0', List.take_length]
end Go.Proofs.YtnobnefabagbhaaGreatDoor.Q
end

section
/- Names, each behind those that it stands on: plain. -/
namespace Go.Proofs.YtnobnefabagbhaaGreatDoor.Q
open Go Go.Q
def readyQ (out : List Str) (p : Patch) : Bool := decide (p.name ∉ out) && p.deps.all fun d => decide (d ∈ out)
def ordN (s : List Patch) : Nat → List Str → Option (List Str)
 | 0, out => some out
 | k + 1, out => match s.find? (readyQ out) with
  | none => none
  | some p => ordN s k (out ++ [p.name])
def orderP (ps : List Patch) : List Str × Int := match sortedP ps with
 | none => ([], 1)
 | some s => match ordN s s.length [] with
  | none => ([], 141)
  | some o => (o, 0)
def nmO : Option Patch → Str
 | some p => p.name
 | none => []
theorem find_take {q : Patch → Bool} {s : List Patch} {z : Nat} (hz : z < s.length) : (s.take (z + 1)).find? q = match (s.take z).find? q with
  | some p => some p
  | none => if q s[z] then some s[z] else none := by
 rw [List.take_succ_eq_append_getElem hz, List.find?_append]
 cases (s.take z).find? q with
 | some p => rfl
 | none =>
  simp only [Option.none_or, List.find?_cons]
  cases q s[z] <;> rfl
theorem find_full {q : Patch → Bool} {s : List Patch} {z : Nat} {p : Patch} (h : (s.take z).find? q = some p) : s.find? q = some p := by
 conv => lhs; rw [← List.take_append_drop z s]
 rw [List.find?_append, h]; rfl
def remP (s : List Patch) (out : List Str) : List Patch := s.filter fun p => decide (p.name ∉ out)
theorem remP_nil (s : List Patch) : remP s [] = s := by simp [remP]
theorem remP_snoc {s : List Patch} {out : List Str} (n : Str) : remP s (out ++ [n]) = (remP s out).filter fun p => decide (p.name ≠ n) := by
 rw [remP, remP, List.filter_filter]
 apply List.filter_congr
 intro p _
 by_cases h1 : p.name ∈ out <;> by_cases h2 : p.name = n <;> simp [h1, h2]
theorem remP_apart {s : List Patch} (h : apartP s) (out : List Str) : apartP (remP s out) := List.Pairwise.filter _ h
theorem remP_perm {s ps : List Patch} (h : s.Perm ps) (out : List Str) : (remP s out).Perm (remP ps out) := h.filter _
theorem filter_len2 {α : Type} (q : α → Bool) : ∀ (l : List α), (l.filter q).length + (l.filter fun x => !q x).length = l.length
 | [] => rfl
 | x :: l => by
  have ih := filter_len2 q l
  rw [List.filter_cons, List.filter_cons]
  cases h : q x <;> simp <;> omega
theorem remP_len {s : List Patch} (ha : apartP s) : ∀ {out : List Str}, out.Nodup → (∀ n ∈ out, ∃ p ∈ s, p.name = n) → (remP s out).length + out.length = s.length := by
 intro out hn ho
 have h1 : (s.map (·.name)).Nodup := List.pairwise_map.2 ha
 have h2 : (remP s out).length = ((s.map (·.name)).filter fun n => decide (n ∉ out)).length := by
  rw [List.filter_map, List.length_map]; rfl
 have h3 : ((s.map (·.name)).filter fun n => decide (n ∈ out)).Perm out := by
  refine (List.perm_ext_iff_of_nodup (h1.filter _) hn).2 fun n => ?_
  rw [List.mem_filter]
  constructor
  ·intro h; simpa using h.2
  ·intro h
   obtain ⟨p, hp, rfl⟩ := ho n h
   exact ⟨List.mem_map.2 ⟨p, hp, rfl⟩, by simpa using h⟩
 have h4 := filter_len2 (fun n => decide (n ∈ out)) (s.map (·.name))
 rw [h3.length_eq, List.length_map] at h4
 rw [h2, ← h4, Nat.add_comm]
 congr 2
 apply List.filter_congr
 intro n _
 simp
theorem ready_idx {s ps : List Patch} (hp : s.Perm ps) (ha : apartP s) (hu : upP s) {out ks : List Str} (hk : ks.Perm ((remP ps out).map (·.name))) (hs : ks.Pairwise (· ≤ ·)) : ks = (remP s out).map (·.name) := by
 have h1 : ((remP s out).map (·.name)).Pairwise (· ≤ ·) := List.pairwise_map.2 ((List.Pairwise.filter _ hu).imp fun h => le_gt.2 h)
 refine List.Perm.eq_of_pairwise (fun a b _ _ e1 e2 => List.le_antisymm e1 e2) hs h1 (hk.trans ((remP_perm hp out).map _).symm)
theorem find_rem (s : List Patch) (out : List Str) : s.find? (readyQ out) = (remP s out).find? fun p => p.deps.all fun d => decide (d ∈ out) := by
 rw [remP, List.find?_filter]
 congr 1
 funext p
 rw [readyQ, Bool.eq_iff_iff]
 simp
theorem find_get {q : Patch → Bool} {l : List Patch} {i : Nat} (hi : i < l.length) (h : ∀ x ∈ l.take i, q x = false) (hq : q l[i] = true) : l.find? q = some l[i] := by
 conv => lhs; rw [← List.take_append_drop i l]
 rw [List.find?_append, List.find?_eq_none.2 (by intro p hp; simp [h p hp]), List.drop_eq_getElem_cons hi, List.find?_cons_of_pos hq]; rfl
theorem sortedP_name {ps s : List Patch} (h : sortedP ps = some s) {p : Patch} (hp : p ∈ s) : p.name ≠ [] := by
 have h1 := sortedP_isSome ps
 rw [h] at h1
 have h2 := (sortedP_facts h).1.mem_iff.1 hp
 simp only [ofB, Bool.and_eq_true] at h1
 have hb : ofB ps = true := h1.symm
 simp only [ofB, Bool.and_eq_true] at hb
 have := List.all_eq_true.1 hb.1 p h2
 simp only [patchB, Bool.and_eq_true] at this
 have h3 := this.1.1.1
 intro e
 rw [e] at h3
 revert h3
 decide
structure OInv (s : List Patch) (out : List Str) : Prop where
 nodup : out.Nodup
 names : ∀ n ∈ out, ∃ p ∈ s, p.name = n
 same : ordN s (s.length - out.length) out = ordN s s.length []
 len : out.length ≤ s.length
theorem OInv.start (s : List Patch) : OInv s [] := ⟨by simp, by simp, rfl, Nat.zero_le _⟩
theorem OInv.step {s : List Patch} {out : List Str} (ha : apartP s) (h : OInv s out) (hl : out.length < s.length) {p : Patch} (hf : s.find? (readyQ out) = some p) : OInv s (out ++ [p.name]) := by
 have h1 := List.find?_some hf
 simp only [readyQ, Bool.and_eq_true, decide_eq_true_eq] at h1
 refine ⟨?_, ?_, ?_, by simp; omega⟩
 ·rw [List.nodup_append]
  exact ⟨h.nodup, by simp, fun a ha b hb => by simp at hb; subst hb; exact fun e => h1.1 (e ▸ ha)⟩
 ·intro n hn
  rcases List.mem_append.1 hn with hn | hn
  ·exact h.names n hn
  ·have : n = p.name := by simpa using hn
   exact ⟨p, List.mem_of_find?_eq_some hf, this.symm⟩
 ·rw [← h.same, show s.length - out.length = (s.length - (out ++ [p.name]).length) + 1 by simp; omega, ordN, hf]
theorem OInv.stuck {s : List Patch} {out : List Str} (h : OInv s out) (hl : out.length < s.length) (hf : s.find? (readyQ out) = none) : ordN s s.length [] = none := by
 rw [← h.same, show s.length - out.length = (s.length - out.length - 1) + 1 by omega, ordN, hf]
theorem OInv.done {s : List Patch} {out : List Str} (h : OInv s out) (hl : ¬ out.length < s.length) : ordN s s.length [] = some out := by
 rw [← h.same, show s.length - out.length = 0 by omega, ordN]
end Go.Proofs.YtnobnefabagbhaaGreatDoor.Q
end

section
/- Walks of the order of names (the document's, and the program's), in the logic 'Q'. -/
namespace Go.Proofs.YtnobnefabagbhaaGreatDoor.Q
open Go Go.Q
theorem nmO_none {ps s : List Patch} (h : sortedP ps = some s) {q : Patch → Bool} {z : Nat} (h0 : nmO ((s.take z).find? q) = []) : (s.take z).find? q = none := by
 cases hf : (s.take z).find? q with
 | none => rfl
 | some p =>
  rw [hf] at h0
  exact absurd h0 (sortedP_name h (List.mem_of_mem_take (List.mem_of_find?_eq_some hf)))
theorem nmO_none' {ps s : List Patch} (h : sortedP ps = some s) {q : Patch → Bool} (h0 : nmO (s.find? q) = []) : s.find? q = none := by
 have := nmO_none (z := s.length) h (q := q) (by rw [List.take_length]; exact h0)
 rwa [List.take_length] at this
theorem b_ref14_Order : bodied Go.Proofs.Tryz.prog 72 = true := by rw [bodied, Tryz.func72]; rfl
set_option maxHeartbeats 4000000 in
theorem c_ref14_Order (ps : List Patch) : VPure Go.Proofs.Tryz.prog G 72 [.list 3 (ps.map cPatch)] (.tuple [.list 1 ((orderP ps).1.map cS), .int .i64 (orderP ps).2]) := by
 refine vpure_know fun hk => ?_
 simp only [factsL, facts, maxB, List.length_map] at hk
 refine vpure_of (ts := [2, 3]) Tryz.func72 rfl (by simp [Tryz.ntmps72]) rfl rfl ?_
 rw [Tryz.ntmps72]
 refine oR [0] ?_
 refine vwp_seq (vwp_region ?_)
 refine oG [] ?_
 refine oC (fun _ => c_ref14_Sorted ps) b_ref14_Sorted ?_
 simp only [go_sem]
 refine oG [] ?_
 refine vops_done [0, 4] ?_
 simp only [go_sem, thenQ, blockQ, jumpQ, stayQ]
 refine vwp_seq ?_
 refine oR [0, 4, 14] ?_
 refine oB (fun h0 => ?_) fun h0 => ?_
 ·
  refine oR [2, 3] ?_
  refine vwp_ret ?_
  simp only [thenQ, blockQ, jumpQ, stayQ, RetQ, go_sem]
  rw [show orderP ps = ([], 1) from by rw [orderP, (sortP_bad (by simpa using h0)).2]]
  rw [(sortP_bad (by simpa using h0)).1]
  refine ⟨by simp, ?_⟩
  exact Wk.tuple ⟨Wk.nils _, Wk.refl _, trivial⟩
 ·
  have hs2 := sortP_ok (ps := ps) (by simpa using h0)
  obtain ⟨hpm, hup, hap, h256⟩ := sortedP_facts hs2
  have hapS := apart_perm hpm hap
  have hlenS := hpm.length_eq
  refine vwp_skip ?_
  try simp only [thenQ, blockQ, jumpQ, stayQ]
  refine oR [0, 5] ?_
  refine vwp_seq ?_
  refine vwp_block ?_
  refine vwp_own 5 9 1 rfl ?_
  refine vwp_keep [0, 5] ?_
  simp only [go_sem]
  refine vwp_loopW (fun out : List Str => [(0, .list 3 ((sortP ps).1.map cPatch)), (5, .arr 0 out.length)]) (fun out => [.arr 9 1 (out.map cS)]) (fun out => OInv (sortP ps).1 out) (fun out => (sortP ps).1.length - out.length) [] (OInv.start _) (wC (wC (Env.wk_nil _))) rfl ?_
  rintro out ho
  refine vwp_seq ?_
  refine oR [0, 5, 20] ?_
  refine oB (fun h1 => ?_) fun h1 => ?_
  ·
   have h1' : out.length < (sortP ps).1.length := by simp at h1; omega
   refine vwp_skip ?_
   try simp only [thenQ, blockQ, jumpQ, stayQ]
   refine vwp_block ?_
   refine oR [0, 5, 6] ?_
   refine vwp_seq ?_
   refine oR [0, 5, 6, 7] ?_
   refine vwp_block ?_
   refine vwp_loopW (fun z : Nat => [(0, .list 3 ((sortP ps).1.map cPatch)), (5, .arr 0 out.length), (6, .str (nmO (((sortP ps).1.take z).find? (readyQ out)))), (7, .int .i64 (z : Int))]) (fun z => [.arr 9 1 (out.map cS)]) (fun z => z ≤ (sortP ps).1.length) (fun z => (sortP ps).1.length - z) 0 (Nat.zero_le _) (wC (wC (wC (wC (Env.wk_nil _))))) rfl ?_
   rintro z hz
   refine vwp_seq ?_
   refine oR [0, 5, 6, 7, 28] ?_
   refine oB (fun h2 => ?_) fun h2 => ?_
   ·
    have hz' : z < (sortP ps).1.length := by revert h2; cases hc : decide ((z : Int) < ((sortP ps).1.length : Int)) <;> simp at hc ⊢; omega
    have hnone : ((sortP ps).1.take z).find? (readyQ out) = none := by
     have h5 : nmO (((sortP ps).1.take z).find? (readyQ out)) = [] := by revert h2; cases decide ((z : Int) < ((sortP ps).1.length : Int)) <;> simp
     exact nmO_none hs2 h5
    refine vwp_skip ?_
    try simp only [thenQ, blockQ, jumpQ, stayQ]
    refine vwp_seq ?_
    refine vwp_block ?_
    refine vwp_seq (vwp_region ?_)
    refine vops_go tabOk [] (by simp only [go_sem, getD_map, hz']; rfl) (by first | trivial | (simp; done) | (simp [in64]; omega)) ?_
    refine vops_callS (hc := fun _ => c_ref14_Has out (sortP ps).1[z].name) rfl rfl (by simp only [go_sem, getD_map, hz']; rfl) rfl b_ref14_Has (by simp only [go_sem, List.map, viewV, List.getElem?_cons_zero, List.getElem?_cons_succ]; rw [List.take_of_length_le (by simp)]; exact WkL.refl _) rfl (fun hg => by simp only [go_sem]; try (intros; first | assumption | trivial | simp_all)) ?_
    simp only [go_sem]
    refine vops_go tabOk [] (by simp only [go_sem, getD_map, hz']; rfl) (by first | trivial | (simp; done) | (simp [in64]; omega)) ?_
    refine vops_callS (hc := fun _ => c_ref14_HasAll out (sortP ps).1[z].deps) rfl rfl (by simp only [go_sem, getD_map, hz']; rfl) rfl b_ref14_HasAll (by simp only [go_sem, List.map, viewV, List.getElem?_cons_zero, List.getElem?_cons_succ]; rw [List.take_of_length_le (by simp)]; exact WkL.refl _) rfl (fun hg => by simp only [go_sem]; try (intros; first | assumption | trivial | simp_all)) ?_
    simp only [go_sem]
    refine vops_go tabOk [] (by simp only [go_sem, getD_map, hz']; rfl) (by first | trivial | (simp; done) | (simp [in64]; omega)) ?_
    refine vops_done [0, 5, 6, 7, 47] ?_
    simp only [go_sem, thenQ, blockQ, jumpQ, stayQ]
    refine oB (fun h3 => ?_) fun h3 => ?_
    ·
     have hq : readyQ out (sortP ps).1[z] = true := by unfold readyQ; revert h3; by_cases hc : (sortP ps).1[z].name ∈ out <;> simp [hc]
     refine vwp_reg1 tabOk [] [0, 5, 6, 7] (by simp only [go_sem, getD_map, hz']; rfl) (by first | trivial | (simp; done) | (simp [in64]; omega)) ?_
     try simp only [thenQ, blockQ, jumpQ, stayQ]
     refine vwp_reg1 tabOk [] [0, 5, 6, 7] (by simp only [go_sem]; rfl) (by first | trivial | (simp; done) | (simp [in64]; omega)) ?_
     try simp only [thenQ, blockQ, jumpQ, stayQ]
     exact ⟨z + 1, by omega, by omega, Env.wk_cons (Wk.refl _) (Env.wk_cons (Wk.refl _) (Env.wk_cons (Wk.eq (by rw [find_take hz', hnone]; simp only []; rw [if_pos hq]; rfl)) (Env.wk_cons (Wk.refl _) (Env.wk_nil _)))), by trivial⟩
    ·
     have hq : readyQ out (sortP ps).1[z] = false := by unfold readyQ; revert h3; by_cases hc : (sortP ps).1[z].name ∈ out <;> simp [hc]
     refine vwp_skip ?_
     try simp only [thenQ, blockQ, jumpQ, stayQ]
     refine vwp_reg1 tabOk [] [0, 5, 6, 7] (by simp only [go_sem]; rfl) (by first | trivial | (simp; done) | (simp [in64]; omega)) ?_
     try simp only [thenQ, blockQ, jumpQ, stayQ]
     exact ⟨z + 1, by omega, by omega, Env.wk_cons (Wk.refl _) (Env.wk_cons (Wk.refl _) (Env.wk_cons (Wk.eq (by rw [find_take hz', hnone]; simp only []; rw [if_neg (by simp [hq])]; try (rw [hnone])<;> rfl)) (Env.wk_cons (Wk.refl _) (Env.wk_nil _)))), by trivial⟩
   ·
    have hF : nmO (((sortP ps).1.take z).find? (readyQ out)) = nmO ((sortP ps).1.find? (readyQ out)) := by
     by_cases hzl : z = (sortP ps).1.length
     ·rw [hzl, List.take_length]
     ·have h5 : ¬ nmO (((sortP ps).1.take z).find? (readyQ out)) = [] := by
       have hc : decide ((z : Int) < ((sortP ps).1.length : Int)) = true := by simp; omega
       rw [hc] at h2; simpa using h2
      cases hfz : ((sortP ps).1.take z).find? (readyQ out) with
      | none => rw [hfz] at h5; exact absurd rfl h5
      | some p => rw [find_full hfz]
    rw [hF]
    refine vwp_exit ?_
    simp only [thenQ, blockQ, jumpQ, stayQ, if_true, reduceIte, Nat.reduceEqDiff]
    refine vwp_seq ?_
    refine oR [0, 5, 6, 54] ?_
    refine oB (fun h4 => ?_) fun h4 => ?_
    ·
     have hfp := nmO_none' hs2 (of_decide_eq_true h4)
     refine oR [2, 3] ?_
     refine vwp_ret ?_
     simp only [thenQ, blockQ, jumpQ, stayQ, RetQ, go_sem]
     rw [show orderP ps = ([], 141) from by
      simp only [orderP, hs2]
      rw [ho.stuck h1' hfp]]
     refine ⟨by simp, ?_⟩
     exact Wk.tuple ⟨Wk.nils _, Wk.refl _, trivial⟩
    ·
     obtain ⟨p, hfp⟩ : ∃ p, (sortP ps).1.find? (readyQ out) = some p := by
      cases hc : (sortP ps).1.find? (readyQ out) with
      | none => rw [hc] at h4; exact absurd h4 (by simp [nmO])
      | some p => exact ⟨p, rfl⟩
     rw [hfp]
     refine vwp_skip ?_
     try simp only [thenQ, blockQ, jumpQ, stayQ]
     refine vwp_reg1 tabOk [] [0, 5] (by simp only [go_sem]; rfl) (by first | trivial | (simp; done) | (simp [in64]; omega)) ?_
     try simp only [thenQ, blockQ, jumpQ, stayQ]
     have hlt : out.length < (sortP ps).1.length := h1'
     exact ⟨out ++ [p.name], ho.step hapS h1' hfp, by simp; omega, Env.wk_cons (Wk.refl _) (Env.wk_cons (Wk.eq (by simp)) (Env.wk_nil _)), by simp [cS, nmO]⟩
  ·
   refine vwp_exit ?_
   simp only [thenQ, blockQ, jumpQ, stayQ, if_true, reduceIte, Nat.reduceEqDiff]
   refine vwp_freeze 0 9 1 _ rfl ?_
   simp only [go_sem]
   refine vwp_trim 0 (by simp) (by simp) ?_
   simp only [go_sem, mapE]
   try rw [List.take_of_length_le (by simp)]
   refine oR [2, 3] ?_
   refine vwp_ret ?_
   simp only [thenQ, blockQ, jumpQ, stayQ, RetQ, go_sem]
   refine ⟨by simp, Wk.eq ?_⟩
   have h1' : ¬ out.length < (sortP ps).1.length := by simp at h1; omega
   rw [show orderP ps = (out, 0) from by
    simp only [orderP, hs2]
    rw [ho.done h1']]
def rdN (rem : List Patch) (out : List Str) (n : Str) : Bool := !((pOr rem n).deps.any fun d => !decide (d ∈ out))
theorem lookupZV (ps : List Patch) (n : Str) : (mapGet (mapP ps) n).getD (.agg (cPatch P0)) = .agg (cPatch (pOr ps n)) := by
 rw [mapP, mapGet_map, pOr]
 cases findP ps n <;> rfl
theorem mapDel_mapP {l : List Patch} (h : apartP l) (n : Str) : mapDel (mapP l) n = mapP (l.filter fun p => decide (p.name ≠ n)) := by
 induction l with
 | nil => rfl
 | cons p r ih =>
  have hp := List.pairwise_cons.1 h
  have ih := ih hp.2
  by_cases hn : p.name = n
  ·have hr : r.filter (fun p => decide (p.name ≠ n)) = r := List.filter_eq_self.2 fun q hq => by
    have := hp.1 q hq
    rw [hn] at this
    simpa using fun e => this e.symm
   rw [List.filter_cons, if_neg (by simp [hn]), hr]
   simp [mapP, mapDel, hn]
  ·rw [List.filter_cons, if_pos (by simpa using hn)]
   simp only [mapP] at ih
   simp only [mapP, List.map_cons, mapDel, if_neg hn, ih]
theorem rdN_eq {s ps : List Patch} (hp : s.Perm ps) (ha : apartP s) {out : List Str} {p : Patch} (hm : p ∈ remP s out) : rdN (remP ps out) out p.name = p.deps.all fun d => decide (d ∈ out) := by
 have h1 : findP (remP ps out) p.name = some p := (findP_mem (remP_apart ((apartP_perm hp).1 ha) out)).2 ⟨(remP_perm hp out).mem_iff.1 hm, rfl⟩
 rw [rdN, pOr, h1]
 simp only [Option.getD_some]
 rw [List.not_any_eq_all_not]
 congr 1; funext d; simp
theorem ord_some {s ps : List Patch} (hp : s.Perm ps) (ha : apartP s) {out ks : List Str} (hk : ks = (remP s out).map (·.name)) {i : Nat} (hi : i < ks.length) (h1 : rdN (remP ps out) out ks[i] = true) (h2 : ∀ x ∈ ks.take i, rdN (remP ps out) out x = false) : ∃ p, s.find? (readyQ out) = some p ∧ p.name = ks[i] := by
 subst hk
 rw [List.length_map] at hi
 refine ⟨(remP s out)[i], ?_, by simp⟩
 rw [find_rem]
 refine find_get hi (fun x hx => ?_) ?_
 ·have := h2 x.name (by rw [← List.map_take]; exact List.mem_map.2 ⟨x, hx, rfl⟩)
  rw [rdN_eq hp ha (List.mem_of_mem_take hx)] at this
  exact this
 ·rw [List.getElem_map, rdN_eq hp ha (List.getElem_mem hi)] at h1
  exact h1
theorem ord_none {s ps : List Patch} (hp : s.Perm ps) (ha : apartP s) {out ks : List Str} (hk : ks = (remP s out).map (·.name)) (h : ∀ x ∈ ks, rdN (remP ps out) out x = false) : s.find? (readyQ out) = none := by
 subst hk
 rw [find_rem, List.find?_eq_none]
 intro p hm
 have := h p.name (List.mem_map.2 ⟨p, hm, rfl⟩)
 rw [rdN_eq hp ha hm] at this
 rw [this]; decide
theorem idxF_neg {α : Type} {f : α → Bool} {l : List α} (h : idxF f l < 0) : ∀ x ∈ l, f x = false := by
 have h1 := idxF_nn (f := f) (l := l)
 rw [show decide (0 ≤ idxF f l) = false from by simp; omega] at h1
 intro x hx
 cases hf : f x with
 | false => rfl
 | true => rw [List.any_eq_true.2 ⟨x, hx, hf⟩] at h1; cases h1
theorem idxF_pos {α : Type} {f : α → Bool} {l : List α} (h : ¬ idxF f l < 0) : ∃ i, ∃ hi : i < l.length, idxF f l = (i : Int) ∧ f l[i] = true ∧ ∀ x ∈ l.take i, f x = false := idxF_spec (by omega)
theorem b_closure_Order_1_1 : bodied Go.Proofs.Tryz.prog 50 = true := by rw [bodied, Tryz.func50]; rfl
theorem c_closure_Order_1_1 (out : List Str) (d : Str) : VCalls Go.Proofs.Tryz.prog G 50 [.str d, .ptr 0 0] [.box [.arr 1 out.length], .arr 9 1 (out.map cS)] [] (fun r H => r = .bool (!decide (d ∈ out)) ∧ H = [.box [.arr 1 out.length], .arr 9 1 (out.map cS)]) := by
 refine vcalls_of2 tabOk (rs := _) 2 Tryz.func50 rfl (by simp [Tryz.ntmps50]) rfl (by first | (simp; done) | exact Nat.le_refl _) ?_
 rw [Tryz.ntmps50]
 refine oR [0, 1] ?_
 refine vwp_seq (vwp_region ?_)
 refine oG [] ?_
 refine vops_callS (hc := fun _ => c_slices_Contains_string_string out d) rfl rfl (by simp only [go_sem]; rfl) rfl b_slices_Contains_string_string (by simp only [go_sem, List.map, viewV, List.getElem?_cons_zero, List.getElem?_cons_succ]; rw [List.take_of_length_le (by simp)]; exact WkL.refl _) rfl (fun hg => by simp only [go_sem]; try (intros; first | assumption | trivial | simp_all)) ?_
 simp only [go_sem]
 refine oG [] ?_
 refine vops_done [3] ?_
 simp only [go_sem, thenQ, blockQ, jumpQ, stayQ]
 refine vwp_ret ?_
 try simp only [thenQ, blockQ, jumpQ, stayQ, go_sem]
 refine ⟨by simp, _, _, rfl, by first | trivial | simp, ?_⟩
 first | exact ⟨rfl, rfl⟩ | rfl
theorem c_slices_IndexFunc_string_string_dep (out l : List Str) : VCalls Go.Proofs.Tryz.prog G 48 [.list 1 (l.map cS), .func (.func 50) [] [.ptr 0 0]] [.box [.arr 1 out.length], .arr 9 1 (out.map cS)] [] (fun r H => r = .int .i64 (idxF (fun d => !decide (d ∈ out)) l) ∧ H = [.box [.arr 1 out.length], .arr 9 1 (out.map cS)]) := by
 refine vcalls_know fun hk hK => ?_
 simp only [factsL, facts, maxB, List.length_map] at hk
 refine vcalls_of2 tabOk (rs := _) 2 Tryz.func48 rfl (by simp [Tryz.ntmps48]) rfl (by first | (simp; done) | exact Nat.le_refl _) ?_
 rw [Tryz.ntmps48]
 refine oR [0, 1] ?_
 refine vwp_seq ?_
 refine oR [0, 1, 7, 8] ?_
 refine vwp_block ?_
 refine vwp_loopW (fun i : Nat => [(0, .list 1 (l.map cS)), (1, .func (.func 50) [] [.ptr 0 0]), (7, .int .i64 (l.length : Int)), (8, .int .i64 (i : Int))]) (fun i => [.box [.arr 1 out.length], .arr 9 1 (out.map cS)]) (fun i => i ≤ l.length ∧ ∀ x ∈ l.take i, (fun d => !decide (d ∈ out)) x = false) (fun i => l.length - i) 0 ⟨Nat.zero_le _, by simp⟩ (wC (wC (wC (wC (Env.wk_nil _))))) rfl ?_
 rintro i ⟨hi, hn⟩
 refine oR [0, 1, 7, 8, 9] ?_
 refine vwp_seq ?_
 refine oB (fun h0 => ?_) fun h0 => ?_
 ·
  have h0' : i < l.length := by simp at h0; omega
  refine vwp_skip ?_
  try simp only [thenQ, blockQ, jumpQ, stayQ]
  refine vwp_seq ?_
  refine vwp_block ?_
  refine oR [0, 1, 5, 7, 8] ?_
  refine vwp_seq (vwp_region ?_)
  refine vops_go tabOk [] (by simp only [go_sem]; rfl) (by first | (simp [h0']; done) | (simp [h0', in64]; omega)) ?_
  refine vops_callVH (hc := c_closure_Order_1_1 out (l.getD i [])) rfl (by simp only [go_sem]; rfl) rfl rfl b_closure_Order_1_1 [0, 1] [] [] rfl rfl rfl (by simp only [go_sem]; exact WkL.refl _) (by simp only [go_sem]) ?_
  rintro r0 H0 ⟨rfl, rfl⟩
  simp only [go_sem]
  refine vops_done [0, 1, 5, 7, 8, 16] ?_
  simp only [go_sem, thenQ, blockQ, jumpQ, stayQ]
  refine oB (fun h1 => ?_) fun h1 => ?_
  ·
   refine oR [4] ?_
   refine vwp_ret ?_
   try simp only [thenQ, blockQ, jumpQ, stayQ, go_sem]
   refine ⟨by simp, _, _, rfl, by first | trivial | simp, ?_⟩
   rw [getD_lt h0'] at h1
   rw [idxF_at h0' hn h1]
   rfl
  ·
   refine vwp_skip ?_
   try simp only [thenQ, blockQ, jumpQ, stayQ]
   refine vwp_reg1 tabOk [] [0, 1, 7, 8] (by simp only [go_sem]; rfl) (by first | (simp [h0']; done) | (simp [h0', in64]; omega)) ?_
   try simp only [thenQ, blockQ, jumpQ, stayQ]
   exact ⟨i + 1, ⟨by omega, fun x hx => by rw [take_succ_mem h0'] at hx; rcases hx with hx | rfl; exact hn x hx; rw [getD_lt h0'] at h1; exact h1⟩, by omega, (wC (wC (wC (wC (Env.wk_nil _))))), (by first | rfl | trivial)⟩
 ·
  refine vwp_exit ?_
  simp only [thenQ, blockQ, jumpQ, stayQ, if_true, reduceIte, Nat.reduceEqDiff]
  refine oR [4] ?_
  refine vwp_ret ?_
  try simp only [thenQ, blockQ, jumpQ, stayQ, go_sem]
  refine ⟨by simp, _, _, rfl, by first | trivial | simp, ?_⟩
  have : i = l.length := by simp at h0; omega
  subst this; rw [List.take_length] at hn; rw [idxF_none hn]
  rfl
theorem c_slices_ContainsFunc_string_string_dep (out l : List Str) : VCalls Go.Proofs.Tryz.prog G 27 [.list 1 (l.map cS), .func (.func 50) [] [.ptr 0 0]] [.box [.arr 1 out.length], .arr 9 1 (out.map cS)] [] (fun r H => r = .bool (l.any fun d => !decide (d ∈ out)) ∧ H = [.box [.arr 1 out.length], .arr 9 1 (out.map cS)]) := by
 refine vcalls_of2 tabOk (rs := _) 2 Tryz.func27 rfl (by simp [Tryz.ntmps27]) rfl (by first | (simp; done) | exact Nat.le_refl _) ?_
 rw [Tryz.ntmps27]
 refine oR [0, 1] ?_
 refine vwp_seq (vwp_region ?_)
 refine oG [] ?_
 refine vops_callH (hc := c_slices_IndexFunc_string_string_dep out l) rfl rfl rfl b_slices_IndexFunc_string_string [0, 1] [] [] rfl rfl rfl (by simp only [go_sem]; exact WkL.refl _) (by simp only [go_sem]) ?_
 rintro r0 H0 ⟨rfl, rfl⟩
 simp only [go_sem]
 refine oG [] ?_
 refine vops_done [4] ?_
 simp only [go_sem, thenQ, blockQ, jumpQ, stayQ]
 refine vwp_ret ?_
 try simp only [thenQ, blockQ, jumpQ, stayQ, go_sem]
 refine ⟨by simp, _, _, rfl, by first | trivial | simp, ?_⟩
 rw [← idxF_nn]
 first | exact ⟨rfl, rfl⟩ | rfl
theorem b_closure_Order_1 : bodied Go.Proofs.Tryz.prog 49 = true := by rw [bodied, Tryz.func49]; rfl
theorem c_closure_Order_1 (rem : List Patch) (out : List Str) (n : Str) : VCalls Go.Proofs.Tryz.prog G 49 [.str n, .ptr 0 0, .ptr 1 0] [.box [.map 2], .box [.arr 3 out.length], .map (mapP rem), .arr 9 1 (out.map cS)] [] (fun r H => r = .bool (rdN rem out n) ∧ H = [.box [.map 2], .box [.arr 3 out.length], .map (mapP rem), .arr 9 1 (out.map cS)]) := by
 refine vcalls_of2 tabOk (rs := _) 4 Tryz.func49 rfl (by simp [Tryz.ntmps49]) rfl (by first | (simp; done) | exact Nat.le_refl _) ?_
 rw [Tryz.ntmps49]
 refine oR [0, 1, 2] ?_
 refine vwp_seq (vwp_region ?_)
 refine oG [] ?_
 refine vops_step1 (step_lookupZ (t := 70) (k := 9) (e := 45) (i := 2) (s := n) (z := zeroP) (zv := .agg (cPatch P0)) rel_zeroP rfl (by kernel_rfl) (zero_run (by kernel_rfl)) (by simp only [go_sem]) rfl (by simp only [go_sem])) rfl rfl ?_
 rw [lookupZV]
 simp only [go_sem]
 refine oG [] ?_
 refine vops_callH (hc := c_slices_ContainsFunc_string_string_dep out (pOr rem n).deps) rfl rfl rfl b_slices_ContainsFunc_string_string [1, 3] [] [] rfl rfl rfl (by simp only [go_sem]; exact WkL.refl _) (by simp only [go_sem]) ?_
 rintro r0 H0 ⟨rfl, rfl⟩
 simp only [go_sem]
 refine oG [] ?_
 refine vops_done [4] ?_
 simp only [go_sem, thenQ, blockQ, jumpQ, stayQ]
 refine vwp_ret ?_
 try simp only [thenQ, blockQ, jumpQ, stayQ, go_sem]
 refine ⟨by simp, _, _, rfl, by first | trivial | simp, ?_⟩
 rw [rdN]
 first | exact ⟨rfl, rfl⟩ | rfl
theorem c_slices_IndexFunc_string_string_ord (rem : List Patch) (out ks : List Str) : VCalls Go.Proofs.Tryz.prog G 48 [.list 1 (ks.map cS), .func (.func 49) [] [.ptr 0 0, .ptr 1 0]] [.box [.map 2], .box [.arr 3 out.length], .map (mapP rem), .arr 9 1 (out.map cS)] [] (fun r H => r = .int .i64 (idxF (rdN rem out) ks) ∧ H = [.box [.map 2], .box [.arr 3 out.length], .map (mapP rem), .arr 9 1 (out.map cS)]) := by
 refine vcalls_know fun hk hK => ?_
 simp only [factsL, facts, maxB, List.length_map] at hk
 refine vcalls_of2 tabOk (rs := _) 4 Tryz.func48 rfl (by simp [Tryz.ntmps48]) rfl (by first | (simp; done) | exact Nat.le_refl _) ?_
 rw [Tryz.ntmps48]
 refine oR [0, 1] ?_
 refine vwp_seq ?_
 refine oR [0, 1, 7, 8] ?_
 refine vwp_block ?_
 refine vwp_loopW (fun i : Nat => [(0, .list 1 (ks.map cS)), (1, .func (.func 49) [] [.ptr 0 0, .ptr 1 0]), (7, .int .i64 (ks.length : Int)), (8, .int .i64 (i : Int))]) (fun i => [.box [.map 2], .box [.arr 3 out.length], .map (mapP rem), .arr 9 1 (out.map cS)]) (fun i => i ≤ ks.length ∧ ∀ x ∈ ks.take i, (rdN rem out) x = false) (fun i => ks.length - i) 0 ⟨Nat.zero_le _, by simp⟩ (wC (wC (wC (wC (Env.wk_nil _))))) rfl ?_
 rintro i ⟨hi, hn⟩
 refine oR [0, 1, 7, 8, 9] ?_
 refine vwp_seq ?_
 refine oB (fun h0 => ?_) fun h0 => ?_
 ·
  have h0' : i < ks.length := by simp at h0; omega
  refine vwp_skip ?_
  try simp only [thenQ, blockQ, jumpQ, stayQ]
  refine vwp_seq ?_
  refine vwp_block ?_
  refine oR [0, 1, 5, 7, 8] ?_
  refine vwp_seq (vwp_region ?_)
  refine vops_go tabOk [] (by simp only [go_sem]; rfl) (by first | (simp [h0']; done) | (simp [h0', in64]; omega)) ?_
  refine vops_callVH (hc := c_closure_Order_1 rem out (ks.getD i [])) rfl (by simp only [go_sem]; rfl) rfl rfl b_closure_Order_1 [0, 1, 2, 3] [] [] rfl rfl rfl (by simp only [go_sem]; exact WkL.refl _) (by simp only [go_sem]) ?_
  rintro r0 H0 ⟨rfl, rfl⟩
  simp only [go_sem]
  refine vops_done [0, 1, 5, 7, 8, 16] ?_
  simp only [go_sem, thenQ, blockQ, jumpQ, stayQ]
  refine oB (fun h1 => ?_) fun h1 => ?_
  ·
   refine oR [4] ?_
   refine vwp_ret ?_
   try simp only [thenQ, blockQ, jumpQ, stayQ, go_sem]
   refine ⟨by simp, _, _, rfl, by first | trivial | simp, ?_⟩
   rw [getD_lt h0'] at h1
   rw [idxF_at h0' hn h1]
   rfl
  ·
   refine vwp_skip ?_
   try simp only [thenQ, blockQ, jumpQ, stayQ]
   refine vwp_reg1 tabOk [] [0, 1, 7, 8] (by simp only [go_sem]; rfl) (by first | (simp [h0']; done) | (simp [h0', in64]; omega)) ?_
   try simp only [thenQ, blockQ, jumpQ, stayQ]
   exact ⟨i + 1, ⟨by omega, fun x hx => by rw [take_succ_mem h0'] at hx; rcases hx with hx | rfl; exact hn x hx; rw [getD_lt h0'] at h1; exact h1⟩, by omega, (wC (wC (wC (wC (Env.wk_nil _))))), (by first | rfl | trivial)⟩
 ·
  refine vwp_exit ?_
  simp only [thenQ, blockQ, jumpQ, stayQ, if_true, reduceIte, Nat.reduceEqDiff]
  refine oR [4] ?_
  refine vwp_ret ?_
  try simp only [thenQ, blockQ, jumpQ, stayQ, go_sem]
  refine ⟨by simp, _, _, rfl, by first | trivial | simp, ?_⟩
  have : i = ks.length := by simp at h0; omega
  subst this; rw [List.take_length] at hn; rw [idxF_none hn]
  rfl
theorem c_closure_of_no0 (l : List Patch) (h : l.all patchB = false) : VCalls Go.Proofs.Tryz.prog G 46 [.list 3 (l.map cPatch)] [] [] (fun r H => ∃ es, r = .tuple [.nilmap, .bool false] ∧ H = [.map es]) :=
 vcalls_imp (c_closure_of_s l) fun r H ⟨m, es, h1, h2, h3, _⟩ => ⟨es, by rw [h] at h3; rw [h1, h3, ofB, h]; rfl, h2⟩
theorem c_closure_of_no1 (l : List Patch) (h : l.all patchB = true) (hb : ofB l = false) : VCalls Go.Proofs.Tryz.prog G 46 [.list 3 (l.map cPatch)] [] [] (fun r H => ∃ es, r = .tuple [.map 0, .bool false] ∧ H = [.map es]) :=
 vcalls_imp (c_closure_of_s l) fun r H ⟨m, es, h1, h2, h3, _⟩ => ⟨es, by rw [h] at h3; rw [h1, h3, hb]; rfl, h2⟩
theorem b_closure_Order : bodied Go.Proofs.Tryz.prog 20 = true := by rw [bodied, Tryz.func20]; rfl
theorem c_closure_Order_no0 (ps : List Patch) (h : ps.all patchB = false) : VPure Go.Proofs.Tryz.prog G 20 [.list 3 (ps.map cPatch)] (.tuple [.list 1 [], .int .i64 1]) := by
 refine vpure_of (ts := [2, 3]) Tryz.func20 rfl (by simp [Tryz.ntmps20]) rfl rfl ?_
 rw [Tryz.ntmps20]
 refine vwp_reg tabOk [] [0] (by simp only [go_sem, List.getElem?_nil]; rfl) (by first | trivial | (simp; done) | (simp [in64]; omega)) ?_
 refine vwp_seq (vwp_region ?_)
 refine oL [] ?_
 refine vops_callH (hc := c_closure_of_no0 ps h) rfl rfl rfl b_closure_of [] [] [] rfl rfl rfl (by simp only [go_sem]; exact WkL.refl _) (by simp only [go_sem]) ?_
 rintro r0 H0 ⟨es, rfl, rfl⟩
 simp only [go_sem, List.getElem?_nil]
 refine oL [] ?_
 refine vops_done [4, 5] ?_
 simp only [go_sem, thenQ, blockQ, jumpQ, stayQ]
 refine vwp_seq ?_
 refine vwp_reg tabOk [] [4, 15] (by simp only [go_sem, List.getElem?_nil]; rfl) (by first | trivial | (simp; done) | (simp [in64]; omega)) ?_
 refine oB (fun h0 => ?_) fun h0 => ?_
 ·
  refine vwp_reg tabOk [] [2, 3] (by simp only [go_sem, List.getElem?_nil]; rfl) (by first | trivial | (simp; done) | (simp [in64]; omega)) ?_
  refine vwp_ret ?_
  simp only [thenQ, blockQ, jumpQ, stayQ, RetQ, go_sem]
  refine ⟨by simp, ?_⟩
  exact Wk.tuple ⟨Wk.nils _, Wk.refl _, trivial⟩
 ·
  simp at h0
theorem c_closure_Order_no1 (ps : List Patch) (h : ps.all patchB = true) (hb : ofB ps = false) : VPure Go.Proofs.Tryz.prog G 20 [.list 3 (ps.map cPatch)] (.tuple [.list 1 [], .int .i64 1]) := by
 refine vpure_of (ts := [2, 3]) Tryz.func20 rfl (by simp [Tryz.ntmps20]) rfl rfl ?_
 rw [Tryz.ntmps20]
 refine vwp_reg tabOk [] [0] (by simp only [go_sem, List.getElem?_nil]; rfl) (by first | trivial | (simp; done) | (simp [in64]; omega)) ?_
 refine vwp_seq (vwp_region ?_)
 refine oL [] ?_
 refine vops_callH (hc := c_closure_of_no1 ps h hb) rfl rfl rfl b_closure_of [] [] [] rfl rfl rfl (by simp only [go_sem]; exact WkL.refl _) (by simp only [go_sem]) ?_
 rintro r0 H0 ⟨es, rfl, rfl⟩
 simp only [go_sem, List.getElem?_nil]
 refine oL [] ?_
 refine vops_done [4, 5] ?_
 simp only [go_sem, thenQ, blockQ, jumpQ, stayQ]
 refine vwp_seq ?_
 refine vwp_reg tabOk [] [4, 15] (by simp only [go_sem, List.getElem?_nil]; rfl) (by first | trivial | (simp; done) | (simp [in64]; omega)) ?_
 refine oB (fun h0 => ?_) fun h0 => ?_
 ·
  refine vwp_reg tabOk [] [2, 3] (by simp only [go_sem, List.getElem?_nil]; rfl) (by first | trivial | (simp; done) | (simp [in64]; omega)) ?_
  refine vwp_ret ?_
  simp only [thenQ, blockQ, jumpQ, stayQ, RetQ, go_sem]
  refine ⟨by simp, ?_⟩
  exact Wk.tuple ⟨Wk.nils _, Wk.refl _, trivial⟩
 ·
  simp at h0
set_option maxHeartbeats 4000000 in
theorem c_closure_Order_ok (ps : List Patch) (h : ofB ps = true) : VPure Go.Proofs.Tryz.prog G 20 [.list 3 (ps.map cPatch)] (.tuple [.list 1 ((orderP ps).1.map cS), .int .i64 (orderP ps).2]) := by
 refine vpure_know fun hk => ?_
 obtain ⟨s, hso⟩ := sorted_of h
 obtain ⟨hpm, hup, hap, h256⟩ := sortedP_facts hso
 have haS := apart_perm hpm hap
 have hpn : ∀ p ∈ ps, p.name.length ≤ maxB := fun p hp => by
  have h1 := hk.1.2
  have h2 := facts_map h1 p hp
  simp only [cPatch, factsL, facts] at h2
  exact h2.1
 refine vpure_of (ts := [2, 3]) Tryz.func20 rfl (by simp [Tryz.ntmps20]) rfl rfl ?_
 rw [Tryz.ntmps20]
 refine vwp_reg tabOk [] [0] (by simp only [go_sem, List.getElem?_nil]; rfl) (by first | trivial | (simp; done) | (simp [in64]; omega)) ?_
 refine vwp_seq (vwp_region ?_)
 refine oL [] ?_
 refine vops_callH (hc := c_closure_of_ok ps h) rfl rfl rfl b_closure_of [] [] [] rfl rfl rfl (by simp only [go_sem]; exact WkL.refl _) (by simp only [go_sem]) ?_
 rintro r0 H0 ⟨rfl, rfl⟩
 simp only [go_sem, List.getElem?_nil]
 refine oL [] ?_
 refine vops_done [4, 5] ?_
 simp only [go_sem, thenQ, blockQ, jumpQ, stayQ]
 refine vwp_seq ?_
 refine vwp_reg tabOk [] [4, 15] (by simp only [go_sem, List.getElem?_nil]; rfl) (by first | trivial | (simp; done) | (simp [in64]; omega)) ?_
 refine oB (fun h0 => ?_) fun h0 => ?_
 ·
  simp at h0
 ·
  refine vwp_skip ?_
  try simp only [thenQ, blockQ, jumpQ, stayQ]
  refine vwp_reg tabOk [] [4, 6] (by simp only [go_sem, List.getElem?_nil]; rfl) (by first | trivial | (simp; done) | (simp [in64]; omega)) ?_
  refine vwp_seq ?_
  refine vwp_block ?_
  refine vwp_ownCell 2 0 9 1 _ rfl rfl ?_
  simp only [go_sem]
  refine vwp_loopW (fun out : List Str => [(4, .ptr 1 0), (6, .ptr 2 0)]) (fun out => [.map (mapP (remP ps out)), .box [.map 0], .box [.arr 3 out.length], .arr 9 1 (out.map cS)]) (fun out => OInv s out) (fun out => s.length - out.length) [] (OInv.start _) (wC (wC (Env.wk_nil _))) (by simp [remP_nil]) ?_
  rintro out ho
  refine vwp_seq ?_
  refine vwp_seq (vwp_region ?_)
  refine oL [] ?_
  refine vops_step1 (step_lenMap (t := 70) (k := 9) (e := 45) (i := 0) rfl (by kernel_rfl) (by simp only [go_sem]) rfl) rfl rfl ?_
  simp only [go_sem]
  refine oL [] ?_
  refine vops_done [4, 6, 18] ?_
  simp only [go_sem, thenQ, blockQ, jumpQ, stayQ]
  refine oB (fun h1 => ?_) fun h1 => ?_
  ·
   have hrl := remP_len hap ho.nodup fun n hn => by
    obtain ⟨p, hp, e⟩ := ho.names n hn
    exact ⟨p, hpm.mem_iff.1 hp, e⟩
   have hlS := hpm.length_eq
   have h1' : out.length < s.length := by
    simp [mapP] at h1; omega
   refine vwp_skip ?_
   try simp only [thenQ, blockQ, jumpQ, stayQ]
   refine vwp_block ?_
   refine vwp_seq (vwp_region ?_)
   refine oL [] ?_
   refine vops_callH (hc := c_closure_names_P (mapP (remP ps out)) (by rw [mapP, List.map_map]; exact List.pairwise_map.2 (remP_apart hap out)) (fun x hx => by
 obtain ⟨p, hp, rfl⟩ := List.mem_map.1 hx
 exact hpn p (List.mem_filter.1 hp).1) (by rw [mapP, List.length_map]; exact Nat.le_trans (List.length_filter_le _ _) (by omega))) rfl rfl rfl b_closure_names_P [0] [] [] rfl rfl rfl (by simp only [go_sem]; exact WkL.refl _) (by simp only [go_sem]) ?_
   rintro r1 H1 ⟨⟨ks, hk1, hk2, rfl⟩, rfl⟩
   simp only [go_sem, List.getElem?_nil]
   refine oL [] ?_
   refine vops_done [4, 6, 7] ?_
   simp only [go_sem, thenQ, blockQ, jumpQ, stayQ]
   refine vwp_seq (vwp_region ?_)
   refine oL [] ?_
   refine vops_callH (hc := c_slices_IndexFunc_string_string_ord (remP ps out) out ks) rfl rfl rfl b_slices_IndexFunc_string_string [1, 2, 0, 3] [] [] rfl rfl rfl (by simp only [go_sem]; exact WkL.refl _) (by simp only [go_sem]) ?_
   rintro r2 H2 ⟨rfl, rfl⟩
   simp only [go_sem, List.getElem?_nil]
   refine oL [] ?_
   refine vops_done [4, 6, 7, 8] ?_
   simp only [go_sem, thenQ, blockQ, jumpQ, stayQ]
   refine vwp_seq ?_
   refine vwp_reg tabOk [] [4, 6, 7, 8, 25] (by simp only [go_sem, List.getElem?_nil]; rfl) (by first | trivial | (simp; done) | (simp [in64]; omega)) ?_
   refine oB (fun h2 => ?_) fun h2 => ?_
   ·
    have hks := ready_idx hpm haS hup (by rw [mapP, List.map_map] at hk1; exact hk1) hk2
    have hfp := ord_none hpm haS hks (idxF_neg (of_decide_eq_true h2))
    refine vwp_reg tabOk [] [2, 3] (by simp only [go_sem, List.getElem?_nil]; rfl) (by first | trivial | (simp; done) | (simp [in64]; omega)) ?_
    refine vwp_ret ?_
    simp only [thenQ, blockQ, jumpQ, stayQ, RetQ, go_sem]
    rw [show orderP ps = ([], 141) from by
     simp only [orderP, hso]
     rw [ho.stuck h1' hfp]]
    refine ⟨by simp, ?_⟩
    exact Wk.tuple ⟨Wk.nils _, Wk.refl _, trivial⟩
   ·
    have hks := ready_idx hpm haS hup (by rw [mapP, List.map_map] at hk1; exact hk1) hk2
    obtain ⟨i, hi, hie, hf1, hf2⟩ := idxF_pos (of_decide_eq_false h2)
    rw [hie]
    obtain ⟨p, hfp, hpn2⟩ := ord_some hpm haS hks hi hf1 hf2
    have hgd : ks.getD i [] = p.name := by rw [getD_lt hi, hpn2]
    have hol := ho.len
    refine vwp_skip ?_
    try simp only [thenQ, blockQ, jumpQ, stayQ]
    refine vwp_seq (vwp_drawE3 mixed (by kernel_rfl) 5 6 7 (by decide) [0, 0, 0, 0, 0, 0, 1, 2] (by kernel_rfl) (f0 := ?f0_r10) (f1 := ?f1_r10) (f2 := ?f2_r10) (f3 := ?f3_r10) (H1 := ?H1_r10) (H2 := ?H2_r10) (H3 := ?H3_r10) (g1 := ?g1_r10) (g2 := ?g2_r10) (g3 := ?g3_r10) (v1 := ?v1_r10) (v2 := ?v2_r10) (v3 := ?v3_r10) (by simp only [go_sem]; rfl) (by simp only [go_sem]; rfl) (by simp only [go_sem]; rfl) ?hs0_r10 ?he1_r10 ?hg1_r10 ?hs1_r10 ?hk1_r10 ?hv1_r10 ?he2_r10 ?hg2_r10 ?hs2_r10 ?hk2_r10 ?hv2_r10 ?he3_r10 ?hg3_r10 ?hs3_r10 ?hk3_r10 ?hv3_r10 [4, 6, 7, 8] rfl ?hq_r10)
    case hs0_r10 =>
     refine dstage_go tabOk (by simp only [go_sem, List.getElem?_nil]; rfl) (by first | trivial | (simp [hi]; done) | (simp [hi]; omega)) ?_
     exact dstage_nil
    case he1_r10 =>
     refine effOk_build1e (T := tab) (t := 23) (el := 9) (g := false) (k := 1) (x := .tmp 30) (d := 31) (xs := [[.str (ks.getD i [])]]) tabOk ?_ ?_ ?_ ?_ ?_ ?_ ?_ ?_ ?_
     ·rfl
     ·rfl
     ·rfl
     ·first | (simp only [go_sem]; done) | (simp only [go_sem]; simp)
     ·simp only [go_sem] <;> rfl
     ·simp
     ·rfl
     ·rfl
     ·rfl
    case hg1_r10 => rfl
    case hs1_r10 =>
     refine dstage_go tabOk (by simp only [go_sem, List.getElem?_nil]; rfl) (by first | trivial | (simp [hi]; done) | (simp [hi]; omega)) ?_
     exact dstage_nil
    case hk1_r10 => simp [keptOk, inStage, mapE, go_sem, List.getElem?_nil]
    case hv1_r10 => simp [mapE, go_sem]
    case he2_r10 =>
     refine effOk_app (O := ?O1_r10) tabOk ?h1_r10 ?hO1_r10
     case h1_r10 => simp only [go_sem]; exact rfl
     case hO1_r10 => simp; omega
    case hg2_r10 => rfl
    case hs2_r10 =>
     refine dstage_go tabOk (by simp only [go_sem, List.getElem?_nil]; rfl) (by first | trivial | (simp [hi]; done) | (simp [hi]; omega)) ?_
     exact dstage_nil
    case hk2_r10 => simp [keptOk, inStage, mapE, go_sem, List.getElem?_nil]
    case hv2_r10 => simp [mapE, go_sem]
    case he3_r10 =>
     refine effOk_storee (T := tab) (t := 23) (i := 2) (c := 0) (ad := .tmp 6) (x := .tmp 32) (r := none) (cs := [.undef]) (ty := none) (xs := [.arr 3 (out.length + 1)]) tabOk ?_ ?_ ?_ ?_ ?_ ?_ ?_ ?_ ?_ ?_
     ·rfl
     ·simp only [go_sem]
     ·first | (simp only [go_sem]; done) | (simp only [go_sem]; simp)
     ·first | (simp only [go_sem]; done) | (simp only [go_sem]; simp)
     ·rfl
     ·simp only [go_sem]
     ·simp
     ·rfl
     ·rfl
     ·rfl
    case hg3_r10 => rfl
    case hs3_r10 =>
     refine dstage_gone tabOk rfl (by simp only [go_sem]; rfl) (fun _ => by first | trivial | simp) rfl (by decide) ?_
     refine dstage_go tabOk (by simp only [go_sem, List.getElem?_nil]; rfl) (by first | trivial | (simp [hi]; done) | (simp [hi]; omega)) ?_
     exact dstage_nil
    case hk3_r10 => simp [keptOk, inStage, mapE, go_sem, List.getElem?_nil]
    case hv3_r10 => simp [mapE, go_sem]
    simp only [go_sem, mapE, thenQ, blockQ, jumpQ, stayQ]
    refine vwp_drawE1 mixed (by kernel_rfl) 5 [0, 0, 0, 0, 0, 0] (by kernel_rfl) (f0 := ?f0_r11) (f1 := ?f1_r11) (H1 := ?H1_r11) (g1 := ?g1_r11) (v1 := ?v1_r11) (by simp only [go_sem]; rfl) ?hs0_r11 ?he1_r11 ?hg1_r11 ?hs1_r11 ?hk1_r11 ?hv1_r11 [4, 6] rfl ?hq_r11
    case hs0_r11 =>
     refine dstage_go tabOk (by simp only [go_sem, List.getElem?_nil]; rfl) (by first | trivial | (simp [hi]; done) | (simp [hi]; omega)) ?_
     exact dstage_nil
    case he1_r11 =>
     refine effOk_deletee (t := 70) (k := 9) (e := 45) (m := .tmp 33) (x := .tmp 37) (t2 := 9) (i := 0) (s := ks.getD i []) (es := mapP (remP ps out)) ?_ ?_ ?_ ?_ ?_ ?_ ?_ ?_
     ·rfl
     ·kernel_rfl
     ·simp only [go_sem]
     ·simp only [go_sem]
     ·simp only [go_sem]
     ·rfl
     ·rfl
     ·rfl
    case hg1_r11 => rfl
    case hs1_r11 =>
     refine dstage_go tabOk (by simp only [go_sem, List.getElem?_nil]; rfl) (by first | trivial | (simp [hi]; done) | (simp [hi]; omega)) ?_
     exact dstage_nil
    case hk1_r11 => simp [keptOk, inStage, mapE, go_sem, List.getElem?_nil]
    case hv1_r11 => simp [mapE, go_sem]
    simp only [go_sem, mapE, thenQ, blockQ, jumpQ, stayQ]
    try simp only [thenQ, blockQ, jumpQ, stayQ]
    exact ⟨out ++ [p.name], ho.step haS h1' hfp, by simp; omega, Env.wk_cons (Wk.refl _) (Env.wk_cons (Wk.refl _) (Env.wk_nil _)), by rw [hgd, mapDel_mapP (remP_apart hap out), ← remP_snoc]; simp [cS]⟩
  ·
   have hrl := remP_len hap ho.nodup fun n hn => by
    obtain ⟨p, hp, e⟩ := ho.names n hn
    exact ⟨p, hpm.mem_iff.1 hp, e⟩
   have hlS := hpm.length_eq
   have h1' : ¬ out.length < s.length := by
    simp [mapP] at h1; rw [h1] at hrl; simp at hrl; omega
   refine vwp_exit ?_
   simp only [thenQ, blockQ, jumpQ, stayQ, if_true, reduceIte, Nat.reduceEqDiff]
   refine vwp_freeze 3 9 1 _ rfl ?_
   simp only [go_sem]
   try rw [List.take_of_length_le (by simp)]
   refine vwp_reg tabOk [] [2, 3] (by simp only [go_sem, List.getElem?_nil]; rfl) (by first | trivial | (simp; done) | (simp [in64]; omega)) ?_
   refine vwp_ret ?_
   simp only [thenQ, blockQ, jumpQ, stayQ, RetQ, go_sem]
   refine ⟨by simp, Wk.eq ?_⟩
   rw [show orderP ps = (out, 0) from by
    simp only [orderP, hso]
    rw [ho.done h1']]
theorem orderP_no {ps : List Patch} (h : ofB ps = false) : orderP ps = ([], 1) := by
 have h1 := sortedP_isSome ps
 rw [h] at h1
 rw [orderP, Option.isSome_eq_false_iff.1 h1 |> Option.isNone_iff_eq_none.1]
theorem c_closure_Order (ps : List Patch) : VPure Go.Proofs.Tryz.prog G 20 [.list 3 (ps.map cPatch)] (.tuple [.list 1 ((orderP ps).1.map cS), .int .i64 (orderP ps).2]) := by
 cases h : ofB ps with
 | true => exact c_closure_Order_ok ps h
 | false =>
  rw [orderP_no h]
  cases ha : ps.all patchB with
  | false => exact c_closure_Order_no0 ps ha
  | true => exact c_closure_Order_no1 ps ha h
end Go.Proofs.YtnobnefabagbhaaGreatDoor.Q
end

section
/- slices.Values at strings: its iterator, in the logic 'Q'. -/
namespace Go.Proofs.YtnobnefabagbhaaGreatDoor.Q
open Go Go.Q
theorem iter_valuesS (l : List Str) (hl : l.length ≤ 140737488355328) (J : CInv Nat) (hY : ∀ i (h : i < l.length), RoundJ Go.Proofs.Tryz.prog G J i (.str l[i]) fun b s' => b = true ∧ s' = i + 1)
  {F B : Nat → Prop} {w : World} {bx : Value} (sim : Sim F [.func (.yield J.l) #[] #[], bx] [.dead, .box [.list 1 (l.map cS)]] w) {ms : List Value} (hr : RelL F [.func (.yield J.l) #[] #[], bx] w [.ptr 1 0] ms) (hG : G.G F w) (hJ : J.J 0 F B w)
  (hF : ∀ b, B b → ¬ F b) (hL : ∀ b, B b → ¬ liveBlock [.dead, .box [.list 1 (l.map cS)]] [.func (.yield J.l) #[] #[], bx] b) :
  CallsIn Fence.wide 0 Go.Proofs.Tryz.prog 66 (.func (.yield J.l) #[] #[] :: ms).toArray w fun e w' => ∃ s B' F' v, e = .returned v ∧ s = l.length ∧ J.J s F' B' w' ∧ (∀ b, B' b → ¬ F' b) ∧ (∀ b, F b → F' b) ∧ G.G F' w' ∧ (∀ b, F' b → b < w'.heap.size) ∧
   (∀ b, F' b ∨ B' b → F b ∨ B b ∨ liveBlock [.dead, .box [.list 1 (l.map cS)]] [.func (.yield J.l) #[] #[], bx] b ∨ w.heap.size ≤ b) ∧ Upd (fun b => B b ∨ liveBlock [.dead, .box [.list 1 (l.map cS)]] [.func (.yield J.l) #[] #[], bx] b) w w' := by
 refine iter_of (args := [.ptr 1 0]) (φ := fun s => s = l.length) Tryz.func66 rfl (by simp [Tryz.ntmps66]) rfl ?_ sim hr hG hJ hF hL
 rw [Tryz.ntmps66]
 refine vwpJ_reg tabOk [] [0, 5, 6, 7] (by simp only [go_sem]; rfl) (by first | trivial | (simp; done) | (simp [in64]; omega)) ?_
 refine vwpJ_block ?_
 refine vwpJ_loop (fun i : Nat => [(0, .obj 0), (5, .list 1 (l.map cS)), (6, .int .i64 (l.length : Int)), (7, .int .i64 (i : Int))]) (fun _ => [.dead, .box [.list 1 (l.map cS)]]) (fun i s => s = i ∧ i ≤ l.length) (fun i => l.length - i) 0 ⟨rfl, Nat.zero_le _⟩ (Env.wk_cons (Wk.refl _) (Env.wk_cons (Wk.refl _) (Env.wk_cons (Wk.refl _) (Env.wk_cons (Wk.refl _) (Env.wk_nil _))))) rfl ?_
 rintro i s ⟨rfl, hi⟩
 refine vwpJ_reg tabOk [] [0, 5, 6, 7, 8] (by simp only [go_sem]; rfl) (by first | trivial | (simp; done) | (simp [in64]; omega)) ?_
 refine vwpJ_seq (vwpJ_cond (by simp only [go_sem]; rfl) (fun h0 => ?_) (fun h0 => ?_))
 ·refine vwpJ_skip ?_
  have h0' : s < l.length := by simp at h0; omega
  simp only [thenQ]
  refine vwpJ_seq (vwpJ_block ?_)
  refine vwpJ_reg tabOk [] [0, 4, 5, 6, 7] (by simp only [go_sem, getD_map, h0']; rfl) (by first | trivial | (simp [h0']; done) | (simp [h0']; omega)) ?_
  refine vwpJ_seq (vwpJ_region ?_)
  refine vopsJ_quiet tabOk rfl (by intro c hc; cases hc) rfl (by simp only [go_sem]; rfl) (by first | trivial | simp) ?_
  simp only [go_sem]
  refine vopsJ_quiet tabOk rfl (by intro c hc; cases hc) rfl (by simp only [go_sem]; rfl) (by first | trivial | simp) ?_
  simp only [go_sem]
  refine vopsJ_yield (v := .str l[s]) (φ := fun b s' => b = true ∧ s' = s + 1) rfl rfl rfl (by simp only [go_sem]) (by simp only [go_sem]) (by simp [clean, cleanL, cS]) (hY s h0') ?_
  rintro b s' ⟨rfl, rfl⟩
  simp only [go_sem]
  refine vopsJ_quiet tabOk rfl (by intro c hc; cases hc) rfl (by simp only [go_sem]; rfl) (by first | trivial | simp) ?_
  simp only [go_sem]
  refine vopsJ_done ?_
  simp only [thenQ]
  refine vwpJ_cond (by simp only [go_sem]; rfl) (fun h1 => ?_) (fun h1 => ?_)
  ·exact absurd h1 (by decide)
  ·refine vwpJ_skip ?_
   simp only [thenQ, blockQ]
   refine vwpJ_trim 2 (by omega) ?_
   simp only [go_sem]
   refine vwpJ_reg1 tabOk [] [0, 5, 6, 7] (by simp only [go_sem]; rfl) (by first | trivial | (simp; done) | (simp [in64]; omega)) ?_
   simp only [thenQ]
   exact ⟨s + 1, ⟨rfl, by omega⟩, by omega, Env.wk_cons (Wk.refl _) (Env.wk_cons (Wk.refl _) (Env.wk_cons (Wk.refl _) (Env.wk_cons (Wk.refl _) (Env.wk_nil _)))), by first | trivial | rfl⟩
 ·refine vwpJ_exit ?_
  simp only [thenQ, blockQ, if_true]
  exact ⟨.inl (by first | trivial | rfl), by simp at h0; omega⟩
end Go.Proofs.YtnobnefabagbhaaGreatDoor.Q
end

section
/- slices.AppendSeq at strings, over slices.Values: in the logic 'Q'. -/
namespace Go.Proofs.YtnobnefabagbhaaGreatDoor.Q
open Go Go.Q
theorem c_slices_AppendSeqS (l : List Str) (hl : l.length ≤ 1000000) : VCalls Go.Proofs.Tryz.prog G 97 [.nils, .func (.func 66) [] [.ptr 0 0]] [.box [.list 1 (l.map cS)]] []
  (fun r H => r = .arr 2 l.length ∧ H = [.dead, .box [.arr 2 l.length], .arr 9 1 (l.map cS)]) := by
 refine vcalls_ofT Tryz.func97 rfl (by simp [Tryz.ntmps97]) ?_
 rw [Tryz.ntmps97]
 refine vwpT_seq ?_
 refine vwp_reg1 tabOk [] [1, 2, 4] (by simp only [go_sem]; rfl) (by first | trivial | (simp; done)) ?_
 refine ⟨rfl, ?_⟩
 refine vwpT_then ?_
 refine vwpT_seq ?_
 refine vwp_ownCell 1 0 9 1 _ rfl rfl ?_
 simp only [go_sem]
 refine vwp_reg1 tabOk [] [2, 6] (by simp only [go_sem]; rfl) (by first | trivial | (simp; done)) ?_
 refine ⟨rfl, ?_⟩
 refine vwpT_range (γ := Nat) tabOk (rs := [.tmp 4]) rfl (fun s => [.box [.arr 1 s], .arr 9 1 ((l.take s).map cS)]) 0 [(2, .ptr 0 0)] (fun _ => .ready) (fun _ => none) (fI := 66)
  (cs := [.ptr 0 0]) (csI := [.ptr 1 0]) (HI := [.box [.list 1 (l.map cS)]]) (φ := fun s => s = l.length) [0] [1, 2]
  (by simp only [go_sem]) (by rw [bodied, Tryz.func66]; rfl) rfl rfl (by simp) (by simp) (by decide) (by simp) (by simp) rfl rfl ?_ ?_ ?_ rfl (by intro s _; simp) (by intro s _; exact .inl rfl) ?_ (by intro s _ h; cases h)
 ·exact ⟨Wk.refl _, trivial⟩
 ·intro t
  simp only [Q.get]
  cases h : ((2 : Nat) == t) with
  | true => exact Wk.refl _
  | false => exact Wk.undef _
 ·intro c hcK hcE hcS hcP hps has hbd hsz
  obtain ⟨cl, cD, cfn, ctmps, cps, cas, cbd, cenv, cK, cst, cpd, cne⟩ := c
  simp only at hcK hcE hcS hcP hps has hbd hsz
  subst hcK; subst hcE; subst hcS; subst hcP; subst hps; subst has; subst hbd
  intro F B ρ w ms sim hr hG hJ hBF hBL
  have hlen := sim.len
  simp only [List.length_cons, List.length_nil] at hlen
  obtain ⟨bx, rfl⟩ : ∃ bx, ρ = [bx] := by
   match ρ, hlen with
   | [bx], _ => exact ⟨bx, rfl⟩
  refine iter_valuesS l (by omega) _ ?_ sim hr hG hJ hBF hBL
  intro i hi
  refine round_of (M := [1]) _ 7 rfl rfl rfl (by show 7 < ctmps.size; omega) ?_ ?_ ?_
  ·intro t
   simp only [Q.get]
   cases h : ((2 : Nat) == t) <;> rfl
  ·intro t
   simp only [Q.get]
   cases h : ((2 : Nat) == t) <;> rfl
  ·clear hJ sim hr hBL
   show VWpR cl ⟨_, G, [1], 2, ctmps.size⟩ _ _ [(7, .str l[i]), (2, .ptr 0 0)] [.box [.arr 1 i], .arr 9 1 ((l.take i).map cS)]
   rw [hsz]
   have hli : (l.take i).length = i := by rw [List.length_take]; omega
   refine vwpR_reg1 tabOk [] [2, 5] rfl (fun _ _ h => by cases h.1) (by simp only [go_sem]; rfl) (by first | trivial | (simp; done)) ?_
   refine ⟨rfl, by simp, ?_⟩
   refine vwpR_block ?_
   refine vwpR_reg1 tabOk [] [] rfl (fun _ _ h => by simp [blockQ, endQ] at h) (by simp only [go_sem, hli]; rfl) (by first | trivial | (simp; done) | exact ⟨by omega, by omega, .inl (by simp)⟩) ?_
   refine ⟨i + 1, ⟨rfl, rfl⟩, ?_, rfl, by simp, rfl, rfl⟩
   simp only [trimH, go_sem]
   rw [show (l.take (i + 1)).map cS = (l.take i).map cS ++ [cS l[i]] by rw [List.take_succ_eq_append_getElem hi, List.map_append]; rfl]
   rfl
 ·intro s hs _
  have hs : s = l.length := hs
  subst hs
  refine vops_all tabOk [] [4] (by simp only [go_sem]; rfl) (by first | trivial | (simp; done)) ?_
  refine ⟨rfl, _, _, rfl, ⟨trivial, trivial⟩, rfl, ?_⟩
  have e : (l.take l.length).map cS = l.map cS := by rw [List.take_length]
  rw [e]; rfl
end Go.Proofs.YtnobnefabagbhaaGreatDoor.Q
end

section
/- slices.Sort and slices.Compact at strings, over a slice of the call's own. -/
namespace Go.Proofs.YtnobnefabagbhaaGreatDoor.Q
open Go Go.Q Go.Sort Go.Proofs
theorem strRow {F : Nat → Prop} {w : World} : ∀ {l : List Str} {us : List Value}, RelLL F w 1 (l.map cS) us ↔ us = l.map encStr ∧ ∀ x ∈ l, x.length ≤ maxB
 | [], us => by simp [RelLL]
 | x :: r, us => by
  simp only [List.map_cons, RelLL]
  constructor
  ·rintro ⟨u, t, rfl, _, h3, _, h5⟩
   simp only [cS, RelL, Rel] at h3
   obtain ⟨u0, _, rfl, ⟨rfl, hl⟩, rfl⟩ := h3
   obtain ⟨rfl, h6⟩ := strRow.1 h5
   refine ⟨rfl, fun y hy => ?_⟩
   rcases List.mem_cons.1 hy with rfl | hy
   ·exact hl
   ·exact h6 y hy
  ·rintro ⟨rfl, h⟩
   exact ⟨[encStr x], _, rfl, rfl, by simp only [cS, RelL, Rel, encStr]; exact ⟨_, _, rfl, ⟨rfl, h x (by simp)⟩, rfl⟩, by simp [encStr, Value.oneCell'], strRow.2 ⟨rfl, fun y hy => h y (List.mem_cons_of_mem _ hy)⟩⟩
theorem pr_other {w : World} {g n : Nat} {d : Array Str} {os : Array Go.Obj} {k : Nat} (h : g ≠ k) : (Go.Sort.grow (putRow encStr (Go.Sort.ahead w n) g 0 d) os).heap[k]? = (Go.Sort.grow (Go.Sort.ahead w n) os).heap[k]? := by
 show (w.heap.modify g _ ++ os)[k]? = (w.heap ++ os)[k]?
 by_cases hk : k < w.heap.size
 ·rw [Array.getElem?_append_left (by simpa using hk), Array.getElem?_append_left hk]
  simp [Array.getElem?_modify, h]
 ·rw [Array.getElem?_append_right (by simpa using Nat.not_lt.1 hk), Array.getElem?_append_right (Nat.not_lt.1 hk)]
  simp
theorem pr_at {w : World} {g n : Nat} {d : Array Str} {os : Array Go.Obj} {cur : Array Value} {e : TypeId} (hg : w.heap[g]? = some (.cells cur e (0, 0))) : (Go.Sort.grow (putRow encStr (Go.Sort.ahead w n) g 0 d) os).heap[g]? = some (.cells (putCells encStr 0 d cur) e (0, 0)) := by
 have hlt : g < w.heap.size := (Array.getElem?_eq_some_iff.1 hg).1
 show (w.heap.modify g _ ++ os)[g]? = _
 rw [Array.getElem?_append_left (by simpa using hlt)]
 simp [Array.getElem?_modify, hg, onCells]
theorem putS_take (d : List Str) (cur : Array Value) (h : d.length ≤ cur.size) : (putCells encStr 0 d.toArray cur).toList.take d.length = d.map encStr := by
 apply List.ext_getElem?
 intro j
 by_cases hj : j < d.length
 ·rw [List.getElem?_take, if_pos hj, Array.getElem?_toList]
  unfold putCells
  rw [Array.getElem?_mapIdx, Array.getElem?_eq_getElem (show j < cur.size by omega)]
  simp [hj]
 ·rw [List.getElem?_eq_none (by simp; omega), List.getElem?_eq_none (by simp; omega)]
theorem vcalls_row {f : FuncId} {l l' : List Str} {r : V} {mr : Nat → Nat → Value} (hne : l ≠ []) (hlen : l'.length = l.length) (hsub : ∀ x ∈ l', x ∈ l ∨ x = [])
  (hr : ∀ (g cap : Nat) (F : Nat → Prop) (ρ : List Value) (w : World), ρ[0]? = some (.slice (some ⟨g, 0, none⟩) l.length cap) → Rel F ρ w r (mr g cap))
  (hC : ∀ (g cap : Nat) (w : World), Holds encStr w g 0 l.toArray → g < w.heap.size → l.length ≤ cap → l.length ≤ maxB → Calls Go.Proofs.Tryz.prog f #[.slice (some ⟨g, 0, none⟩) l.length cap] w fun e w' => e = .returned (mr g cap) ∧ ∃ n os, w' = Go.Sort.grow (putRow encStr (Go.Sort.ahead w n) g 0 l'.toArray) os) :
  VCalls Go.Proofs.Tryz.prog G f [.arr 0 l.length] [.arr 9 1 (l.map cS)] [] (fun r' H => r' = r ∧ H = [.arr 9 1 (l'.map cS)]) := by
 intro F ρ w ms sim hrl hG
 simp only [RelL, Rel] at hrl
 obtain ⟨u, t, rfl, ⟨a, m, c, hρ, rfl, hle⟩, rfl⟩ := hrl
 obtain ⟨us, c', a', hh, hown, hll, hB⟩ := sim.obj 0 _ _ rfl hρ
 injection hh with ha hm hc; subst ha; subst hm; subst hc
 rw [List.length_map] at hown hle hρ hB
 obtain ⟨rfl, hmb⟩ := strRow.1 hll
 rcases hown.2 with ⟨hn, hz⟩ | ⟨g, cap, cur, hv, _, hg, hnc, hcm, hcs, htk⟩
 ·exact absurd (List.length_eq_zero_iff.1 hz) hne
 ·simp only [Value.slice.injEq] at hv
  obtain ⟨rfl, _, rfl⟩ := hv
  have hgl : g < w.heap.size := (Array.getElem?_eq_some_iff.1 hg).1
  have hH : Holds encStr w g 0 l.toArray := by
   intro j hj
   have hj' : j < l.length := by simpa using hj
   constructor
   ·have h2 := hown.cells (g := g) rfl j (encStr l[j]) (by simp [hj'])
    rw [add_spot rfl] at h2
    rw [getElem!_pos l.toArray j hj]
    exact h2
   ·simp [World.frozen?, hg]
  refine Calls.mono (hC g c w hH hgl hnc hB) ?_
  rintro e w' ⟨rfl, n, os, rfl⟩
  have st := st_of_sim Go.Proofs.Tryz.prog G [] sim hG
  have hbelow : RowKit.Below w.heap.size w (Go.Sort.grow (Go.Sort.ahead w n) os) := ⟨rfl, rfl, rfl, by show w.heap.size ≤ (w.heap ++ os).size; simp, fun k hk => grow_at hk⟩
  have st1 := st.grow (F' := F) hbelow (fun _ h => h) (fun _ h => .inl h) (fun b hb => Nat.lt_of_lt_of_le (sim.alloc b hb) hbelow.size)
  have hl3 : l'.length ≤ cur.size := by rw [hcs, hlen]; omega
  have hmb' : ∀ x ∈ l', x.length ≤ maxB := fun x hx => by
   rcases hsub x hx with h | rfl
   ·exact hmb x h
   ·exact Nat.zero_le _
  have st2 := st1.setObj (w' := Go.Sort.grow (putRow encStr (Go.Sort.ahead w n) g 0 l'.toArray) os) (i := 0) (o' := .arr 9 1 (l'.map cS)) rfl rfl hρ rfl rfl rfl
   (by show (w.heap.modify g _ ++ os).size = (w.heap ++ os).size; simp) (fun b2 hb2 => pr_other fun e => hb2 (by rw [← e]; rfl))
   ⟨l'.map encStr, c, some ⟨g, 0, none⟩, by simp [hlen], ⟨by simp, .inr ⟨g, c, _, by simp [hlen], Nat.zero_le _, pr_at hg, by simpa [hlen] using hnc, hcm, by rw [← hcs]; simp [putCells], by
    simp only [List.length_map, Nat.mul_one]
    exact putS_take l' cur hl3⟩⟩, strRow.2 ⟨rfl, hmb'⟩, by simpa [hlen] using hB⟩
  refine ⟨F, ρ, _, r, _, rfl, ⟨rfl, rfl⟩, hr _ _ _ _ _ hρ, st2.sim, st2.evol⟩
def sortS (l : List Str) : List Str := l.mergeSort fun x y => decide (x ≤ y)
theorem sortS_perm (l : List Str) : (sortS l).Perm l := List.mergeSort_perm l _
theorem sortS_le (l : List Str) : (sortS l).Pairwise (· ≤ ·) := by
 have tr : ∀ a b c : List UInt8, decide (a ≤ b) = true → decide (b ≤ c) = true → decide (a ≤ c) = true := fun a b c h1 h2 => by simp only [decide_eq_true_eq] at *; exact List.le_trans h1 h2
 have to : ∀ a b : List UInt8, (decide (a ≤ b) || decide (b ≤ a)) = true := fun a b => by simp only [Bool.or_eq_true, decide_eq_true_eq]; exact List.le_total a b
 exact (List.pairwise_mergeSort tr to l).imp fun h => of_decide_eq_true h
theorem c_Sort_str (l : List Str) (hl : l.length ≤ 1000000000) : VCalls Go.Proofs.Tryz.prog G 65 [.arr 0 l.length] [.arr 9 1 (l.map cS)] [] (fun r H => r = .tuple [] ∧ H = [.arr 9 1 ((sortS l).map cS)]) := by
 by_cases h : l = []
 ·subst h
  rw [show sortS [] = [] by simp [sortS]]
  intro F ρ w ms sim hrl hG
  simp only [RelL, Rel] at hrl
  obtain ⟨u, t, rfl, ⟨a, m, c, hρ, rfl, hle⟩, rfl⟩ := hrl
  refine (Tryz.slices_Sort_string_none a c w).mono ?_
  rintro e w' ⟨rfl, rfl⟩
  exact ⟨F, ρ, _, .tuple [], _, rfl, ⟨rfl, rfl⟩, by simp [Rel, RelL], sim, evol_refl _ _ _ _ _⟩
 ·exact vcalls_row (mr := fun _ _ => .tuple #[]) h (sortS_perm l).length_eq (fun x hx => .inl ((sortS_perm l).mem_iff.1 hx)) (fun _ _ _ _ _ _ => by simp [Rel, RelL]) fun g cap w hH hg _ _ => Tryz.slices_Sort_string g 0 cap l w hH hg (by omega)
theorem mem_compact' {zs : List Str} {x : Str} (h : x ∈ Lib.compact zs) : x ∈ zs := by
 simp only [Lib.compact, Lib.compactUpTo, List.mem_map, List.mem_filter, List.mem_range] at h
 obtain ⟨j, ⟨hj, _⟩, rfl⟩ := h
 rw [getElem!_pos zs.toArray j (by simpa using hj)]
 simp
theorem c_Compact_str1 (l : List Str) (hl : l.length ≤ 1000000000) (h : l ≠ []) : VCalls Go.Proofs.Tryz.prog G 31 [.arr 0 l.length] [.arr 9 1 (l.map cS)] [] (fun r H => r = .arr 0 (Lib.compact l).length ∧ H = [.arr 9 1 ((Lib.compact l ++ List.replicate (l.length - (Lib.compact l).length) []).map cS)]) := by
 have hc := Lib.compact_length_le l
 refine vcalls_row (r := .arr 0 (Lib.compact l).length) (mr := fun g cap => .slice (some ⟨g, 0, none⟩) (Lib.compact l).length cap) h (by simp; omega) (fun x hx => ?_) (fun g cap F ρ w hρ => ?_) fun g cap w hH hg hcap _ => ?_
 ·rcases List.mem_append.1 hx with hx | hx
  ·exact .inl (mem_compact' hx)
  ·exact .inr (List.eq_of_mem_replicate hx)
 ·simp only [Rel]
  exact ⟨_, _, _, hρ, rfl, hc⟩
 ·refine Calls.mono (Tryz.slices_Compact_string g 0 cap l w hH (by omega) hcap) ?_
  rintro e w' ⟨rfl, q, rfl⟩
  exact ⟨rfl, q, #[], by simp⟩
end Go.Proofs.YtnobnefabagbhaaGreatDoor.Q
end

section
/- Walks of what is asked (the program's exchange.Ask, and the document's), in the logic 'Q'. -/
namespace Go.Proofs.YtnobnefabagbhaaGreatDoor.Q
open Go Go.Q
theorem b_slices_AppendSeq_string_string : bodied Go.Proofs.Tryz.prog 97 = true := by rw [bodied, Tryz.func97]; rfl
theorem b_slices_Sort_string_string : bodied Go.Proofs.Tryz.prog 65 = true := by rw [bodied, Tryz.func65]; rfl
theorem b_slices_Values_string_string : bodied Go.Proofs.Tryz.prog 33 = true := by rw [bodied, Tryz.func33]; rfl
theorem c_slices_Values_string_string (l : List Str) : VCalls Go.Proofs.Tryz.prog G 33 [.list 1 (l.map cS)] [] [] (fun r H => r = .func (.func 66) [] [.ptr 0 0] ∧ H = [.box [.list 1 (l.map cS)]]) := by
 refine vcalls_of2 tabOk (rs := _) 1 Tryz.func33 rfl (by simp [Tryz.ntmps33]) rfl (by first | (simp; done) | exact Nat.le_refl _) ?_
 rw [Tryz.ntmps33]
 refine oR [1] ?_
 refine oR [2] ?_
 refine vwp_ret ?_
 try simp only [thenQ, blockQ, jumpQ, stayQ, go_sem]
 refine ⟨by simp, _, _, rfl, by first | trivial | simp, ?_⟩
 first | exact ⟨rfl, rfl⟩ | rfl
theorem b_slices_Collect_string : bodied Go.Proofs.Tryz.prog 64 = true := by rw [bodied, Tryz.func64]; rfl
theorem c_slices_Collect_string (l : List Str) (hl : l.length ≤ 1000000) : VCalls Go.Proofs.Tryz.prog G 64 [.func (.func 66) [] [.ptr 0 0]] [.box [.list 1 (l.map cS)]] [] (fun r H => r = .arr 2 l.length ∧ H = [.dead, .box [.arr 2 l.length], .arr 9 1 (l.map cS)]) := by
 refine vcalls_of2 tabOk (rs := _) 3 Tryz.func64 rfl (by simp [Tryz.ntmps64]) rfl (by first | (simp; done) | exact Nat.le_refl _) ?_
 rw [Tryz.ntmps64]
 refine vwp_reg tabOk [] [0] (by simp only [go_sem, List.getElem?_nil]; rfl) (by first | trivial | (simp; done) | (simp [in64]; omega)) ?_
 refine vwp_seq (vwp_region ?_)
 refine oL [] ?_
 refine vops_callH (hc := c_slices_AppendSeqS l hl) rfl rfl rfl b_slices_AppendSeq_string_string [0] [] [] rfl rfl rfl (by simp only [go_sem]; exact WkL.refl _) (by simp only [go_sem]) ?_
 rintro r0 H0 ⟨rfl, rfl⟩
 simp only [go_sem, List.getElem?_nil]
 refine oL [] ?_
 refine vops_done [2] ?_
 simp only [go_sem, thenQ, blockQ, jumpQ, stayQ]
 refine vwp_ret ?_
 try simp only [thenQ, blockQ, jumpQ, stayQ, go_sem]
 refine ⟨by simp, _, _, rfl, by first | trivial | simp, ?_⟩
 exact ⟨rfl, rfl⟩
theorem b_slices_Sorted_string : bodied Go.Proofs.Tryz.prog 32 = true := by rw [bodied, Tryz.func32]; rfl
theorem c_slices_Sorted_string (l : List Str) (hl : l.length ≤ 1000000) : VCalls Go.Proofs.Tryz.prog G 32 [.func (.func 66) [] [.ptr 0 0]] [.box [.list 1 (l.map cS)]] [] (fun r H => r = .arr 2 (sortS l).length ∧ H = [.dead, .box [.arr 2 (sortS l).length], .arr 9 1 ((sortS l).map cS)]) := by
 refine vcalls_of2 tabOk (rs := _) 3 Tryz.func32 rfl (by simp [Tryz.ntmps32]) rfl (by first | (simp; done) | exact Nat.le_refl _) ?_
 rw [Tryz.ntmps32]
 refine vwp_reg tabOk [] [0] (by simp only [go_sem, List.getElem?_nil]; rfl) (by first | trivial | (simp; done) | (simp [in64]; omega)) ?_
 refine vwp_seq (vwp_region ?_)
 refine oL [] ?_
 refine vops_callH (hc := c_slices_Collect_string l hl) rfl rfl rfl b_slices_Collect_string [0] [] [] rfl rfl rfl (by simp only [go_sem]; exact WkL.refl _) (by simp only [go_sem]) ?_
 rintro r0 H0 ⟨rfl, rfl⟩
 simp only [go_sem, List.getElem?_nil]
 refine oL [] ?_
 refine vops_done [3] ?_
 simp only [go_sem, thenQ, blockQ, jumpQ, stayQ]
 refine vwp_seq (vwp_region ?_)
 refine oL [] ?_
 refine vops_callH (hc := c_Sort_str l (by omega)) rfl rfl rfl b_slices_Sort_string_string [2] [] [] rfl rfl rfl (by simp only [go_sem]; exact WkL.refl _) (by simp only [go_sem]) ?_
 rintro r1 H1 ⟨rfl, rfl⟩
 simp only [go_sem, List.getElem?_nil]
 refine vops_done [3] ?_
 simp only [go_sem, thenQ, blockQ, jumpQ, stayQ]
 refine vwp_reg tabOk [] [2] (by simp only [go_sem, List.getElem?_nil]; rfl) (by first | trivial | (simp; done) | (simp [in64]; omega)) ?_
 refine vwp_ret ?_
 try simp only [thenQ, blockQ, jumpQ, stayQ, go_sem]
 refine ⟨by simp, _, _, rfl, by first | trivial | simp, ?_⟩
 rw [(sortS_perm l).length_eq]
 exact ⟨rfl, rfl⟩
theorem b_Compact_nil : bodied Go.Proofs.Tryz.prog 31 = true := by rw [bodied, Tryz.func31]; rfl
theorem c_Compact_nil  : VCalls Go.Proofs.Tryz.prog G 31 [.arr 0 0] [.arr 9 1 []] [] (fun r H => r = .arr 0 0 ∧ H = [.arr 9 1 []]) := by
 refine vcalls_of2 tabOk (rs := _) 1 Tryz.func31 rfl (by simp [Tryz.ntmps31]) rfl (by first | (simp; done) | exact Nat.le_refl _) ?_
 rw [Tryz.ntmps31]
 refine oR [0] ?_
 refine vwp_seq ?_
 refine oR [0, 8] ?_
 refine oB (fun h0 => ?_) fun h0 => ?_
 ·
  refine oR [2] ?_
  refine vwp_ret ?_
  try simp only [thenQ, blockQ, jumpQ, stayQ, go_sem]
  refine ⟨by simp, _, _, rfl, by first | trivial | simp, ?_⟩
  first | exact ⟨rfl, rfl⟩ | rfl
 ·
  exact absurd h0 (by decide)
theorem c_Compact_str (l : List Str) (hl : l.length ≤ 1000000000) : VCalls Go.Proofs.Tryz.prog G 31 [.arr 0 l.length] [.arr 9 1 (l.map cS)] [] (fun r H => ∃ xs : List Str, r = .arr 0 (Lib.compact l).length ∧ H = [.arr 9 1 ((Lib.compact l ++ xs).map cS)]) := by
 by_cases h : l = []
 ·subst h
  exact vcalls_imp c_Compact_nil fun r H ⟨h1, h2⟩ => ⟨[], h1, h2⟩
 ·exact vcalls_imp (c_Compact_str1 l hl h) fun r H ⟨h1, h2⟩ => ⟨_, h1, h2⟩
def namesP (l : List Patch) : List Str := l.map (·.name)
theorem namesP_take {l : List Patch} {i : Nat} (hi : i < l.length) : namesP (l.take (i + 1)) = namesP (l.take i) ++ [l[i].name] := by
 rw [namesP, List.take_succ_eq_append_getElem hi, List.map_append]; rfl
theorem b_exchange_names : bodied Go.Proofs.Tryz.prog 34 = true := by rw [bodied, Tryz.func34]; rfl
theorem c_exchange_names (l : List Patch) (hl : l.length ≤ 1000000000) : VPure Go.Proofs.Tryz.prog G 34 [.list 3 (l.map cPatch)] (.list 1 ((namesP l).map cS)) := by
 refine vpure_know fun hk => ?_
 simp only [factsL, facts, maxB, List.length_map] at hk
 refine vpure_of (ts := [2]) Tryz.func34 rfl (by simp [Tryz.ntmps34]) rfl rfl ?_
 rw [Tryz.ntmps34]
 refine oR [0] ?_
 refine oR [0, 3] ?_
 refine vwp_seq ?_
 refine oR [3, 6, 7, 8] ?_
 refine vwp_block ?_
 refine vwp_own 3 9 1 rfl ?_
 refine vwp_keep [3, 6, 7, 8] ?_
 simp only [go_sem]
 refine vwp_loopW (fun i : Nat => [(3, .arr 0 (namesP (l.take i)).length), (6, .list 3 (l.map cPatch)), (7, .int .i64 (l.length : Int)), (8, .int .i64 (i : Int))]) (fun i => [.arr 9 1 ((namesP (l.take i)).map cS)]) (fun i => i ≤ l.length) (fun i => l.length - i) 0 (Nat.zero_le _) (wC (wC (wC (wC (Env.wk_nil _))))) rfl ?_
 rintro i hi
 refine oR [3, 6, 7, 8, 9] ?_
 refine vwp_seq ?_
 refine oB (fun h0 => ?_) fun h0 => ?_
 ·
  have h0' : i < l.length := by simp at h0; omega
  refine vwp_skip ?_
  try simp only [thenQ, blockQ, jumpQ, stayQ]
  refine vwp_seq ?_
  refine vwp_block ?_
  refine vwp_reg tabOk [] [3, 5, 6, 7, 8] (by simp only [go_sem, getD_map, h0']; rfl) (by first | trivial | (simp [h0']; done) | (simp [h0']; omega)) ?_
  refine vwp_reg1 tabOk [] [3, 6, 7, 8] (by simp only [go_sem]; rfl) (by first | trivial | (simp [h0', namesP]; done) | (simp [h0', namesP]; omega)) ?_
  try simp only [thenQ, blockQ, jumpQ, stayQ]
  refine vwp_trim 1 (by simp) (by simp) ?_
  simp only [go_sem, mapE]
  refine vwp_reg1 tabOk [] [3, 6, 7, 8] (by simp only [go_sem]; rfl) (by first | trivial | (simp; done) | (simp [in64]; omega)) ?_
  try simp only [thenQ, blockQ, jumpQ, stayQ]
  exact ⟨i + 1, by omega, by omega, Env.wk_cons (Wk.eq (by rw [namesP_take h0']; simp)) (Env.wk_cons (Wk.refl _) (Env.wk_cons (Wk.refl _) (Env.wk_cons (Wk.refl _) (Env.wk_nil _)))), by rw [namesP_take h0']; simp [cS]⟩
 ·
  refine vwp_exit ?_
  simp only [thenQ, blockQ, jumpQ, stayQ, if_true, reduceIte, Nat.reduceEqDiff]
  refine vwp_freeze 0 9 1 _ rfl ?_
  simp only [go_sem]
  refine vwp_trim 0 (by simp) (by simp) ?_
  simp only [go_sem, mapE]
  try rw [List.take_of_length_le (by simp)]
  refine oR [2] ?_
  refine vwp_ret ?_
  simp only [thenQ, blockQ, jumpQ, stayQ, RetQ, go_sem]
  refine ⟨by simp, Wk.eq ?_⟩
  have hi2 : i = l.length := by simp at h0; omega
  rw [hi2, List.take_length]
theorem b_ref21_names : bodied Go.Proofs.Tryz.prog 37 = true := by rw [bodied, Tryz.func37]; rfl
theorem c_ref21_names (l : List Patch) (hl : l.length ≤ 1000000000) : VPure Go.Proofs.Tryz.prog G 37 [.list 3 (l.map cPatch)] (.list 1 ((namesP l).map cS)) := by
 refine vpure_know fun hk => ?_
 simp only [factsL, facts, maxB, List.length_map] at hk
 refine vpure_of (ts := [2]) Tryz.func37 rfl (by simp [Tryz.ntmps37]) rfl rfl ?_
 rw [Tryz.ntmps37]
 refine oR [0] ?_
 refine oR [0, 3] ?_
 refine vwp_seq ?_
 refine oR [0, 3, 4] ?_
 refine vwp_block ?_
 refine vwp_own 3 9 1 rfl ?_
 refine vwp_keep [0, 3, 4] ?_
 simp only [go_sem]
 refine vwp_loopW (fun i : Nat => [(0, .list 3 (l.map cPatch)), (3, .arr 0 (namesP (l.take i)).length), (4, .int .i64 (i : Int))]) (fun i => [.arr 9 1 ((namesP (l.take i)).map cS)]) (fun i => i ≤ l.length) (fun i => l.length - i) 0 (Nat.zero_le _) (wC (wC (wC (Env.wk_nil _)))) rfl ?_
 rintro i hi
 refine vwp_seq ?_
 refine oR [0, 3, 4, 8] ?_
 refine oB (fun h0 => ?_) fun h0 => ?_
 ·
  have h0' : i < l.length := by simp at h0; omega
  refine vwp_skip ?_
  try simp only [thenQ, blockQ, jumpQ, stayQ]
  refine vwp_seq ?_
  refine vwp_block ?_
  refine vwp_reg1 tabOk [] [0, 3, 4] (by simp only [go_sem, getD_map, h0']; rfl) (by first | trivial | (simp [h0', namesP]; done) | (simp [h0', namesP]; omega)) ?_
  try simp only [thenQ, blockQ, jumpQ, stayQ]
  refine vwp_reg1 tabOk [] [0, 3, 4] (by simp only [go_sem]; rfl) (by first | trivial | (simp; done) | (simp [in64]; omega)) ?_
  try simp only [thenQ, blockQ, jumpQ, stayQ]
  exact ⟨i + 1, by omega, by omega, Env.wk_cons (Wk.refl _) (Env.wk_cons (Wk.eq (by rw [namesP_take h0']; simp)) (Env.wk_cons (Wk.refl _) (Env.wk_nil _))), by rw [namesP_take h0']; simp [cS]⟩
 ·
  refine vwp_exit ?_
  simp only [thenQ, blockQ, jumpQ, stayQ, if_true, reduceIte, Nat.reduceEqDiff]
  refine vwp_freeze 0 9 1 _ rfl ?_
  simp only [go_sem]
  refine vwp_trim 0 (by simp) (by simp) ?_
  simp only [go_sem, mapE]
  try rw [List.take_of_length_le (by simp)]
  refine oR [2] ?_
  refine vwp_ret ?_
  simp only [thenQ, blockQ, jumpQ, stayQ, RetQ, go_sem]
  refine ⟨by simp, Wk.eq ?_⟩
  have hi2 : i = l.length := by simp at h0; omega
  rw [hi2, List.take_length]
theorem b_exchange_no : bodied Go.Proofs.Tryz.prog 42 = true := by rw [bodied, Tryz.func42]; rfl
theorem c_exchange_no (e : Int) : VPure Go.Proofs.Tryz.prog G 42 [.int .i64 e] (.agg (cMsg ⟨3, [], [], e, []⟩)) := by
 refine vpure_of2 tabOk (rs := _) Tryz.func42 rfl (by simp [Tryz.ntmps42]) rfl rfl ?_
 rw [Tryz.ntmps42]
 refine oR [0, 2] ?_
 refine oR [2] ?_
 refine vwp_ret ?_
 try simp only [thenQ, blockQ, jumpQ, stayQ, go_sem]
 refine ⟨by simp, _, _, rfl, trivial, ?_⟩
 simp only [go_sem]
 exact Wk.agg ⟨Wk.refl _, Wk.nils _, Wk.nils _, Wk.refl _, Wk.nils _, trivial⟩
theorem b_exchange_Ask_1 : bodied Go.Proofs.Tryz.prog 28 = true := by rw [bodied, Tryz.func28]; rfl
theorem c_exchange_Ask_1 (s : Str) : VPure Go.Proofs.Tryz.prog G 28 [.str s] (.bool (!labelB s)) := by
 refine vpure_of (ts := [2]) Tryz.func28 rfl (by simp [Tryz.ntmps28]) rfl rfl ?_
 rw [Tryz.ntmps28]
 refine oR [0] ?_
 refine vwp_seq (vwp_region ?_)
 refine oG [] ?_
 refine oC (fun _ => c_named_Label s) b_named_Label ?_
 simp only [go_sem]
 refine oG [] ?_
 refine vops_done [2] ?_
 simp only [go_sem, thenQ, blockQ, jumpQ, stayQ]
 refine vwp_ret ?_
 simp only [thenQ, blockQ, jumpQ, stayQ, RetQ, go_sem]
 refine ⟨by simp, Wk.eq ?_⟩
 rfl
def geS (a x : Str) : Bool := !Op.bytesLess a x
def insW (x : Str) : List Str → List Str
 | [] => []
 | y :: r => if geS y x then (if strGt y x then [x] else []) ++ y :: r else y :: insW x r
def insF (x : Str) (acc : List Str) : List Str := if acc.any (fun y => geS y x) then insW x acc else acc ++ [x]
def risR : List Str → List Str → List Str
 | acc, [] => acc
 | acc, x :: r => risR (insF x acc) r
theorem insW_none {x : Str} : ∀ {l : List Str}, l.any (fun y => geS y x) = false → insW x l = l
 | [], _ => rfl
 | y :: r, h => by
  simp only [List.any_cons, Bool.or_eq_false_iff] at h
  rw [insW, if_neg (by simp [h.1]), insW_none h.2]
theorem insW_snoc {x y : Str} : ∀ (l : List Str), insW x (l ++ [y]) = if l.any (fun y => geS y x) then insW x l ++ [y] else l ++ insW x [y]
 | [] => rfl
 | z :: r => by
  have ih := insW_snoc (x := x) (y := y) r
  simp only [List.cons_append, insW]
  by_cases hz : geS z x = true
  ·rw [if_pos (show ((z :: r).any fun y => geS y x) = true by simp [hz])]; simp only [if_pos hz]; simp
  ·rw [show ((z :: r).any fun y => geS y x) = (r.any fun y => geS y x) by simp [hz]]
   simp only [if_neg hz, ih]
   split <;> simp [insW]
theorem insW_le (x : Str) : ∀ (l : List Str), (insW x l).length ≤ l.length + 1
 | [] => by simp [insW]
 | y :: r => by
  have ih := insW_le x r
  rw [insW]
  split
  ·split <;> simp
  ·simp; omega
theorem insF_le (x : Str) (l : List Str) : (insF x l).length ≤ l.length + 1 := by
 have := insW_le x l
 unfold insF
 split <;> simp; omega
theorem take_getD {l : List Str} {z : Nat} (hz : z < l.length) : l.take (z + 1) = l.take z ++ [l.getD z []] := by
 rw [List.take_succ_eq_append_getElem hz, getD_lt hz]
theorem anyS_take (f : Str → Bool) {l : List Str} {z : Nat} (hz : z < l.length) : (l.take (z + 1)).any f = ((l.take z).any f || f (l.getD z [])) := by
 rw [take_getD hz, List.any_append]; simp
theorem risW0 {x : Str} {acc : List Str} {z : Nat} (hz : z < acc.length) (h2 : (bif !(acc.take z).any fun q => geS q x then !Op.bytesLess (acc.getD z []) x else false) = true) (h3 : (!(Op.bytesLess (acc.getD z []) x || decide (acc.getD z [] = x))) = true) :
  insW x (acc.take (z + 1)) = insW x (acc.take z) ++ [x] ++ [acc.getD z []] ∧ ((acc.take (z + 1)).any fun q => geS q x) = true := by
 rw [anyS_take _ hz, take_getD hz, insW_snoc]
 cases ha : (acc.take z).any fun q => geS q x with
 | true => rw [ha] at h2; simp at h2
 | false =>
  rw [ha] at h2
  have hg : geS (acc.getD z []) x = true := h2
  have hs : strGt (acc.getD z []) x = true := h3
  rw [insW_none ha]
  simp only [Bool.false_eq_true, if_false, insW, hg, hs, if_true]
  simp
theorem risW1 {x : Str} {acc : List Str} {z : Nat} (hz : z < acc.length) (h2 : (bif !(acc.take z).any fun q => geS q x then !Op.bytesLess (acc.getD z []) x else false) = true) (h3 : (!(Op.bytesLess (acc.getD z []) x || decide (acc.getD z [] = x))) = false) :
  insW x (acc.take (z + 1)) = insW x (acc.take z) ++ [acc.getD z []] ∧ ((acc.take (z + 1)).any fun q => geS q x) = true := by
 rw [anyS_take _ hz, take_getD hz, insW_snoc]
 cases ha : (acc.take z).any fun q => geS q x with
 | true => rw [ha] at h2; simp at h2
 | false =>
  rw [ha] at h2
  have hg : geS (acc.getD z []) x = true := h2
  have hs : strGt (acc.getD z []) x = false := h3
  rw [insW_none ha]
  simp only [Bool.false_eq_true, if_false, insW, hg, hs, if_true]
  simp
theorem risW2 {x : Str} {acc : List Str} {z : Nat} (hz : z < acc.length) (h2 : (bif !(acc.take z).any fun q => geS q x then !Op.bytesLess (acc.getD z []) x else false) = false) :
  insW x (acc.take (z + 1)) = insW x (acc.take z) ++ [acc.getD z []] ∧ ((acc.take (z + 1)).any fun q => geS q x) = (acc.take z).any fun q => geS q x := by
 rw [anyS_take _ hz, take_getD hz, insW_snoc]
 cases ha : (acc.take z).any fun q => geS q x with
 | true => simp
 | false =>
  rw [ha] at h2
  have hg : geS (acc.getD z []) x = false := h2
  rw [insW_none ha]
  simp only [Bool.false_eq_true, if_false, insW, hg]
  simp
theorem b_ref21_Rising : bodied Go.Proofs.Tryz.prog 36 = true := by rw [bodied, Tryz.func36]; rfl
set_option maxHeartbeats 4000000 in
theorem c_ref21_Rising (l : List Str) (hl : l.length ≤ 1000000) : VPure Go.Proofs.Tryz.prog G 36 [.list 1 (l.map cS)] (.list 1 ((risR [] l).map cS)) := by
 refine vpure_know fun hk => ?_
 simp only [factsL, facts, maxB, List.length_map] at hk
 refine vpure_of (ts := [2]) Tryz.func36 rfl (by simp [Tryz.ntmps36]) rfl rfl ?_
 rw [Tryz.ntmps36]
 refine oR [0] ?_
 refine oR [0, 3] ?_
 refine vwp_seq ?_
 refine oR [0, 3, 4] ?_
 refine vwp_block ?_
 refine vwp_loopW (fun y : Nat × List Str => [(0, .list 1 (l.map cS)), (3, .list 1 (y.2.map cS)), (4, .int .i64 (y.1 : Int))]) (fun y => []) (fun y => y.1 ≤ l.length ∧ risR [] l = risR y.2 (l.drop y.1) ∧ y.2.length ≤ y.1) (fun y => l.length - y.1) (0, []) ⟨Nat.zero_le _, rfl, Nat.le_refl _⟩ (wC (wC (wC (Env.wk_nil _)))) rfl ?_
 rintro y ⟨hi, hs, hle⟩
 refine vwp_seq ?_
 refine oR [0, 3, 4, 11] ?_
 refine oB (fun h0 => ?_) fun h0 => ?_
 ·
  have h0' : y.1 < l.length := by simp at h0; omega
  refine vwp_skip ?_
  try simp only [thenQ, blockQ, jumpQ, stayQ]
  refine vwp_seq ?_
  refine vwp_block ?_
  refine oR [0, 3, 4, 5] ?_
  refine oR [0, 3, 4, 5, 6] ?_
  refine vwp_seq ?_
  refine oR [0, 3, 4, 5, 6, 7] ?_
  refine vwp_block ?_
  refine vwp_own 5 9 1 rfl ?_
  refine vwp_keep [0, 3, 4, 5, 6, 7] ?_
  simp only [go_sem]
  refine vwp_loopW (fun z : Nat => [(0, .list 1 (l.map cS)), (3, .list 1 (y.2.map cS)), (4, .int .i64 (y.1 : Int)), (5, .arr 0 (insW (l.getD y.1 []) (y.2.take z)).length), (6, .bool ((y.2.take z).any fun q => geS q (l.getD y.1 []))), (7, .int .i64 (z : Int))]) (fun z => [.arr 9 1 ((insW (l.getD y.1 []) (y.2.take z)).map cS)]) (fun z => z ≤ y.2.length) (fun z => y.2.length - z) 0 (Nat.zero_le _) (wC (wC (wC (wC (wC (wC (Env.wk_nil _))))))) rfl ?_
  rintro z hz
  refine vwp_seq ?_
  refine oR [0, 3, 4, 5, 6, 7, 17] ?_
  refine oB (fun h1 => ?_) fun h1 => ?_
  ·
   have h1' : z < y.2.length := by simp at h1; omega
   have hB := insW_le (l.getD y.1 []) (y.2.take z)
   rw [List.length_take, Nat.min_eq_left (by omega)] at hB
   have hB2 := hB
   rw [getD_lt h0'] at hB2
   refine vwp_skip ?_
   try simp only [thenQ, blockQ, jumpQ, stayQ]
   refine vwp_seq ?_
   refine vwp_block ?_
   refine vwp_seq ?_
   refine vwp_seq (vwp_drawD mixed (by kernel_rfl) (eF := ?_) ?_ [0, 3, 4, 5, 6, 7, 32] rfl ?_)
   rotate_left
   ·
    refine dall_go tabOk (by simp only [go_sem]; rfl) (by first | trivial | (simp [h0', h1']; done) | (simp [h0', h1']; omega)) ?_
    exact dall_nil
   simp only [go_sem, thenQ, blockQ, jumpQ, stayQ]
   refine oB (fun h2 => ?_) fun h2 => ?_
   ·
    refine vwp_seq ?_
    refine vwp_seq (vwp_drawD mixed (by kernel_rfl) (eF := ?_) ?_ [0, 3, 4, 5, 7, 41] rfl ?_)
    rotate_left
    ·
     refine dall_go tabOk (by simp only [go_sem]; rfl) (by first | trivial | (simp [h0', h1']; done) | (simp [h0', h1']; omega)) ?_
     exact dall_nil
    simp only [go_sem, thenQ, blockQ, jumpQ, stayQ]
    refine oB (fun h3 => ?_) fun h3 => ?_
    ·
     refine vwp_reg1 tabOk [] [0, 3, 4, 5, 7] (by simp only [go_sem]; rfl) (by first | trivial | (simp [h0', h1', hB]; done) | (simp [h0', h1']; omega)) ?_
     try simp only [thenQ, blockQ, jumpQ, stayQ]
     refine vwp_reg1 tabOk [] [0, 3, 4, 5, 6, 7] (by simp only [go_sem]; rfl) (by first | trivial | (simp; done) | (simp [in64]; omega)) ?_
     try simp only [thenQ, blockQ, jumpQ, stayQ]
     refine vwp_reg1 tabOk [] [0, 3, 4, 5, 6, 7] (by simp only [go_sem]; rfl) (by first | trivial | (simp [h0', h1', hB]; done) | (simp [h0', h1']; omega)) ?_
     try simp only [thenQ, blockQ, jumpQ, stayQ]
     refine vwp_reg1 tabOk [] [0, 3, 4, 5, 6, 7] (by simp only [go_sem]; rfl) (by first | trivial | (simp; done) | (simp [in64]; omega)) ?_
     try simp only [thenQ, blockQ, jumpQ, stayQ]
     obtain ⟨e1, e2⟩ := risW0 h1' h2 h3
     exact ⟨z + 1, by omega, by omega, Env.wk_cons (Wk.refl _) (Env.wk_cons (Wk.refl _) (Env.wk_cons (Wk.refl _) (Env.wk_cons (Wk.eq (by rw [e1]; simp)) (Env.wk_cons (Wk.eq (by rw [e2])) (Env.wk_cons (Wk.refl _) (Env.wk_nil _)))))), by rw [e1]; simp [cS]⟩
    ·
     refine vwp_skip ?_
     try simp only [thenQ, blockQ, jumpQ, stayQ]
     refine vwp_reg1 tabOk [] [0, 3, 4, 5, 6, 7] (by simp only [go_sem]; rfl) (by first | trivial | (simp; done) | (simp [in64]; omega)) ?_
     try simp only [thenQ, blockQ, jumpQ, stayQ]
     refine vwp_reg1 tabOk [] [0, 3, 4, 5, 6, 7] (by simp only [go_sem]; rfl) (by first | trivial | (simp [h0', h1', hB]; done) | (simp [h0', h1']; omega)) ?_
     try simp only [thenQ, blockQ, jumpQ, stayQ]
     refine vwp_reg1 tabOk [] [0, 3, 4, 5, 6, 7] (by simp only [go_sem]; rfl) (by first | trivial | (simp; done) | (simp [in64]; omega)) ?_
     try simp only [thenQ, blockQ, jumpQ, stayQ]
     obtain ⟨e1, e2⟩ := risW1 h1' h2 h3
     exact ⟨z + 1, by omega, by omega, Env.wk_cons (Wk.refl _) (Env.wk_cons (Wk.refl _) (Env.wk_cons (Wk.refl _) (Env.wk_cons (Wk.eq (by rw [e1]; simp)) (Env.wk_cons (Wk.eq (by rw [e2])) (Env.wk_cons (Wk.refl _) (Env.wk_nil _)))))), by rw [e1]; simp [cS]⟩
   ·
    refine vwp_skip ?_
    try simp only [thenQ, blockQ, jumpQ, stayQ]
    refine vwp_reg1 tabOk [] [0, 3, 4, 5, 6, 7] (by simp only [go_sem]; rfl) (by first | trivial | (simp [h0', h1', hB]; done) | (simp [h0', h1']; omega)) ?_
    try simp only [thenQ, blockQ, jumpQ, stayQ]
    refine vwp_reg1 tabOk [] [0, 3, 4, 5, 6, 7] (by simp only [go_sem]; rfl) (by first | trivial | (simp; done) | (simp [in64]; omega)) ?_
    try simp only [thenQ, blockQ, jumpQ, stayQ]
    obtain ⟨e1, e2⟩ := risW2 h1' h2
    exact ⟨z + 1, by omega, by omega, Env.wk_cons (Wk.refl _) (Env.wk_cons (Wk.refl _) (Env.wk_cons (Wk.refl _) (Env.wk_cons (Wk.eq (by rw [e1]; simp)) (Env.wk_cons (Wk.eq (by rw [e2])) (Env.wk_cons (Wk.refl _) (Env.wk_nil _)))))), by rw [e1]; simp [cS]⟩
  ·
   have hze : z = y.2.length := by simp at h1; omega
   subst hze
   rw [List.take_length]
   have hB := insW_le (l.getD y.1 []) y.2
   have hB2 := hB
   rw [getD_lt h0'] at hB2
   refine vwp_exit ?_
   simp only [thenQ, blockQ, jumpQ, stayQ, if_true, reduceIte, Nat.reduceEqDiff]
   refine vwp_seq ?_
   refine oR [0, 4, 5, 57] ?_
   refine oB (fun h4 => ?_) fun h4 => ?_
   ·
    have hF : insF (l.getD y.1 []) y.2 = insW (l.getD y.1 []) y.2 ++ [(l.getD y.1 [])] := by
     have ha : (y.2.any fun q => geS q (l.getD y.1 [])) = false := by simpa using h4
     rw [insF, ha, insW_none ha]; rfl
    refine vwp_reg1 tabOk [] [0, 4, 5] (by simp only [go_sem]; rfl) (by first | trivial | (simp [h0']; done) | (simp [h0']; omega)) ?_
    try simp only [thenQ, blockQ, jumpQ, stayQ]
    refine vwp_freeze 0 9 1 _ rfl ?_
    simp only [go_sem]
    refine vwp_trim 0 (by simp) (by simp) ?_
    simp only [go_sem, mapE]
    rw [List.take_of_length_le (by simp)]
    refine vwp_reg1 tabOk [] [0, 3, 4] (by simp only [go_sem]; rfl) (by first | trivial | (simp; done) | (simp [in64]; omega)) ?_
    try simp only [thenQ, blockQ, jumpQ, stayQ]
    refine vwp_reg1 tabOk [] [0, 3, 4] (by simp only [go_sem]; rfl) (by first | trivial | (simp; done) | (simp [in64]; omega)) ?_
    try simp only [thenQ, blockQ, jumpQ, stayQ]
    exact ⟨(y.1 + 1, insF (l.getD y.1 []) y.2), ⟨by simp only []; omega, by simp only []; rw [hs, List.drop_eq_getElem_cons h0', risR, getD_lt h0'], by have := insF_le (l.getD y.1 []) y.2; simp only []; omega⟩, by simp only []; omega, Env.wk_cons (Wk.refl _) (Env.wk_cons (Wk.eq (by rw [hF]; try simp [cS])) (Env.wk_cons (Wk.refl _) (Env.wk_nil _))), by trivial⟩
   ·
    have hF : insF (l.getD y.1 []) y.2 = insW (l.getD y.1 []) y.2 := by
     have ha : (y.2.any fun q => geS q (l.getD y.1 [])) = true := by revert h4; cases (y.2.any fun q => geS q (l.getD y.1 [])) <;> simp
     rw [insF, ha]; rfl
    refine vwp_skip ?_
    try simp only [thenQ, blockQ, jumpQ, stayQ]
    refine vwp_freeze 0 9 1 _ rfl ?_
    simp only [go_sem]
    refine vwp_trim 0 (by simp) (by simp) ?_
    simp only [go_sem, mapE]
    rw [List.take_of_length_le (by simp)]
    refine vwp_reg1 tabOk [] [0, 3, 4] (by simp only [go_sem]; rfl) (by first | trivial | (simp; done) | (simp [in64]; omega)) ?_
    try simp only [thenQ, blockQ, jumpQ, stayQ]
    refine vwp_reg1 tabOk [] [0, 3, 4] (by simp only [go_sem]; rfl) (by first | trivial | (simp; done) | (simp [in64]; omega)) ?_
    try simp only [thenQ, blockQ, jumpQ, stayQ]
    exact ⟨(y.1 + 1, insF (l.getD y.1 []) y.2), ⟨by simp only []; omega, by simp only []; rw [hs, List.drop_eq_getElem_cons h0', risR, getD_lt h0'], by have := insF_le (l.getD y.1 []) y.2; simp only []; omega⟩, by simp only []; omega, Env.wk_cons (Wk.refl _) (Env.wk_cons (Wk.eq (by rw [hF]; try simp [cS])) (Env.wk_cons (Wk.refl _) (Env.wk_nil _))), by trivial⟩
 ·
  refine vwp_exit ?_
  simp only [thenQ, blockQ, jumpQ, stayQ, if_true, reduceIte, Nat.reduceEqDiff]
  refine oR [2] ?_
  refine vwp_ret ?_
  simp only [thenQ, blockQ, jumpQ, stayQ, RetQ, go_sem]
  refine ⟨by simp, Wk.eq ?_⟩
  have hi2 : y.1 = l.length := by simp at h0; omega
  rw [hs, hi2, List.drop_length, risR]
end Go.Proofs.YtnobnefabagbhaaGreatDoor.Q
end

section
/- Plain laws: what is not great is not long. -/
namespace Go.Proofs.YtnobnefabagbhaaGreatDoor.Q
open Go Go.Q
def fitP (p : Patch) : Prop := ∀ x ∈ p.body, in64 x.kind ∧ in64 x.at_
theorem txts_cap : ∀ (l : List Str), capsum l < 4000 → (txts l).length ≤ capsum l + 22 * l.length
 | [], _ => by simp [txts]
 | s :: r, h => by
  have e : capsum (s :: r) = cap s.length + capsum r := by simp [capsum]
  rw [e] at h ⊢
  have ih := txts_cap r (by omega)
  have h1 : s.length = cap s.length := by unfold cap at h ⊢; omega
  have h2 := txt_len s (by unfold cap at h1; omega)
  rw [txts_cons, List.length_append, List.length_cons]; omega
theorem txts_cap2 : ∀ (l : List Str), capsum2 l < 2000 → (txts l).length ≤ capsum2 l + 22 * l.length
 | [], _ => by simp [txts]
 | s :: r, h => by
  have e : capsum2 (s :: r) = cap2 s.length + capsum2 r := by simp [capsum2]
  rw [e] at h ⊢
  have ih := txts_cap2 r (by omega)
  have h1 : s.length = cap2 s.length := by unfold cap2 at h ⊢; omega
  have h2 := txt_len s (by unfold cap2 at h1; omega)
  rw [txts_cons, List.length_append, List.length_cons]; omega
theorem great_prim {x : Prim} (h : greatPrim x = false) (hf : in64 x.kind ∧ in64 x.at_) : (primEnc x).length ≤ 1000000 := by
 have h := of_decide_eq_false h
 rw [primSize] at h
 have l1 := num_len x.kind hf.1
 have l2 := num_len x.at_ hf.2
 have a1 : x.path.length = cap x.path.length := by unfold cap at h ⊢; omega
 have a2 : x.to.length = cap x.to.length := by unfold cap at h ⊢; omega
 have a3 : x.frm.length = cap x.frm.length := by unfold cap at h ⊢; omega
 have b1 := txt_len x.path (by omega)
 have b2 := txt_len x.to (by omega)
 have b3 := txt_len x.frm (by omega)
 have c1 := txts_cap x.old (by omega)
 have c2 := txts_cap x.new (by omega)
 have d1 := num_nat x.old.length (by omega)
 have d2 := num_nat x.new.length (by omega)
 simp only [primEnc, lst, List.length_append]
 omega
theorem great_pat {p : Patch} (h : greatPatch p = false) (hf : fitP p) : (patchEnc p).length ≤ 500000000 := by
 rw [greatPatch, greatPrims, Bool.or_eq_false_iff, Bool.or_eq_false_iff, List.any_eq_false] at h
 obtain ⟨h1, h2, h3⟩ := h
 have h1 := of_decide_eq_false h1
 have h2 := of_decide_eq_false h2
 rw [patchSize] at h1
 have a1 : p.name.length = cap p.name.length := by unfold cap at h1 ⊢; omega
 have b1 := txt_len p.name (by omega)
 have c1 := txts_cap p.deps (by omega)
 have d1 := num_nat p.deps.length (by omega)
 have d2 := num_nat p.body.length (by omega)
 have e1 := prims_len p.body 1000000 fun x hx => great_prim (by simpa using h3 x hx) (hf x hx)
 have e2 : p.body.length * 1000000 ≤ 60 * 1000000 := Nat.mul_le_mul (by omega) (Nat.le_refl _)
 simp only [patchEnc, lst, List.length_append]
 omega
theorem great_pats {l : List Patch} (h : greatPatches l = false) (hf : ∀ p ∈ l, fitP p) : ∀ p ∈ l, (patchEnc p).length ≤ 500000000 := by
 rw [greatPatches, Bool.or_eq_false_iff, Bool.or_eq_false_iff, List.any_eq_false] at h
 exact fun p hp => great_pat (by simpa using h.2.1 p hp) (hf p hp)
theorem great_len {l : List Patch} (h : greatPatches l = false) : l.length ≤ 60 := by
 rw [greatPatches, Bool.or_eq_false_iff] at h
 have := of_decide_eq_false h.1
 omega
theorem great_msg {m : Msg} (h : greatMsg m = false) (hf : ∀ p ∈ m.patches, fitP p) : (lst m.names).length ≤ 100000000 ∧ (lst m.have_).length ≤ 100000000 ∧ ∀ p ∈ m.patches, (patchEnc p).length ≤ 500000000 := by
 rw [greatMsg, Bool.or_eq_false_iff] at h
 obtain ⟨h1, h2⟩ := h
 have h1 := of_decide_eq_false h1
 rw [msgSize] at h1
 have c1 := txts_cap2 m.names (by omega)
 have c2 := txts_cap2 m.have_ (by omega)
 have d1 := num_nat m.names.length (by omega)
 have d2 := num_nat m.have_.length (by omega)
 refine ⟨?_, ?_, great_pats h2 hf⟩
 ·simp only [lst, List.length_append]; omega
 ·simp only [lst, List.length_append]; omega
end Go.Proofs.YtnobnefabagbhaaGreatDoor.Q
end

section
/- Plain laws: what is written is read as it was. -/
namespace Go.Proofs.YtnobnefabagbhaaGreatDoor.Q
open Go Go.Q
theorem dig_toNat {d : Nat} (h : d < 10) : (UInt8.ofNat (48 + d)).toNat = 48 + d := by
 rw [UInt8.toNat_ofNat']; omega
theorem dec_small {u : Nat} (h : u < 10) : Lib.decDigits u = [UInt8.ofNat (48 + u)] := by rw [Lib.decDigits, dif_pos h]
theorem dec_big {u : Nat} (h : ¬ u < 10) : Lib.decDigits u = Lib.decDigits (u / 10) ++ [UInt8.ofNat (48 + u % 10)] := by rw [Lib.decDigits, dif_neg h]
theorem dec_all (u : Nat) : (Lib.decDigits u).all isD = true := by
 induction u using Nat.strongRecOn with
 | _ u ih =>
  by_cases h : u < 10
  ·rw [dec_small h]
   simp only [List.all_cons, List.all_nil, Bool.and_true, isD, decide_eq_true_eq, dig_toNat h]; omega
  ·rw [dec_big h, List.all_append, ih (u / 10) (by omega)]
   have := dig_toNat (Nat.mod_lt u (show 0 < 10 by omega))
   simp only [List.all_cons, List.all_nil, Bool.and_true, isD, decide_eq_true_eq, Bool.true_and, this]; omega
theorem dec_num (u : Nat) : numOf (Lib.decDigits u) = u := by
 induction u using Nat.strongRecOn with
 | _ u ih =>
  by_cases h : u < 10
  ·rw [dec_small h]
   simp only [numOf, List.foldl_cons, List.foldl_nil, dig_toNat h]; omega
  ·rw [dec_big h, numOf_snoc, ih (u / 10) (by omega), dig_toNat (Nat.mod_lt u (show 0 < 10 by omega))]; omega
theorem dec_len (u : Nat) : 1 ≤ (Lib.decDigits u).length := by rw [Lib.decDigits_length]; exact Lib.nDigits_pos u
theorem dec_le : ∀ (k u : Nat), u < 10 ^ (k + 1) → (Lib.decDigits u).length ≤ k + 1
 | 0, u, h => by rw [dec_small (by simpa using h)]; simp
 | k + 1, u, h => by
  by_cases h2 : u < 10
  ·rw [dec_small h2]; simp
  ·rw [dec_big h2, List.length_append]
   have := dec_le k (u / 10) (by rw [Nat.pow_succ] at h; omega)
   simp; omega
theorem dec_head (u : Nat) : u ≠ 0 → (Lib.decDigits u).getD 0 0 ≠ 48 := by
 induction u using Nat.strongRecOn with
 | _ u ih =>
  intro h0
  by_cases h : u < 10
  ·rw [dec_small h]
   intro e
   have e2 : (UInt8.ofNat (48 + u)).toNat = 48 := by simp only [List.getD_cons_zero] at e; rw [e]; rfl
   rw [dig_toNat h] at e2; omega
  ·rw [dec_big h]
   have hl := dec_len (u / 10)
   have := ih (u / 10) (by omega) (by omega)
   rw [List.getD_eq_getElem?_getD, List.getElem?_append_left (by omega), ← List.getD_eq_getElem?_getD]; exact this
theorem dec_lead (u : Nat) : ¬ (1 < (Lib.decDigits u).length ∧ (Lib.decDigits u).getD 0 0 = 48) := by
 rintro ⟨h1, h2⟩
 by_cases h : u = 0
 ·subst h; rw [dec_small (by omega)] at h1; simp at h1
 ·exact dec_head u h h2
theorem lead_app (d t : Str) (h : d.all isD = true) : lead (d ++ 58 :: t) = d.length := by
 refine lead_eq _ _ (by simp) (by simpa using h) fun h2 => ?_
 simp [isD]
theorem num_app (n : Nat) (t : Str) : num n ++ t = Lib.decDigits n ++ 58 :: t := by rw [num, Lib.itoa_nonneg]; simp
theorem rdNum_rt (n : Nat) (t : Str) (h : n < 100000000000) : rdNum ⟨num n ++ t, false⟩ = (n, ⟨t, false⟩) := by
 have h1 := dec_all n
 have h2 := lead_app (Lib.decDigits n) t h1
 have h3 := dec_len n
 have h4 := dec_le 10 n h
 have ho : numOk (num n ++ t) false = true := by
  rw [num_app, numOk, h2]
  simp only [Bool.not_false, Bool.true_and, decide_eq_true_eq]
  refine ⟨h3, h4, by simp, by simp [List.getD], fun h5 => dec_lead n ⟨h5.1, ?_⟩⟩
  rw [← h5.2, List.getD_eq_getElem?_getD, List.getD_eq_getElem?_getD, List.getElem?_append_left (by omega)]
 rw [rdNum]
 simp only []
 rw [ho, if_pos rfl, num_app, h2]
 have e1 : (Lib.decDigits n ++ 58 :: t).take (Lib.decDigits n).length = Lib.decDigits n := by simp
 have e2 : (Lib.decDigits n ++ 58 :: t).drop ((Lib.decDigits n).length + 1) = t := by rw [List.drop_append]; simp
 rw [e1, e2, dec_num]
structure Rt (mk : Str → Rd) (rn : Rd → Nat × Rd) (rt : Rd → Str × Rd) : Prop where
 open_ : ∀ t, t ≠ [] → (mk t).bad = false
 num_ : ∀ (n : Nat) (t : Str), n < 1000000000 → rn (mk (num n ++ t)) = (n, mk t)
 txt_ : ∀ (s t : Str), s.length < 1000000000 → rt (mk (txt s ++ t)) = (s, mk t)
theorem rt_rd : Rt (fun t => ⟨t, false⟩) rdNum rdTxt := {
 open_ _ _ := rfl
 num_ n t h := rdNum_rt n t (by omega)
 txt_ s t h := by
  have e : rdNum ⟨txt s ++ t, false⟩ = (s.length, ⟨s ++ t, false⟩) := by rw [txt, List.append_assoc]; exact rdNum_rt s.length (s ++ t) (by omega)
  rw [rdTxt, e, if_neg (by simp)]
  simp }
theorem many_rt {α : Type} {mk : Str → Rd} (one : Rd → α × Rd) (enc : α → Str) (ho : ∀ t, t ≠ [] → (mk t).bad = false) : ∀ (l : List α) (t : Str), (∀ x ∈ l, enc x ≠ [] ∧ ∀ t, one (mk (enc x ++ t)) = (x, mk t)) →
  rdMany one l.length (mk ((l.map enc).flatten ++ t)) = (l, mk t)
 | [], t, _ => by simp [rdMany]
 | x :: r, t, h => by
  obtain ⟨h1, h2⟩ := h x (by simp)
  have e : ((x :: r).map enc).flatten ++ t = enc x ++ ((r.map enc).flatten ++ t) := by simp
  rw [e, List.length_cons, rdMany, ho _ (by simp [h1]), h2]
  simp only [Bool.false_eq_true, if_false]
  rw [many_rt one enc ho r t fun y hy => h y (by simp [hy])]
theorem num_ne (n : Int) : num n ≠ [] := by simp [num]
theorem txt_ne (s : Str) : txt s ≠ [] := by simp [txt, num_ne]
theorem txts_ge : ∀ (l : List Str), l.length ≤ (txts l).length
 | [] => by simp
 | s :: r => by
  have := txts_ge r
  have h := List.length_pos_iff.2 (txt_ne s)
  rw [txts_cons, List.length_append, List.length_cons]; omega
theorem txts_mem {l : List Str} {s : Str} (h : s ∈ l) : s.length ≤ (txts l).length := by
 induction l with
 | nil => simp at h
 | cons x r ih =>
  rw [txts_cons, List.length_append]
  rcases List.mem_cons.1 h with rfl | h
  ·have := txt_ge s; omega
  ·have := ih h; omega
theorem lst_rt {mk : Str → Rd} {rn : Rd → Nat × Rd} {rt : Rd → Str × Rd} (R : Rt mk rn rt) (l : List Str) (t : Str) (h : (txts l).length < 1000000000) :
  rdMany rt (rn (mk (lst l ++ t))).1 (rn (mk (lst l ++ t))).2 = (l, mk t) := by
 have hl := txts_ge l
 rw [lst, List.append_assoc, R.num_ _ _ (by omega)]
 exact many_rt rt txt R.open_ l t fun s hs => ⟨txt_ne s, fun t => R.txt_ s t (by have := txts_mem hs; omega)⟩
theorem rdLst_rt (l : List Str) (t : Str) (h : (txts l).length < 1000000000) : rdLst ⟨lst l ++ t, false⟩ = (l, ⟨t, false⟩) := lst_rt rt_rd l t h
theorem primB_nat {x : Prim} (h : primB x = true) : (0 ≤ x.kind ∧ x.kind ≤ 10) ∧ 0 ≤ x.at_ ∧ x.at_ ≤ 1073741824 := by
 rw [primB, Bool.and_eq_true] at h
 obtain ⟨_, h⟩ := h
 split at h
 ·simp only [bare, Bool.and_eq_true, decide_eq_true_eq] at h; omega
 ·split at h
  ·simp only [Bool.and_eq_true, decide_eq_true_eq] at h; omega
  ·split at h
   ·simp only [bare, Bool.and_eq_true, decide_eq_true_eq] at h; omega
   ·split at h
    ·simp only [bare, Bool.and_eq_true, decide_eq_true_eq] at h; omega
    ·split at h
     ·simp only [bare, Bool.and_eq_true, decide_eq_true_eq] at h; omega
     ·cases h
theorem rdTxt_rt (s t : Str) (h : s.length < 1000000000) : rdTxt ⟨txt s ++ t, false⟩ = (s, ⟨t, false⟩) := rt_rd.txt_ s t h
theorem rdPrim_rt (x : Prim) (t : Str) (hx : primB x = true) (h : (primEnc x).length < 1000000000) : rdPrim ⟨primEnc x ++ t, false⟩ = (x, ⟨t, false⟩) := by
 obtain ⟨⟨k0, k1⟩, a0, a1⟩ := primB_nat hx
 obtain ⟨kd, pa, to, fr, at_, old, new⟩ := x
 simp only [] at k0 k1 a0 a1
 obtain ⟨k, rfl⟩ := Int.eq_ofNat_of_zero_le k0
 obtain ⟨a, rfl⟩ := Int.eq_ofNat_of_zero_le a0
 simp only [primEnc, lst, List.length_append] at h
 have g1 := txt_ge pa
 have g2 := txt_ge to
 have g3 := txt_ge fr
 have e : primEnc ⟨(k : Int), pa, to, fr, (a : Int), old, new⟩ ++ t = num k ++ (txt pa ++ (txt to ++ (txt fr ++ (num a ++ (lst old ++ (lst new ++ t)))))) := by simp [primEnc]
 rw [e]
 simp only [rdPrim]
 rw [rdNum_rt k _ (by omega)]
 simp only []
 rw [rdTxt_rt pa _ (by omega)]
 simp only []
 rw [rdTxt_rt to _ (by omega)]
 simp only []
 rw [rdTxt_rt fr _ (by omega)]
 simp only []
 rw [rdNum_rt a _ (by omega)]
 simp only []
 rw [rdLst_rt old _ (by omega)]
 simp only []
 rw [rdLst_rt new _ (by omega)]
theorem primEnc_ne (x : Prim) : primEnc x ≠ [] := by simp [primEnc, num_ne]
theorem prims_ge : ∀ (l : List Prim), l.length ≤ (prims l).length
 | [] => by simp
 | s :: r => by
  have := prims_ge r
  have h := List.length_pos_iff.2 (primEnc_ne s)
  have e : prims (s :: r) = primEnc s ++ prims r := by simp [prims]
  rw [e, List.length_append, List.length_cons]; omega
theorem prims_mem {l : List Prim} {s : Prim} (h : s ∈ l) : (primEnc s).length ≤ (prims l).length := by
 induction l with
 | nil => simp at h
 | cons x r ih =>
  have e : prims (x :: r) = primEnc x ++ prims r := by simp [prims]
  rw [e, List.length_append]
  rcases List.mem_cons.1 h with rfl | h
  ·omega
  ·have := ih h; omega
theorem rdPatch_rt (p : Patch) (t : Str) (hp : patchB p = true) (h : (patchEnc p).length < 1000000000) : rdPatch ⟨patchEnc p ++ t, false⟩ = (p, ⟨t, false⟩) := by
 have hb : ∀ x ∈ p.body, primB x = true := by
  rw [patchB, Bool.and_eq_true] at hp
  have h2 := hp.2
  rw [Bool.and_eq_true] at h2
  exact List.all_eq_true.1 h2.2
 obtain ⟨nm, dp, bd⟩ := p
 simp only [patchEnc, lst, List.length_append] at h
 have g1 := txt_ge nm
 have g2 := prims_ge bd
 have e : patchEnc ⟨nm, dp, bd⟩ ++ t = txt nm ++ (lst dp ++ (num bd.length ++ (prims bd ++ t))) := by simp [patchEnc]
 rw [e]
 simp only [rdPatch, rdList]
 rw [rdTxt_rt nm _ (by omega)]
 simp only []
 rw [rdLst_rt dp _ (by omega)]
 simp only []
 rw [rdNum_rt bd.length _ (by omega)]
 simp only []
 have := many_rt (mk := fun t => ⟨t, false⟩) rdPrim primEnc (fun _ _ => rfl) bd t fun x hx => ⟨primEnc_ne x, fun t => rdPrim_rt x t (hb x hx) (by have := prims_mem hx; omega)⟩
 rw [show prims bd = (bd.map primEnc).flatten from rfl, this]
theorem getPatch_rt (p : Patch) (hp : patchB p = true) (h : (patchEnc p).length < 1000000000) : getPatch (patchEnc p) = (p, 0) := by
 have := rdPatch_rt p [] hp h
 rw [List.append_nil] at this
 rw [getPatch, this, if_neg (by simp [hp])]
theorem putPatch_ok {p : Patch} (hp : patchB p = true) : putPatch p = (patchEnc p, 0) := by rw [putPatch, if_pos hp]
end Go.Proofs.YtnobnefabagbhaaGreatDoor.Q
end

section
/- Two sets as one: plain. -/
namespace Go.Proofs.YtnobnefabagbhaaGreatDoor.Q
open Go Go.Q
theorem ofB_iff {l : List Patch} : ofB l = true ↔ (∀ p ∈ l, patchB p = true) ∧ apartP l ∧ l.length ≤ 256 := by
 constructor
 ·intro h
  refine ⟨?_, ofB_apart h, ofB_len h⟩
  simp only [ofB, Bool.and_eq_true] at h
  exact List.all_eq_true.1 h.1
 ·rintro ⟨h1, h2, h3⟩
  simp only [ofB, Bool.and_eq_true, decide_eq_true_eq]
  exact ⟨List.all_eq_true.2 h1, by rw [mapOf_apart h2, List.length_map], h3⟩
theorem ofB_perm {l l' : List Patch} (h : l.Perm l') : ofB l = ofB l' := by
 rw [Bool.eq_iff_iff, ofB_iff, ofB_iff, apartP_perm h, h.length_eq]
 constructor
 ·rintro ⟨h1, h2⟩; exact ⟨fun p hp => h1 p (h.mem_iff.2 hp), h2⟩
 ·rintro ⟨h1, h2⟩; exact ⟨fun p hp => h1 p (h.mem_iff.1 hp), h2⟩
theorem sortedP_perm {l l' : List Patch} (h : l.Perm l') : sortedP l = sortedP l' := by
 cases hb : ofB l with
 | false =>
  have h1 := sortedP_isSome l
  have h2 := sortedP_isSome l'
  rw [hb] at h1
  rw [← ofB_perm h, hb] at h2
  rw [Option.isNone_iff_eq_none.1 (Option.isSome_eq_false_iff.1 h1), Option.isNone_iff_eq_none.1 (Option.isSome_eq_false_iff.1 h2)]
 | true =>
  obtain ⟨s, hs⟩ := sorted_of hb
  obtain ⟨s', hs'⟩ := sorted_of (ps := l') (by rw [← ofB_perm h]; exact hb)
  obtain ⟨f1, f2, f3, _⟩ := sortedP_facts hs
  obtain ⟨g1, g2, g3, _⟩ := sortedP_facts hs'
  rw [hs, hs', up_uniq f3 f1 (g1.trans h.symm) f2 g2]
theorem sortP_perm {l l' : List Patch} (h : l.Perm l') : sortP l = sortP l' := by rw [sortP, sortP, sortedP_perm h]
theorem orderP_perm {l l' : List Patch} (h : l.Perm l') : orderP l = orderP l' := by rw [orderP, orderP, sortedP_perm h]
theorem sortP_eq {l : List Patch} (h : ofB l = true) : (sortP l).2 = 0 ∧ (sortP l).1.Perm l ∧ upP (sortP l).1 := by
 obtain ⟨s, hs⟩ := sorted_of h
 obtain ⟨f1, f2, _⟩ := sortedP_facts hs
 simp only [sortP, hs]
 exact ⟨trivial, f1, f2⟩
theorem sortP_err {l : List Patch} : (sortP l).2 = 0 ↔ ofB l = true := by
 constructor
 ·intro h
  cases hb : ofB l with
  | true => rfl
  | false => rw [sortP_no hb] at h; simp at h
 ·exact fun h => (sortP_eq h).1
def newP (l more : List Patch) : List Patch := more.filter fun p => (findP l p.name).isNone
def clash1 (l : List Patch) (p : Patch) : Bool := match findP l p.name with
 | some q => !decide (q = p)
 | none => false
def allP (l more : List Patch) : List Patch := l ++ newP l more
def joinP (l more : List Patch) : List Patch × Int := if ofB l = false then ([], 1) else if ofB more = false then ([], 1) else if more.any (clash1 l) = true then ([], 31) else
 if (orderP (allP l more)).2 ≠ 0 then ([], (orderP (allP l more)).2) else sortP (allP l more)
theorem findP_perm {s ps : List Patch} (hp : s.Perm ps) (h : apartP ps) (n : Str) : findP s n = findP ps n := by
 cases h1 : findP ps n with
 | some p =>
  obtain ⟨h2, h3⟩ := (findP_mem h).1 h1
  exact (findP_mem (apart_perm hp h)).2 ⟨hp.mem_iff.2 h2, h3⟩
 | none =>
  cases h2 : findP s n with
  | none => rfl
  | some p =>
   obtain ⟨h3, h4⟩ := (findP_mem (apart_perm hp h)).1 h2
   rw [(findP_mem h).2 ⟨hp.mem_iff.1 h3, h4⟩] at h1
   cases h1
theorem clash_perm {l l' m m' : List Patch} (h : l'.Perm l) (ha : apartP l) (hm : m'.Perm m) : m'.any (clash1 l') = m.any (clash1 l) := by
 have e : clash1 l' = clash1 l := by funext p; simp only [clash1, findP_perm h ha]
 rw [e]
 rw [Bool.eq_iff_iff, List.any_eq_true, List.any_eq_true]
 constructor
 ·rintro ⟨p, h1, h2⟩; exact ⟨p, hm.mem_iff.1 h1, h2⟩
 ·rintro ⟨p, h1, h2⟩; exact ⟨p, hm.mem_iff.2 h1, h2⟩
theorem all_perm {l l' m m' : List Patch} (h : l'.Perm l) (ha : apartP l) (hm : m'.Perm m) : (allP l' m').Perm (allP l m) := by
 have e : newP l' m' = m'.filter fun p => (findP l p.name).isNone := by
  unfold newP; congr 1; funext p; rw [findP_perm h ha]
 rw [allP, allP, e]
 exact h.append (hm.filter _)
theorem put_inj {p q : Patch} (hp : patchB p = true) (hq : patchB q = true) (h1 : (patchEnc p).length < 1000000000) : decide ((putPatch p).1 = (putPatch q).1) = decide (p = q) := by
 refine decide_eq_decide.2 ⟨fun h => ?_, fun h => by rw [h]⟩
 rw [putPatch_ok hp, putPatch_ok hq] at h
 have e : patchEnc p = patchEnc q := h
 have e1 := getPatch_rt p hp h1
 have e2 := getPatch_rt q hq (by rw [← e]; exact h1)
 rw [e, e2] at e1
 exact (Prod.mk.inj e1).1.symm
theorem newP_take {l more : List Patch} {i : Nat} (hi : i < more.length) : newP l (more.take (i + 1)) = newP l (more.take i) ++ if (findP l more[i].name).isNone then [more[i]] else [] := by
 rw [newP, List.take_succ_eq_append_getElem hi, List.filter_append]
 by_cases h : (findP l more[i].name).isNone = true <;> simp [newP, h]
theorem newP_len (l more : List Patch) : (newP l more).length ≤ more.length := List.length_filter_le _ _
theorem clash_take {l more : List Patch} {i : Nat} (hi : i < more.length) : (more.take (i + 1)).any (clash1 l) = ((more.take i).any (clash1 l) || clash1 l more[i]) := by
 rw [List.take_succ_eq_append_getElem hi, List.any_append]; simp
theorem clash_at {l more : List Patch} {i : Nat} (hi : i < more.length) (h : clash1 l more[i] = true) : more.any (clash1 l) = true := List.any_eq_true.2 ⟨_, List.getElem_mem hi, h⟩
end Go.Proofs.YtnobnefabagbhaaGreatDoor.Q
end

section
/- Walks of two sets as one (the program's inventory.Join, and the document's), in the logic 'Q'. -/
namespace Go.Proofs.YtnobnefabagbhaaGreatDoor.Q
open Go Go.Q
def prP (l more : List Patch) (i : Nat) : List Patch := if i = 0 then l else more
theorem getPair (l more : List Patch) {i : Nat} (h : i < 2) (d : List V) : ([[V.list 3 (l.map cPatch)], [V.list 3 (more.map cPatch)]] : List (List V)).getD i d = [V.list 3 ((prP l more i).map cPatch)] := by
 match i, h with
 | 0, _ => rfl
 | 1, _ => rfl
theorem idx_find {l : List Patch} {n : Str} {i : Nat} (hi : i < l.length) (h1 : decide (l[i].name = n) = true) (h2 : ∀ x ∈ l.take i, decide (x.name = n) = false) : findP l n = some l[i] := findP_take hi (fun p hp => of_decide_eq_false (h2 p hp)) (of_decide_eq_true h1)
theorem idx_none {l : List Patch} {n : Str} (h : ∀ x ∈ l, decide (x.name = n) = false) : findP l n = none := findP_none fun p hp => of_decide_eq_false (h p hp)
theorem join_bad {l more : List Patch} {i : Nat} (h0 : i < 2) (h1 : 0 < i → ofB l = true) (h : ofB (prP l more i) = false) : joinP l more = ([], 1) := by
 rcases (show i = 0 ∨ i = 1 by omega) with rfl | rfl
 ·rw [joinP, if_pos (show ofB l = false from h)]
 ·have hl := h1 (by omega)
  rw [joinP, if_neg (by rw [hl]; decide), if_pos (show ofB more = false from h)]
theorem pr_step {l more : List Patch} {i : Nat} (h0 : i < 2) (h1 : 0 < i → ofB l = true) (h : ofB (prP l more i) = true) : (0 < i + 1 → ofB l = true) ∧ (1 < i + 1 → ofB more = true) := by
 rcases (show i = 0 ∨ i = 1 by omega) with rfl | rfl
 ·exact ⟨fun _ => h, by omega⟩
 ·exact ⟨fun _ => h1 (by omega), fun _ => h⟩
theorem join_clash {l more : List Patch} (h1 : ofB l = true) (h2 : ofB more = true) (h : more.any (clash1 l) = true) : joinP l more = ([], 31) := by
 rw [joinP, if_neg (by rw [h1]; decide), if_neg (by rw [h2]; decide), if_pos h]
theorem join_order {l more : List Patch} (h1 : ofB l = true) (h2 : ofB more = true) (h : more.any (clash1 l) = false) (h3 : (orderP (allP l more)).2 ≠ 0) : joinP l more = ([], (orderP (allP l more)).2) := by
 rw [joinP, if_neg (by rw [h1]; decide), if_neg (by rw [h2]; decide), if_neg (by rw [h]; decide), if_pos h3]
theorem join_ok {l more : List Patch} (h1 : ofB l = true) (h2 : ofB more = true) (h : more.any (clash1 l) = false) (h3 : (orderP (allP l more)).2 = 0) : joinP l more = sortP (allP l more) := by
 rw [joinP, if_neg (by rw [h1]; decide), if_neg (by rw [h2]; decide), if_neg (by rw [h]; decide), if_neg (by rw [h3]; decide)]
theorem all_take_new {l more : List Patch} {i : Nat} (hi : i < more.length) (h : findP l more[i].name = none) : allP l (more.take (i + 1)) = allP l (more.take i) ++ [more[i]] ∧ clash1 l more[i] = false := by
 refine ⟨?_, by rw [clash1, h]⟩
 rw [allP, newP_take hi, h]; simp [allP]
theorem all_take_old {l more : List Patch} {i : Nat} (hi : i < more.length) {q : Patch} (h : findP l more[i].name = some q) : allP l (more.take (i + 1)) = allP l (more.take i) ∧ clash1 l more[i] = !decide (q = more[i]) := by
 refine ⟨?_, by rw [clash1, h]⟩
 rw [allP, newP_take hi, h]; simp [allP]
theorem b_inventory_alike : bodied Go.Proofs.Tryz.prog 71 = true := by rw [bodied, Tryz.func71]; rfl
theorem c_inventory_alike (q p : Patch) (hq : (patchEnc q).length ≤ 500000000) (hp : (patchEnc p).length ≤ 500000000) : VPure Go.Proofs.Tryz.prog G 71 [.agg (cPatch q), .agg (cPatch p)] (.bool (decide ((putPatch q).1 = (putPatch p).1))) := by
 refine vpure_of (ts := [4]) Tryz.func71 rfl (by simp [Tryz.ntmps71]) rfl rfl ?_
 rw [Tryz.ntmps71]
 refine oR [2, 3] ?_
 refine vwp_seq (vwp_region ?_)
 refine oG [] ?_
 refine oC (fun _ => c_named_Put q (by omega)) b_named_Put ?_
 simp only [go_sem]
 refine oG [] ?_
 refine vops_done [3, 5] ?_
 simp only [go_sem, thenQ, blockQ, jumpQ, stayQ]
 refine vwp_seq (vwp_region ?_)
 refine oG [] ?_
 refine oC (fun _ => c_named_Put p (by omega)) b_named_Put ?_
 simp only [go_sem]
 refine oG [] ?_
 refine vops_done [5, 7] ?_
 simp only [go_sem, thenQ, blockQ, jumpQ, stayQ]
 refine vwp_seq (vwp_region ?_)
 refine oG [] ?_
 refine oC (fun _ => c_bytes_Equal (putPatch q).1 (putPatch p).1) b_bytes_Equal ?_
 simp only [go_sem]
 refine oG [] ?_
 refine vops_done [4] ?_
 simp only [go_sem, thenQ, blockQ, jumpQ, stayQ]
 refine vwp_ret ?_
 simp only [thenQ, blockQ, jumpQ, stayQ, RetQ, go_sem]
 refine ⟨by simp, Wk.eq ?_⟩
 rfl
theorem b_inventory_Join_1 : bodied Go.Proofs.Tryz.prog 70 = true := by rw [bodied, Tryz.func70]; rfl
theorem c_inventory_Join_1 (q p : Patch) : VCalls Go.Proofs.Tryz.prog G 70 [.agg (cPatch q), .ptr 0 0] [.box (cPatch p)] [] (fun r H => r = .bool (decide (q.name = p.name)) ∧ H = [.box (cPatch p)]) := by
 refine vcalls_of2 tabOk (rs := _) 1 Tryz.func70 rfl (by simp [Tryz.ntmps70]) rfl (by first | (simp; done) | exact Nat.le_refl _) ?_
 rw [Tryz.ntmps70]
 refine oR [1, 2] ?_
 refine oR [3] ?_
 refine vwp_ret ?_
 try simp only [thenQ, blockQ, jumpQ, stayQ, go_sem]
 refine ⟨by simp, _, _, rfl, by first | trivial | simp, ?_⟩
 first | exact ⟨rfl, rfl⟩ | rfl
theorem c_slices_IndexFunc_api_Patch_api_Patch_join (l : List Patch) (p : Patch) : VCalls Go.Proofs.Tryz.prog G 69 [.list 3 (l.map cPatch), .func (.func 70) [] [.ptr 0 0]] [.box (cPatch p)] [] (fun r H => r = .int .i64 (idxF (fun q => decide (q.name = p.name)) l) ∧ H = [.box (cPatch p)]) := by
 refine vcalls_know fun hk hK => ?_
 simp only [factsL, facts, maxB, List.length_map] at hk
 refine vcalls_of2 tabOk (rs := _) 1 Tryz.func69 rfl (by simp [Tryz.ntmps69]) rfl (by first | (simp; done) | exact Nat.le_refl _) ?_
 rw [Tryz.ntmps69]
 refine oR [0, 1] ?_
 refine vwp_seq ?_
 refine oR [0, 1, 7, 8] ?_
 refine vwp_block ?_
 refine vwp_loopW (fun i : Nat => [(0, .list 3 (l.map cPatch)), (1, .func (.func 70) [] [.ptr 0 0]), (7, .int .i64 (l.length : Int)), (8, .int .i64 (i : Int))]) (fun i => [.box (cPatch p)]) (fun i => i ≤ l.length ∧ ∀ x ∈ l.take i, decide (x.name = p.name) = false) (fun i => l.length - i) 0 ⟨Nat.zero_le _, by simp⟩ (wC (wC (wC (wC (Env.wk_nil _))))) rfl ?_
 rintro i ⟨hi, hn⟩
 refine oR [0, 1, 7, 8, 9] ?_
 refine vwp_seq ?_
 refine oB (fun h0 => ?_) fun h0 => ?_
 ·
  have h0' : i < l.length := by simp at h0; omega
  refine vwp_skip ?_
  try simp only [thenQ, blockQ, jumpQ, stayQ]
  refine vwp_seq ?_
  refine vwp_block ?_
  refine oR [0, 1, 5, 7, 8] ?_
  refine vwp_seq (vwp_region ?_)
  refine vops_go tabOk [] (by simp only [go_sem, getD_map, h0']; rfl) (by first | (simp [h0']; done) | (simp [h0', in64]; omega)) ?_
  refine vops_callVH (hc := c_inventory_Join_1 l[i] p) rfl (by simp only [go_sem]; rfl) rfl rfl b_inventory_Join_1 [0] [] [] rfl rfl rfl (by simp only [go_sem]; exact WkL.refl _) (by simp only [go_sem]) ?_
  rintro r0 H0 ⟨rfl, rfl⟩
  simp only [go_sem]
  refine vops_done [0, 1, 5, 7, 8, 16] ?_
  simp only [go_sem, thenQ, blockQ, jumpQ, stayQ]
  refine oB (fun h1 => ?_) fun h1 => ?_
  ·
   refine oR [4] ?_
   refine vwp_ret ?_
   try simp only [thenQ, blockQ, jumpQ, stayQ, go_sem]
   refine ⟨by simp, _, _, rfl, by first | trivial | simp, ?_⟩
   rw [idxF_at h0' hn h1]
   first | exact ⟨rfl, rfl⟩ | rfl
  ·
   refine vwp_skip ?_
   try simp only [thenQ, blockQ, jumpQ, stayQ]
   refine vwp_reg1 tabOk [] [0, 1, 7, 8] (by simp only [go_sem]; rfl) (by first | (simp [h0']; done) | (simp [h0', in64]; omega)) ?_
   try simp only [thenQ, blockQ, jumpQ, stayQ]
   exact ⟨i + 1, ⟨by omega, fun x hx => by rw [take_succ_mem h0'] at hx; rcases hx with hx | rfl; exact hn x hx; exact h1⟩, by omega, (wC (wC (wC (wC (Env.wk_nil _))))), (by first | rfl | trivial)⟩
 ·
  refine vwp_exit ?_
  simp only [thenQ, blockQ, jumpQ, stayQ, if_true, reduceIte, Nat.reduceEqDiff]
  refine oR [4] ?_
  refine vwp_ret ?_
  try simp only [thenQ, blockQ, jumpQ, stayQ, go_sem]
  refine ⟨by simp, _, _, rfl, by first | trivial | simp, ?_⟩
  have : i = l.length := by simp at h0; omega
  subst this; rw [List.take_length] at hn; rw [idxF_none hn]
  first | exact ⟨rfl, rfl⟩ | rfl
theorem b_slices_Clone_api_Patch_api_Patch : bodied Go.Proofs.Tryz.prog 68 = true := by rw [bodied, Tryz.func68]; rfl
theorem c_slices_Clone_api_Patch_api_Patch (l : List Patch) (hl : l.length ≤ 1000000000) : VCalls Go.Proofs.Tryz.prog G 68 [.list 3 (l.map cPatch)] [] [] (fun r H => r = .arr 0 l.length ∧ H = [.arr 45 3 (l.map cPatch)]) := by
 refine vcalls_of2 tabOk (rs := _) 1 Tryz.func68 rfl (by simp [Tryz.ntmps68]) rfl (by first | (simp; done) | exact Nat.le_refl _) ?_
 rw [Tryz.ntmps68]
 refine vwp_reg tabOk [5] [0] (by simp only [go_sem]; rfl) (by first | trivial | (simp; done) | (simp [in64]; omega)) ?_
 refine vwp_seq ?_
 refine vwp_seq (vwp_region ?_)
 refine oG [5] ?_
 refine vops_step (step_nilEq (t := 22) (e := 45) (k := 3) (xs := l.map cPatch) rfl (by kernel_rfl) (by decide) (by simp only [go_sem])) rfl rfl ?_
 rintro v env2 H2 ⟨⟨b, rfl, hb⟩, rfl, rfl⟩
 simp only [go_sem]
 refine vops_done [0, 4] ?_
 simp only [go_sem, thenQ, blockQ, jumpQ, stayQ]
 refine oB (fun h0 => ?_) fun h0 => ?_
 ·
  refine vwp_seq (vwp_region ?_)
  refine vops_go tabOk [] (by simp only [go_sem]; rfl) (by first | trivial | (simp; done)) ?_
  refine vops_own 2 45 3 rfl ?_
  simp only [go_sem]
  refine vops_done [2] ?_
  simp only [go_sem, thenQ, blockQ, jumpQ, stayQ]
  refine vwp_ret ?_
  try simp only [thenQ, blockQ, jumpQ, stayQ, go_sem]
  refine ⟨by simp, _, _, rfl, by first | trivial | simp, ?_⟩
  have hl0 : l = [] := List.map_eq_nil_iff.1 (hb h0)
  subst hl0
  first | exact ⟨rfl, rfl⟩ | rfl
 ·
  refine vwp_skip ?_
  try simp only [thenQ, blockQ, jumpQ, stayQ]
  refine vwp_reg tabOk [5] [2] (by simp only [go_sem]; rfl) (by first | trivial | (simp; done) | (simp; omega)) ?_
  refine vwp_ret ?_
  try simp only [thenQ, blockQ, jumpQ, stayQ, go_sem]
  refine ⟨by simp, _, _, rfl, by first | trivial | simp, ?_⟩
  first | exact ⟨rfl, rfl⟩ | rfl
theorem b_inventory_Join : bodied Go.Proofs.Tryz.prog 38 = true := by rw [bodied, Tryz.func38]; rfl
set_option maxHeartbeats 8000000 in
theorem c_inventory_Join (l more : List Patch) (h : ∀ p ∈ l, (patchEnc p).length ≤ 500000000) (hm : ∀ p ∈ more, (patchEnc p).length ≤ 500000000) : VPure Go.Proofs.Tryz.prog G 38 [.list 3 (l.map cPatch), .list 3 (more.map cPatch)] (.tuple [.list 3 ((joinP l more).1.map cPatch), .int .i64 (joinP l more).2]) := by
 refine vpure_know fun hk => ?_
 simp only [factsL, facts, maxB, List.length_map] at hk
 refine vpure_of (ts := [4, 5]) Tryz.func38 rfl (by simp [Tryz.ntmps38]) rfl rfl ?_
 rw [Tryz.ntmps38]
 refine oR [0, 1] ?_
 refine vwp_seq ?_
 refine oR [0, 1, 18, 19, 20] ?_
 refine vwp_block ?_
 refine vwp_loopW (fun i : Nat => [(0, .list 3 (l.map cPatch)), (1, .list 3 (more.map cPatch)), (18, .list 1 [[.list 3 (l.map cPatch)], [.list 3 (more.map cPatch)]]), (19, .int .i64 2), (20, .int .i64 (i : Int))]) (fun i => []) (fun i => i ≤ 2 ∧ (0 < i → ofB l = true) ∧ (1 < i → ofB more = true)) (fun i => 2 - i) 0 ⟨by omega, by omega, by omega⟩ (Env.wk_cons (by first | exact Wk.refl _ | exact Wk.nils _ | (refine Wk.eq ?_; simp; done) | (refine Wk.eq ?_; simp [allP, newP]; done) | (refine Wk.eq ?_; congr 1 <;> omega)) (Env.wk_cons (by first | exact Wk.refl _ | exact Wk.nils _ | (refine Wk.eq ?_; simp; done) | (refine Wk.eq ?_; simp [allP, newP]; done) | (refine Wk.eq ?_; congr 1 <;> omega)) (Env.wk_cons (by first | exact Wk.refl _ | exact Wk.nils _ | (refine Wk.eq ?_; simp; done) | (refine Wk.eq ?_; simp [allP, newP]; done) | (refine Wk.eq ?_; congr 1 <;> omega)) (Env.wk_cons (by first | exact Wk.refl _ | exact Wk.nils _ | (refine Wk.eq ?_; simp; done) | (refine Wk.eq ?_; simp [allP, newP]; done) | (refine Wk.eq ?_; congr 1 <;> omega)) (Env.wk_cons (by first | exact Wk.refl _ | exact Wk.nils _ | (refine Wk.eq ?_; simp; done) | (refine Wk.eq ?_; simp [allP, newP]; done) | (refine Wk.eq ?_; congr 1 <;> omega)) (Env.wk_nil _)))))) rfl ?_
 rintro i ⟨hi, hi1, hi2⟩
 refine oR [0, 1, 18, 19, 20, 21] ?_
 refine vwp_seq ?_
 refine oB (fun h0 => ?_) fun h0 => ?_
 ·
  have h0' : i < 2 := by simp at h0; omega
  refine vwp_skip ?_
  try simp only [thenQ, blockQ, jumpQ, stayQ]
  refine vwp_seq ?_
  refine vwp_block ?_
  refine vwp_reg tabOk [] [0, 1, 7, 18, 19, 20] (by simp only [go_sem, getPair, h0']; rfl) (by first | (simp [h0']; done) | (simp [h0']; omega)) ?_
  refine vwp_seq (vwp_region ?_)
  refine oG [] ?_
  refine oC (fun _ => c_closure_Sorted (prP l more i)) b_closure_Sorted ?_
  simp only [go_sem]
  refine oG [] ?_
  refine vops_done [0, 1, 9, 18, 19, 20] ?_
  simp only [go_sem, thenQ, blockQ, jumpQ, stayQ]
  refine oR [0, 1, 9, 18, 19, 20, 30] ?_
  refine oB (fun h1 => ?_) fun h1 => ?_
  ·
   refine oR [4, 5] ?_
   refine vwp_ret ?_
   simp only [thenQ, blockQ, jumpQ, stayQ, RetQ, go_sem]
   have hob : ofB (prP l more i) = false := by
    cases hb : ofB (prP l more i) with
    | false => rfl
    | true => rw [(sortP_err).2 hb] at h1; simp at h1
   rw [join_bad h0' hi1 hob, sortP_no hob]
   refine ⟨by simp, ?_⟩
   exact Wk.tuple ⟨Wk.nils _, Wk.refl _, trivial⟩
  ·
   refine vwp_skip ?_
   try simp only [thenQ, blockQ, jumpQ, stayQ]
   refine vwp_reg1 tabOk [] [0, 1, 18, 19, 20] (by simp only [go_sem]; rfl) (by first | trivial | (simp; done) | (simp [in64]; omega)) ?_
   try simp only [thenQ, blockQ, jumpQ, stayQ]
   have hs : ofB (prP l more i) = true := sortP_err.1 (by simpa using h1)
   exact ⟨i + 1, ⟨by omega, (pr_step h0' hi1 hs).1, (pr_step h0' hi1 hs).2⟩, by omega, (Env.wk_cons (by first | exact Wk.refl _ | exact Wk.nils _ | (refine Wk.eq ?_; simp; done) | (refine Wk.eq ?_; simp [allP, newP]; done) | (refine Wk.eq ?_; congr 1 <;> omega)) (Env.wk_cons (by first | exact Wk.refl _ | exact Wk.nils _ | (refine Wk.eq ?_; simp; done) | (refine Wk.eq ?_; simp [allP, newP]; done) | (refine Wk.eq ?_; congr 1 <;> omega)) (Env.wk_cons (by first | exact Wk.refl _ | exact Wk.nils _ | (refine Wk.eq ?_; simp; done) | (refine Wk.eq ?_; simp [allP, newP]; done) | (refine Wk.eq ?_; congr 1 <;> omega)) (Env.wk_cons (by first | exact Wk.refl _ | exact Wk.nils _ | (refine Wk.eq ?_; simp; done) | (refine Wk.eq ?_; simp [allP, newP]; done) | (refine Wk.eq ?_; congr 1 <;> omega)) (Env.wk_cons (by first | exact Wk.refl _ | exact Wk.nils _ | (refine Wk.eq ?_; simp; done) | (refine Wk.eq ?_; simp [allP, newP]; done) | (refine Wk.eq ?_; congr 1 <;> omega)) (Env.wk_nil _)))))), (by first | rfl | trivial)⟩
 ·
  have hi2' : i = 2 := by simp at h0; omega
  have hbl := hi1 (by omega)
  have hbm := hi2 (by omega)
  obtain ⟨hpl, hal, hll⟩ := ofB_iff.1 hbl
  obtain ⟨hpm, ham, hml⟩ := ofB_iff.1 hbm
  refine vwp_exit ?_
  simp only [thenQ, blockQ, jumpQ, stayQ, if_true, reduceIte, Nat.reduceEqDiff]
  refine vwp_seq (vwp_region ?_)
  refine oG [] ?_
  refine vops_callH (hc := c_slices_Clone_api_Patch_api_Patch l (by omega)) rfl rfl rfl b_slices_Clone_api_Patch_api_Patch [] [] [] rfl rfl rfl (by simp only [go_sem]; exact WkL.refl _) (by simp only [go_sem]) ?_
  rintro r1 H1 ⟨rfl, rfl⟩
  simp only [go_sem]
  refine oG [] ?_
  refine vops_done [0, 1, 10] ?_
  simp only [go_sem, thenQ, blockQ, jumpQ, stayQ]
  refine vwp_seq ?_
  refine oR [0, 10, 35, 36, 37] ?_
  refine vwp_block ?_
  refine vwp_loopW (fun i : Nat => [(0, .list 3 (l.map cPatch)), (10, .arr 0 (allP l (more.take i)).length), (35, .list 3 (more.map cPatch)), (36, .int .i64 (more.length : Int)), (37, .int .i64 (i : Int))]) (fun i => [.arr 45 3 ((allP l (more.take i)).map cPatch)]) (fun i => i ≤ more.length ∧ (more.take i).any (clash1 l) = false) (fun i => more.length - i) 0 ⟨Nat.zero_le _, by simp⟩ (Env.wk_cons (by first | exact Wk.refl _ | exact Wk.nils _ | (refine Wk.eq ?_; simp; done) | (refine Wk.eq ?_; simp [allP, newP]; done) | (refine Wk.eq ?_; congr 1 <;> omega)) (Env.wk_cons (by first | exact Wk.refl _ | exact Wk.nils _ | (refine Wk.eq ?_; simp; done) | (refine Wk.eq ?_; simp [allP, newP]; done) | (refine Wk.eq ?_; congr 1 <;> omega)) (Env.wk_cons (by first | exact Wk.refl _ | exact Wk.nils _ | (refine Wk.eq ?_; simp; done) | (refine Wk.eq ?_; simp [allP, newP]; done) | (refine Wk.eq ?_; congr 1 <;> omega)) (Env.wk_cons (by first | exact Wk.refl _ | exact Wk.nils _ | (refine Wk.eq ?_; simp; done) | (refine Wk.eq ?_; simp [allP, newP]; done) | (refine Wk.eq ?_; congr 1 <;> omega)) (Env.wk_cons (by first | exact Wk.refl _ | exact Wk.nils _ | (refine Wk.eq ?_; simp; done) | (refine Wk.eq ?_; simp [allP, newP]; done) | (refine Wk.eq ?_; congr 1 <;> omega)) (Env.wk_nil _)))))) (by simp [allP, newP]) ?_
  rintro i ⟨hi, hcl⟩
  refine oR [0, 10, 35, 36, 37, 38] ?_
  refine vwp_seq ?_
  refine oB (fun h2 => ?_) fun h2 => ?_
  ·
   have h2' : i < more.length := by simp at h2; omega
   have hal2 : (allP l (more.take i)).length ≤ 512 := by
    have := newP_len l (more.take i)
    rw [List.length_take] at this
    simp only [allP, List.length_append]; omega
   refine vwp_skip ?_
   try simp only [thenQ, blockQ, jumpQ, stayQ]
   refine vwp_seq ?_
   refine vwp_block ?_
   refine vwp_reg tabOk [] [0, 10, 12, 35, 36, 37] (by simp only [go_sem, getD_map, h2']; rfl) (by first | (simp [h2']; done) | (simp [h2']; omega)) ?_
   refine vwp_seq (vwp_region ?_)
   refine oG [] ?_
   refine vops_callH (hc := c_slices_IndexFunc_api_Patch_api_Patch_join l more[i]) rfl rfl rfl b_slices_IndexFunc_api_Patch_api_Patch [1] [] [] rfl rfl rfl (by simp only [go_sem]; exact WkL.refl _) (by simp only [go_sem]) ?_
   rintro r2 H2 ⟨rfl, rfl⟩
   simp only [go_sem]
   refine oG [] ?_
   refine vops_done [0, 10, 12, 13, 35, 36, 37] ?_
   simp only [go_sem, thenQ, blockQ, jumpQ, stayQ]
   refine vwp_block ?_
   refine oR [0, 10, 12, 13, 35, 36, 37, 44] ?_
   refine oB (fun h3 => ?_) fun h3 => ?_
   ·
    have hfn := idx_none (idxF_neg (of_decide_eq_true h3))
    refine vwp_reg1 tabOk [] [0, 10, 35, 36, 37] (by simp only [go_sem]; rfl) (by first | trivial | (simp; done) | (simp; omega)) ?_
    try simp only [thenQ, blockQ, jumpQ, stayQ]
    refine vwp_trim 1 (by simp) (by simp) ?_
    simp only [go_sem, mapE]
    refine vwp_reg1 tabOk [] [0, 10, 35, 36, 37] (by simp only [go_sem]; rfl) (by first | trivial | (simp; done) | (simp [in64]; omega)) ?_
    try simp only [thenQ, blockQ, jumpQ, stayQ]
    obtain ⟨hall, hc1⟩ := all_take_new h2' hfn
    exact ⟨i + 1, ⟨by omega, by rw [clash_take h2', hcl, hc1]; rfl⟩, by omega, Env.wk_cons (Wk.refl _) (Env.wk_cons (Wk.eq (by rw [hall]; try simp)) (Env.wk_cons (Wk.refl _) (Env.wk_cons (Wk.refl _) (Env.wk_cons (Wk.refl _) (Env.wk_nil _))))), by rw [hall] <;> simp [cPatch]⟩
   ·
    obtain ⟨j, hj, hje, hj1, hj2⟩ := idxF_pos (of_decide_eq_false h3)
    rw [hje]
    have hfs := idx_find hj hj1 hj2
    refine vwp_seq (vwp_drawD mixed (by kernel_rfl) (eF := ?_) ?_ [0, 10, 35, 36, 37, 51] rfl ?_)
    rotate_left
    ·
     refine dall_go tabOk (by simp only [go_sem, getD_map, hj]; rfl) (by first | trivial | (simp [hj]; done) | (simp [hj]; omega)) ?_
     refine dall_call (hc := fun _ => c_inventory_alike l[j] more[i] (h _ (List.getElem_mem hj)) (hm _ (List.getElem_mem h2'))) rfl (by simp only [go_sem, getD_map, hj]; rfl) b_inventory_alike (by simp only [go_sem]; exact WkL.refl _) rfl (fun hg => by simp only [go_sem]; try (intros; first | assumption | trivial | simp_all)) ?_
     simp only [go_sem]
     refine dall_go tabOk (by simp only [go_sem, getD_map, hj]; rfl) (by first | trivial | (simp [hj]; done) | (simp [hj]; omega)) ?_
     exact dall_nil
    simp only [go_sem, thenQ, blockQ, jumpQ, stayQ]
    refine oB (fun h4 => ?_) fun h4 => ?_
    ·
     rw [put_inj (hpl _ (List.getElem_mem hj)) (hpm _ (List.getElem_mem h2')) (by have := h _ (List.getElem_mem hj); omega)] at h4
     refine oR [4, 5] ?_
     refine vwp_ret ?_
     simp only [thenQ, blockQ, jumpQ, stayQ, RetQ, go_sem]
     rw [join_clash hbl hbm (clash_at h2' (by rw [(all_take_old h2' hfs).2]; exact h4))]
     refine ⟨by simp, ?_⟩
     exact Wk.tuple ⟨Wk.nils _, Wk.refl _, trivial⟩
    ·
     rw [put_inj (hpl _ (List.getElem_mem hj)) (hpm _ (List.getElem_mem h2')) (by have := h _ (List.getElem_mem hj); omega)] at h4
     refine vwp_skip ?_
     try simp only [thenQ, blockQ, jumpQ, stayQ]
     refine vwp_trim 1 (by simp) (by simp) ?_
     simp only [go_sem, mapE]
     refine vwp_reg1 tabOk [] [0, 10, 35, 36, 37] (by simp only [go_sem]; rfl) (by first | trivial | (simp; done) | (simp [in64]; omega)) ?_
     try simp only [thenQ, blockQ, jumpQ, stayQ]
     obtain ⟨hall, hc1⟩ := all_take_old h2' hfs
     rw [show decide (l[j] = more[i]) = true from by simpa using h4] at hc1
     exact ⟨i + 1, ⟨by omega, by rw [clash_take h2', hcl, hc1]; rfl⟩, by omega, Env.wk_cons (Wk.refl _) (Env.wk_cons (Wk.eq (by rw [hall]; try simp)) (Env.wk_cons (Wk.refl _) (Env.wk_cons (Wk.refl _) (Env.wk_cons (Wk.refl _) (Env.wk_nil _))))), by rw [hall] <;> simp [cPatch]⟩
  ·
   have hie : i = more.length := by simp at h2; omega
   subst hie
   rw [List.take_length] at hcl ⊢
   refine vwp_exit ?_
   simp only [thenQ, blockQ, jumpQ, stayQ, if_true, reduceIte, Nat.reduceEqDiff]
   refine vwp_seq ?_
   refine vwp_freeze 0 45 3 _ rfl ?_
   simp only [go_sem]
   refine vwp_trim 0 (by simp) (by simp) ?_
   simp only [go_sem, mapE]
   rw [List.take_of_length_le (by simp)]
   refine vwp_seq (vwp_region ?_)
   refine oG [] ?_
   refine oC (fun _ => c_closure_Order (allP l more)) b_closure_Order ?_
   simp only [go_sem]
   refine oG [] ?_
   refine vops_done [10, 15] ?_
   simp only [go_sem, thenQ, blockQ, jumpQ, stayQ]
   refine oR [10, 15, 66] ?_
   refine oB (fun h5 => ?_) fun h5 => ?_
   ·
    refine oR [4, 5] ?_
    refine vwp_ret ?_
    simp only [thenQ, blockQ, jumpQ, stayQ, RetQ, go_sem]
    rw [join_order hbl hbm hcl (by simpa using h5)]
    refine ⟨by simp, ?_⟩
    exact Wk.tuple ⟨Wk.nils _, Wk.refl _, trivial⟩
   ·
    refine vwp_skip ?_
    try simp only [thenQ, blockQ, jumpQ, stayQ]
    refine vwp_seq (vwp_region ?_)
    refine oG [] ?_
    refine oC (fun _ => c_closure_Sorted (allP l more)) b_closure_Sorted ?_
    simp only [go_sem]
    refine oG [] ?_
    refine vops_done [4, 5] ?_
    simp only [go_sem, thenQ, blockQ, jumpQ, stayQ]
    refine vwp_ret ?_
    simp only [thenQ, blockQ, jumpQ, stayQ, RetQ, go_sem]
    refine ⟨by simp, Wk.eq ?_⟩
    rw [join_ok hbl hbm hcl (by simpa using h5)]
theorem b_ref16_Join : bodied Go.Proofs.Tryz.prog 39 = true := by rw [bodied, Tryz.func39]; rfl
set_option maxHeartbeats 8000000 in
theorem c_ref16_Join (l more : List Patch) : VPure Go.Proofs.Tryz.prog G 39 [.list 3 (l.map cPatch), .list 3 (more.map cPatch)] (.tuple [.list 3 ((joinP l more).1.map cPatch), .int .i64 (joinP l more).2]) := by
 refine vpure_know fun hk => ?_
 simp only [factsL, facts, maxB, List.length_map] at hk
 refine vpure_of (ts := [4, 5]) Tryz.func39 rfl (by simp [Tryz.ntmps39]) rfl rfl ?_
 rw [Tryz.ntmps39]
 refine vwp_reg tabOk [27] [0, 1] (by simp only [go_sem]; rfl) (by first | trivial | (simp; done) | (simp [in64]; omega)) ?_
 refine vwp_seq (vwp_region ?_)
 refine oG [27] ?_
 refine oC (fun _ => c_ref14_Sorted l) b_ref14_Sorted ?_
 simp only [go_sem]
 refine oG [27] ?_
 refine vops_done [0, 1, 6] ?_
 simp only [go_sem, thenQ, blockQ, jumpQ, stayQ]
 refine vwp_seq ?_
 refine vwp_reg tabOk [27] [0, 1, 6, 17] (by simp only [go_sem]; rfl) (by first | trivial | (simp; done) | (simp [in64]; omega)) ?_
 refine oB (fun h0 => ?_) fun h0 => ?_
 ·
  refine vwp_reg tabOk [27] [4, 5] (by simp only [go_sem]; rfl) (by first | trivial | (simp; done) | (simp [in64]; omega)) ?_
  refine vwp_ret ?_
  simp only [thenQ, blockQ, jumpQ, stayQ, RetQ, go_sem]
  have hob : ofB l = false := by
   cases hb : ofB l with
   | false => rfl
   | true => rw [(sortP_err).2 hb] at h0; simp at h0
  rw [show joinP l more = ([], 1) from by rw [joinP, if_pos hob], sortP_no hob]
  refine ⟨by simp, ?_⟩
  exact Wk.tuple ⟨Wk.nils _, Wk.refl _, trivial⟩
 ·
  refine vwp_skip ?_
  try simp only [thenQ, blockQ, jumpQ, stayQ]
  refine vwp_seq (vwp_region ?_)
  refine oG [27] ?_
  refine oC (fun _ => c_ref14_Sorted more) b_ref14_Sorted ?_
  simp only [go_sem]
  refine oG [27] ?_
  refine vops_done [0, 1, 6] ?_
  simp only [go_sem, thenQ, blockQ, jumpQ, stayQ]
  refine vwp_seq ?_
  refine vwp_reg tabOk [27] [0, 1, 6, 25] (by simp only [go_sem]; rfl) (by first | trivial | (simp; done) | (simp [in64]; omega)) ?_
  refine oB (fun h1 => ?_) fun h1 => ?_
  ·
   refine vwp_reg tabOk [27] [4, 5] (by simp only [go_sem]; rfl) (by first | trivial | (simp; done) | (simp [in64]; omega)) ?_
   refine vwp_ret ?_
   simp only [thenQ, blockQ, jumpQ, stayQ, RetQ, go_sem]
   have hol : ofB l = true := sortP_err.1 (by simpa using h0)
   have hob : ofB more = false := by
    cases hb : ofB more with
    | false => rfl
    | true => rw [(sortP_err).2 hb] at h1; simp at h1
   rw [show joinP l more = ([], 1) from by rw [joinP, if_neg (by rw [hol]; decide), if_pos hob], sortP_no hob]
   refine ⟨by simp, ?_⟩
   exact Wk.tuple ⟨Wk.nils _, Wk.refl _, trivial⟩
  ·
   have hbl := sortP_err.1 (show (sortP l).2 = 0 by simpa using h0)
   have hbm := sortP_err.1 (show (sortP more).2 = 0 by simpa using h1)
   obtain ⟨hpl, hal, hll⟩ := ofB_iff.1 hbl
   obtain ⟨hpm, ham, hml⟩ := ofB_iff.1 hbm
   obtain ⟨_, hpS, _⟩ := sortP_eq hbl
   obtain ⟨_, hpM, _⟩ := sortP_eq hbm
   have hlS := hpS.length_eq
   have hlM := hpM.length_eq
   have hcp := clash_perm hpS hal hpM
   have hap := all_perm hpS hal hpM
   refine vwp_skip ?_
   try simp only [thenQ, blockQ, jumpQ, stayQ]
   refine vwp_reg tabOk [27] [0, 1, 7] (by simp only [go_sem]; rfl) (by first | trivial | (simp; done) | (simp; omega)) ?_
   refine vwp_seq ?_
   refine vwp_reg tabOk [27] [0, 1, 7, 8] (by simp only [go_sem]; rfl) (by first | trivial | (simp; done) | (simp [in64]; omega)) ?_
   refine vwp_block ?_
   refine vwp_loopW (fun i : Nat => [(0, .list 3 ((sortP l).1.map cPatch)), (1, .list 3 ((sortP more).1.map cPatch)), (7, .arr 0 (allP (sortP l).1 ((sortP more).1.take i)).length), (8, .int .i64 (i : Int))]) (fun i => [.arr 45 3 ((allP (sortP l).1 ((sortP more).1.take i)).map cPatch)]) (fun i => i ≤ (sortP more).1.length ∧ ((sortP more).1.take i).any (clash1 (sortP l).1) = false) (fun i => (sortP more).1.length - i) 0 ⟨Nat.zero_le _, by simp⟩ (Env.wk_cons (by first | exact Wk.refl _ | exact Wk.nils _ | (refine Wk.eq ?_; simp; done) | (refine Wk.eq ?_; simp [allP, newP]; done) | (refine Wk.eq ?_; congr 1 <;> omega)) (Env.wk_cons (by first | exact Wk.refl _ | exact Wk.nils _ | (refine Wk.eq ?_; simp; done) | (refine Wk.eq ?_; simp [allP, newP]; done) | (refine Wk.eq ?_; congr 1 <;> omega)) (Env.wk_cons (by first | exact Wk.refl _ | exact Wk.nils _ | (refine Wk.eq ?_; simp; done) | (refine Wk.eq ?_; simp [allP, newP]; done) | (refine Wk.eq ?_; congr 1 <;> omega)) (Env.wk_cons (by first | exact Wk.refl _ | exact Wk.nils _ | (refine Wk.eq ?_; simp; done) | (refine Wk.eq ?_; simp [allP, newP]; done) | (refine Wk.eq ?_; congr 1 <;> omega)) (Env.wk_nil _))))) (by simp [allP, newP]) ?_
   rintro i ⟨hi, hcl⟩
   refine vwp_seq ?_
   refine vwp_reg tabOk [27] [0, 1, 7, 8, 33] (by simp only [go_sem]; rfl) (by first | trivial | (simp; done) | (simp [in64]; omega)) ?_
   refine oB (fun h2 => ?_) fun h2 => ?_
   ·
    have h2' : i < (sortP more).1.length := by simp at h2; omega
    have hal2 : (allP (sortP l).1 ((sortP more).1.take i)).length ≤ 512 := by
     have := newP_len (sortP l).1 ((sortP more).1.take i)
     rw [List.length_take] at this
     simp only [allP, List.length_append]; omega
    refine vwp_skip ?_
    try simp only [thenQ, blockQ, jumpQ, stayQ]
    refine vwp_seq ?_
    refine vwp_block ?_
    refine vwp_seq (vwp_region ?_)
    refine vops_go tabOk [27] (by simp only [go_sem, getD_map, h2']; rfl) (by first | trivial | (simp [h2']; done) | (simp [h2']; omega)) ?_
    refine vops_call (hc := fun _ => c_ref14_Find (sortP l).1 (sortP more).1[i].name) rfl (by simp only [go_sem, getD_map, h2']; rfl) rfl b_ref14_Find (by simp only [go_sem]; exact WkL.refl _) rfl (fun hg => by simp only [go_sem]; try (intros; first | assumption | trivial | simp_all)) ?_
    simp only [go_sem]
    refine vops_go tabOk [27] (by simp only [go_sem, getD_map, h2']; rfl) (by first | trivial | (simp [h2']; done) | (simp [h2']; omega)) ?_
    refine vops_done [0, 1, 7, 8, 9, 10] ?_
    simp only [go_sem, thenQ, blockQ, jumpQ, stayQ]
    refine vwp_reg tabOk [27] [0, 1, 7, 8, 9, 47] (by simp only [go_sem]; rfl) (by first | trivial | (simp; done) | (simp [in64]; omega)) ?_
    refine oB (fun h3 => ?_) fun h3 => ?_
    ·
     have hfn : findP (sortP l).1 (sortP more).1[i].name = none := by
      cases hf : findP (sortP l).1 (sortP more).1[i].name with
      | none => rfl
      | some q => rw [gP, hf] at h3; simp at h3
     refine vwp_reg1 tabOk [27] [0, 1, 7, 8] (by simp only [go_sem, getD_map, h2']; rfl) (by first | trivial | (simp [h2']; done) | (simp [h2']; omega)) ?_
     try simp only [thenQ, blockQ, jumpQ, stayQ]
     refine vwp_trim 1 (by simp) (by simp) ?_
     simp only [go_sem, mapE]
     refine vwp_reg1 tabOk [27] [0, 1, 7, 8] (by simp only [go_sem]; rfl) (by first | trivial | (simp; done) | (simp [in64]; omega)) ?_
     try simp only [thenQ, blockQ, jumpQ, stayQ]
     obtain ⟨hall, hc1⟩ := all_take_new h2' hfn
     exact ⟨i + 1, ⟨by omega, by rw [clash_take h2', hcl, hc1]; rfl⟩, by omega, Env.wk_cons (Wk.refl _) (Env.wk_cons (Wk.refl _) (Env.wk_cons (Wk.eq (by rw [hall]; try simp)) (Env.wk_cons (Wk.refl _) (Env.wk_nil _)))), by rw [hall] <;> simp [cPatch]⟩
    ·
     obtain ⟨q, hfs⟩ : ∃ q, findP (sortP l).1 (sortP more).1[i].name = some q := by
      cases hf : findP (sortP l).1 (sortP more).1[i].name with
      | none => rw [gP, hf] at h3; simp at h3
      | some q => exact ⟨q, rfl⟩
     have hpq : pOr (sortP l).1 (sortP more).1[i].name = q := by rw [pOr, hfs]; rfl
     rw [hpq]
     refine vwp_seq (vwp_drawD mixed (by kernel_rfl) (eF := ?_) ?_ [0, 1, 7, 8, 61] rfl ?_)
     rotate_left
     ·
      refine dall_go tabOk (by simp only [go_sem, getD_map, h2']; rfl) (by first | trivial | (simp [h2']; done) | (simp [h2']; omega)) ?_
      refine dall_call (hc := fun _ => c_ref13_Same q (sortP more).1[i]) rfl (by simp only [go_sem, getD_map, h2']; rfl) b_ref13_Same (by simp only [go_sem]; exact WkL.refl _) rfl (fun hg => by simp only [go_sem]; try (intros; first | assumption | trivial | simp_all)) ?_
      simp only [go_sem]
      refine dall_go tabOk (by simp only [go_sem, getD_map, h2']; rfl) (by first | trivial | (simp [h2']; done) | (simp [h2']; omega)) ?_
      exact dall_nil
     simp only [go_sem, thenQ, blockQ, jumpQ, stayQ]
     refine oB (fun h4 => ?_) fun h4 => ?_
     ·
      refine vwp_reg tabOk [27] [4, 5] (by simp only [go_sem]; rfl) (by first | trivial | (simp; done) | (simp [in64]; omega)) ?_
      refine vwp_ret ?_
      simp only [thenQ, blockQ, jumpQ, stayQ, RetQ, go_sem]
      rw [join_clash hbl hbm (by rw [← hcp]; exact clash_at h2' (by rw [(all_take_old h2' hfs).2]; exact h4))]
      refine ⟨by simp, ?_⟩
      exact Wk.tuple ⟨Wk.nils _, Wk.refl _, trivial⟩
     ·
      refine vwp_skip ?_
      try simp only [thenQ, blockQ, jumpQ, stayQ]
      refine vwp_trim 1 (by simp) (by simp) ?_
      simp only [go_sem, mapE]
      refine vwp_reg1 tabOk [27] [0, 1, 7, 8] (by simp only [go_sem]; rfl) (by first | trivial | (simp; done) | (simp [in64]; omega)) ?_
      try simp only [thenQ, blockQ, jumpQ, stayQ]
      obtain ⟨hall, hc1⟩ := all_take_old h2' hfs
      rw [show decide (q = (sortP more).1[i]) = true from by simpa using h4] at hc1
      exact ⟨i + 1, ⟨by omega, by rw [clash_take h2', hcl, hc1]; rfl⟩, by omega, Env.wk_cons (Wk.refl _) (Env.wk_cons (Wk.refl _) (Env.wk_cons (Wk.eq (by rw [hall]; try simp)) (Env.wk_cons (Wk.refl _) (Env.wk_nil _)))), by rw [hall] <;> simp [cPatch]⟩
   ·
    have hie : i = (sortP more).1.length := by simp at h2; omega
    subst hie
    rw [List.take_length] at hcl ⊢
    rw [hcp] at hcl
    refine vwp_exit ?_
    simp only [thenQ, blockQ, jumpQ, stayQ, if_true, reduceIte, Nat.reduceEqDiff]
    refine vwp_freeze 0 45 3 _ rfl ?_
    simp only [go_sem]
    refine vwp_trim 0 (by simp) (by simp) ?_
    simp only [go_sem, mapE]
    rw [List.take_of_length_le (by simp)]
    refine vwp_seq (vwp_region ?_)
    refine oG [27] ?_
    refine oC (fun _ => c_ref14_Order (allP (sortP l).1 (sortP more).1)) b_ref14_Order ?_
    simp only [go_sem]
    refine oG [27] ?_
    refine vops_done [6, 7] ?_
    simp only [go_sem, thenQ, blockQ, jumpQ, stayQ]
    refine vwp_seq ?_
    refine vwp_reg tabOk [27] [6, 7, 68] (by simp only [go_sem]; rfl) (by first | trivial | (simp; done) | (simp [in64]; omega)) ?_
    refine oB (fun h5 => ?_) fun h5 => ?_
    ·
     refine vwp_reg tabOk [27] [4, 5] (by simp only [go_sem]; rfl) (by first | trivial | (simp; done) | (simp [in64]; omega)) ?_
     refine vwp_ret ?_
     simp only [thenQ, blockQ, jumpQ, stayQ, RetQ, go_sem]
     rw [orderP_perm hap] at h5 ⊢
     rw [join_order hbl hbm hcl (by simpa using h5)]
     refine ⟨by simp, ?_⟩
     exact Wk.tuple ⟨Wk.nils _, Wk.refl _, trivial⟩
    ·
     refine vwp_skip ?_
     try simp only [thenQ, blockQ, jumpQ, stayQ]
     refine vwp_seq (vwp_region ?_)
     refine oG [27] ?_
     refine oC (fun _ => c_ref14_Sorted (allP (sortP l).1 (sortP more).1)) b_ref14_Sorted ?_
     simp only [go_sem]
     refine oG [27] ?_
     refine vops_done [4, 5] ?_
     simp only [go_sem, thenQ, blockQ, jumpQ, stayQ]
     refine vwp_ret ?_
     simp only [thenQ, blockQ, jumpQ, stayQ, RetQ, go_sem]
     refine ⟨by simp, Wk.eq ?_⟩
     rw [orderP_perm hap] at h5
     rw [join_ok hbl hbm hcl (by simpa using h5), sortP_perm hap]
end Go.Proofs.YtnobnefabagbhaaGreatDoor.Q
end

section
/- Names, rising, each once: the document's way and the library's are one. -/
namespace Go.Proofs.YtnobnefabagbhaaGreatDoor.Q
open Go Go.Q
def upS (l : List Str) : Prop := l.Pairwise (· < ·)
theorem upS_uniq {l l' : List Str} (h : upS l) (h' : upS l') (hm : ∀ x, x ∈ l ↔ x ∈ l') : l = l' := by
 have nd : ∀ {l : List Str}, upS l → l.Nodup := fun h => h.imp fun h e => by subst e; exact List.lt_irrefl _ h
 exact List.Perm.eq_of_pairwise (le := fun a b => a ≤ b) (fun a b _ _ e1 e2 => List.le_antisymm e1 e2) (h.imp fun h => List.le_of_lt h) (h'.imp fun h => List.le_of_lt h) ((List.perm_ext_iff_of_nodup (nd h) (nd h')).2 hm)
theorem geS_iff (a x : Str) : geS a x = true ↔ ¬ a < x := by
 unfold geS
 rw [bytesLess_eq]; simp
theorem insG_gt {x y : Str} (h : ¬ geS y x = true) : y < x := by
 rw [geS_iff] at h
 exact Decidable.of_not_not h
def insG (x : Str) : List Str → List Str
 | [] => [x]
 | y :: r => if geS y x then (if strGt y x then x :: y :: r else y :: r) else y :: insG x r
theorem insF_G (x : Str) : ∀ (l : List Str), insF x l = insG x l
 | [] => rfl
 | y :: r => by
  have ih := insF_G x r
  unfold insF at ih ⊢
  by_cases hy : geS y x = true
  ·rw [if_pos (show ((y :: r).any fun y => geS y x) = true by simp [hy])]
   simp only [insW, insG, if_pos hy]
   split <;> simp
  ·rw [show ((y :: r).any fun y => geS y x) = (r.any fun y => geS y x) by simp [hy]]
   simp only [insW, insG, if_neg hy, ← ih]
   split <;> simp
theorem insG_mem (x z : Str) : ∀ (l : List Str), z ∈ insG x l ↔ z = x ∨ z ∈ l
 | [] => by simp [insG]
 | y :: r => by
  have ih := insG_mem x z r
  rw [insG]
  by_cases hy : geS y x = true
  ·rw [if_pos hy]
   by_cases hs : strGt y x = true
   ·rw [if_pos hs]; simp
   ·rw [if_neg hs]
    rw [Bool.not_eq_true, strGt_false] at hs
    have he : y = x := hs.resolve_left ((geS_iff y x).1 hy)
    subst he
    simp
  ·rw [if_neg hy, List.mem_cons, ih, List.mem_cons]
   constructor
   ·rintro (h | h | h)
    ·exact .inr (.inl h)
    ·exact .inl h
    ·exact .inr (.inr h)
   ·rintro (h | h | h)
    ·exact .inr (.inl h)
    ·exact .inl h
    ·exact .inr (.inr h)
theorem insG_up (x : Str) : ∀ (l : List Str), upS l → upS (insG x l)
 | [], _ => by simp [insG, upS]
 | y :: r, h => by
  have hc := List.pairwise_cons.1 h
  have ih := insG_up x r hc.2
  rw [insG]
  by_cases hy : geS y x = true
  ·rw [if_pos hy]
   by_cases hs : strGt y x = true
   ·rw [if_pos hs]
    rw [strGt_true] at hs
    refine List.pairwise_cons.2 ⟨fun z hz => ?_, h⟩
    rcases List.mem_cons.1 hz with rfl | hz
    ·exact hs
    ·exact List.lt_trans hs (hc.1 z hz)
   ·rw [if_neg hs]; exact h
  ·rw [if_neg hy]
   refine List.pairwise_cons.2 ⟨fun z hz => ?_, ih⟩
   rcases (insG_mem x z r).1 hz with rfl | hz
   ·exact insG_gt hy
   ·exact hc.1 z hz
theorem risR_facts : ∀ (l acc : List Str), upS acc → upS (risR acc l) ∧ ∀ z, z ∈ risR acc l ↔ z ∈ acc ∨ z ∈ l
 | [], acc, h => ⟨h, by simp [risR]⟩
 | x :: r, acc, h => by
  have h1 : upS (insF x acc) := by rw [insF_G]; exact insG_up x acc h
  obtain ⟨h2, h3⟩ := risR_facts r (insF x acc) h1
  refine ⟨h2, fun z => ?_⟩
  rw [risR, h3, insF_G, insG_mem, List.mem_cons]
  constructor
  ·rintro ((h | h) | h)
   ·exact .inr (.inl h)
   ·exact .inl h
   ·exact .inr (.inr h)
  ·rintro (h | h | h)
   ·exact .inl (.inr h)
   ·exact .inl (.inl h)
   ·exact .inr h
theorem compact_facts {zs : List Str} (hs : zs.Pairwise (· ≤ ·)) : ∀ (m : Nat), m ≤ zs.length → upS (Lib.compactUpTo zs.toArray m) ∧ (∀ x, x ∈ Lib.compactUpTo zs.toArray m ↔ x ∈ zs.take m) ∧ ∀ x ∈ Lib.compactUpTo zs.toArray m, ∀ j (hj : j < zs.length), m ≤ j + 1 → x ≤ zs[j]
 | 0, _ => ⟨by simp [Lib.compactUpTo, upS], by simp [Lib.compactUpTo], by simp [Lib.compactUpTo]⟩
 | m + 1, hm => by
  obtain ⟨h1, h2, h3⟩ := compact_facts hs m (by omega)
  have hml : m < zs.length := by omega
  have hget : zs.toArray[m]! = zs[m] := by rw [getElem!_pos zs.toArray m (by simpa using hml)]; simp
  have hle : ∀ j (hj : j < zs.length), m ≤ j → zs[m] ≤ zs[j] := by
   intro j hj hmj
   rcases Nat.lt_or_ge m j with h | h
   ·exact List.pairwise_iff_getElem.1 hs m j hml hj h
   ·have : m = j := by omega
    subst this; exact List.le_refl _
  rw [Lib.compactUpTo_succ, hget]
  by_cases hk : Lib.keeps zs.toArray m = true
  ·rw [if_pos hk]
   have hlt : ∀ x ∈ Lib.compactUpTo zs.toArray m, x < zs[m] := by
    intro x hx
    have hm0 : 0 < m := by
     rcases Nat.eq_zero_or_pos m with h | h
     ·subst h; simp [Lib.compactUpTo] at hx
     ·exact h
    have hx1 := h3 x hx (m - 1) (by omega) (by omega)
    have hne : zs[m] ≠ zs[m - 1] := by
     simp only [Lib.keeps, decide_eq_true_eq] at hk
     have := hk.resolve_left (by omega)
     rw [hget, getElem!_pos zs.toArray (m - 1) (by simp; omega)] at this
     simpa using this
    have h5 := List.pairwise_iff_getElem.1 hs (m - 1) m (by omega) hml (by omega)
    rcases str_tri x zs[m] with h | h | h
    ·exact h
    ·exact absurd (List.le_antisymm (h ▸ hx1) h5) hne
    ·exact absurd h (List.not_lt.2 (List.le_trans hx1 h5))
   refine ⟨?_, fun x => ?_, fun x hx j hj hmj => ?_⟩
   ·rw [upS, List.pairwise_append]
    exact ⟨h1, by simp, fun a ha b hb => by simp at hb; subst hb; exact hlt a ha⟩
   ·rw [List.mem_append, h2, take_succ_mem hml, List.mem_singleton]
   ·rcases List.mem_append.1 hx with hx | hx
    ·exact h3 x hx j hj (by omega)
    ·have : x = zs[m] := by simpa using hx
     rw [this]; exact hle j hj (by omega)
  ·rw [if_neg hk, List.append_nil]
   have hkk : m ≠ 0 ∧ zs[m] = zs[m - 1]'(by omega) := by
    simp only [Lib.keeps, decide_eq_true_eq, not_or, ne_eq, Decidable.not_not] at hk
    refine ⟨hk.1, ?_⟩
    have := hk.2
    rw [hget, getElem!_pos zs.toArray (m - 1) (by simp; omega)] at this
    simpa using this
   refine ⟨h1, fun x => ?_, fun x hx j hj hmj => h3 x hx j hj (by omega)⟩
   rw [h2, take_succ_mem hml]
   constructor
   ·exact .inl
   ·rintro (h | rfl)
    ·exact h
    ·rw [hkk.2]; exact List.mem_take_iff_getElem.2 ⟨m - 1, by omega, rfl⟩
theorem rise_eq (l : List Str) : Lib.compact (sortS l) = risR [] l := by
 obtain ⟨h1, h2, _⟩ := compact_facts (sortS_le l) (sortS l).length (Nat.le_refl _)
 obtain ⟨h3, h4⟩ := risR_facts l [] (by simp [upS])
 refine upS_uniq h1 h3 fun x => ?_
 rw [Lib.compact, h2, h4, List.take_length, (sortS_perm l).mem_iff]; simp
end Go.Proofs.YtnobnefabagbhaaGreatDoor.Q
end

section
/- Walks of what is asked, answered and accepted, in the logic 'Q'. -/
namespace Go.Proofs.YtnobnefabagbhaaGreatDoor.Q
open Go Go.Q
theorem elemP_ask : ElemP Go.Proofs.Tryz.prog G 28 (fun x : Str => .str x) (fun s => !labelB s) := ⟨b_exchange_Ask_1, c_exchange_Ask_1⟩
def M0 : Msg := ⟨0, [], [], 0, []⟩
def askP (ps : List Patch) (want : List Str) : Msg × Int := if ofB ps = true ∧ want.all labelB = true then (⟨1, risR [] want, namesP (sortP ps).1, 0, []⟩, 0) else (M0, 1)
theorem askP_bad {ps : List Patch} {want : List Str} (h : (bif !decide ((sortP ps).2 = 0) then true else want.any fun s => !labelB s) = true) : askP ps want = (M0, 1) := by
 rw [askP, if_neg]
 rintro ⟨h1, h2⟩
 rw [(sortP_err).2 h1] at h
 have : (want.any fun s => !labelB s) = true := by simpa using h
 obtain ⟨s, hs, hl⟩ := List.any_eq_true.1 this
 rw [List.all_eq_true.1 h2 s hs] at hl
 cases hl
theorem askP_ok {ps : List Patch} {want : List Str} (h : (bif !decide ((sortP ps).2 = 0) then true else want.any fun s => !labelB s) = false) : askP ps want = (⟨1, risR [] want, namesP (sortP ps).1, 0, []⟩, 0) := by
 have h1 : (sortP ps).2 = 0 := by
  by_cases h1 : (sortP ps).2 = 0
  ·exact h1
  ·simp [h1] at h
 rw [h1] at h
 rw [askP, if_pos]
 refine ⟨sortP_err.1 h1, List.all_eq_true.2 fun s hs => ?_⟩
 have : (want.any fun s => !labelB s) = false := by simpa using h
 simpa using List.any_eq_false.1 this s hs
theorem askP_sort {ps : List Patch} {want : List Str} (h : (sortP ps).2 ≠ 0) : askP ps want = (M0, 1) := askP_bad (by simp [h])
theorem askP_label {ps : List Patch} {want : List Str} {i : Nat} (hi : i < want.length) (h : labelB want[i] = false) : askP ps want = (M0, 1) := by
 rw [askP, if_neg]
 rintro ⟨_, h2⟩
 rw [List.all_eq_true.1 h2 _ (List.getElem_mem hi)] at h
 cases h
theorem askP_good {ps : List Patch} {want : List Str} (h : (sortP ps).2 = 0) (h2 : want.all labelB = true) : askP ps want = (⟨1, risR [] want, namesP (sortP ps).1, 0, []⟩, 0) := by
 rw [askP, if_pos ⟨sortP_err.1 h, h2⟩]
def noP (e : Int) : Msg := ⟨3, [], [], e, []⟩
def wantP (l : List Patch) (x : Msg) : List Str := if x.names = [] then namesP l else x.names
def answerP (l : List Patch) (x : Msg) : Msg := if (putMsgR x).2 ≠ 0 ∨ x.kind ≠ 1 then noP 1 else if (wantsP l x.have_ (wantP l x)).2 ≠ 0 then noP (wantsP l x.have_ (wantP l x)).2 else
 if (putMsgR ⟨2, [], [], 0, (wantsP l x.have_ (wantP l x)).1⟩).2 ≠ 0 then noP 2 else ⟨2, [], [], 0, (wantsP l x.have_ (wantP l x)).1⟩
def acceptP (l : List Patch) (x : Msg) : List Patch × Int := if x.kind = 3 ∧ x.err ≠ 0 then ([], x.err) else if x.kind ≠ 2 then ([], 1) else joinP l x.patches
theorem answerP_1 {l : List Patch} {x : Msg} (h : (bif !decide ((putMsgR x).2 = 0) then true else !decide (x.kind = 1)) = true) : answerP l x = noP 1 := by
 rw [answerP, if_pos]
 by_cases h1 : (putMsgR x).2 = 0
 ·right; simpa [h1] using h
 ·exact .inl h1
theorem answerP_2 {x : Msg} (h : (bif !decide ((putMsgR x).2 = 0) then true else !decide (x.kind = 1)) = false) : ¬ ((putMsgR x).2 ≠ 0 ∨ x.kind ≠ 1) := by
 by_cases h1 : (putMsgR x).2 = 0
 ·rw [h1] at h; rintro (h2 | h2)
  ·exact h2 h1
  ·simp [h2] at h
 ·simp [h1] at h
theorem answerP_3 {l : List Patch} {x : Msg} (h : ¬ ((putMsgR x).2 ≠ 0 ∨ x.kind ≠ 1)) (h2 : (!decide ((wantsP l x.have_ (wantP l x)).2 = 0)) = true) : answerP l x = noP (wantsP l x.have_ (wantP l x)).2 := by
 rw [answerP, if_neg h, if_pos (by simpa using h2)]
theorem answerP_4 {l : List Patch} {x : Msg} (h : ¬ ((putMsgR x).2 ≠ 0 ∨ x.kind ≠ 1)) (h2 : (!decide ((wantsP l x.have_ (wantP l x)).2 = 0)) = false) (h3 : (!decide ((putMsgR ⟨2, [], [], 0, (wantsP l x.have_ (wantP l x)).1⟩).2 = 0)) = true) : answerP l x = noP 2 := by
 rw [answerP, if_neg h, if_neg (by simpa using h2), if_pos (by simpa using h3)]
theorem answerP_5 {l : List Patch} {x : Msg} (h : ¬ ((putMsgR x).2 ≠ 0 ∨ x.kind ≠ 1)) (h2 : (!decide ((wantsP l x.have_ (wantP l x)).2 = 0)) = false) (h3 : (!decide ((putMsgR ⟨2, [], [], 0, (wantsP l x.have_ (wantP l x)).1⟩).2 = 0)) = false) : answerP l x = ⟨2, [], [], 0, (wantsP l x.have_ (wantP l x)).1⟩ := by
 rw [answerP, if_neg h, if_neg (by simpa using h2), if_neg (by simpa using h3)]
theorem lst_nil : (lst []).length ≤ 30 := by
 have := num_nat 0 (by omega)
 simp [lst, txts] at this ⊢; omega
theorem wants_enc {l : List Patch} {hv w : List Str} {N : Nat} (h : ∀ p ∈ l, (patchEnc p).length ≤ N) : ∀ p ∈ (wantsP l hv w).1, (patchEnc p).length ≤ N := by
 intro p hp
 unfold wantsP at hp
 split at hp
 ·rename_i h0
  exact h p ((sortP_eq (downP_ofB h0)).2.1.mem_iff.1 (List.mem_filter.1 hp).1)
 ·simp at hp
theorem want_len {l : List Patch} {x : Msg} (hl : l.length ≤ 100000000) (hn : (lst x.names).length ≤ 100000000) : (wantP l x).length ≤ 100000000 := by
 unfold wantP
 split
 ·rw [namesP, List.length_map]; exact hl
 ·have := txts_ge x.names
  simp only [lst, List.length_append] at hn; omega
theorem b_exchange_Ask : bodied Go.Proofs.Tryz.prog 12 = true := by rw [bodied, Tryz.func12]; rfl
set_option maxHeartbeats 4000000 in
theorem c_exchange_Ask (ps : List Patch) (want : List Str) (hw : want.length ≤ 1000000) : VPure Go.Proofs.Tryz.prog G 12 [.list 3 (ps.map cPatch), .list 1 (want.map cS)] (.tuple [.agg (cMsg (askP ps want).1), .int .i64 (askP ps want).2]) := by
 have hsl := (sortS_perm want).length_eq
 refine vpure_of2 tabOk (rs := _) Tryz.func12 rfl (by simp [Tryz.ntmps12]) rfl rfl ?_
 rw [Tryz.ntmps12]
 refine vwp_reg tabOk [] [0, 1, 4] (by simp only [go_sem, List.getElem?_nil]; rfl) (by first | trivial | (simp; done) | (simp [in64]; omega)) ?_
 refine vwp_seq (vwp_region ?_)
 refine oL [] ?_
 refine vops_call (hc := fun _ => c_slices_ContainsFunc_string_string _ _ elemP_ask want) rfl (by simp only [go_sem, List.getElem?_nil]; rfl) rfl b_slices_ContainsFunc_string_string (by simp only [go_sem, List.getElem?_nil]; exact WkL.refl _) rfl (fun hg => by simp only [go_sem]; try (intros; first | assumption | trivial | simp_all)) ?_
 simp only [go_sem]
 refine oL [] ?_
 refine vops_done [0, 1, 4, 6] ?_
 simp only [go_sem, thenQ, blockQ, jumpQ, stayQ]
 refine vwp_seq (vwp_region ?_)
 refine oL [] ?_
 refine vops_call (hc := fun _ => c_closure_Sorted ps) rfl (by simp only [go_sem, List.getElem?_nil]; rfl) rfl b_closure_Sorted (by simp only [go_sem, List.getElem?_nil]; exact WkL.refl _) rfl (fun hg => by simp only [go_sem]; try (intros; first | assumption | trivial | simp_all)) ?_
 simp only [go_sem]
 refine oL [] ?_
 refine vops_done [0, 1, 4, 6, 7] ?_
 simp only [go_sem, thenQ, blockQ, jumpQ, stayQ]
 refine vwp_seq ?_
 refine vwp_reg tabOk [] [0, 1, 4, 19] (by simp only [go_sem, List.getElem?_nil]; rfl) (by first | trivial | (simp; done) | (simp [in64]; omega)) ?_
 refine oB (fun h0 => ?_) fun h0 => ?_
 ·
  refine vwp_reg tabOk [] [4, 5] (by simp only [go_sem, List.getElem?_nil]; rfl) (by first | trivial | (simp; done) | (simp [in64]; omega)) ?_
  refine vwp_ret ?_
  try simp only [thenQ, blockQ, jumpQ, stayQ, go_sem]
  rw [askP_bad h0]
  refine ⟨by simp, _, _, rfl, trivial, ?_⟩
  simp only [go_sem]
  exact Wk.tuple ⟨Wk.agg ⟨Wk.refl _, Wk.nils _, Wk.nils _, Wk.refl _, Wk.nils _, trivial⟩, Wk.refl _, trivial⟩
 ·
  refine vwp_skip ?_
  try simp only [thenQ, blockQ, jumpQ, stayQ]
  refine vwp_seq (vwp_region ?_)
  refine oL [] ?_
  refine vops_callH (hc := c_slices_Values_string_string want) rfl rfl rfl b_slices_Values_string_string [] [] [] rfl rfl rfl (by simp only [go_sem]; exact WkL.refl _) (by simp only [go_sem]) ?_
  rintro r2 H2 ⟨rfl, rfl⟩
  simp only [go_sem, List.getElem?_nil]
  refine vops_callH (hc := c_slices_Sorted_string want hw) rfl rfl rfl b_slices_Sorted_string [1] [] [] rfl rfl rfl (by simp only [go_sem]; exact WkL.refl _) (by simp only [go_sem]) ?_
  rintro r3 H3 ⟨rfl, rfl⟩
  simp only [go_sem, List.getElem?_nil]
  refine vops_callH (hc := c_Compact_str (sortS want) (by omega)) rfl rfl rfl b_Compact_nil [3] [] [] rfl rfl rfl (by simp only [go_sem]; exact WkL.refl _) (by simp only [go_sem]) ?_
  rintro r4 H4 ⟨xs, rfl, rfl⟩
  simp only [go_sem, List.getElem?_nil]
  refine oL [] ?_
  refine vops_done [0, 1, 4] ?_
  simp only [go_sem, thenQ, blockQ, jumpQ, stayQ]
  refine vwp_freeze 3 9 1 _ rfl ?_
  simp only [go_sem]
  rw [List.map_append, List.take_append_of_le_length (by simp), List.take_of_length_le (by simp), rise_eq]
  have h256 := ofB_len (sortP_err.1 (show (sortP ps).2 = 0 from by
   by_cases h1 : (sortP ps).2 = 0
   ·exact h1
   ·simp [h1] at h0))
  have hl2 := sortP_length ps
  refine vwp_seq (vwp_region ?_)
  refine oL [] ?_
  refine vops_call (hc := fun _ => c_exchange_names (sortP ps).1 (by omega)) rfl (by simp only [go_sem, List.getElem?_nil]; rfl) rfl b_exchange_names (by simp only [go_sem, List.getElem?_nil]; exact WkL.refl _) rfl (fun hg => by simp only [go_sem]; try (intros; first | assumption | trivial | simp_all)) ?_
  simp only [go_sem]
  refine oL [] ?_
  refine vops_done [4, 5] ?_
  simp only [go_sem, thenQ, blockQ, jumpQ, stayQ]
  refine vwp_ret ?_
  try simp only [thenQ, blockQ, jumpQ, stayQ, go_sem]
  rw [askP_ok h0]
  refine ⟨by simp, _, _, rfl, trivial, ?_⟩
  simp only [go_sem]
  exact Wk.tuple ⟨Wk.agg ⟨Wk.refl _, Wk.refl _, Wk.refl _, Wk.refl _, Wk.nils _, trivial⟩, Wk.refl _, trivial⟩
theorem b_ref21_Ask : bodied Go.Proofs.Tryz.prog 13 = true := by rw [bodied, Tryz.func13]; rfl
set_option maxHeartbeats 4000000 in
theorem c_ref21_Ask (ps : List Patch) (want : List Str) (hw : want.length ≤ 1000000) : VPure Go.Proofs.Tryz.prog G 13 [.list 3 (ps.map cPatch), .list 1 (want.map cS)] (.tuple [.agg (cMsg (askP ps want).1), .int .i64 (askP ps want).2]) := by
 refine vpure_know fun hk => ?_
 simp only [factsL, facts, maxB, List.length_map] at hk
 refine vpure_of2 tabOk (rs := _) Tryz.func13 rfl (by simp [Tryz.ntmps13]) rfl rfl ?_
 rw [Tryz.ntmps13]
 refine oR [0, 1, 4] ?_
 refine vwp_seq (vwp_region ?_)
 refine oG [] ?_
 refine oC (fun _ => c_ref14_Sorted ps) b_ref14_Sorted ?_
 simp only [go_sem]
 refine oG [] ?_
 refine vops_done [0, 1, 4, 6] ?_
 simp only [go_sem, thenQ, blockQ, jumpQ, stayQ]
 refine vwp_seq ?_
 refine oR [0, 1, 4, 14] ?_
 refine oB (fun h0 => ?_) fun h0 => ?_
 ·
  refine oR [4, 5] ?_
  refine vwp_ret ?_
  try simp only [thenQ, blockQ, jumpQ, stayQ, go_sem]
  rw [askP_sort (by simpa using h0)]
  refine ⟨by simp, _, _, rfl, trivial, ?_⟩
  simp only [go_sem]
  exact Wk.tuple ⟨Wk.agg ⟨Wk.refl _, Wk.nils _, Wk.nils _, Wk.refl _, Wk.nils _, trivial⟩, Wk.refl _, trivial⟩
 ·
  have h256 := ofB_len (sortP_err.1 (show (sortP ps).2 = 0 by simpa using h0))
  have hl2 := sortP_length ps
  refine vwp_skip ?_
  try simp only [thenQ, blockQ, jumpQ, stayQ]
  refine vwp_seq ?_
  refine oR [0, 1, 4, 7] ?_
  refine vwp_block ?_
  refine vwp_loopW (fun i : Nat => [(0, .list 3 ((sortP ps).1.map cPatch)), (1, .list 1 (want.map cS)), (4, .ptr 0 0), (7, .int .i64 (i : Int))]) (fun i => [.box [.int .i64 0, .nils, .nils, .int .i64 0, .nils]]) (fun i => i ≤ want.length ∧ (want.take i).all labelB = true) (fun i => want.length - i) 0 ⟨Nat.zero_le _, by rfl⟩ (wC (wC (wC (wC (Env.wk_nil _))))) rfl ?_
  rintro i ⟨hi, hn⟩
  refine vwp_seq ?_
  refine oR [0, 1, 4, 7, 19] ?_
  refine oB (fun h1 => ?_) fun h1 => ?_
  ·
   have h1' : i < want.length := by simp at h1; omega
   refine vwp_skip ?_
   try simp only [thenQ, blockQ, jumpQ, stayQ]
   refine vwp_seq ?_
   refine vwp_block ?_
   refine vwp_seq (vwp_region ?_)
   refine vops_go tabOk [] (by simp only [go_sem]; rfl) (by first | trivial | (simp [h1']; done) | (simp [h1']; omega)) ?_
   refine oC (fun _ => c_ref13_Label (want.getD i [])) b_ref13_Label ?_
   simp only [go_sem]
   refine vops_go tabOk [] (by simp only [go_sem]; rfl) (by first | trivial | (simp [h1']; done) | (simp [h1']; omega)) ?_
   refine vops_done [0, 1, 4, 7, 27] ?_
   simp only [go_sem, thenQ, blockQ, jumpQ, stayQ]
   refine oB (fun h2 => ?_) fun h2 => ?_
   ·
    refine oR [4, 5] ?_
    refine vwp_ret ?_
    try simp only [thenQ, blockQ, jumpQ, stayQ, go_sem]
    rw [askP_label h1' (by rw [getD_lt h1'] at h2; simpa using h2)]
    refine ⟨by simp, _, _, rfl, trivial, ?_⟩
    simp only [go_sem]
    exact Wk.tuple ⟨Wk.agg ⟨Wk.refl _, Wk.nils _, Wk.nils _, Wk.refl _, Wk.nils _, trivial⟩, Wk.refl _, trivial⟩
   ·
    refine vwp_skip ?_
    try simp only [thenQ, blockQ, jumpQ, stayQ]
    refine vwp_reg1 tabOk [] [0, 1, 4, 7] (by simp only [go_sem]; rfl) (by first | trivial | (simp; done) | (simp [in64]; omega)) ?_
    try simp only [thenQ, blockQ, jumpQ, stayQ]
    exact ⟨i + 1, ⟨by omega, by rw [getD_lt h1'] at h2; rw [List.take_succ_eq_append_getElem h1', List.all_append, hn]; simpa using h2⟩, by omega, (wC (wC (wC (wC (Env.wk_nil _))))), (by first | rfl | trivial)⟩
  ·
   refine vwp_exit ?_
   simp only [thenQ, blockQ, jumpQ, stayQ, if_true, reduceIte, Nat.reduceEqDiff]
   refine vwp_seq (vwp_region ?_)
   refine oG [] ?_
   refine oC (fun _ => c_ref21_Rising want hw) b_ref21_Rising ?_
   simp only [go_sem]
   refine oG [] ?_
   refine oC (fun _ => c_ref21_names (sortP ps).1 (by omega)) b_ref21_names ?_
   simp only [go_sem]
   refine oG [] ?_
   refine vops_done [4, 5] ?_
   simp only [go_sem, thenQ, blockQ, jumpQ, stayQ]
   refine vwp_ret ?_
   try simp only [thenQ, blockQ, jumpQ, stayQ, go_sem]
   have hie : i = want.length := by simp at h1; omega
   subst hie
   rw [List.take_length] at hn
   rw [askP_good (by simpa using h0) hn]
   refine ⟨by simp, _, _, rfl, trivial, ?_⟩
   simp only [go_sem]
   exact Wk.tuple ⟨Wk.agg ⟨Wk.refl _, Wk.refl _, Wk.refl _, Wk.refl _, Wk.nils _, trivial⟩, Wk.refl _, trivial⟩
theorem b_exchange_Answer : bodied Go.Proofs.Tryz.prog 17 = true := by rw [bodied, Tryz.func17]; rfl
set_option maxHeartbeats 8000000 in
theorem c_exchange_Answer (l : List Patch) (x : Msg) (hl : l.length ≤ 100000000) (hp : ∀ p ∈ l, (patchEnc p).length ≤ 500000000) (hn : (lst x.names).length ≤ 100000000) (hh : (lst x.have_).length ≤ 100000000) (h : ∀ p ∈ x.patches, (patchEnc p).length ≤ 500000000) : VPure Go.Proofs.Tryz.prog G 17 [.list 3 (l.map cPatch), .agg (cMsg x)] (.agg (cMsg (answerP l x))) := by
 have hwl := want_len (l := l) (x := x) hl hn
 refine vpure_of2 tabOk (rs := _) Tryz.func17 rfl (by simp [Tryz.ntmps17]) rfl rfl ?_
 rw [Tryz.ntmps17]
 refine oR [0, 3, 4] ?_
 refine vwp_seq ?_
 refine vwp_seq (vwp_region ?_)
 refine oG [] ?_
 refine oC (fun _ => c_codec_Put x hn hh h) b_codec_Put ?_
 simp only [go_sem]
 refine oG [] ?_
 refine vops_done [0, 3, 4, 6] ?_
 simp only [go_sem, thenQ, blockQ, jumpQ, stayQ]
 refine oR [0, 3, 4, 22] ?_
 refine oB (fun h0 => ?_) fun h0 => ?_
 ·
  refine vwp_seq (vwp_region ?_)
  refine oC (fun _ => c_exchange_no 1) b_exchange_no ?_
  simp only [go_sem]
  refine oG [] ?_
  refine vops_done [4] ?_
  simp only [go_sem, thenQ, blockQ, jumpQ, stayQ]
  refine vwp_ret ?_
  try simp only [thenQ, blockQ, jumpQ, stayQ, go_sem]
  rw [answerP_1 h0]
  refine ⟨by simp, _, _, rfl, trivial, ?_⟩
  simp only [go_sem]
  exact Wk.refl _
 ·
  refine vwp_skip ?_
  try simp only [thenQ, blockQ, jumpQ, stayQ]
  refine oR [0, 3, 4, 7] ?_
  refine vwp_joinE (fun w : Unit => [(0, .list 3 (l.map cPatch)), (3, .ptr 0 0), (4, .ptr 1 0), (7, .list 1 ((wantP l x).map cS))]) (fun w => [.box (cMsg x), .box [.int .i64 0, .nils, .nils, .int .i64 0, .nils]]) (fun w => True) ?_ ?_
  ·
   refine oR [0, 3, 4, 7, 28] ?_
   refine oB (fun h1 => ?_) fun h1 => ?_
   ·
    refine vwp_region ?_
    refine oG [] ?_
    refine oC (fun _ => c_exchange_names l (by omega)) b_exchange_names ?_
    simp only [go_sem]
    refine oG [] ?_
    refine vops_done [0, 3, 4, 7] ?_
    simp only [go_sem, thenQ, blockQ, jumpQ, stayQ]
    try simp only [thenQ, blockQ, jumpQ, stayQ]
    have hwq : V.list 1 ((namesP l).map cS) = V.list 1 ((wantP l x).map cS) := by rw [wantP, if_pos (show x.names = [] by simpa using h1)]
    first | exact ⟨(), trivial, Env.wk_cons (Wk.refl _) (Env.wk_cons (Wk.refl _) (Env.wk_cons (Wk.refl _) (Env.wk_cons (Wk.eq hwq) (Env.wk_nil _)))), by first | rfl | trivial⟩ | exact ⟨(), Env.wk_cons (Wk.refl _) (Env.wk_cons (Wk.refl _) (Env.wk_cons (Wk.refl _) (Env.wk_cons (Wk.eq hwq) (Env.wk_nil _))))⟩ | exact Env.wk_cons (Wk.refl _) (Env.wk_cons (Wk.refl _) (Env.wk_cons (Wk.refl _) (Env.wk_cons (Wk.eq hwq) (Env.wk_nil _))))
   ·
    refine vwp_skip ?_
    try simp only [thenQ, blockQ, jumpQ, stayQ]
    have hwq : V.list 1 (x.names.map cS) = V.list 1 ((wantP l x).map cS) := by rw [wantP, if_neg (show ¬ x.names = [] by simpa using h1)]
    first | exact ⟨(), trivial, Env.wk_cons (Wk.refl _) (Env.wk_cons (Wk.refl _) (Env.wk_cons (Wk.refl _) (Env.wk_cons (Wk.eq hwq) (Env.wk_nil _)))), by first | rfl | trivial⟩ | exact ⟨(), Env.wk_cons (Wk.refl _) (Env.wk_cons (Wk.refl _) (Env.wk_cons (Wk.refl _) (Env.wk_cons (Wk.eq hwq) (Env.wk_nil _))))⟩ | exact Env.wk_cons (Wk.refl _) (Env.wk_cons (Wk.refl _) (Env.wk_cons (Wk.refl _) (Env.wk_cons (Wk.eq hwq) (Env.wk_nil _))))
  ·
   rintro w _
   refine vwp_seq (vwp_region ?_)
   refine oG [] ?_
   refine oC (fun _ => c_inventory_Wants l x.have_ (wantP l x) (by omega)) b_inventory_Wants ?_
   simp only [go_sem]
   refine oG [] ?_
   refine vops_done [4, 8, 9] ?_
   simp only [go_sem, thenQ, blockQ, jumpQ, stayQ]
   refine vwp_seq ?_
   refine oR [4, 8, 9, 40] ?_
   refine oB (fun h2 => ?_) fun h2 => ?_
   ·
    refine vwp_seq (vwp_region ?_)
    refine oG [] ?_
    refine oC (fun _ => c_exchange_no (wantsP l x.have_ (wantP l x)).2) b_exchange_no ?_
    simp only [go_sem]
    refine oG [] ?_
    refine vops_done [4] ?_
    simp only [go_sem, thenQ, blockQ, jumpQ, stayQ]
    refine vwp_ret ?_
    try simp only [thenQ, blockQ, jumpQ, stayQ, go_sem]
    rw [answerP_3 (answerP_2 h0) h2]
    refine ⟨by simp, _, _, rfl, trivial, ?_⟩
    simp only [go_sem]
    exact Wk.refl _
   ·
    refine vwp_skip ?_
    try simp only [thenQ, blockQ, jumpQ, stayQ]
    refine oR [4, 10] ?_
    refine vwp_seq ?_
    refine vwp_seq (vwp_region ?_)
    refine oG [] ?_
    refine vops_call (hc := fun _ => c_codec_Put ⟨2, [], [], 0, (wantsP l x.have_ (wantP l x)).1⟩ (by have := lst_nil; simp only []; omega) (by have := lst_nil; simp only []; omega) (by have := wants_enc (hv := x.have_) (w := wantP l x) hp; exact fun p hq => Nat.le_trans (this p hq) (by omega))) rfl (by simp only [go_sem]; rfl) rfl b_codec_Put (by simp only [go_sem]; exact ⟨Wk.agg ⟨Wk.refl _, Wk.nils _, Wk.nils _, Wk.refl _, Wk.refl _, trivial⟩, trivial⟩) rfl (fun hg => by simp only [go_sem]; try (intros; first | assumption | trivial | simp_all)) ?_
    simp only [go_sem]
    refine oG [] ?_
    refine vops_done [4, 9, 10] ?_
    simp only [go_sem, thenQ, blockQ, jumpQ, stayQ]
    refine oR [4, 10, 51] ?_
    refine oB (fun h3 => ?_) fun h3 => ?_
    ·
     refine vwp_seq (vwp_region ?_)
     refine oC (fun _ => c_exchange_no 2) b_exchange_no ?_
     simp only [go_sem]
     refine oG [] ?_
     refine vops_done [4] ?_
     simp only [go_sem, thenQ, blockQ, jumpQ, stayQ]
     refine vwp_ret ?_
     try simp only [thenQ, blockQ, jumpQ, stayQ, go_sem]
     rw [answerP_4 (answerP_2 h0) h2 h3]
     refine ⟨by simp, _, _, rfl, trivial, ?_⟩
     simp only [go_sem]
     exact Wk.refl _
    ·
     refine vwp_skip ?_
     try simp only [thenQ, blockQ, jumpQ, stayQ]
     refine oR [4] ?_
     refine vwp_ret ?_
     try simp only [thenQ, blockQ, jumpQ, stayQ, go_sem]
     rw [answerP_5 (answerP_2 h0) h2 h3]
     refine ⟨by simp, _, _, rfl, trivial, ?_⟩
     simp only [go_sem]
     exact Wk.agg ⟨Wk.refl _, Wk.nils _, Wk.nils _, Wk.refl _, Wk.refl _, trivial⟩
theorem b_ref21_Answer : bodied Go.Proofs.Tryz.prog 18 = true := by rw [bodied, Tryz.func18]; rfl
set_option maxHeartbeats 8000000 in
theorem c_ref21_Answer (l : List Patch) (x : Msg) (hl : l.length ≤ 100000000) (hp : ∀ p ∈ l, (patchEnc p).length ≤ 500000000) (hn : (lst x.names).length ≤ 100000000) (hh : (lst x.have_).length ≤ 100000000) (h : ∀ p ∈ x.patches, (patchEnc p).length ≤ 500000000) : VPure Go.Proofs.Tryz.prog G 18 [.list 3 (l.map cPatch), .agg (cMsg x)] (.agg (cMsg (answerP l x))) := by
 have hwl := want_len (l := l) (x := x) hl hn
 refine vpure_of2 tabOk (rs := _) Tryz.func18 rfl (by simp [Tryz.ntmps18]) rfl rfl ?_
 rw [Tryz.ntmps18]
 refine oR [0, 3, 4] ?_
 refine vwp_seq (vwp_region ?_)
 refine oG [] ?_
 refine oC (fun _ => c_ref17_Put x (by omega) (by omega) (fun p hp => by have := h p hp; omega)) b_ref17_Put ?_
 simp only [go_sem]
 refine oG [] ?_
 refine vops_done [0, 3, 4, 6] ?_
 simp only [go_sem, thenQ, blockQ, jumpQ, stayQ]
 refine vwp_seq ?_
 refine oR [0, 3, 4, 21] ?_
 refine oB (fun h0 => ?_) fun h0 => ?_
 ·
  refine oR [4] ?_
  refine vwp_ret ?_
  try simp only [thenQ, blockQ, jumpQ, stayQ, go_sem]
  rw [answerP_1 h0]
  refine ⟨by simp, _, _, rfl, trivial, ?_⟩
  simp only [go_sem]
  exact Wk.agg ⟨Wk.refl _, Wk.nils _, Wk.nils _, Wk.refl _, Wk.nils _, trivial⟩
 ·
  refine vwp_skip ?_
  try simp only [thenQ, blockQ, jumpQ, stayQ]
  refine oR [0, 3, 4, 7] ?_
  refine vwp_joinE (fun w : Unit => [(0, .list 3 (l.map cPatch)), (3, .ptr 0 0), (4, .ptr 1 0), (7, .list 1 ((wantP l x).map cS))]) (fun w => [.box (cMsg x), .box [.int .i64 0, .nils, .nils, .int .i64 0, .nils]]) (fun w => True) ?_ ?_
  ·
   refine oR [0, 3, 4, 7, 27] ?_
   refine oB (fun h1 => ?_) fun h1 => ?_
   ·
    refine vwp_region ?_
    refine oG [] ?_
    refine oC (fun _ => c_ref21_names l (by omega)) b_ref21_names ?_
    simp only [go_sem]
    refine oG [] ?_
    refine vops_done [0, 3, 4, 7] ?_
    simp only [go_sem, thenQ, blockQ, jumpQ, stayQ]
    try simp only [thenQ, blockQ, jumpQ, stayQ]
    have hwq : V.list 1 ((namesP l).map cS) = V.list 1 ((wantP l x).map cS) := by rw [wantP, if_pos (show x.names = [] by simpa using h1)]
    first | exact ⟨(), trivial, Env.wk_cons (Wk.refl _) (Env.wk_cons (Wk.refl _) (Env.wk_cons (Wk.refl _) (Env.wk_cons (Wk.eq hwq) (Env.wk_nil _)))), by first | rfl | trivial⟩ | exact ⟨(), Env.wk_cons (Wk.refl _) (Env.wk_cons (Wk.refl _) (Env.wk_cons (Wk.refl _) (Env.wk_cons (Wk.eq hwq) (Env.wk_nil _))))⟩ | exact Env.wk_cons (Wk.refl _) (Env.wk_cons (Wk.refl _) (Env.wk_cons (Wk.refl _) (Env.wk_cons (Wk.eq hwq) (Env.wk_nil _))))
   ·
    refine vwp_skip ?_
    try simp only [thenQ, blockQ, jumpQ, stayQ]
    have hwq : V.list 1 (x.names.map cS) = V.list 1 ((wantP l x).map cS) := by rw [wantP, if_neg (show ¬ x.names = [] by simpa using h1)]
    first | exact ⟨(), trivial, Env.wk_cons (Wk.refl _) (Env.wk_cons (Wk.refl _) (Env.wk_cons (Wk.refl _) (Env.wk_cons (Wk.eq hwq) (Env.wk_nil _)))), by first | rfl | trivial⟩ | exact ⟨(), Env.wk_cons (Wk.refl _) (Env.wk_cons (Wk.refl _) (Env.wk_cons (Wk.refl _) (Env.wk_cons (Wk.eq hwq) (Env.wk_nil _))))⟩ | exact Env.wk_cons (Wk.refl _) (Env.wk_cons (Wk.refl _) (Env.wk_cons (Wk.refl _) (Env.wk_cons (Wk.eq hwq) (Env.wk_nil _))))
  ·
   rintro w _
   refine vwp_seq (vwp_region ?_)
   refine oG [] ?_
   refine oC (fun _ => c_ref16_Wants l x.have_ (wantP l x) (by omega)) b_ref16_Wants ?_
   simp only [go_sem]
   refine oG [] ?_
   refine vops_done [4, 6, 8] ?_
   simp only [go_sem, thenQ, blockQ, jumpQ, stayQ]
   refine vwp_seq ?_
   refine oR [4, 6, 8, 39] ?_
   refine oB (fun h2 => ?_) fun h2 => ?_
   ·
    refine oR [4] ?_
    refine vwp_ret ?_
    try simp only [thenQ, blockQ, jumpQ, stayQ, go_sem]
    rw [answerP_3 (answerP_2 h0) h2]
    refine ⟨by simp, _, _, rfl, trivial, ?_⟩
    simp only [go_sem]
    exact Wk.agg ⟨Wk.refl _, Wk.nils _, Wk.nils _, Wk.refl _, Wk.nils _, trivial⟩
   ·
    refine vwp_skip ?_
    try simp only [thenQ, blockQ, jumpQ, stayQ]
    refine oR [4, 9] ?_
    refine vwp_seq (vwp_region ?_)
    refine oG [] ?_
    refine vops_call (hc := fun _ => c_ref17_Put ⟨2, [], [], 0, (wantsP l x.have_ (wantP l x)).1⟩ (by have := lst_nil; simp only []; omega) (by have := lst_nil; simp only []; omega) (by have := wants_enc (hv := x.have_) (w := wantP l x) hp; exact fun p hq => Nat.le_trans (this p hq) (by omega))) rfl (by simp only [go_sem]; rfl) rfl b_ref17_Put (by simp only [go_sem]; exact ⟨Wk.agg ⟨Wk.refl _, Wk.nils _, Wk.nils _, Wk.refl _, Wk.refl _, trivial⟩, trivial⟩) rfl (fun hg => by simp only [go_sem]; try (intros; first | assumption | trivial | simp_all)) ?_
    simp only [go_sem]
    refine oG [] ?_
    refine vops_done [4, 6, 9] ?_
    simp only [go_sem, thenQ, blockQ, jumpQ, stayQ]
    refine vwp_seq ?_
    refine oR [4, 9, 50] ?_
    refine oB (fun h3 => ?_) fun h3 => ?_
    ·
     refine oR [4] ?_
     refine vwp_ret ?_
     try simp only [thenQ, blockQ, jumpQ, stayQ, go_sem]
     rw [answerP_4 (answerP_2 h0) h2 h3]
     refine ⟨by simp, _, _, rfl, trivial, ?_⟩
     simp only [go_sem]
     exact Wk.agg ⟨Wk.refl _, Wk.nils _, Wk.nils _, Wk.refl _, Wk.nils _, trivial⟩
    ·
     refine vwp_skip ?_
     try simp only [thenQ, blockQ, jumpQ, stayQ]
     refine oR [4] ?_
     refine vwp_ret ?_
     try simp only [thenQ, blockQ, jumpQ, stayQ, go_sem]
     rw [answerP_5 (answerP_2 h0) h2 h3]
     refine ⟨by simp, _, _, rfl, trivial, ?_⟩
     simp only [go_sem]
     exact Wk.agg ⟨Wk.refl _, Wk.nils _, Wk.nils _, Wk.refl _, Wk.refl _, trivial⟩
theorem b_exchange_Accept : bodied Go.Proofs.Tryz.prog 14 = true := by rw [bodied, Tryz.func14]; rfl
theorem c_exchange_Accept (l : List Patch) (x : Msg) (hp : ∀ p ∈ l, (patchEnc p).length ≤ 500000000) (h : ∀ p ∈ x.patches, (patchEnc p).length ≤ 500000000) : VPure Go.Proofs.Tryz.prog G 14 [.list 3 (l.map cPatch), .agg (cMsg x)] (.tuple [.list 3 ((acceptP l x).1.map cPatch), .int .i64 (acceptP l x).2]) := by
 refine vpure_of (ts := [4, 5]) Tryz.func14 rfl (by simp [Tryz.ntmps14]) rfl rfl ?_
 rw [Tryz.ntmps14]
 refine oR [0, 3] ?_
 refine vwp_seq ?_
 refine vwp_block ?_
 refine oR [0, 3, 6] ?_
 refine oB (fun h0 => ?_) fun h0 => ?_
 ·
  refine vwp_seq (vwp_drawD mixed (by kernel_rfl) (eF := ?_) ?_ [4, 5] rfl ?_)
  rotate_left
  ·
   refine dall_go tabOk (by simp only [go_sem]; rfl) (by first | trivial | (simp; done) | (simp [in64]; omega)) ?_
   exact dall_nil
  simp only [go_sem, thenQ, blockQ, jumpQ, stayQ]
  refine vwp_ret ?_
  simp only [thenQ, blockQ, jumpQ, stayQ, RetQ, go_sem]
  rw [show acceptP l x = ([], x.err) from by rw [acceptP, if_pos (by revert h0; by_cases hk : x.kind = 3 <;> simp [hk])]]
  refine ⟨by simp, ?_⟩
  exact Wk.tuple ⟨Wk.nils _, Wk.refl _, trivial⟩
 ·
  refine oR [0, 3, 17] ?_
  refine oB (fun h1 => ?_) fun h1 => ?_
  ·
   refine oR [4, 5] ?_
   refine vwp_ret ?_
   simp only [thenQ, blockQ, jumpQ, stayQ, RetQ, go_sem]
   have hn : ¬ (x.kind = 3 ∧ x.err ≠ 0) := by revert h0; by_cases hk : x.kind = 3 <;> simp [hk]
   rw [show acceptP l x = ([], 1) from by rw [acceptP, if_neg hn, if_pos (by simpa using h1)]]
   refine ⟨by simp, ?_⟩
   exact Wk.tuple ⟨Wk.nils _, Wk.refl _, trivial⟩
  ·
   refine vwp_skip ?_
   try simp only [thenQ, blockQ, jumpQ, stayQ]
   refine vwp_seq (vwp_region ?_)
   refine oG [] ?_
   refine oC (fun _ => c_inventory_Join l x.patches hp h) b_inventory_Join ?_
   simp only [go_sem]
   refine oG [] ?_
   refine vops_done [4, 5] ?_
   simp only [go_sem, thenQ, blockQ, jumpQ, stayQ]
   refine vwp_ret ?_
   simp only [thenQ, blockQ, jumpQ, stayQ, RetQ, go_sem]
   refine ⟨by simp, Wk.eq ?_⟩
   have hn : ¬ (x.kind = 3 ∧ x.err ≠ 0) := by revert h0; by_cases hk : x.kind = 3 <;> simp [hk]
   rw [show acceptP l x = joinP l x.patches from by rw [acceptP, if_neg hn, if_neg (by simpa using h1)]]
theorem b_ref21_Accept : bodied Go.Proofs.Tryz.prog 15 = true := by rw [bodied, Tryz.func15]; rfl
theorem c_ref21_Accept (l : List Patch) (x : Msg) (hp : ∀ p ∈ l, (patchEnc p).length ≤ 500000000) (h : ∀ p ∈ x.patches, (patchEnc p).length ≤ 500000000) : VPure Go.Proofs.Tryz.prog G 15 [.list 3 (l.map cPatch), .agg (cMsg x)] (.tuple [.list 3 ((acceptP l x).1.map cPatch), .int .i64 (acceptP l x).2]) := by
 refine vpure_of (ts := [4, 5]) Tryz.func15 rfl (by simp [Tryz.ntmps15]) rfl rfl ?_
 rw [Tryz.ntmps15]
 refine oR [0, 3] ?_
 refine vwp_seq ?_
 refine oR [0, 3, 13] ?_
 refine oB (fun h0 => ?_) fun h0 => ?_
 ·
  refine vwp_seq (vwp_drawD mixed (by kernel_rfl) (eF := ?_) ?_ [4, 5] rfl ?_)
  rotate_left
  ·
   refine dall_go tabOk (by simp only [go_sem]; rfl) (by first | trivial | (simp; done) | (simp [in64]; omega)) ?_
   exact dall_nil
  simp only [go_sem, thenQ, blockQ, jumpQ, stayQ]
  refine vwp_ret ?_
  simp only [thenQ, blockQ, jumpQ, stayQ, RetQ, go_sem]
  rw [show acceptP l x = ([], x.err) from by rw [acceptP, if_pos (by revert h0; by_cases hk : x.kind = 3 <;> simp [hk])]]
  refine ⟨by simp, ?_⟩
  exact Wk.tuple ⟨Wk.nils _, Wk.refl _, trivial⟩
 ·
  refine vwp_skip ?_
  try simp only [thenQ, blockQ, jumpQ, stayQ]
  refine vwp_seq ?_
  refine oR [0, 3, 18] ?_
  refine oB (fun h1 => ?_) fun h1 => ?_
  ·
   refine oR [4, 5] ?_
   refine vwp_ret ?_
   simp only [thenQ, blockQ, jumpQ, stayQ, RetQ, go_sem]
   have hn : ¬ (x.kind = 3 ∧ x.err ≠ 0) := by revert h0; by_cases hk : x.kind = 3 <;> simp [hk]
   rw [show acceptP l x = ([], 1) from by rw [acceptP, if_neg hn, if_pos (by simpa using h1)]]
   refine ⟨by simp, ?_⟩
   exact Wk.tuple ⟨Wk.nils _, Wk.refl _, trivial⟩
  ·
   refine vwp_skip ?_
   try simp only [thenQ, blockQ, jumpQ, stayQ]
   refine vwp_seq (vwp_region ?_)
   refine oG [] ?_
   refine oC (fun _ => c_ref16_Join l x.patches) b_ref16_Join ?_
   simp only [go_sem]
   refine oG [] ?_
   refine vops_done [4, 5] ?_
   simp only [go_sem, thenQ, blockQ, jumpQ, stayQ]
   refine vwp_ret ?_
   simp only [thenQ, blockQ, jumpQ, stayQ, RetQ, go_sem]
   refine ⟨by simp, Wk.eq ?_⟩
   have hn : ¬ (x.kind = 3 ∧ x.err ≠ 0) := by revert h0; by_cases hk : x.kind = 3 <;> simp [hk]
   rw [show acceptP l x = joinP l x.patches from by rw [acceptP, if_neg hn, if_neg (by simpa using h1)]]
end Go.Proofs.YtnobnefabagbhaaGreatDoor.Q
end

section
/- Walks of the laws of what is asked and given, in the logic 'Q'. -/
namespace Go.Proofs.YtnobnefabagbhaaGreatDoor.Q
open Go Go.Q
def greatS (l : List Str) : Bool := decide (2000 ≤ l.length + capsum2 l)
theorem greatS_len {l : List Str} (h : greatS l = false) : l.length ≤ 2000 := by
 have := of_decide_eq_false h
 omega
def pA : Patch := ⟨[97], [], []⟩
def pB : Patch := ⟨[98], [[97]], []⟩
def WkLL : List (List V) → List (List V) → Prop
 | [], [] => True
 | c :: r, d :: t => WkL c d ∧ WkLL r t
 | _, _ => False
theorem WkL.length : ∀ {l t : List V}, WkL l t → t.length = l.length
 | [], [], _ => rfl
 | _ :: _, _ :: _, h => by simp [WkL.length h.2]
 | [], _ :: _, h => h.elim
 | _ :: _, [], h => h.elim
theorem WkLL.length : ∀ {l t : List (List V)}, WkLL l t → t.length = l.length
 | [], [], _ => rfl
 | _ :: _, _ :: _, h => by simp [WkLL.length h.2]
 | [], _ :: _, h => h.elim
 | _ :: _, [], h => h.elim
theorem WkLL.rel {F : Nat → Prop} {w : World} {k : Nat} : ∀ {l t : List (List V)} {us : List Value}, WkLL l t → RelLL F w k l us → RelLL F w k t us
 | [], [], us, _, h => h
 | c :: r, d :: t, us, h, hr => by
  simp only [RelLL] at hr ⊢
  obtain ⟨u, v, rfl, h1, h2, h3, h4⟩ := hr
  exact ⟨u, v, rfl, by rw [WkL.length h.1]; exact h1, h.1.rel h2, h3, WkLL.rel h.2 h4⟩
 | [], _ :: _, _, h, _ => h.elim
 | _ :: _, [], _, h, _ => h.elim
theorem Wk.list {k : Nat} {l t : List (List V)} (h : WkLL l t) : Wk (.list k l) (.list k t) := fun F ρ w mv hr => by
 simp only [Rel] at hr ⊢
 obtain ⟨a, c, us, h1, h2, h3, h4, h5⟩ := hr
 rw [WkLL.length h]
 exact ⟨a, c, us, h1, h2, h3, h.rel h4, h5⟩
theorem wkA : WkL [.str [97], .nils, .nils] (cPatch pA) := ⟨Wk.refl _, Wk.nils _, Wk.nils _, trivial⟩
theorem wkB : WkL [.str [98], .list 1 [[.str [97]]], .nils] (cPatch pB) := ⟨Wk.refl _, Wk.refl _, Wk.nils _, trivial⟩
theorem wkPA : Wk (.list 3 [[.str [97], .nils, .nils]]) (.list 3 ([pA].map cPatch)) := Wk.list ⟨wkA, trivial⟩
theorem wkPL : Wk (.list 3 [[.str [97], .nils, .nils], [.str [98], .list 1 [[.str [97]]], .nils]]) (.list 3 (([pA, pB] : List Patch).map cPatch)) := Wk.list ⟨wkA, wkB, trivial⟩
theorem b_law21_great : bodied Go.Proofs.Tryz.prog 10 = true := by rw [bodied, Tryz.func10]; rfl
theorem c_law21_great (l : List Str) : VPure Go.Proofs.Tryz.prog G 10 [.list 1 (l.map cS)] (.bool (greatS l)) := by
 refine vpure_know fun hk => ?_
 simp only [factsL, facts, maxB, List.length_map] at hk
 refine vpure_of (ts := [2]) Tryz.func10 rfl (by simp [Tryz.ntmps10]) rfl rfl ?_
 rw [Tryz.ntmps10]
 refine oR [0] ?_
 refine oR [0, 3] ?_
 refine vwp_seq ?_
 refine oR [0, 3, 4] ?_
 refine vwp_block ?_
 refine vwp_loopW (fun i : Nat => [(0, .list 1 (l.map cS)), (3, .int .i64 ((l.length + capsum2 (l.take i) : Nat) : Int)), (4, .int .i64 (i : Int))]) (fun i => []) (fun i => i ≤ l.length) (fun i => l.length - i) 0 (Nat.zero_le _) (Env.wk_cons (by first | exact Wk.refl _ | exact Wk.nils _ | (refine Wk.eq ?_; simp; done) | (refine Wk.eq ?_; simp [capsum2]; done) | (refine Wk.eq ?_; congr 1 <;> omega)) (Env.wk_cons (by first | exact Wk.refl _ | exact Wk.nils _ | (refine Wk.eq ?_; simp; done) | (refine Wk.eq ?_; simp [capsum2]; done) | (refine Wk.eq ?_; congr 1 <;> omega)) (Env.wk_cons (by first | exact Wk.refl _ | exact Wk.nils _ | (refine Wk.eq ?_; simp; done) | (refine Wk.eq ?_; simp [capsum2]; done) | (refine Wk.eq ?_; congr 1 <;> omega)) (Env.wk_nil _)))) rfl ?_
 rintro i hi
 refine vwp_seq ?_
 refine oR [0, 3, 4, 14] ?_
 refine oB (fun h0 => ?_) fun h0 => ?_
 ·
  have h0' : i < l.length ∧ l.length + capsum2 (l.take i) < 2000 := by revert h0; by_cases hil : (i : Int) < (l.length : Int) <;> simp [hil] <;> omega
  refine vwp_skip ?_
  try simp only [thenQ, blockQ, jumpQ, stayQ]
  refine vwp_seq ?_
  refine vwp_block ?_
  refine vwp_reg1 tabOk [] [0, 3, 4] (by simp only [go_sem]; rfl) (by first | trivial | (simp [h0'.1]; done) | (simp [h0'.1, in64]; omega)) ?_
  try simp only [thenQ, blockQ, jumpQ, stayQ]
  refine vwp_reg1 tabOk [] [0, 3, 4] (by simp only [go_sem]; rfl) (by first | trivial | (simp [in64]; omega)) ?_
  try simp only [thenQ, blockQ, jumpQ, stayQ]
  exact ⟨i + 1, by omega, by omega, Env.wk_cons (Wk.refl _) (Env.wk_cons (Wk.eq (by rw [capsum2_take _ _ h0'.1, getD_lt h0'.1, cap2]; congr 1; split <;> omega)) (Env.wk_cons (Wk.refl _) (Env.wk_nil _))), by trivial⟩
 ·
  refine vwp_exit ?_
  simp only [thenQ, blockQ, jumpQ, stayQ, if_true, reduceIte, Nat.reduceEqDiff]
  refine oR [2] ?_
  refine vwp_ret ?_
  simp only [thenQ, blockQ, jumpQ, stayQ, RetQ, go_sem]
  refine ⟨by simp, Wk.eq ?_⟩
  have e1 : 2000 ≤ l.length + capsum2 (l.take i) ∨ i = l.length := by
   by_cases hil : (i : Int) < (l.length : Int)
   ·simp [hil] at h0; omega
   ·omega
  have e2 := capsum2_le l i
  rw [greatS]
  congr 1
  refine decide_eq_decide.2 ?_
  rcases e1 with e1 | e1
  ·omega
  ·rw [e1, List.take_length]; omega
attribute [local irreducible] putMsgR
def hL : List Patch := [pA, pB]
def hG : Msg := ⟨2, [], [], 0, [pB]⟩
def hM : Msg := ⟨1, [[98]], [[97]], 0, []⟩
theorem ask_h : askP [pA] [[98], [98]] = (hM, 0) := by decide
theorem wants_h : wantsP hL [[97]] [[98]] = ([pB], 0) := by decide
theorem join_h : joinP [pA] [pB] = (hL, 0) := by decide
theorem num_s (n : Nat) (h : n ≤ 100000) : (num (n : Int)).length ≤ 22 := num_nat n (by omega)
theorem txt_s (s : Str) (h : s.length ≤ 100000) : (txt s).length ≤ 22 + s.length := by
 have := num_s s.length h
 simp only [txt, List.length_append]; omega
theorem enc_B : (patchEnc pB).length ≤ 200 := by
 have h1 := txt_s [98] (by decide)
 have h2 := txt_s [97] (by decide)
 have h3 := num_s 1 (by omega)
 have h4 := num_s 0 (by omega)
 simp [patchEnc, pB, lst, txts, prims] at h1 h2 h3 h4 ⊢
 omega
theorem put_hM : (putMsgR hM).2 = 0 := by
 have h1 := txt_s [98] (by decide)
 have h2 := txt_s [97] (by decide)
 have h3 := num_s 1 (by omega)
 have h4 := num_s 0 (by omega)
 have hl : (msgR hM).length ≤ 1000 := by
  have hb : bunR [] = (num 0, 0) := rfl
  simp [msgR, hM, lst, txts, hb] at h1 h2 h3 h4 ⊢
  omega
 rw [putMsgR, if_pos (by decide), if_neg (by omega)]
theorem put_hG : (putMsgR hG).2 = 0 := by
 have h0 := enc_B
 have h1 := txt_s (patchEnc pB) (by omega)
 have h3 := num_s 1 (by omega)
 have h4 := num_s 0 (by omega)
 have h5 := num_s 2 (by omega)
 have hl : (msgR hG).length ≤ 1000 := by
  have hb : bunR [pB] = (num 1 ++ txt (patchEnc pB), 0) := by
   have hs : sortedP [pB] = some [pB] := by decide
   have hp : putPatch pB = (patchEnc pB, 0) := putPatch_ok (by decide)
   simp only [bunR, hs, bunGo, hp]
   show ((if (num ((1 : Nat) : Int)).length ≤ 32768 then num ((1 : Nat) : Int) ++ txt (patchEnc pB) else num ((1 : Nat) : Int)), (0 : Int)) = _
   rw [if_pos (by omega)]
   rfl
  simp [msgR, hG, lst, txts, hb] at h1 h3 h4 h5 ⊢
  omega
 rw [putMsgR, if_pos (by decide), if_neg (by omega)]
theorem put_M0 : (putMsgR M0).2 = 1 := by rw [putMsgR, if_neg (by decide)]
theorem answer_h : answerP hL hM = hG := by
 rw [answerP, if_neg (by rw [put_hM]; decide)]
 have hw : wantP hL hM = [[98]] := rfl
 have hh : hM.have_ = [[97]] := rfl
 rw [hw, hh, wants_h, if_neg (by decide), if_neg (by rw [show (⟨2, [], [], 0, ([pB], (0 : Int)).1⟩ : Msg) = hG from rfl, put_hG]; decide)]
 rfl
theorem answer_0 : answerP hL M0 = noP 1 := by rw [answerP, if_pos (.inl (by rw [put_M0]; decide))]
theorem accept_h : acceptP [pA] hG = (hL, 0) := by
 rw [acceptP, if_neg (by decide), if_neg (by decide)]; exact join_h
theorem accept_0 : acceptP [] (noP 1) = ([], 1) := by rw [acceptP, if_pos (by decide)]; rfl
theorem cA_Ask : VPure Go.Proofs.Tryz.prog G 12 [.list 3 ([pA].map cPatch), .list 1 (([[98], [98]] : List Str).map cS)] (.tuple [.agg (cMsg hM), .int .i64 0]) := by
 have := c_exchange_Ask [pA] [[98], [98]] (by decide)
 rwa [ask_h] at this
theorem enc_A : (patchEnc pA).length ≤ 200 := by
 have h1 := txt_s [97] (by decide)
 have h4 := num_s 0 (by omega)
 simp [patchEnc, pA, lst, txts, prims] at h1 h4 ⊢
 omega
theorem enc_L : ∀ p ∈ hL, (patchEnc p).length ≤ 500000000 := by
 intro p hp
 rcases List.mem_cons.1 hp with rfl | hp
 ·have := enc_A; omega
 ·have : p = pB := by simpa using hp
  subst this
  have := enc_B; omega
theorem enc_A' : ∀ p ∈ [pA], (patchEnc p).length ≤ 500000000 := fun p hp => enc_L p (by rw [List.mem_singleton.1 hp]; exact List.mem_cons_self ..)
theorem enc_B' : ∀ p ∈ [pB], (patchEnc p).length ≤ 500000000 := fun p hp => enc_L p (by rw [List.mem_singleton.1 hp]; exact List.mem_cons_of_mem _ (List.mem_cons_self ..))
theorem lst1 (s : Str) (h : s.length ≤ 1000) : (lst [s]).length ≤ 2000 := by
 have h1 := txt_s s (by omega)
 have h2 := num_s 1 (by omega)
 simp [lst, txts] at h2 ⊢; omega
theorem cA_Answer : VPure Go.Proofs.Tryz.prog G 17 [.list 3 (hL.map cPatch), .agg (cMsg hM)] (.agg (cMsg hG)) := by
 have := c_exchange_Answer hL hM (by decide) enc_L (Nat.le_trans (lst1 [98] (by decide)) (by omega)) (Nat.le_trans (lst1 [97] (by decide)) (by omega)) (by simp [hM])
 rwa [answer_h] at this
theorem cA_Accept : VPure Go.Proofs.Tryz.prog G 14 [.list 3 ([pA].map cPatch), .agg (cMsg hG)] (.tuple [.list 3 (hL.map cPatch), .int .i64 0]) := by
 have := c_exchange_Accept [pA] hG enc_A' enc_B'
 rwa [accept_h] at this
theorem cA_Answer0 : VPure Go.Proofs.Tryz.prog G 17 [.list 3 (hL.map cPatch), .agg (cMsg M0)] (.agg (cMsg (noP 1))) := by
 have := c_exchange_Answer hL M0 (by decide) enc_L (Nat.le_trans lst_nil (by omega)) (Nat.le_trans lst_nil (by omega)) (by simp [M0])
 rwa [answer_0] at this
theorem cA_Accept0 : VPure Go.Proofs.Tryz.prog G 14 [.list 3 (([] : List Patch).map cPatch), .agg (cMsg (noP 1))] (.tuple [.list 3 (([] : List Patch).map cPatch), .int .i64 1]) := by
 have := c_exchange_Accept [] (noP 1) (by simp) (by simp [noP])
 rwa [accept_0] at this
theorem b_law21_head : bodied Go.Proofs.Tryz.prog 8 = true := by rw [bodied, Tryz.func8]; rfl
set_option maxHeartbeats 4000000 in
theorem c_law21_head  : VPure Go.Proofs.Tryz.prog G 8 [] (.bool true) := by
 refine vpure_of (ts := [0]) Tryz.func8 rfl (by simp [Tryz.ntmps8]) rfl rfl ?_
 rw [Tryz.ntmps8]
 refine oR [] ?_
 refine oR [1] ?_
 refine vwp_seq (vwp_region ?_)
 refine oG [] ?_
 refine vops_call (hc := fun _ => cA_Ask) rfl (by simp only [go_sem]; rfl) rfl b_exchange_Ask (by simp only [go_sem]; exact ⟨wkPA, Wk.refl _, trivial⟩) rfl (fun hg => by simp only [go_sem]; try (intros; first | assumption | trivial | simp_all)) ?_
 simp only [go_sem]
 refine oG [] ?_
 refine vops_done [1, 2, 3] ?_
 simp only [go_sem, thenQ, blockQ, jumpQ, stayQ]
 refine vwp_seq (vwp_region ?_)
 refine oG [] ?_
 refine vops_call (hc := fun _ => cA_Answer) rfl (by simp only [go_sem]; rfl) rfl b_exchange_Answer (by simp only [go_sem]; exact ⟨wkPL, Wk.refl _, trivial⟩) rfl (fun hg => by simp only [go_sem]; try (intros; first | assumption | trivial | simp_all)) ?_
 simp only [go_sem]
 refine oG [] ?_
 refine vops_done [1, 2, 3, 4] ?_
 simp only [go_sem, thenQ, blockQ, jumpQ, stayQ]
 refine vwp_seq (vwp_drawD mixed (by kernel_rfl) (eF := ?_) ?_ [1, 2, 3, 4, 5, 6] rfl ?_)
 rotate_left
 ·
  refine dall_go tabOk (by simp only [go_sem]; rfl) (by first | trivial | (simp; done) | (simp [in64]; omega)) ?_
  refine dall_call (hc := fun _ => cA_Accept) rfl (by simp only [go_sem]; rfl) b_exchange_Accept (by simp only [go_sem]; exact ⟨wkPA, Wk.refl _, trivial⟩) rfl (fun hg => by simp only [go_sem]; try (intros; first | assumption | trivial | simp_all)) ?_
  simp only [go_sem]
  refine dall_go tabOk (by simp only [go_sem]; rfl) (by first | trivial | (simp; done) | (simp [in64]; omega)) ?_
  exact dall_nil
 simp only [go_sem, thenQ, blockQ, jumpQ, stayQ]
 refine vwp_seq (vwp_region ?_)
 refine oG [] ?_
 refine vops_call (hc := fun _ => cA_Answer0) rfl (by simp only [go_sem]; rfl) rfl b_exchange_Answer (by simp only [go_sem]; exact ⟨wkPL, Wk.agg ⟨Wk.refl _, Wk.nils _, Wk.nils _, Wk.refl _, Wk.nils _, trivial⟩, trivial⟩) rfl (fun hg => by simp only [go_sem]; try (intros; first | assumption | trivial | simp_all)) ?_
 simp only [go_sem]
 refine oG [] ?_
 refine vops_done [2, 3, 4, 5, 6, 7] ?_
 simp only [go_sem, thenQ, blockQ, jumpQ, stayQ]
 refine vwp_seq (vwp_region ?_)
 refine oG [] ?_
 refine vops_call (hc := fun _ => cA_Accept0) rfl (by simp only [go_sem]; rfl) rfl b_exchange_Accept (by simp only [go_sem]; exact ⟨Wk.nils _, Wk.refl _, trivial⟩) rfl (fun hg => by simp only [go_sem]; try (intros; first | assumption | trivial | simp_all)) ?_
 simp only [go_sem]
 refine oG [] ?_
 refine vops_done [2, 3, 4, 5, 6, 7, 9] ?_
 simp only [go_sem, thenQ, blockQ, jumpQ, stayQ]
 refine oR [0] ?_
 refine vwp_ret ?_
 simp only [thenQ, blockQ, jumpQ, stayQ, RetQ, go_sem]
 refine ⟨by simp, Wk.eq ?_⟩
 rfl
set_option maxHeartbeats 8000000 in
theorem c_law21_ExchangeTells (l : List Patch) (names : List Str) (m : Msg) (hl : ∀ p ∈ l, fitP p) (hm : ∀ p ∈ m.patches, fitP p) : VPure Go.Proofs.Tryz.prog G 3 [.list 3 (l.map cPatch), .list 1 (names.map cS), .agg (cMsg m)] (.bool true) := by
 refine vpure_of (ts := [6]) Tryz.func3 rfl (by simp [Tryz.ntmps3]) rfl rfl ?_
 rw [Tryz.ntmps3]
 refine oR [0, 1, 5] ?_
 refine vwp_seq (vwp_region ?_)
 refine oC (fun _ => c_law21_head) b_law21_head ?_
 simp only [go_sem]
 refine oG [] ?_
 refine vops_done [0, 1, 5, 7] ?_
 simp only [go_sem, thenQ, blockQ, jumpQ, stayQ]
 refine vwp_seq ?_
 refine vwp_seq (vwp_region ?_)
 refine oG [] ?_
 refine oC (fun _ => c_law13_GreatList l) b_law13_GreatList ?_
 simp only [go_sem]
 refine oG [] ?_
 refine oC (fun _ => c_law21_great names) b_law21_great ?_
 simp only [go_sem]
 refine oG [] ?_
 refine oC (fun _ => c_law17_Great m) b_law17_Great ?_
 simp only [go_sem]
 refine oG [] ?_
 refine vops_done [0, 1, 5, 7, 26] ?_
 simp only [go_sem, thenQ, blockQ, jumpQ, stayQ]
 refine oB (fun h0 => ?_) fun h0 => ?_
 ·
  refine oR [6] ?_
  refine vwp_ret ?_
  simp only [thenQ, blockQ, jumpQ, stayQ, RetQ, go_sem]
  refine ⟨by simp, Wk.eq ?_⟩
  rfl
 ·
  have hG : greatPatches l = false ∧ greatS names = false ∧ greatMsg m = false := by simp at h0; exact ⟨h0.1.1, h0.1.2, h0.2⟩
  obtain ⟨g1, g2, g3⟩ := great_msg hG.2.2 hm
  have q4 := great_pats hG.1 hl
  have q5 := great_len hG.1
  have q6 := greatS_len hG.2.1
  refine vwp_skip ?_
  try simp only [thenQ, blockQ, jumpQ, stayQ]
  refine vwp_seq (vwp_region ?_)
  refine oG [] ?_
  refine oC (fun _ => c_exchange_Ask l names (by omega)) b_exchange_Ask ?_
  simp only [go_sem]
  refine oG [] ?_
  refine vops_done [0, 1, 5, 7, 8, 9] ?_
  simp only [go_sem, thenQ, blockQ, jumpQ, stayQ]
  refine vwp_seq (vwp_region ?_)
  refine oG [] ?_
  refine oC (fun _ => c_ref21_Ask l names (by omega)) b_ref21_Ask ?_
  simp only [go_sem]
  refine oG [] ?_
  refine vops_done [0, 5, 7, 8, 9, 10, 11] ?_
  simp only [go_sem, thenQ, blockQ, jumpQ, stayQ]
  refine vwp_seq (vwp_region ?_)
  refine oG [] ?_
  refine oC (fun _ => c_exchange_Accept l m q4 g3) b_exchange_Accept ?_
  simp only [go_sem]
  refine oG [] ?_
  refine vops_done [0, 5, 7, 8, 9, 10, 11, 12, 13] ?_
  simp only [go_sem, thenQ, blockQ, jumpQ, stayQ]
  refine vwp_seq (vwp_region ?_)
  refine oG [] ?_
  refine oC (fun _ => c_ref21_Accept l m q4 g3) b_ref21_Accept ?_
  simp only [go_sem]
  refine oG [] ?_
  refine vops_done [0, 5, 7, 8, 9, 10, 11, 12, 13, 14, 15] ?_
  simp only [go_sem, thenQ, blockQ, jumpQ, stayQ]
  refine vwp_seq (vwp_drawD mixed (by kernel_rfl) (eF := ?_) ?_ [6] rfl ?_)
  rotate_left
  ·
   refine dall_go tabOk (by simp only [go_sem]; rfl) (by first | trivial | (simp; done) | (simp [in64]; omega)) ?_
   refine dall_call (hc := fun _ => c_ref17_Same (askP l names).1 (askP l names).1) rfl (by simp only [go_sem]; rfl) b_ref17_Same (by simp only [go_sem]; exact WkL.refl _) rfl (fun hg => by simp only [go_sem]; try (intros; first | assumption | trivial | simp_all)) ?_
   simp only [go_sem]
   refine dall_go tabOk (by simp only [go_sem]; rfl) (by first | trivial | (simp; done) | (simp [in64]; omega)) ?_
   refine dall_call (hc := fun _ => c_exchange_Answer l m (by omega) q4 g1 g2 g3) rfl (by simp only [go_sem]; rfl) b_exchange_Answer (by simp only [go_sem]; exact WkL.refl _) rfl (fun hg => by simp only [go_sem]; try (intros; first | assumption | trivial | simp_all)) ?_
   simp only [go_sem]
   refine dall_go tabOk (by simp only [go_sem]; rfl) (by first | trivial | (simp; done) | (simp [in64]; omega)) ?_
   refine dall_call (hc := fun _ => c_ref21_Answer l m (by omega) q4 g1 g2 g3) rfl (by simp only [go_sem]; rfl) b_ref21_Answer (by simp only [go_sem]; exact WkL.refl _) rfl (fun hg => by simp only [go_sem]; try (intros; first | assumption | trivial | simp_all)) ?_
   simp only [go_sem]
   refine dall_call (hc := fun _ => c_ref17_Same (answerP l m) (answerP l m)) rfl (by simp only [go_sem]; rfl) b_ref17_Same (by simp only [go_sem]; exact WkL.refl _) rfl (fun hg => by simp only [go_sem]; try (intros; first | assumption | trivial | simp_all)) ?_
   simp only [go_sem]
   refine dall_go tabOk (by simp only [go_sem]; rfl) (by first | trivial | (simp; done) | (simp [in64]; omega)) ?_
   refine dall_call (hc := fun _ => c_ref13_SameList (acceptP l m).1 (acceptP l m).1) rfl (by simp only [go_sem]; rfl) b_ref13_SameList (by simp only [go_sem]; exact WkL.refl _) rfl (fun hg => by simp only [go_sem]; try (intros; first | assumption | trivial | simp_all)) ?_
   simp only [go_sem]
   refine dall_go tabOk (by simp only [go_sem]; rfl) (by first | trivial | (simp; done) | (simp [in64]; omega)) ?_
   exact dall_nil
  simp only [go_sem, thenQ, blockQ, jumpQ, stayQ]
  refine vwp_ret ?_
  simp only [thenQ, blockQ, jumpQ, stayQ, RetQ, go_sem]
  refine ⟨by simp, Wk.eq ?_⟩
  simp
end Go.Proofs.YtnobnefabagbhaaGreatDoor.Q
end

section
/- Parts of one ordered set of patches: plain. -/
namespace Go.Proofs.YtnobnefabagbhaaGreatDoor.Q
open Go Go.Q
def Closd (l : List Patch) : Prop := ∀ p ∈ l, ∀ d ∈ p.deps, ∃ q ∈ l, q.name = d
def Rankd (l : List Patch) : Prop := Closd l ∧ ∃ r : Str → Nat, ∀ p ∈ l, ∀ d ∈ p.deps, r d < r p.name
def Part (l s : List Patch) : Prop := apartP s ∧ ∀ p ∈ s, p ∈ l
structure OI (s : List Patch) (out : List Str) : Prop where
 nodup : out.Nodup
 names : ∀ n ∈ out, ∃ p ∈ s, p.name = n
 low : ∀ p ∈ s, p.name ∈ out → ∀ d ∈ p.deps, d ∈ out ∧ out.idxOf d < out.idxOf p.name
theorem ready_of {out : List Str} {p : Patch} (h : readyQ out p = true) : p.name ∉ out ∧ ∀ d ∈ p.deps, d ∈ out := by
 simp only [readyQ, Bool.and_eq_true, decide_eq_true_eq, List.all_eq_true] at h
 exact h
theorem OI.step {s : List Patch} {out : List Str} {p : Patch} (ha : apartP s) (h : OI s out) (hp : p ∈ s) (hr : readyQ out p = true) : OI s (out ++ [p.name]) := by
 obtain ⟨h1, h2⟩ := ready_of hr
 refine ⟨?_, ?_, ?_⟩
 ·rw [List.nodup_append]
  exact ⟨h.nodup, by simp, fun a ha b hb => by simp at hb; subst hb; exact fun e => h1 (e ▸ ha)⟩
 ·intro n hn
  rcases List.mem_append.1 hn with hn | hn
  ·exact h.names n hn
  ·exact ⟨p, hp, (List.mem_singleton.1 hn).symm⟩
 ·intro q hq hm d hd
  by_cases hqo : q.name ∈ out
  ·obtain ⟨h3, h4⟩ := h.low q hq hqo d hd
   exact ⟨List.mem_append_left _ h3, by rw [List.idxOf_append, List.idxOf_append, if_pos h3, if_pos hqo]; exact h4⟩
  ·have e : q.name = p.name := by
    rcases List.mem_append.1 hm with h3 | h3
    ·exact absurd h3 hqo
    ·exact List.mem_singleton.1 h3
   have := apartP_eq ha hq hp e
   subst this
   have h3 := h2 d hd
   refine ⟨List.mem_append_left _ h3, ?_⟩
   rw [List.idxOf_append, List.idxOf_append, if_pos h3, if_neg hqo]
   have := List.idxOf_lt_length_of_mem h3
   omega
theorem ordN_low {s : List Patch} (ha : apartP s) : ∀ (k : Nat) (out o : List Str), ordN s k out = some o → OI s out → OI s o ∧ o.length = k + out.length
 | 0, out, o, h, hi => by
  rw [ordN] at h
  cases h
  exact ⟨hi, by omega⟩
 | k + 1, out, o, h, hi => by
  rw [ordN] at h
  cases hf : s.find? (readyQ out) with
  | none => rw [hf] at h; cases h
  | some p =>
   rw [hf] at h
   obtain ⟨h1, h2⟩ := ordN_low ha k _ _ h (hi.step ha (List.mem_of_find?_eq_some hf) (List.find?_some hf))
   refine ⟨h1, ?_⟩
   simp at h2; omega
theorem order_rank {l : List Patch} (h : (orderP l).2 = 0) : ofB l = true ∧ Rankd l := by
 unfold orderP at h
 cases hs : sortedP l with
 | none => rw [hs] at h; simp at h
 | some s =>
  rw [hs] at h
  have hb : ofB l = true := by rw [← sortedP_isSome, hs]; rfl
  refine ⟨hb, ?_⟩
  obtain ⟨hp, _, ha, _⟩ := sortedP_facts hs
  have has := apart_perm hp ha
  cases ho : ordN s s.length [] with
  | none => simp only [ho] at h; simp at h
  | some o =>
   obtain ⟨h1, h2⟩ := ordN_low has _ _ _ ho ⟨by simp, by simp, by simp⟩
   have h3 := remP_len has h1.nodup h1.names
   have h4 : ∀ p ∈ s, p.name ∈ o := by
    intro p hps
    refine Classical.byContradiction fun hn => ?_
    have h5 : p ∈ remP s o := List.mem_filter.2 ⟨hps, by simpa using hn⟩
    have h6 := List.length_pos_of_mem h5
    simp at h2
    omega
   refine ⟨fun p hpl d hd => ?_, o.idxOf, fun p hpl d hd => ?_⟩
   ·have h5 := hp.mem_iff.2 hpl
    obtain ⟨q, hq, e⟩ := h1.names d (h1.low p h5 (h4 p h5) d hd).1
    exact ⟨q, hp.mem_iff.1 hq, e⟩
   ·have h5 := hp.mem_iff.2 hpl
    exact (h1.low p h5 (h4 p h5) d hd).2
theorem least_rank (r : Str → Nat) : ∀ (l : List Patch), l ≠ [] → ∃ p ∈ l, ∀ q ∈ l, r p.name ≤ r q.name
 | [], h => absurd rfl h
 | x :: t, _ => by
  by_cases ht : t = []
  ·subst ht
   exact ⟨x, by simp, by simp⟩
  ·obtain ⟨p, h1, h2⟩ := least_rank r t ht
   by_cases hx : r x.name ≤ r p.name
   ·refine ⟨x, by simp, fun q hq => ?_⟩
    rcases List.mem_cons.1 hq with rfl | hq
    ·exact Nat.le_refl _
    ·exact Nat.le_trans hx (h2 q hq)
   ·refine ⟨p, List.mem_cons_of_mem _ h1, fun q hq => ?_⟩
    rcases List.mem_cons.1 hq with rfl | hq
    ·omega
    ·exact h2 q hq
theorem ordN_ok {s : List Patch} (ha : apartP s) (hr : Rankd s) : ∀ (k : Nat) (out : List Str), OI s out → k + out.length = s.length → ∃ o, ordN s k out = some o
 | 0, out, _, _ => ⟨out, rfl⟩
 | k + 1, out, hi, hk => by
  obtain ⟨hc, r, hr'⟩ := hr
  have h3 := remP_len ha hi.nodup hi.names
  obtain ⟨p, hp, hmin⟩ := least_rank r (remP s out) (by intro e; rw [e] at h3; simp at h3; omega)
  obtain ⟨hps, hpn⟩ := List.mem_filter.1 hp
  have hpn : p.name ∉ out := by simpa using hpn
  have hready : readyQ out p = true := by
   simp only [readyQ, Bool.and_eq_true, decide_eq_true_eq, List.all_eq_true]
   refine ⟨hpn, fun d hd => ?_⟩
   refine Classical.byContradiction fun hn => ?_
   obtain ⟨q, hq, rfl⟩ := hc p hps d hd
   have h5 : q ∈ remP s out := List.mem_filter.2 ⟨hq, by simpa using hn⟩
   have h6 := hmin q h5
   have h7 := hr' p hps _ hd
   omega
  cases hf : s.find? (readyQ out) with
  | none =>
   rw [List.find?_eq_none] at hf
   exact absurd hready (hf p hps)
  | some q =>
   rw [ordN, hf]
   exact ordN_ok ha ⟨hc, r, hr'⟩ k _ (hi.step ha (List.mem_of_find?_eq_some hf) (List.find?_some hf)) (by simp; omega)
theorem Rankd.perm {l s : List Patch} (h : Rankd l) (hp : s.Perm l) : Rankd s := by
 obtain ⟨hc, r, hr⟩ := h
 refine ⟨fun p hs d hd => ?_, r, fun p hs => hr p (hp.mem_iff.1 hs)⟩
 obtain ⟨q, hq, e⟩ := hc p (hp.mem_iff.1 hs) d hd
 exact ⟨q, hp.mem_iff.2 hq, e⟩
theorem rank_order {l : List Patch} (hb : ofB l = true) (h : Rankd l) : (orderP l).2 = 0 := by
 obtain ⟨s, hs⟩ := sorted_of hb
 obtain ⟨hp, _, ha, _⟩ := sortedP_facts hs
 obtain ⟨o, ho⟩ := ordN_ok (apart_perm hp ha) (h.perm hp) s.length [] ⟨by simp, by simp, by simp⟩ (by simp)
 simp only [orderP, hs, ho]
theorem Part.len {l s : List Patch} (hl : apartP l) (h : Part l s) : s.length ≤ l.length := by
 have hnd : (s.map (·.name)).Nodup := List.pairwise_map.2 h.1
 have := remP_len hl (out := s.map (·.name)) hnd (fun n hn => by
  obtain ⟨p, hp, rfl⟩ := List.mem_map.1 hn
  exact ⟨p, h.2 p hp, rfl⟩)
 simp at this; omega
theorem Part.ofB {l s : List Patch} (hl : ofB l = true) (h : Part l s) : ofB s = true := by
 obtain ⟨h1, h2, h3⟩ := ofB_iff.1 hl
 exact ofB_iff.2 ⟨fun p hp => h1 p (h.2 p hp), h.1, Nat.le_trans (h.len h2) h3⟩
theorem Part.rank {l s : List Patch} (hl : Rankd l) (h : Part l s) (hc : Closd s) : Rankd s := by
 obtain ⟨_, r, hr⟩ := hl
 exact ⟨hc, r, fun p hp => hr p (h.2 p hp)⟩
theorem Part.filter {l : List Patch} (hl : apartP l) (q : Patch → Bool) : Part l (l.filter q) := ⟨List.Pairwise.filter _ hl, fun p hp => (List.mem_filter.1 hp).1⟩
theorem Part.refl {l : List Patch} (hl : apartP l) : Part l l := ⟨hl, fun _ h => h⟩
theorem Part.nil (l : List Patch) : Part l [] := ⟨by simp [apartP], by simp⟩
theorem Part.trans {l s t : List Patch} (h : Part l s) (k : Part s t) : Part l t := ⟨k.1, fun p hp => h.2 p (k.2 p hp)⟩
theorem Part.perm {l s t : List Patch} (h : Part l s) (hp : t.Perm s) : Part l t := ⟨apart_perm hp h.1, fun p hq => h.2 p (hp.mem_iff.1 hq)⟩
theorem findP_none_iff {s : List Patch} {n : Str} : (findP s n).isNone = true ↔ ∀ p ∈ s, p.name ≠ n := by
 rw [Option.isNone_iff_eq_none, findP, List.find?_eq_none]
 simp
theorem all_mem {l a b : List Patch} (hl : apartP l) (ha : Part l a) (hb : Part l b) (p : Patch) : p ∈ allP a b ↔ p ∈ a ∨ p ∈ b := by
 rw [allP, List.mem_append, newP, List.mem_filter]
 constructor
 ·rintro (h | h)
  ·exact .inl h
  ·exact .inr h.1
 ·rintro (h | h)
  ·exact .inl h
  ·by_cases hn : (findP a p.name).isNone = true
   ·exact .inr ⟨h, hn⟩
   ·left
    cases hf : findP a p.name with
    | none => rw [hf] at hn; exact absurd rfl hn
    | some q =>
     obtain ⟨h1, h2⟩ := (findP_mem ha.1).1 hf
     rw [← apartP_eq hl (ha.2 q h1) (hb.2 p h) h2]
     exact h1
theorem all_part {l a b : List Patch} (hl : apartP l) (ha : Part l a) (hb : Part l b) : Part l (allP a b) := by
 refine ⟨?_, fun p hp => ?_⟩
 ·rw [allP, apartP, List.pairwise_append]
  refine ⟨ha.1, List.Pairwise.filter _ hb.1, fun x hx y hy => ?_⟩
  exact findP_none_iff.1 (List.mem_filter.1 hy).2 x hx
 ·rcases (all_mem hl ha hb p).1 hp with h | h
  ·exact ha.2 p h
  ·exact hb.2 p h
theorem join_part {l a b : List Patch} (h : ofB l = true) (hr : Rankd l) (ha : Part l a) (hb : Part l b) (hc : Closd (allP a b)) : (joinP a b).2 = 0 ∧ Part l (joinP a b).1 ∧ upP (joinP a b).1 ∧ (∀ p, p ∈ (joinP a b).1 ↔ p ∈ a ∨ p ∈ b) ∧ Closd (joinP a b).1 := by
 have hl := (ofB_iff.1 h).2.1
 have hp := all_part hl ha hb
 have hcl : b.any (clash1 a) = false := by
  rw [List.any_eq_false]
  intro p hpb
  rw [clash1]
  cases hf : findP a p.name with
  | none => simp
  | some q =>
   obtain ⟨h1, h2⟩ := (findP_mem ha.1).1 hf
   have := apartP_eq hl (ha.2 q h1) (hb.2 p hpb) h2
   simp [this]
 have ho := rank_order (hp.ofB h) (hp.rank hr hc)
 obtain ⟨e1, e2, e3⟩ := sortP_eq (hp.ofB h)
 rw [join_ok (ha.ofB h) (hb.ofB h) hcl ho]
 refine ⟨e1, hp.perm e2, e3, fun p => by rw [e2.mem_iff, all_mem hl ha hb], fun p hp' d hd => ?_⟩
 obtain ⟨q, hq, e⟩ := hc p (e2.mem_iff.1 hp') d hd
 exact ⟨q, e2.mem_iff.2 hq, e⟩
theorem up_same {l s t : List Patch} (hl : apartP l) (hs : Part l s) (ht : Part l t) (us : upP s) (ut : upP t) (h : ∀ p, p ∈ s ↔ p ∈ t) : s = t := by
 have nd : ∀ {s : List Patch}, apartP s → s.Nodup := fun h => h.imp fun h e => h (by rw [e])
 exact up_uniq ht.1 ((List.perm_ext_iff_of_nodup (nd hs.1) (nd ht.1)).2 h) (List.Perm.refl _) us ut
theorem down_part {s : List Patch} (h : ofB s = true) (w : List Str) : ((downP s w).2 = 0 ∧ (∀ n, Q.Reach (gP s) w n → (gP s n).isSome = true) ∧ ∀ n, n ∈ (downP s w).1 ↔ Q.Reach (gP s) w n) ∨ ((downP s w) = ([], 12) ∧ ∃ n, Q.Reach (gP s) w n ∧ gP s n = none) := by
 obtain ⟨t, ht⟩ := sorted_of h
 obtain ⟨hp, hu, ha, _⟩ := sortedP_facts ht
 have hq := reachQ_spec hp ha w
 simp only [downP, ht]
 cases hr : reachQ t w with
 | none => rw [hr] at hq; exact .inr ⟨rfl, hq⟩
 | some o =>
  rw [hr] at hq
  refine .inl ⟨rfl, hq.2.2, fun n => ?_⟩
  rw [← hq.2.1 n]
  simp only [pickP, List.mem_map, List.mem_filter, decide_eq_true_eq]
  constructor
  ·rintro ⟨p, ⟨_, h2⟩, rfl⟩; exact h2
  ·intro hn
   obtain ⟨p, h1, rfl⟩ := List.mem_map.1 ((gP_some ha n).1 (hq.2.2 n ((hq.2.1 n).1 hn)))
   exact ⟨p, ⟨hp.mem_iff.2 h1, hn⟩, rfl⟩
theorem reach_names {g : Grf} {w w' : List Str} (h : ∀ n, n ∈ w ↔ n ∈ w') (n : Str) : Q.Reach g w n ↔ Q.Reach g w' n :=
 ⟨fun k => k.mono fun x hx => .base ((h x).1 hx), fun k => k.mono fun x hx => .base ((h x).2 hx)⟩
theorem down_names {s : List Patch} (h : ofB s = true) {w w' : List Str} (hw : ∀ n, n ∈ w ↔ n ∈ w') : (downP s w).2 = (downP s w').2 ∧ ∀ n, n ∈ (downP s w).1 ↔ n ∈ (downP s w').1 := by
 have e := fun n => reach_names (g := gP s) hw n
 rcases down_part h w with ⟨h1, h2, h3⟩ | ⟨h1, n, h2, h3⟩ <;> rcases down_part h w' with ⟨k1, k2, k3⟩ | ⟨k1, m, k2, k3⟩
 ·exact ⟨by rw [h1, k1], fun n => by rw [h3, k3, e]⟩
 ·have := h2 m ((e m).2 k2); rw [k3] at this; cases this
 ·have := k2 n ((e n).1 h2); rw [h3] at this; cases this
 ·rw [h1, k1]; simp
theorem reach_in {s : List Patch} (ha : apartP s) (hc : Closd s) {w : List Str} (hw : ∀ n ∈ w, ∃ p ∈ s, p.name = n) {n : Str} (h : Q.Reach (gP s) w n) : ∃ p ∈ s, p.name = n := by
 induction h with
 | base hb => exact hw _ hb
 | step h1 h2 h3 ih =>
  obtain ⟨p, hp, hpe⟩ := List.mem_map.1 ((gP_mem ha _ _).1 h2)
  cases hpe
  exact hc p hp _ h3
theorem down_in {s : List Patch} (h : ofB s = true) (hc : Closd s) {w : List Str} (hw : ∀ n ∈ w, ∃ p ∈ s, p.name = n) : (downP s w).2 = 0 ∧ (∀ n ∈ w, n ∈ (downP s w).1) ∧ ∀ n ∈ (downP s w).1, ∃ p ∈ s, p.name = n := by
 have ha := (ofB_iff.1 h).2.1
 rcases down_part h w with ⟨h1, h2, h3⟩ | ⟨h1, n, h2, h3⟩
 ·exact ⟨h1, fun n hn => (h3 n).2 (.base hn), fun n hn => reach_in ha hc hw ((h3 n).1 hn)⟩
 ·obtain ⟨p, hp, rfl⟩ := reach_in ha hc hw h2
  have := (gP_some ha p.name).2 (List.mem_map.2 ⟨p, hp, rfl⟩)
  rw [h3] at this; cases this
theorem down_up {s : List Patch} (h : ofB s = true) {w : List Str} (h0 : (downP s w).2 = 0) {p : Patch} (hp : p ∈ s) (hn : p.name ∈ (downP s w).1) {d : Str} (hd : d ∈ p.deps) : d ∈ (downP s w).1 := by
 have ha := (ofB_iff.1 h).2.1
 rcases down_part h w with ⟨h1, h2, h3⟩ | ⟨h1, _⟩
 ·rw [h3] at hn ⊢
  exact .step hn ((gP_mem ha _ _).2 (List.mem_map.2 ⟨p, hp, rfl⟩)) hd
 ·rw [h1] at h0; cases h0
theorem down_has {s : List Patch} (h : ofB s = true) {w : List Str} {n : Str} (hn : n ∈ (downP s w).1) : ∃ p ∈ s, p.name = n := by
 have ha := (ofB_iff.1 h).2.1
 rcases down_part h w with ⟨h1, h2, h3⟩ | ⟨h1, _⟩
 ·have := (gP_some ha n).1 (h2 n ((h3 n).1 hn))
  obtain ⟨p, hp, e⟩ := List.mem_map.1 this
  exact ⟨p, hp, e⟩
 ·rw [h1] at hn; simp at hn
theorem down_err {s : List Patch} (h : ofB s = true) (w : List Str) : (downP s w).2 = 0 ∨ downP s w = ([], 12) := by
 rcases down_part h w with h1 | h1
 ·exact .inl h1.1
 ·exact .inr h1.1
end Go.Proofs.YtnobnefabagbhaaGreatDoor.Q
end

section
/- What is asked, answered and accepted among parts of one ordered set: plain. -/
namespace Go.Proofs.YtnobnefabagbhaaGreatDoor.Q
open Go Go.Q
attribute [local irreducible] putMsgR
theorem upS_rises : ∀ {l : List Str}, upS l → risesB l = true
 | [], _ => rfl
 | [_], _ => rfl
 | a :: b :: r, h => by
  have hc := List.pairwise_cons.1 h
  rw [risesB, upS_rises hc.2, bytesLess_eq, decide_eq_true (hc.1 b (by simp))]; rfl
theorem names_up {s : List Patch} (ha : apartP s) (hu : upP s) : upS (namesP s) := by
 refine List.pairwise_map.2 ((List.pairwise_and_iff.2 ⟨hu, ha⟩).imp fun {a b} h => ?_)
 rcases (strGt_false _ _).1 h.1 with h1 | h1
 ·exact h1
 ·exact absurd h1 h.2
theorem txts_insG (x : Str) : ∀ (l : List Str), (txts (insG x l)).length ≤ (txt x).length + (txts l).length ∧ (insG x l).length ≤ l.length + 1
 | [] => by simp [insG, txts]
 | y :: r => by
  have ih := txts_insG x r
  rw [insG]
  split
  ·split <;> simp [txts_cons]
  ·simp only [txts_cons, List.length_append, List.length_cons]; omega
theorem txts_risR : ∀ (l acc : List Str), (txts (risR acc l)).length ≤ (txts acc).length + (txts l).length ∧ (risR acc l).length ≤ acc.length + l.length
 | [], acc => by simp [risR]
 | x :: r, acc => by
  have ih := txts_risR r (insF x acc)
  have h1 := txts_insG x acc
  rw [← insF_G] at h1
  rw [risR]
  simp only [txts_cons, List.length_append, List.length_cons]; omega
theorem txts_lab : ∀ (l : List Str), (∀ s ∈ l, s.length ≤ 24) → (txts l).length ≤ 46 * l.length
 | [], _ => by simp [txts]
 | s :: r, h => by
  have ih := txts_lab r fun x hx => h x (List.mem_cons_of_mem _ hx)
  have h1 := h s (by simp)
  have h2 := txt_len s (by omega)
  simp only [txts_cons, List.length_append, List.length_cons]; omega
theorem cap_ge : ∀ (l : List Str), (∀ s ∈ l, 1 ≤ s.length) → l.length ≤ capsum2 l
 | [], _ => by simp
 | s :: r, h => by
  have ih := cap_ge r fun x hx => h x (List.mem_cons_of_mem _ hx)
  have h1 := h s (by simp)
  have e : capsum2 (s :: r) = cap2 s.length + capsum2 r := by simp [capsum2]
  have h2 : 1 ≤ cap2 s.length := by unfold cap2; omega
  rw [e, List.length_cons]; omega
theorem lab_len {s : Str} (h : labelB s = true) : 1 ≤ s.length ∧ s.length ≤ 24 := by
 simp only [labelB, Bool.and_eq_true, decide_eq_true_eq] at h
 exact h.2
theorem ofB_lab {l : List Patch} (h : ofB l = true) : ∀ p ∈ l, labelB p.name = true := by
 intro p hp
 have := (ofB_iff.1 h).1 p hp
 simp only [patchB, Bool.and_eq_true] at this
 exact this.1.1.1
theorem ask_cases (ps : List Patch) (names : List Str) : ((askP ps names).2 = 0 ∧ ofB ps = true ∧ (∀ s ∈ names, labelB s = true) ∧ askP ps names = (⟨1, risR [] names, namesP (sortP ps).1, 0, []⟩, 0)) ∨ askP ps names = (M0, 1) := by
 rw [askP]
 split
 ·rename_i h
  exact .inl ⟨rfl, h.1, List.all_eq_true.1 h.2, rfl⟩
 ·exact .inr rfl
theorem put_ask {ps : List Patch} {names : List Str} (hl : ps.length ≤ 60) (hn : greatS names = false) (h : (askP ps names).2 = 0) : (putMsgR (askP ps names).1).2 = 0 ∧ (lst (askP ps names).1.names).length ≤ 100000000 ∧ (lst (askP ps names).1.have_).length ≤ 100000000 := by
 rcases ask_cases ps names with ⟨_, hb, hlab, e⟩ | e
 ·rw [e]
  obtain ⟨e1, e2, e3⟩ := sortP_eq hb
  have ha := apart_perm e2 (ofB_iff.1 hb).2.1
  have hn := of_decide_eq_false hn
  have h1 := cap_ge names fun s hs => (lab_len (hlab s hs)).1
  have h2 := txts_cap2 names (by omega)
  obtain ⟨h3, h4⟩ := txts_risR names []
  obtain ⟨h5, h6⟩ := risR_facts names [] (by simp [upS])
  have h7 : ∀ s ∈ namesP (sortP ps).1, labelB s = true := by
   intro s hs
   obtain ⟨p, hp, rfl⟩ := List.mem_map.1 hs
   exact ofB_lab hb p (e2.mem_iff.1 hp)
  have h8 := txts_lab (namesP (sortP ps).1) fun s hs => (lab_len (h7 s hs)).2
  have h9 : (namesP (sortP ps).1).length ≤ 60 := by rw [namesP, List.length_map, e2.length_eq]; exact hl
  have t0 : (txts []).length = 0 := rfl
  have n1 := num_nat (risR [] names).length (by simp at h4; omega)
  have n2 := num_nat (namesP (sortP ps).1).length (by omega)
  have n3 := num_nat 1 (by omega)
  have n4 := num_nat 0 (by omega)
  rw [t0] at h3
  simp only [List.length_nil] at h4
  refine ⟨?_, by simp only [lst, List.length_append]; omega, by simp only [lst, List.length_append]; omega⟩
  have hr : rightM ⟨1, risR [] names, namesP (sortP ps).1, 0, []⟩ = true := by
   have g1 : namesB (risR [] names) = true := by
    rw [namesB, upS_rises h5, Bool.and_true]
    refine List.all_eq_true.2 fun s hs => ?_
    rcases (h6 s).1 hs with h | h
    ·simp at h
    ·exact hlab s h
   have g2 : namesB (namesP (sortP ps).1) = true := by
    rw [namesB, upS_rises (names_up ha e3), Bool.and_true]
    exact List.all_eq_true.2 h7
   have g3 : (sortP []).2 = 0 := by decide
   simp [rightM, rmA, rmB, rmC, g1, g2, g3]
  have hb0 : bunR [] = (num 0, 0) := rfl
  rw [putMsgR, if_pos hr, if_neg]
  simp at n3 n4
  simp only [msgR, lst, List.length_append, hb0]
  omega
 ·rw [e] at h; cases h
theorem put_give0 : (putMsgR ⟨2, [], [], 0, []⟩).2 = 0 := by
 have n3 := num_nat 2 (by omega)
 have n4 := num_nat 0 (by omega)
 have hb0 : bunR [] = (num 0, 0) := rfl
 rw [putMsgR, if_pos (by decide), if_neg]
 simp [msgR, lst, txts, hb0] at n3 n4 ⊢
 omega
def wantN (s : List Patch) (names : List Str) : List Str := if names.length = 0 then namesP s else names
theorem want_mem {s ps : List Patch} {names : List Str} (h : (askP ps names).2 = 0) (n : Str) : n ∈ wantP s (askP ps names).1 ↔ n ∈ wantN s names := by
 rcases ask_cases ps names with ⟨_, hb, hlab, e⟩ | e
 ·rw [e, wantP, wantN]
  have h6 := (risR_facts names [] (by simp [upS])).2
  simp only
  cases names with
  | nil => rfl
  | cons a r =>
   rw [if_neg, if_neg (by simp), h6]
   ·simp
   ·intro e
    have := (h6 a).2 (by simp)
    rw [e] at this; simp at this
 ·rw [e] at h; cases h
theorem Part.name {l a : List Patch} (hl : apartP l) (ha : Part l a) {p : Patch} (hp : p ∈ l) : p.name ∈ namesP a ↔ p ∈ a := by
 constructor
 ·intro h
  obtain ⟨q, h1, h2⟩ := List.mem_map.1 h
  rw [← apartP_eq hl (ha.2 q h1) hp h2]; exact h1
 ·exact fun h => List.mem_map.2 ⟨p, h, rfl⟩
inductive Pull (l s a : List Patch) (names : List Str) : Prop
 | none : downP s (wantN s names) = ([], 12) → answerP s (askP a names).1 = noP 12 → acceptP a (answerP s (askP a names).1) = ([], 12) → (∃ n ∈ wantN s names, findP s n = none) ∨ ¬ Closd s → Pull l s a names
 | many (W : List Patch) : (downP s (wantN s names)).2 = 0 → (∀ p, p ∈ W ↔ p ∈ s ∧ p.name ∈ (downP s (wantN s names)).1 ∧ p ∉ a) → (putMsgR ⟨2, [], [], 0, W⟩).2 ≠ 0 → acceptP a (answerP s (askP a names).1) = ([], 2) → Pull l s a names
 | gives (W : List Patch) : (downP s (wantN s names)).2 = 0 → (∀ p, p ∈ W ↔ p ∈ s ∧ p.name ∈ (downP s (wantN s names)).1 ∧ p ∉ a) → answerP s (askP a names).1 = ⟨2, [], [], 0, W⟩ → (acceptP a (answerP s (askP a names).1)).2 = 0 →
   Part l (acceptP a (answerP s (askP a names).1)).1 → upP (acceptP a (answerP s (askP a names).1)).1 → Closd (acceptP a (answerP s (askP a names).1)).1 → (∀ p, p ∈ (acceptP a (answerP s (askP a names).1)).1 ↔ p ∈ a ∨ p ∈ s ∧ p.name ∈ (downP s (wantN s names)).1) → Pull l s a names
theorem pull {l s a : List Patch} {names : List Str} (h : ofB l = true) (hr : Rankd l) (hG : l.length ≤ 60) (hs : Part l s) (ha : Part l a) (hc : Closd a) (hn : greatS names = false) (hg : (askP a names).2 = 0) : Pull l s a names := by
 have hl := (ofB_iff.1 h).2.1
 have hbs := hs.ofB h
 obtain ⟨hput, _⟩ := put_ask (Nat.le_trans (ha.len hl) hG) hn hg
 have hk : (askP a names).1.kind = 1 ∧ (askP a names).1.have_ = namesP (sortP a).1 := by
  rcases ask_cases a names with ⟨_, _, _, e⟩ | e
  ·rw [e]; exact ⟨rfl, rfl⟩
  ·rw [e] at hg; cases hg
 obtain ⟨d1, d2⟩ := down_names hbs (want_mem (s := s) hg)
 obtain ⟨a1, a2, a3⟩ := sortP_eq (ha.ofB h)
 obtain ⟨s1, s2, s3⟩ := sortP_eq hbs
 have h1 : ¬ ((putMsgR (askP a names).1).2 ≠ 0 ∨ (askP a names).1.kind ≠ 1) := by rw [hput, hk.1]; decide
 have hw2 : (wantsP s (askP a names).1.have_ (wantP s (askP a names).1)).2 = (downP s (wantN s names)).2 := by
  rw [wantsP, ← d1]
  split
  ·rename_i e; exact e.symm
  ·rfl
 rcases down_err hbs (wantN s names) with h0 | h0
 ·have hW : (wantsP s (askP a names).1.have_ (wantP s (askP a names).1)).1 = (sortP s).1.filter (qW (downP s (wantP s (askP a names).1)).1 (askP a names).1.have_) := by rw [wantsP, if_pos (d1.trans h0)]
  have hm : ∀ p, p ∈ (wantsP s (askP a names).1.have_ (wantP s (askP a names).1)).1 ↔ p ∈ s ∧ p.name ∈ (downP s (wantN s names)).1 ∧ p ∉ a := by
   intro p
   rw [hW, List.mem_filter, s2.mem_iff]
   refine and_congr_right fun hp => ?_
   rw [qW, Bool.and_eq_true, Bool.not_eq_true', decide_eq_true_eq, decide_eq_false_iff_not, d2, hk.2, (ha.perm a2).name hl (hs.2 p hp), a2.mem_iff]
  by_cases h2 : (putMsgR ⟨2, [], [], 0, (wantsP s (askP a names).1.have_ (wantP s (askP a names).1)).1⟩).2 = 0
  ·have e : answerP s (askP a names).1 = ⟨2, [], [], 0, (wantsP s (askP a names).1.have_ (wantP s (askP a names).1)).1⟩ := by rw [answerP, if_neg h1, if_neg (by rw [hw2, h0]; decide), if_neg (by rw [h2]; decide)]
   have e2 : acceptP a (answerP s (askP a names).1) = joinP a (wantsP s (askP a names).1.have_ (wantP s (askP a names).1)).1 := by rw [e, acceptP, if_neg (by simp), if_neg (by simp)]
   have hWp : Part l (wantsP s (askP a names).1.have_ (wantP s (askP a names).1)).1 := by
    rw [hW]
    exact (hs.perm s2).trans (Part.filter (hs.perm s2).1 _)
   obtain ⟨j1, j2, j3, j4, j5⟩ := join_part h hr ha hWp (fun p hp d hd => by
    rcases (all_mem hl ha hWp p).1 hp with hp | hp
    ·obtain ⟨q, hq, e⟩ := hc p hp d hd
     exact ⟨q, (all_mem hl ha hWp q).2 (.inl hq), e⟩
    ·obtain ⟨h3, h4, h5⟩ := (hm p).1 hp
     have h6 := down_up hbs h0 h3 h4 hd
     obtain ⟨q, hq, rfl⟩ := down_has hbs h6
     refine ⟨q, (all_mem hl ha hWp q).2 ?_, rfl⟩
     by_cases h7 : q ∈ a
     ·exact .inl h7
     ·exact .inr ((hm q).2 ⟨hq, h6, h7⟩))
   rw [← e2] at j1 j2 j3 j4 j5
   refine .gives _ h0 hm e j1 j2 j3 j5 fun p => ?_
   rw [j4, hm]
   constructor
   ·rintro (h3 | ⟨h3, h4, _⟩)
    ·exact .inl h3
    ·exact .inr ⟨h3, h4⟩
   ·rintro (h3 | ⟨h3, h4⟩)
    ·exact .inl h3
    ·by_cases h7 : p ∈ a
     ·exact .inl h7
     ·exact .inr ⟨h3, h4, h7⟩
  ·have e : answerP s (askP a names).1 = noP 2 := by rw [answerP, if_neg h1, if_neg (by rw [hw2, h0]; decide), if_pos h2]
   exact .many _ h0 hm h2 (by rw [e]; rfl)
 ·have e : answerP s (askP a names).1 = noP 12 := by rw [answerP, if_neg h1, if_pos (by rw [hw2, h0]; decide), hw2, h0]
  refine .none h0 e (by rw [e]; rfl) ?_
  refine Classical.byContradiction fun hno => ?_
  rw [not_or, Classical.not_not] at hno
  have := (down_in hbs hno.2 (w := wantN s names) fun n hn => ?_).1
  ·rw [h0] at this; cases this
  ·cases hf : findP s n with
   | none => exact absurd ⟨n, hn, hf⟩ hno.1
   | some p =>
    obtain ⟨h3, h4⟩ := (findP_mem hs.1).1 hf
    exact ⟨p, h3, h4⟩
theorem answer_sub {s : List Patch} {x : Msg} : (∀ p ∈ (answerP s x).patches, p ∈ s) ∧ (answerP s x).names = [] ∧ (answerP s x).have_ = [] := by
 have hW : ∀ p ∈ (wantsP s x.have_ (wantP s x)).1, p ∈ s := by
  intro p hp
  unfold wantsP at hp
  split at hp
  ·rename_i h0
   exact (sortP_eq (downP_ofB h0)).2.1.mem_iff.1 (List.mem_filter.1 hp).1
  ·simp at hp
 rw [answerP]
 split
 ·exact ⟨by simp [noP], rfl, rfl⟩
 ·split
  ·exact ⟨by simp [noP], rfl, rfl⟩
  ·split
   ·exact ⟨by simp [noP], rfl, rfl⟩
   ·exact ⟨hW, rfl, rfl⟩
theorem join_sub {a b : List Patch} : (∀ p ∈ (joinP a b).1, p ∈ a ∨ p ∈ b) ∧ (joinP a b).1.length ≤ 256 ∧ ((joinP a b).2 ≠ 0 → (joinP a b).1 = []) := by
 rw [joinP]
 split
 ·simp
 ·split
  ·simp
  ·split
   ·simp
   ·split
    ·simp
    ·refine ⟨fun p hp => ?_, sortP_length _, fun h => ?_⟩
     ·cases hb : ofB (allP a b) with
      | false => rw [sortP_no hb] at hp; simp at hp
      | true =>
       have := (sortP_eq hb).2.1.mem_iff.1 hp
       rw [allP, List.mem_append, newP, List.mem_filter] at this
       exact this.imp id And.left
     ·cases hb : ofB (allP a b) with
      | false => rw [sortP_no hb]
      | true => exact absurd (sortP_eq hb).1 h
theorem accept_sub {a : List Patch} {x : Msg} : (∀ p ∈ (acceptP a x).1, p ∈ a ∨ p ∈ x.patches) ∧ (acceptP a x).1.length ≤ 256 ∧ ((acceptP a x).2 ≠ 0 → (acceptP a x).1 = []) := by
 rw [acceptP]
 split
 ·simp
 ·split
  ·simp
  ·exact join_sub
end Go.Proofs.YtnobnefabagbhaaGreatDoor.Q
end

section
/- The laws of exchange without the document's answer: plain. -/
namespace Go.Proofs.YtnobnefabagbhaaGreatDoor.Q
open Go Go.Q
attribute [local irreducible] putMsgR
theorem ask_pat {ps : List Patch} {names : List Str} : (askP ps names).1.patches = [] := by
 rcases ask_cases ps names with ⟨_, _, _, e⟩ | e <;> rw [e] <;> rfl
theorem ask_kind {ps : List Patch} {names : List Str} : (askP ps names).1.kind ≠ 2 ∧ (askP ps names).1.kind ≠ 3 := by
 rcases ask_cases ps names with ⟨_, _, _, e⟩ | e <;> rw [e] <;> simp [M0]
theorem ask_all {ps : List Patch} {names : List Str} (h : ofB ps = true) (hn : ∀ s ∈ names, labelB s = true) : (askP ps names).2 = 0 := by
 rw [askP, if_pos ⟨h, List.all_eq_true.2 hn⟩]
theorem ask_no {ps : List Patch} {names : List Str} (h : (askP ps names).2 ≠ 0) : (askP ps names).2 = 1 := by
 rcases ask_cases ps names with ⟨e, _⟩ | e
 ·exact absurd e h
 ·rw [e]
theorem ask_labels {ps : List Patch} {names : List Str} (h : (askP ps names).2 = 0) : ∀ s ∈ names, labelB s = true := by
 rcases ask_cases ps names with ⟨_, _, k, _⟩ | e
 ·exact k
 ·rw [e] at h; cases h
theorem pick_mem {l : List Patch} {o : List Str} {p : Patch} : p ∈ pickP l o ↔ p ∈ l ∧ p.name ∈ o := by
 rw [pickP, List.mem_filter, decide_eq_true_eq]
theorem pick_part {l : List Patch} (hl : apartP l) (o : List Str) : Part l (pickP l o) := Part.filter hl _
theorem pick_closd {l : List Patch} (hb : ofB l = true) (hc : Closd l) {w : List Str} (h0 : (downP l w).2 = 0) : Closd (pickP l (downP l w).1) := by
 intro p hp d hd
 obtain ⟨h1, h2⟩ := pick_mem.1 hp
 obtain ⟨q, hq, rfl⟩ := hc p h1 d hd
 exact ⟨q, pick_mem.2 ⟨hq, down_up hb h0 h1 h2 hd⟩, rfl⟩
theorem part_find {l s : List Patch} (hl : apartP l) (h : Part l s) {p : Patch} (hp : p ∈ l) : ((gP s p.name).isSome = true ↔ p ∈ s) ∧ ((gP s p.name).isSome = true → pOr s p.name = p) := by
 have h1 : (gP s p.name).isSome = true ↔ p ∈ s := by
  rw [gP_some h.1]
  exact h.name hl hp
 refine ⟨h1, fun k => ?_⟩
 rw [pOr, (findP_mem h.1).2 ⟨h1.1 k, rfl⟩]; rfl
theorem closes_law {l : List Patch} {own names : List Str} (hb : ofB l = true) (hr : Rankd l) (h60 : l.length ≤ 60) (hn : greatS names = false) (he : (downP l own).2 = 0) (hg : (askP (pickP l (downP l own).1) names).2 = 0) :
  ((downP l (wantN l names)).2 ≠ 0 → (acceptP (pickP l (downP l own).1) (answerP l (askP (pickP l (downP l own).1) names).1)).2 = (downP l (wantN l names)).2) ∧
  ((downP l (wantN l names)).2 = 0 → (acceptP (pickP l (downP l own).1) (answerP l (askP (pickP l (downP l own).1) names).1)).2 ≠ 0 → (acceptP (pickP l (downP l own).1) (answerP l (askP (pickP l (downP l own).1) names).1)).2 = 2) ∧
  ((downP l (wantN l names)).2 = 0 → (acceptP (pickP l (downP l own).1) (answerP l (askP (pickP l (downP l own).1) names).1)).2 = 0 →
   (orderP (acceptP (pickP l (downP l own).1) (answerP l (askP (pickP l (downP l own).1) names).1)).1).2 = 0 ∧
   ∀ p ∈ l, (gP (acceptP (pickP l (downP l own).1) (answerP l (askP (pickP l (downP l own).1) names).1)).1 p.name).isSome = (decide (p.name ∈ (downP l own).1) || decide (p.name ∈ (downP l (wantN l names)).1)) ∧
    ((gP (acceptP (pickP l (downP l own).1) (answerP l (askP (pickP l (downP l own).1) names).1)).1 p.name).isSome = true → pOr (acceptP (pickP l (downP l own).1) (answerP l (askP (pickP l (downP l own).1) names).1)).1 p.name = p)) := by
 have hl := (ofB_iff.1 hb).2.1
 rcases pull hb hr h60 (Part.refl hl) (pick_part hl _) (pick_closd hb hr.1 he) hn hg with ⟨h1, h2, h3, _⟩ | ⟨W, h1, h2, h3, h4⟩ | ⟨W, h1, h2, h3, h4, h5, h6, h7, h8⟩
 ·rw [h3, h1]; simp
 ·rw [h4, h1]; simp
 ·refine ⟨fun h => absurd h1 h, fun _ h => absurd h4 h, fun _ _ => ⟨rank_order (h5.ofB hb) (h5.rank hr h7), fun p hp => ?_⟩⟩
  obtain ⟨k1, k2⟩ := part_find hl h5 hp
  refine ⟨?_, k2⟩
  rw [Bool.eq_iff_iff, k1, h8, pick_mem, Bool.or_eq_true, decide_eq_true_eq, decide_eq_true_eq]
  simp [hp]
theorem once_law {l : List Patch} {names : List Str} (hb : ofB l = true) (hr : Rankd l) (h60 : l.length ≤ 60) (hn : greatS names = false) (hg : (askP [] names).2 = 0) (hx : (acceptP [] (answerP l (askP [] names).1)).2 = 0) :
  (askP (acceptP [] (answerP l (askP [] names).1)).1 names).2 = 0 ∧ answerP l (askP (acceptP [] (answerP l (askP [] names).1)).1 names).1 = ⟨2, [], [], 0, []⟩ ∧
  (names.length = 0 → (acceptP [] (answerP l (askP [] names).1)).1.length = l.length) ∧ (acceptP [] (answerP l (askP [] names).1)).1.length ≤ 60 := by
 have hl := (ofB_iff.1 hb).2.1
 rcases pull hb hr h60 (Part.refl hl) (Part.nil l) (by simp [Closd]) hn hg with ⟨h1, h2, h3, _⟩ | ⟨W, h1, h2, h3, h4⟩ | ⟨W, h1, h2, h3, h4, h5, h6, h7, h8⟩
 ·rw [h3] at hx; cases hx
 ·rw [h4] at hx; cases hx
 ·have hg2 := ask_all (h5.ofB hb) (ask_labels hg)
  refine ⟨hg2, ?_, fun h0 => ?_, Nat.le_trans (h5.len hl) h60⟩
  ·rcases pull hb hr h60 (Part.refl hl) h5 h7 hn hg2 with ⟨k1, _⟩ | ⟨V, k1, k2, k3, k4⟩ | ⟨V, k1, k2, k3, _⟩
   ·rw [k1] at h1; cases h1
   ·have : V = [] := List.eq_nil_iff_forall_not_mem.2 fun p hp => by
     obtain ⟨a1, a2, a3⟩ := (k2 p).1 hp
     exact a3 ((h8 p).2 (.inr ⟨a1, a2⟩))
    subst this
    exact absurd put_give0 k3
   ·have : V = [] := List.eq_nil_iff_forall_not_mem.2 fun p hp => by
     obtain ⟨a1, a2, a3⟩ := (k2 p).1 hp
     exact a3 ((h8 p).2 (.inr ⟨a1, a2⟩))
    subst this
    exact k3
  ·refine Nat.le_antisymm (h5.len hl) (Part.len h5.1 ⟨hl, fun p hp => (h8 p).2 (.inr ⟨hp, ?_⟩)⟩)
   rw [wantN, if_pos h0]
   exact (down_in hb hr.1 (w := namesP l) fun n hn => by
    obtain ⟨q, h1, h2⟩ := List.mem_map.1 hn
    exact ⟨q, h1, h2⟩).2.1 _ (List.mem_map.2 ⟨p, hp, rfl⟩)
theorem no_law {l : List Patch} {name : Str} (hb : ofB l = true) (hr : Rankd l) (h60 : l.length ≤ 60) (hn : name.length ≤ 1000) (hg : (askP l [name]).2 = 0) :
  ((gP l name).isSome = true → answerP l (askP l [name]).1 = ⟨2, [], [], 0, []⟩ ∧ (acceptP l (answerP l (askP l [name]).1)).2 = 0) ∧ ((gP l name).isSome = false → answerP l (askP l [name]).1 = noP 12 ∧ (acceptP l (answerP l (askP l [name]).1)).2 = 12) := by
 have hl := (ofB_iff.1 hb).2.1
 have hG : greatS [name] = false := by
  have : cap2 name.length ≤ 1000 := by unfold cap2; omega
  simp [greatS, capsum2]; omega
 have hw : wantN l [name] = [name] := rfl
 have hsome : (gP l name).isSome = true ↔ (downP l [name]).2 = 0 := by
  constructor
  ·intro h
   obtain ⟨p, hp, e⟩ := List.mem_map.1 ((gP_some hl name).1 h)
   exact (down_in hb hr.1 (w := [name]) fun n hn => ⟨p, hp, by rw [e]; exact (List.mem_singleton.1 hn).symm⟩).1
  ·intro h
   rcases down_part hb [name] with ⟨h1, h2, h3⟩ | ⟨h1, _⟩
   ·exact h2 name (.base (by simp))
   ·rw [h1] at h; cases h
 rcases pull hb hr h60 (Part.refl hl) (Part.refl hl) hr.1 hG hg with ⟨k1, k2, k3, _⟩ | ⟨V, k1, k2, k3, k4⟩ | ⟨V, k1, k2, k3, k4, _⟩
 ·rw [hw] at k1
  have : (gP l name).isSome = false := by
   rw [Bool.eq_false_iff, Ne, hsome, k1]; decide
  exact ⟨fun h => (by rw [this] at h; cases h), fun _ => ⟨k2, by rw [k3]⟩⟩
 all_goals
  have hV : V = [] := List.eq_nil_iff_forall_not_mem.2 fun p hp => by
   obtain ⟨a1, a2, a3⟩ := (k2 p).1 hp
   exact a3 a1
  subst hV
  rw [hw] at k1
  have hs := hsome.2 k1
  rw [hs]
 ·exact absurd put_give0 k3
 ·exact ⟨fun _ => ⟨k3, k4⟩, fun h => (by cases h)⟩
theorem both_law {l : List Patch} {one two : List Str} (hb : ofB l = true) (hr : Rankd l) (h60 : l.length ≤ 60) (h1 : (downP l one).2 = 0) (h2 : (downP l two).2 = 0) {x y : List Patch} (hx : x = pickP l (downP l one).1) (hy : y = pickP l (downP l two).1) :
  (askP x []).2 = 0 ∧ (askP y []).2 = 0 ∧ ((acceptP x (answerP y (askP x []).1)).2 = 0 ∨ (acceptP x (answerP y (askP x []).1)).2 = 2) ∧
  ((acceptP x (answerP y (askP x []).1)).2 = 0 → ((acceptP y (answerP (acceptP x (answerP y (askP x []).1)).1 (askP y []).1)).2 = 0 ∧ (acceptP x (answerP y (askP x []).1)).1 = (acceptP y (answerP (acceptP x (answerP y (askP x []).1)).1 (askP y []).1)).1 ∧
   (acceptP x (answerP y (askP x []).1)).1.length = (l.filter fun p => decide (p.name ∈ (downP l one).1) || decide (p.name ∈ (downP l two).1)).length) ∨ (acceptP y (answerP (acceptP x (answerP y (askP x []).1)).1 (askP y []).1)).2 = 2) := by
 have hl := (ofB_iff.1 hb).2.1
 have px : Part l x := hx ▸ pick_part hl _
 have py : Part l y := hy ▸ pick_part hl _
 have cx : Closd x := hx ▸ pick_closd hb hr.1 h1
 have cy : Closd y := hy ▸ pick_closd hb hr.1 h2
 have gx := ask_all (px.ofB hb) (names := []) (by simp)
 have gy := ask_all (py.ofB hb) (names := []) (by simp)
 have hG : greatS [] = false := by decide
 have hall : ∀ {s : List Patch}, Part l s → Closd s → (downP s (wantN s [])).2 = 0 ∧ ∀ p ∈ s, p.name ∈ (downP s (wantN s [])).1 := by
  intro s ps cs
  obtain ⟨a1, a2, _⟩ := down_in (ps.ofB hb) cs (w := wantN s []) fun n hn => by
   obtain ⟨q, h1, h2⟩ := List.mem_map.1 (show n ∈ namesP s from hn)
   exact ⟨q, h1, h2⟩
  exact ⟨a1, fun p hp => a2 _ (List.mem_map.2 ⟨p, hp, rfl⟩)⟩
 refine ⟨gx, gy, ?_⟩
 rcases pull hb hr h60 py px cx hG gx with ⟨k1, _⟩ | ⟨V, k1, k2, k3, k4⟩ | ⟨V, k1, k2, k3, k4, k5, k6, k7, k8⟩
 ·have := (hall py cy).1
  rw [k1] at this; cases this
 ·rw [k4]
  exact ⟨.inr rfl, fun h => (by cases h)⟩
 ·refine ⟨.inl k4, fun _ => ?_⟩
  rcases pull hb hr h60 k5 py cy hG gy with ⟨j1, _⟩ | ⟨U, j1, j2, j3, j4⟩ | ⟨U, j1, j2, j3, j4, j5, j6, j7, j8⟩
  ·have := (hall k5 k7).1
   rw [j1] at this; cases this
  ·rw [j4]; exact .inr rfl
  ·have hm : ∀ p, p ∈ (acceptP x (answerP y (askP x []).1)).1 ↔ p ∈ x ∨ p ∈ y := fun p => by
    rw [k8]
    constructor
    ·exact fun h => h.imp id And.left
    ·exact fun h => h.imp id fun h => ⟨h, (hall py cy).2 p h⟩
   refine .inl ⟨j4, up_same hl k5 j5 k6 j6 fun p => ?_, ?_⟩
   ·rw [j8]
    constructor
    ·exact fun h => .inr ⟨h, (hall k5 k7).2 p h⟩
    ·rintro (h | h)
     ·exact (hm p).2 (.inr h)
     ·exact h.1
   ·have nd : ∀ {s : List Patch}, apartP s → s.Nodup := fun h => h.imp fun h e => h (by rw [e])
    refine ((List.perm_ext_iff_of_nodup (nd k5.1) (nd (Part.filter hl _).1)).2 fun p => ?_).length_eq
    rw [hm, hx, hy, pick_mem, pick_mem, List.mem_filter, Bool.or_eq_true, decide_eq_true_eq, decide_eq_true_eq]
    constructor
    ·rintro (⟨a, b⟩ | ⟨a, b⟩)
     ·exact ⟨a, .inl b⟩
     ·exact ⟨a, .inr b⟩
    ·rintro ⟨a, b | b⟩
     ·exact .inl ⟨a, b⟩
     ·exact .inr ⟨a, b⟩
end Go.Proofs.YtnobnefabagbhaaGreatDoor.Q
end
