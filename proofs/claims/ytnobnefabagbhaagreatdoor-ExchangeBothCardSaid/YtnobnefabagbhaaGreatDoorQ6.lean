/- Part 6 of our proof: a logic over the model's code, contracts of the functions, and plain laws. -/
import Derived.Test.YtnobnefabagbhaaGreatDoorQ5
import Derived.Test.YtnobnefabagbhaaGreatDoorQ1
import Derived.Test.YtnobnefabagbhaaGreatDoorRows
import Derived.ProofKit
import Derived.Deep.Fields
import Derived.Lib.LaidTab
import Derived.Lay
import Derived.OpenShut
import Derived.LaidMore
import Derived.MakeChecks
import Derived.Stop.LaidErr
import Derived.Stop.Joined
set_option linter.unusedVariables false
set_option linter.unusedSimpArgs false
set_option linter.unusedSectionVars false
set_option maxRecDepth 100000
section
/- Walks of the laws of exchange without the document's answer, in the logic 'Q'. -/
namespace Go.Proofs.YtnobnefabagbhaaGreatDoor.Q
open Go Go.Q
attribute [local irreducible] putMsgR
theorem pickQ_take {l : List Patch} {i : Nat} (hi : i < l.length) (o : List Str) : pickP (l.take (i + 1)) o = pickP (l.take i) o ++ if l[i].name ∈ o then [l[i]] else [] := by
 rw [pickP, List.take_succ_eq_append_getElem hi, List.filter_append]
 by_cases h : l[i].name ∈ o <;> simp [pickP, h]
theorem pickQ_len {l : List Patch} {i : Nat} (o : List Str) : (pickP (l.take i) o).length ≤ i := Nat.le_trans (List.length_filter_le _ _) (List.length_take_le _ _)
def cntN (l : List Patch) (c d : List Str) : Nat := (l.filter fun p => decide (p.name ∈ c) || decide (p.name ∈ d)).length
theorem cntN_take {l : List Patch} {i : Nat} (hi : i < l.length) (c d : List Str) : cntN (l.take (i + 1)) c d = cntN (l.take i) c d + if l[i].name ∈ c ∨ l[i].name ∈ d then 1 else 0 := by
 rw [cntN, List.take_succ_eq_append_getElem hi, List.filter_append]
 by_cases h : l[i].name ∈ c <;> by_cases h' : l[i].name ∈ d <;> simp [cntN, h, h']
theorem cntN_len {l : List Patch} {i : Nat} (c d : List Str) : cntN (l.take i) c d ≤ i := Nat.le_trans (List.length_filter_le _ _) (List.length_take_le _ _)
theorem wantN_len (l : List Patch) (names : List Str) : (wantN l names).length ≤ l.length + names.length := by
 unfold wantN
 split
 ·rw [namesP, List.length_map]; omega
 ·omega
theorem enc_ask {ps : List Patch} {names : List Str} : ∀ p ∈ (askP ps names).1.patches, (patchEnc p).length ≤ 500000000 := by rw [ask_pat]; simp
theorem accept_ask {l ps : List Patch} {names : List Str} : (acceptP l (askP ps names).1).2 = 1 := by
 rw [acceptP, if_neg (fun h => ask_kind.2 h.1), if_pos ask_kind.1]
theorem accept_no (l : List Patch) (e : Int) : (acceptP l ⟨3, [], [], e, []⟩).2 = if e = 0 then 1 else e := by
 rw [acceptP]
 by_cases h : e = 0 <;> simp [h]
set_option maxHeartbeats 8000000 in
theorem c_law21_ExchangeOnce (l : List Patch) (names : List Str) (hl : ∀ p ∈ l, fitP p) : VPure Go.Proofs.Tryz.prog G 5 [.list 3 (l.map cPatch), .list 1 (names.map cS)] (.bool true) := by
 refine vpure_of (ts := [4]) Tryz.func5 rfl (by simp [Tryz.ntmps5]) rfl rfl ?_
 rw [Tryz.ntmps5]
 refine oR [0, 1] ?_
 refine vwp_seq (vwp_region ?_)
 refine oC (fun _ => c_law21_head) b_law21_head ?_
 simp only [go_sem]
 refine oG [] ?_
 refine vops_done [0, 1, 5] ?_
 simp only [go_sem, thenQ, blockQ, jumpQ, stayQ]
 refine vwp_seq (vwp_region ?_)
 refine oG [] ?_
 refine oC (fun _ => c_closure_Order l) b_closure_Order ?_
 simp only [go_sem]
 refine oG [] ?_
 refine vops_done [0, 1, 5, 7] ?_
 simp only [go_sem, thenQ, blockQ, jumpQ, stayQ]
 refine vwp_seq ?_
 refine vwp_seq (vwp_region ?_)
 refine oG [] ?_
 refine oC (fun _ => c_law13_GreatList l) b_law13_GreatList ?_
 simp only [go_sem]
 refine oG [] ?_
 refine oC (fun _ => c_law21_great names) b_law21_great ?_
 simp only [go_sem]
 refine oG [] ?_
 refine vops_done [0, 1, 5, 30] ?_
 simp only [go_sem, thenQ, blockQ, jumpQ, stayQ]
 refine oB (fun h0 => ?_) fun h0 => ?_
 ·
  refine oR [4] ?_
  refine vwp_ret ?_
  simp only [thenQ, blockQ, jumpQ, stayQ, RetQ, go_sem]
  refine ⟨by simp, Wk.eq ?_⟩
  rfl
 ·
  have hG : greatPatches l = false ∧ greatS names = false ∧ (orderP l).2 = 0 := by simp at h0; exact ⟨h0.1.1, h0.1.2, h0.2⟩
  obtain ⟨hb, hr⟩ := order_rank hG.2.2
  have q4 := great_pats hG.1 hl
  have q5 := great_len hG.1
  have q6 := greatS_len hG.2.1
  refine vwp_skip ?_
  try simp only [thenQ, blockQ, jumpQ, stayQ]
  refine vwp_seq (vwp_region ?_)
  refine oG [] ?_
  refine vops_call (hc := fun _ => c_exchange_Ask [] names (by omega)) rfl (by simp only [go_sem]; rfl) rfl b_exchange_Ask (by simp only [go_sem]; exact ⟨Wk.nils _, Wk.refl _, trivial⟩) rfl (fun hg => by simp only [go_sem]; try (intros; first | assumption | trivial | simp_all)) ?_
  simp only [go_sem]
  refine oG [] ?_
  refine vops_done [0, 1, 5, 8, 9] ?_
  simp only [go_sem, thenQ, blockQ, jumpQ, stayQ]
  refine vwp_seq ?_
  refine oR [0, 1, 5, 8, 38] ?_
  refine oB (fun h1 => ?_) fun h1 => ?_
  ·
   refine oR [4] ?_
   refine vwp_ret ?_
   simp only [thenQ, blockQ, jumpQ, stayQ, RetQ, go_sem]
   refine ⟨by simp, Wk.eq ?_⟩
   rfl
  ·
   have hg : (askP [] names).2 = 0 := by simpa using h1
   obtain ⟨f1, f2, f3⟩ := put_ask (ps := []) (by simp) hG.2.1 hg
   refine vwp_skip ?_
   try simp only [thenQ, blockQ, jumpQ, stayQ]
   refine vwp_seq (vwp_region ?_)
   refine oG [] ?_
   refine oC (fun _ => c_exchange_Answer l (askP [] names).1 (by omega) q4 f2 f3 enc_ask) b_exchange_Answer ?_
   simp only [go_sem]
   refine vops_call (hc := fun _ => c_exchange_Accept [] (answerP l (askP [] names).1) (by simp) (fun p hp => q4 p (answer_sub.1 p hp))) rfl (by simp only [go_sem]; rfl) rfl b_exchange_Accept (by simp only [go_sem]; exact ⟨Wk.nils _, Wk.refl _, trivial⟩) rfl (fun hg => by simp only [go_sem]; try (intros; first | assumption | trivial | simp_all)) ?_
   simp only [go_sem]
   refine oG [] ?_
   refine vops_done [0, 1, 5, 10, 11] ?_
   simp only [go_sem, thenQ, blockQ, jumpQ, stayQ]
   refine vwp_seq ?_
   refine oR [0, 1, 5, 10, 48] ?_
   refine oB (fun h2 => ?_) fun h2 => ?_
   ·
    refine oR [4] ?_
    refine vwp_ret ?_
    simp only [thenQ, blockQ, jumpQ, stayQ, RetQ, go_sem]
    refine ⟨by simp, Wk.eq ?_⟩
    have hx0 := accept_sub.2.2 (show (acceptP [] (answerP l (askP [] names).1)).2 ≠ 0 by simpa using h2)
    simp [hx0]
   ·
    have hx : (acceptP [] (answerP l (askP [] names).1)).2 = 0 := by simpa using h2
    obtain ⟨g1, g2, g3, g4⟩ := once_law hb hr q5 hG.2.1 hg hx
    obtain ⟨k1, k2, k3⟩ := put_ask g4 hG.2.1 g1
    refine vwp_skip ?_
    try simp only [thenQ, blockQ, jumpQ, stayQ]
    refine vwp_seq (vwp_region ?_)
    refine oG [] ?_
    refine oC (fun _ => c_exchange_Ask (acceptP [] (answerP l (askP [] names).1)).1 names (by omega)) b_exchange_Ask ?_
    simp only [go_sem]
    refine oG [] ?_
    refine vops_done [0, 1, 5, 10, 12, 13] ?_
    simp only [go_sem, thenQ, blockQ, jumpQ, stayQ]
    refine vwp_seq (vwp_region ?_)
    refine oG [] ?_
    refine oC (fun _ => c_exchange_Answer l (askP (acceptP [] (answerP l (askP [] names).1)).1 names).1 (by omega) q4 k2 k3 enc_ask) b_exchange_Answer ?_
    simp only [go_sem]
    refine oG [] ?_
    refine vops_done [0, 1, 5, 10, 13, 14] ?_
    simp only [go_sem, thenQ, blockQ, jumpQ, stayQ]
    refine oR [4] ?_
    refine vwp_ret ?_
    simp only [thenQ, blockQ, jumpQ, stayQ, RetQ, go_sem]
    refine ⟨by simp, Wk.eq ?_⟩
    rw [g2, g1]
    by_cases hn0 : names.length = 0
    ·rw [g3 hn0]; simp
    ·simp [show 0 < names.length by omega]
set_option maxHeartbeats 8000000 in
theorem c_law21_ExchangeNo (l : List Patch) (name : Str) (e : Int) (he : in64 e) (hl : ∀ p ∈ l, fitP p) : VPure Go.Proofs.Tryz.prog G 6 [.list 3 (l.map cPatch), .str name, .int .i64 e] (.bool true) := by
 refine vpure_of (ts := [6]) Tryz.func6 rfl (by simp [Tryz.ntmps6]) rfl rfl ?_
 rw [Tryz.ntmps6]
 refine oR [0, 1, 2] ?_
 refine vwp_seq (vwp_region ?_)
 refine oC (fun _ => c_law21_head) b_law21_head ?_
 simp only [go_sem]
 refine oG [] ?_
 refine vops_done [0, 1, 2, 7] ?_
 simp only [go_sem, thenQ, blockQ, jumpQ, stayQ]
 refine vwp_seq (vwp_region ?_)
 refine oG [] ?_
 refine oC (fun _ => c_closure_Order l) b_closure_Order ?_
 simp only [go_sem]
 refine oG [] ?_
 refine vops_done [0, 1, 2, 7, 9] ?_
 simp only [go_sem, thenQ, blockQ, jumpQ, stayQ]
 refine vwp_seq ?_
 refine vwp_seq (vwp_region ?_)
 refine oG [] ?_
 refine oC (fun _ => c_law13_GreatList l) b_law13_GreatList ?_
 simp only [go_sem]
 refine oG [] ?_
 refine vops_done [0, 1, 2, 7, 38] ?_
 simp only [go_sem, thenQ, blockQ, jumpQ, stayQ]
 refine oB (fun h0 => ?_) fun h0 => ?_
 ·
  refine oR [6] ?_
  refine vwp_ret ?_
  simp only [thenQ, blockQ, jumpQ, stayQ, RetQ, go_sem]
  refine ⟨by simp, Wk.eq ?_⟩
  rfl
 ·
  have hG : greatPatches l = false ∧ name.length ≤ 1000 ∧ (orderP l).2 = 0 := by simp at h0; exact ⟨h0.1.1, by omega, h0.2⟩
  obtain ⟨hb, hr⟩ := order_rank hG.2.2
  have q4 := great_pats hG.1 hl
  have q5 := great_len hG.1
  refine vwp_skip ?_
  try simp only [thenQ, blockQ, jumpQ, stayQ]
  refine vwp_seq (vwp_region ?_)
  refine oG [] ?_
  refine oC (fun _ => c_exchange_Ask l [name] (by simp)) b_exchange_Ask ?_
  simp only [go_sem]
  refine oG [] ?_
  refine vops_done [0, 1, 2, 7, 10, 11] ?_
  simp only [go_sem, thenQ, blockQ, jumpQ, stayQ]
  refine vwp_seq ?_
  refine oR [0, 1, 2, 7, 10, 11, 48] ?_
  refine oB (fun h1 => ?_) fun h1 => ?_
  ·
   refine vwp_seq (vwp_region ?_)
   refine oG [] ?_
   refine oC (fun _ => c_ref13_Label name) b_ref13_Label ?_
   simp only [go_sem]
   refine oG [] ?_
   refine vops_done [6] ?_
   simp only [go_sem, thenQ, blockQ, jumpQ, stayQ]
   refine vwp_ret ?_
   simp only [thenQ, blockQ, jumpQ, stayQ, RetQ, go_sem]
   refine ⟨by simp, Wk.eq ?_⟩
   have h1' : (askP l [name]).2 ≠ 0 := by simpa using h1
   have hlab : labelB name = false := by
    cases hlb : labelB name with
    | false => rfl
    | true => exact absurd (ask_all hb (by simpa using hlb)) h1'
   rw [ask_no h1', hlab]; rfl
  ·
   have hg : (askP l [name]).2 = 0 := by simpa using h1
   obtain ⟨n1, n2⟩ := no_law hb hr q5 hG.2.1 hg
   have hgs : greatS [name] = false := by
    have h1 : cap2 name.length ≤ 1000 := by unfold cap2; omega
    simp [greatS, capsum2]; omega
   obtain ⟨f1, f2, f3⟩ := put_ask q5 hgs hg
   refine vwp_skip ?_
   try simp only [thenQ, blockQ, jumpQ, stayQ]
   refine vwp_seq (vwp_region ?_)
   refine oG [] ?_
   refine oC (fun _ => c_exchange_Answer l (askP l [name]).1 (by omega) q4 f2 f3 enc_ask) b_exchange_Answer ?_
   simp only [go_sem]
   refine oG [] ?_
   refine vops_done [0, 1, 2, 7, 10, 12] ?_
   simp only [go_sem, thenQ, blockQ, jumpQ, stayQ]
   refine vwp_seq (vwp_region ?_)
   refine oG [] ?_
   refine oC (fun _ => c_ref14_Find l name) b_ref14_Find ?_
   simp only [go_sem]
   refine oG [] ?_
   refine vops_done [0, 2, 7, 10, 12, 14] ?_
   simp only [go_sem, thenQ, blockQ, jumpQ, stayQ]
   refine vwp_seq ?_
   refine oR [0, 2, 7, 10, 12, 14, 93] ?_
   refine oB (fun h2 => ?_) fun h2 => ?_
   ·
    cases hi : (gP l name).isSome with
    | false => rw [(n2 hi).1] at h2; simp [hi, noP] at h2
    | true => rw [(n1 hi).1] at h2; simp [hi] at h2
    done
   ·
    refine vwp_skip ?_
    try simp only [thenQ, blockQ, jumpQ, stayQ]
    refine vwp_seq (vwp_region ?_)
    refine oG [] ?_
    refine oC (fun _ => c_exchange_Accept l (answerP l (askP l [name]).1) q4 (fun p hp => q4 p (answer_sub.1 p hp))) b_exchange_Accept ?_
    simp only [go_sem]
    refine oG [] ?_
    refine vops_done [0, 2, 7, 10, 12, 14, 16] ?_
    simp only [go_sem, thenQ, blockQ, jumpQ, stayQ]
    refine vwp_seq (vwp_region ?_)
    refine oG [] ?_
    refine oC (fun _ => c_exchange_Accept l (askP l [name]).1 q4 enc_ask) b_exchange_Accept ?_
    simp only [go_sem]
    refine oG [] ?_
    refine vops_done [0, 2, 7, 12, 14, 16, 18] ?_
    simp only [go_sem, thenQ, blockQ, jumpQ, stayQ]
    refine vwp_seq (vwp_region ?_)
    refine oG [] ?_
    refine vops_call (hc := fun _ => c_exchange_Accept l ⟨3, [], [], e, []⟩ q4 (by simp)) rfl (by simp only [go_sem]; rfl) rfl b_exchange_Accept (by simp only [go_sem]; exact ⟨Wk.refl _, Wk.agg ⟨Wk.refl _, Wk.nils _, Wk.nils _, Wk.refl _, Wk.nils _, trivial⟩, trivial⟩) rfl (fun hg => by simp only [go_sem]; try (intros; first | assumption | trivial | simp_all)) ?_
    simp only [go_sem]
    refine oG [] ?_
    refine vops_done [0, 2, 7, 12, 14, 16, 18, 20] ?_
    simp only [go_sem, thenQ, blockQ, jumpQ, stayQ]
    refine vwp_seq (vwp_region ?_)
    refine oG [] ?_
    refine oC (fun _ => c_exchange_Answer l (answerP l (askP l [name]).1) (by omega) q4 (by rw [answer_sub.2.1]; have := lst_nil; omega) (by rw [answer_sub.2.2]; have := lst_nil; omega) (fun p hp => q4 p (answer_sub.1 p hp))) b_exchange_Answer ?_
    simp only [go_sem]
    refine oG [] ?_
    refine vops_done [2, 7, 14, 16, 18, 20, 21] ?_
    simp only [go_sem, thenQ, blockQ, jumpQ, stayQ]
    refine oR [6] ?_
    refine vwp_ret ?_
    simp only [thenQ, blockQ, jumpQ, stayQ, RetQ, go_sem]
    refine ⟨by simp, Wk.eq ?_⟩
    have ea : (answerP l (answerP l (askP l [name]).1)) = noP 1 := by
     cases hi : (gP l name).isSome with
     | false => rw [(n2 hi).1, answerP, if_pos (.inr (by simp [noP]))]
     | true => rw [(n1 hi).1, answerP, if_pos (.inr (by simp))]
    have eg : decide ((acceptP l (answerP l (askP l [name]).1)).2 = 0) = (gP l name).isSome := by
     cases hi : (gP l name).isSome with
     | false => rw [(n2 hi).2]; rfl
     | true => rw [(n1 hi).2]; rfl
    rw [ea, eg, accept_ask, accept_no]
    by_cases h0 : e = 0 <;> simp [h0, noP]
set_option maxHeartbeats 8000000 in
theorem c_law21_ExchangeCloses (l : List Patch) (own names : List Str) (hl : ∀ p ∈ l, fitP p) : VPure Go.Proofs.Tryz.prog G 4 [.list 3 (l.map cPatch), .list 1 (own.map cS), .list 1 (names.map cS)] (.bool true) := by
 refine vpure_know fun hk => ?_
 simp only [factsL, facts, maxB, List.length_map] at hk
 refine vpure_of (ts := [6]) Tryz.func4 rfl (by simp [Tryz.ntmps4]) rfl rfl ?_
 rw [Tryz.ntmps4]
 refine oR [0, 1, 2] ?_
 refine vwp_seq (vwp_region ?_)
 refine oC (fun _ => c_law21_head) b_law21_head ?_
 simp only [go_sem]
 refine oG [] ?_
 refine vops_done [0, 1, 2, 7] ?_
 simp only [go_sem, thenQ, blockQ, jumpQ, stayQ]
 refine vwp_seq (vwp_region ?_)
 refine oG [] ?_
 refine oC (fun _ => c_closure_Order l) b_closure_Order ?_
 simp only [go_sem]
 refine oG [] ?_
 refine vops_done [0, 1, 2, 7, 9] ?_
 simp only [go_sem, thenQ, blockQ, jumpQ, stayQ]
 refine vwp_seq ?_
 refine vwp_seq (vwp_region ?_)
 refine oG [] ?_
 refine oC (fun _ => c_law13_GreatList l) b_law13_GreatList ?_
 simp only [go_sem]
 refine oG [] ?_
 refine oC (fun _ => c_law21_great own) b_law21_great ?_
 simp only [go_sem]
 refine oG [] ?_
 refine oC (fun _ => c_law21_great names) b_law21_great ?_
 simp only [go_sem]
 refine oG [] ?_
 refine vops_done [0, 1, 2, 7, 47] ?_
 simp only [go_sem, thenQ, blockQ, jumpQ, stayQ]
 refine oB (fun h0 => ?_) fun h0 => ?_
 ·
  refine oR [6] ?_
  refine vwp_ret ?_
  simp only [thenQ, blockQ, jumpQ, stayQ, RetQ, go_sem]
  refine ⟨by simp, Wk.eq ?_⟩
  rfl
 ·
  have hG : greatPatches l = false ∧ greatS own = false ∧ greatS names = false ∧ (orderP l).2 = 0 := by simp at h0; exact ⟨h0.1.1.1, h0.1.1.2, h0.1.2, h0.2⟩
  obtain ⟨hb, hr⟩ := order_rank hG.2.2.2
  have q4 := great_pats hG.1 hl
  have q5 := great_len hG.1
  have q6 := greatS_len hG.2.1
  have q7 := greatS_len hG.2.2.1
  refine vwp_skip ?_
  try simp only [thenQ, blockQ, jumpQ, stayQ]
  refine vwp_seq (vwp_region ?_)
  refine oG [] ?_
  refine oC (fun _ => c_closure_Down l own (by omega)) b_closure_Down ?_
  simp only [go_sem]
  refine oG [] ?_
  refine vops_done [0, 2, 7, 10, 11] ?_
  simp only [go_sem, thenQ, blockQ, jumpQ, stayQ]
  refine vwp_seq ?_
  refine oR [0, 2, 7, 10, 56] ?_
  refine oB (fun h1 => ?_) fun h1 => ?_
  ·
   refine oR [6] ?_
   refine vwp_ret ?_
   simp only [thenQ, blockQ, jumpQ, stayQ, RetQ, go_sem]
   refine ⟨by simp, Wk.eq ?_⟩
   rfl
  ·
   have hed : (downP l own).2 = 0 := by simpa using h1
   refine vwp_skip ?_
   try simp only [thenQ, blockQ, jumpQ, stayQ]
   refine oR [0, 2, 7, 10, 12] ?_
   refine oR [0, 2, 7, 10, 12, 13] ?_
   refine vwp_seq ?_
   refine oR [0, 2, 7, 10, 12, 13, 14] ?_
   refine vwp_block ?_
   refine vwp_own 12 45 3 rfl ?_
   refine vwp_own 13 9 1 rfl ?_
   refine vwp_keep [0, 2, 7, 10, 12, 13, 14] ?_
   simp only [go_sem]
   refine vwp_loopW (fun i : Nat => [(0, .list 3 (l.map cPatch)), (2, .list 1 (names.map cS)), (7, .bool true), (10, .list 1 ((downP l own).1.map cS)), (12, .arr 0 (pickP (l.take i) (downP l own).1).length), (13, .arr 1 (namesP (l.take i)).length), (14, .int .i64 (i : Int))]) (fun i => [.arr 45 3 ((pickP (l.take i) (downP l own).1).map cPatch), .arr 9 1 ((namesP (l.take i)).map cS)]) (fun i => i ≤ l.length) (fun i => l.length - i) 0 (Nat.zero_le _) (wC (wC (wC (wC (wC (wC (wC (Env.wk_nil _)))))))) rfl ?_
   rintro i hi
   refine vwp_seq ?_
   refine oR [0, 2, 7, 10, 12, 13, 14, 61] ?_
   refine oB (fun h2 => ?_) fun h2 => ?_
   ·
    have h2' : i < l.length := by simp at h2; omega
    have hpl := pickQ_len (l := l) (i := i) (downP l own).1
    refine vwp_skip ?_
    try simp only [thenQ, blockQ, jumpQ, stayQ]
    refine vwp_seq ?_
    refine vwp_block ?_
    refine vwp_seq ?_
    refine vwp_seq (vwp_region ?_)
    refine vops_go tabOk [] (by simp only [go_sem, getD_map, h2']; rfl) (by first | trivial | (simp [h2']; done) | (simp [h2']; omega)) ?_
    refine vops_call (hc := fun _ => c_ref14_Has (downP l own).1 l[i].name) rfl (by simp only [go_sem, getD_map, h2']; rfl) rfl b_ref14_Has (by simp only [go_sem]; exact WkL.refl _) rfl (fun hg => by simp only [go_sem]; try (intros; first | assumption | trivial | simp_all)) ?_
    simp only [go_sem]
    refine vops_done [0, 2, 7, 10, 12, 13, 14, 70] ?_
    simp only [go_sem, thenQ, blockQ, jumpQ, stayQ]
    refine oB (fun h3 => ?_) fun h3 => ?_
    ·
     refine vwp_reg1 tabOk [] [0, 2, 7, 10, 12, 13, 14] (by simp only [go_sem, getD_map, h2']; rfl) (by first | trivial | (simp [h2']; done) | (simp [h2']; omega)) ?_
     try simp only [thenQ, blockQ, jumpQ, stayQ]
     refine vwp_reg1 tabOk [] [0, 2, 7, 10, 12, 13, 14] (by simp only [go_sem, getD_map, h2']; rfl) (by first | trivial | (simp [h2', namesP]; done) | (simp [h2', namesP]; omega)) ?_
     try simp only [thenQ, blockQ, jumpQ, stayQ]
     refine vwp_trim 2 (by simp) (by simp) ?_
     simp only [go_sem, mapE]
     refine vwp_reg1 tabOk [] [0, 2, 7, 10, 12, 13, 14] (by simp only [go_sem]; rfl) (by first | trivial | (simp; done) | (simp [in64]; omega)) ?_
     try simp only [thenQ, blockQ, jumpQ, stayQ]
     have hA := namesP_take h2'
     have hM := pickQ_take h2' (downP l own).1
     rw [if_pos (of_decide_eq_true h3)] at hM
     exact ⟨i + 1, by omega, by omega, (Env.wk_cons (Wk.refl _) (Env.wk_cons (Wk.refl _) (Env.wk_cons (Wk.refl _) (Env.wk_cons (Wk.refl _) (Env.wk_cons (Wk.eq (by rw [hM]; try simp)) (Env.wk_cons (Wk.eq (by rw [hA]; try simp)) (Env.wk_cons (Wk.refl _) (Env.wk_nil _)))))))), by rw [hM, hA]; try simp [cPatch, cS]⟩
    ·
     refine vwp_skip ?_
     try simp only [thenQ, blockQ, jumpQ, stayQ]
     refine vwp_reg1 tabOk [] [0, 2, 7, 10, 12, 13, 14] (by simp only [go_sem, getD_map, h2']; rfl) (by first | trivial | (simp [h2', namesP]; done) | (simp [h2', namesP]; omega)) ?_
     try simp only [thenQ, blockQ, jumpQ, stayQ]
     refine vwp_trim 2 (by simp) (by simp) ?_
     simp only [go_sem, mapE]
     refine vwp_reg1 tabOk [] [0, 2, 7, 10, 12, 13, 14] (by simp only [go_sem]; rfl) (by first | trivial | (simp; done) | (simp [in64]; omega)) ?_
     try simp only [thenQ, blockQ, jumpQ, stayQ]
     have hA := namesP_take h2'
     have hM := pickQ_take h2' (downP l own).1
     rw [if_neg (of_decide_eq_false h3), List.append_nil] at hM
     exact ⟨i + 1, by omega, by omega, (Env.wk_cons (Wk.refl _) (Env.wk_cons (Wk.refl _) (Env.wk_cons (Wk.refl _) (Env.wk_cons (Wk.refl _) (Env.wk_cons (Wk.eq (by rw [hM]; try simp)) (Env.wk_cons (Wk.eq (by rw [hA]; try simp)) (Env.wk_cons (Wk.refl _) (Env.wk_nil _)))))))), by rw [hM, hA]; try simp [cPatch, cS]⟩
   ·
    have hie : i = l.length := by simp at h2; omega
    subst hie
    rw [List.take_length]
    refine vwp_exit ?_
    simp only [thenQ, blockQ, jumpQ, stayQ, if_true, reduceIte, Nat.reduceEqDiff]
    refine vwp_freeze 0 45 3 _ rfl ?_
    simp only [go_sem]
    refine vwp_freeze 1 9 1 _ rfl ?_
    simp only [go_sem]
    refine vwp_trim 0 (by simp) (by simp) ?_
    simp only [go_sem, mapE]
    try rw [List.take_of_length_le (by simp)]
    try rw [List.take_of_length_le (by simp)]
    refine oR [0, 2, 7, 10, 12, 13, 15] ?_
    refine vwp_joinE (fun w : Unit => [(0, .list 3 (l.map cPatch)), (2, .list 1 (names.map cS)), (7, .bool true), (10, .list 1 ((downP l own).1.map cS)), (12, .list 3 ((pickP l (downP l own).1).map cPatch)), (15, .list 1 ((wantN l names).map cS))]) (fun w => []) (fun w => True) ?_ ?_
    ·
     refine oR [0, 2, 7, 10, 12, 13, 15, 89] ?_
     refine oB (fun h4 => ?_) fun h4 => ?_
     ·
      refine vwp_reg1 tabOk [] [0, 2, 7, 10, 12, 15] (by simp only [go_sem]; rfl) (by first | trivial | (simp; done) | (simp [in64]; omega)) ?_
      try simp only [thenQ, blockQ, jumpQ, stayQ]
      have hwq : V.list 1 ((namesP l).map cS) = V.list 1 ((wantN l names).map cS) := by rw [wantN, if_pos (by simpa using h4)]
      first | exact ⟨(), trivial, (Env.wk_cons (Wk.refl _) (Env.wk_cons (Wk.refl _) (Env.wk_cons (Wk.refl _) (Env.wk_cons (Wk.refl _) (Env.wk_cons (Wk.refl _) (Env.wk_cons (Wk.eq (hwq)) (Env.wk_nil _))))))), by first | rfl | trivial⟩ | exact ⟨(), (Env.wk_cons (Wk.refl _) (Env.wk_cons (Wk.refl _) (Env.wk_cons (Wk.refl _) (Env.wk_cons (Wk.refl _) (Env.wk_cons (Wk.refl _) (Env.wk_cons (Wk.eq (hwq)) (Env.wk_nil _)))))))⟩ | exact (Env.wk_cons (Wk.refl _) (Env.wk_cons (Wk.refl _) (Env.wk_cons (Wk.refl _) (Env.wk_cons (Wk.refl _) (Env.wk_cons (Wk.refl _) (Env.wk_cons (Wk.eq (hwq)) (Env.wk_nil _)))))))
     ·
      refine vwp_skip ?_
      try simp only [thenQ, blockQ, jumpQ, stayQ]
      have hwq : V.list 1 (names.map cS) = V.list 1 ((wantN l names).map cS) := by rw [wantN, if_neg (by simpa using h4)]
      first | exact ⟨(), trivial, (Env.wk_cons (Wk.refl _) (Env.wk_cons (Wk.refl _) (Env.wk_cons (Wk.refl _) (Env.wk_cons (Wk.refl _) (Env.wk_cons (Wk.refl _) (Env.wk_skip rfl (Env.wk_cons (Wk.eq (hwq)) (Env.wk_nil _)))))))), by first | rfl | trivial⟩ | exact ⟨(), (Env.wk_cons (Wk.refl _) (Env.wk_cons (Wk.refl _) (Env.wk_cons (Wk.refl _) (Env.wk_cons (Wk.refl _) (Env.wk_cons (Wk.refl _) (Env.wk_skip rfl (Env.wk_cons (Wk.eq (hwq)) (Env.wk_nil _))))))))⟩ | exact (Env.wk_cons (Wk.refl _) (Env.wk_cons (Wk.refl _) (Env.wk_cons (Wk.refl _) (Env.wk_cons (Wk.refl _) (Env.wk_cons (Wk.refl _) (Env.wk_skip rfl (Env.wk_cons (Wk.eq (hwq)) (Env.wk_nil _))))))))
    ·
     rintro w _
     refine vwp_seq (vwp_region ?_)
     refine oG [] ?_
     refine oC (fun _ => c_closure_Down l (wantN l names) (by have := wantN_len l names; omega)) b_closure_Down ?_
     simp only [go_sem]
     refine oG [] ?_
     refine vops_done [0, 2, 7, 10, 12, 16, 17] ?_
     simp only [go_sem, thenQ, blockQ, jumpQ, stayQ]
     refine vwp_seq (vwp_region ?_)
     refine oG [] ?_
     refine oC (fun _ => c_exchange_Ask (pickP l (downP l own).1) names (by omega)) b_exchange_Ask ?_
     simp only [go_sem]
     refine oG [] ?_
     refine vops_done [0, 7, 10, 12, 16, 17, 18, 19] ?_
     simp only [go_sem, thenQ, blockQ, jumpQ, stayQ]
     refine vwp_seq ?_
     refine oR [0, 7, 10, 12, 16, 17, 18, 19, 104] ?_
     refine oB (fun h5 => ?_) fun h5 => ?_
     ·
      refine oR [6] ?_
      refine vwp_ret ?_
      simp only [thenQ, blockQ, jumpQ, stayQ, RetQ, go_sem]
      refine ⟨by simp, Wk.eq ?_⟩
      have h5' := ask_no (show (askP (pickP l (downP l own).1) names).2 ≠ 0 by simpa using h5)
      simp [h5']
     ·
      have hg : (askP (pickP l (downP l own).1) names).2 = 0 := by simpa using h5
      obtain ⟨c1, c2, c3⟩ := closes_law hb hr q5 hG.2.2.1 hed hg
      obtain ⟨f1, f2, f3⟩ := put_ask (Nat.le_trans (List.length_filter_le _ _) q5) hG.2.2.1 hg
      refine vwp_skip ?_
      try simp only [thenQ, blockQ, jumpQ, stayQ]
      refine vwp_seq (vwp_region ?_)
      refine oG [] ?_
      refine oC (fun _ => c_exchange_Answer l (askP (pickP l (downP l own).1) names).1 (by omega) q4 f2 f3 enc_ask) b_exchange_Answer ?_
      simp only [go_sem]
      refine oG [] ?_
      refine vops_done [0, 7, 10, 12, 16, 17, 20] ?_
      simp only [go_sem, thenQ, blockQ, jumpQ, stayQ]
      refine vwp_seq (vwp_region ?_)
      refine oG [] ?_
      refine oC (fun _ => c_exchange_Accept (pickP l (downP l own).1) (answerP l (askP (pickP l (downP l own).1) names).1) (fun p hp => q4 p (pick_mem.1 hp).1) (fun p hp => q4 p (answer_sub.1 p hp))) b_exchange_Accept ?_
      simp only [go_sem]
      refine oG [] ?_
      refine vops_done [0, 7, 10, 16, 17, 21, 22] ?_
      simp only [go_sem, thenQ, blockQ, jumpQ, stayQ]
      refine vwp_seq ?_
      refine oR [0, 7, 10, 16, 17, 21, 22, 120] ?_
      refine oB (fun h6 => ?_) fun h6 => ?_
      ·
       refine oR [6] ?_
       refine vwp_ret ?_
       simp only [thenQ, blockQ, jumpQ, stayQ, RetQ, go_sem]
       refine ⟨by simp, Wk.eq ?_⟩
       simp [c1 (by simpa using h6)]
      ·
       have hd : (downP l (wantN l names)).2 = 0 := by simpa using h6
       refine vwp_skip ?_
       try simp only [thenQ, blockQ, jumpQ, stayQ]
       refine vwp_seq ?_
       refine oR [0, 7, 10, 16, 21, 22, 128] ?_
       refine oB (fun h7 => ?_) fun h7 => ?_
       ·
        refine oR [6] ?_
        refine vwp_ret ?_
        simp only [thenQ, blockQ, jumpQ, stayQ, RetQ, go_sem]
        refine ⟨by simp, Wk.eq ?_⟩
        simp [c2 hd (by simpa using h7)]
       ·
        obtain ⟨o1, o2⟩ := c3 hd (by simpa using h7)
        refine vwp_skip ?_
        try simp only [thenQ, blockQ, jumpQ, stayQ]
        refine vwp_seq ?_
        refine vwp_trim 0 (by simp) (by simp) ?_
        simp only [go_sem, mapE]
        refine oR [0, 7, 10, 16, 21, 23] ?_
        refine vwp_block ?_
        refine vwp_loopW (fun i : Nat => [(0, .list 3 (l.map cPatch)), (7, .bool true), (10, .list 1 ((downP l own).1.map cS)), (16, .list 1 ((downP l (wantN l names)).1.map cS)), (21, .list 3 ((acceptP (pickP l (downP l own).1) (answerP l (askP (pickP l (downP l own).1) names).1)).1.map cPatch)), (23, .int .i64 (i : Int))]) (fun i => []) (fun i => i ≤ l.length) (fun i => l.length - i) 0 (Nat.zero_le _) (wC (wC (wC (wC (wC (wC (Env.wk_nil _))))))) rfl ?_
        rintro i hi
        refine vwp_seq ?_
        refine oR [0, 7, 10, 16, 21, 23, 137] ?_
        refine oB (fun h8 => ?_) fun h8 => ?_
        ·
         have h8' : i < l.length := by simp at h8; omega
         refine vwp_skip ?_
         try simp only [thenQ, blockQ, jumpQ, stayQ]
         refine vwp_seq ?_
         refine vwp_block ?_
         refine vwp_seq (vwp_region ?_)
         refine vops_go tabOk [] (by simp only [go_sem, getD_map, h8']; rfl) (by first | trivial | (simp [h8']; done) | (simp [h8']; omega)) ?_
         refine vops_call (hc := fun _ => c_ref14_Find (acceptP (pickP l (downP l own).1) (answerP l (askP (pickP l (downP l own).1) names).1)).1 l[i].name) rfl (by simp only [go_sem, getD_map, h8']; rfl) rfl b_ref14_Find (by simp only [go_sem]; exact WkL.refl _) rfl (fun hg => by simp only [go_sem]; try (intros; first | assumption | trivial | simp_all)) ?_
         simp only [go_sem]
         refine vops_go tabOk [] (by simp only [go_sem, getD_map, h8']; rfl) (by first | trivial | (simp [h8']; done) | (simp [h8']; omega)) ?_
         refine vops_done [0, 7, 10, 16, 21, 23, 24, 25] ?_
         simp only [go_sem, thenQ, blockQ, jumpQ, stayQ]
         refine vwp_seq (vwp_drawD mixed (by kernel_rfl) (eF := ?_) ?_ [0, 7, 10, 16, 21, 23, 179] rfl ?_)
         rotate_left
         ·
          refine dall_go tabOk (by simp only [go_sem, getD_map, h8']; rfl) (by first | trivial | (simp [h8']; done) | (simp [h8']; omega)) ?_
          refine dall_call (hc := fun _ => c_ref14_Has (downP l own).1 l[i].name) rfl (by simp only [go_sem, getD_map, h8']; rfl) b_ref14_Has (by simp only [go_sem]; exact WkL.refl _) rfl (fun hg => by simp only [go_sem]; try (intros; first | assumption | trivial | simp_all)) ?_
          simp only [go_sem]
          refine dall_go tabOk (by simp only [go_sem, getD_map, h8']; rfl) (by first | trivial | (simp [h8']; done) | (simp [h8']; omega)) ?_
          refine dall_call (hc := fun _ => c_ref14_Has (downP l (wantN l names)).1 l[i].name) rfl (by simp only [go_sem, getD_map, h8']; rfl) b_ref14_Has (by simp only [go_sem]; exact WkL.refl _) rfl (fun hg => by simp only [go_sem]; try (intros; first | assumption | trivial | simp_all)) ?_
          simp only [go_sem]
          refine dall_go tabOk (by simp only [go_sem, getD_map, h8']; rfl) (by first | trivial | (simp [h8']; done) | (simp [h8']; omega)) ?_
          refine dall_call (hc := fun _ => c_ref13_Same (pOr (acceptP (pickP l (downP l own).1) (answerP l (askP (pickP l (downP l own).1) names).1)).1 l[i].name) l[i]) rfl (by simp only [go_sem, getD_map, h8']; rfl) b_ref13_Same (by simp only [go_sem]; exact WkL.refl _) rfl (fun hg => by simp only [go_sem]; try (intros; first | assumption | trivial | simp_all)) ?_
          simp only [go_sem]
          refine dall_go tabOk (by simp only [go_sem, getD_map, h8']; rfl) (by first | trivial | (simp [h8']; done) | (simp [h8']; omega)) ?_
          exact dall_nil
         simp only [go_sem, thenQ, blockQ, jumpQ, stayQ]
         refine oB (fun h9 => ?_) fun h9 => ?_
         ·
          obtain ⟨u1, u2⟩ := o2 l[i] (List.getElem_mem h8')
          revert h9
          cases hi : (gP (acceptP (pickP l (downP l own).1) (answerP l (askP (pickP l (downP l own).1) names).1)).1 l[i].name).isSome with
          | false => rw [hi] at u1; simp at u1; simp [u1]
          | true => rw [hi] at u1; simp at u1; rw [u2 hi]; rcases u1 with u1 | u1 <;> simp [u1]
          done
         ·
          refine vwp_skip ?_
          try simp only [thenQ, blockQ, jumpQ, stayQ]
          refine vwp_trim 0 (by simp) (by simp) ?_
          simp only [go_sem, mapE]
          refine vwp_reg1 tabOk [] [0, 7, 10, 16, 21, 23] (by simp only [go_sem]; rfl) (by first | trivial | (simp; done) | (simp [in64]; omega)) ?_
          try simp only [thenQ, blockQ, jumpQ, stayQ]
          exact ⟨i + 1, by omega, by omega, (wC (wC (wC (wC (wC (wC (Env.wk_nil _))))))), (by first | rfl | trivial)⟩
        ·
         refine vwp_exit ?_
         simp only [thenQ, blockQ, jumpQ, stayQ, if_true, reduceIte, Nat.reduceEqDiff]
         refine vwp_seq (vwp_region ?_)
         refine oG [] ?_
         refine oC (fun _ => c_closure_Order (acceptP (pickP l (downP l own).1) (answerP l (askP (pickP l (downP l own).1) names).1)).1) b_closure_Order ?_
         simp only [go_sem]
         refine oG [] ?_
         refine vops_done [7, 27] ?_
         simp only [go_sem, thenQ, blockQ, jumpQ, stayQ]
         refine oR [6] ?_
         refine vwp_ret ?_
         simp only [thenQ, blockQ, jumpQ, stayQ, RetQ, go_sem]
         refine ⟨by simp, Wk.eq ?_⟩
         simp [o1]
set_option maxHeartbeats 8000000 in
theorem c_law21_ExchangeBoth (l : List Patch) (one two : List Str) (hl : ∀ p ∈ l, fitP p) : VPure Go.Proofs.Tryz.prog G 7 [.list 3 (l.map cPatch), .list 1 (one.map cS), .list 1 (two.map cS)] (.bool true) := by
 refine vpure_know fun hk => ?_
 simp only [factsL, facts, maxB, List.length_map] at hk
 refine vpure_of (ts := [6]) Tryz.func7 rfl (by simp [Tryz.ntmps7]) rfl rfl ?_
 rw [Tryz.ntmps7]
 refine oR [0, 1, 2] ?_
 refine vwp_seq (vwp_region ?_)
 refine oC (fun _ => c_law21_head) b_law21_head ?_
 simp only [go_sem]
 refine oG [] ?_
 refine vops_done [0, 1, 2, 7] ?_
 simp only [go_sem, thenQ, blockQ, jumpQ, stayQ]
 refine vwp_seq (vwp_region ?_)
 refine oG [] ?_
 refine oC (fun _ => c_closure_Order l) b_closure_Order ?_
 simp only [go_sem]
 refine oG [] ?_
 refine vops_done [0, 1, 2, 7, 9] ?_
 simp only [go_sem, thenQ, blockQ, jumpQ, stayQ]
 refine vwp_seq ?_
 refine vwp_seq (vwp_region ?_)
 refine oG [] ?_
 refine oC (fun _ => c_law13_GreatList l) b_law13_GreatList ?_
 simp only [go_sem]
 refine oG [] ?_
 refine oC (fun _ => c_law21_great one) b_law21_great ?_
 simp only [go_sem]
 refine oG [] ?_
 refine oC (fun _ => c_law21_great two) b_law21_great ?_
 simp only [go_sem]
 refine oG [] ?_
 refine vops_done [0, 1, 2, 7, 47] ?_
 simp only [go_sem, thenQ, blockQ, jumpQ, stayQ]
 refine oB (fun h0 => ?_) fun h0 => ?_
 ·
  refine oR [6] ?_
  refine vwp_ret ?_
  simp only [thenQ, blockQ, jumpQ, stayQ, RetQ, go_sem]
  refine ⟨by simp, Wk.eq ?_⟩
  rfl
 ·
  have hG : greatPatches l = false ∧ greatS one = false ∧ greatS two = false ∧ (orderP l).2 = 0 := by simp at h0; exact ⟨h0.1.1.1, h0.1.1.2, h0.1.2, h0.2⟩
  obtain ⟨hb, hr⟩ := order_rank hG.2.2.2
  have q4 := great_pats hG.1 hl
  have q5 := great_len hG.1
  have q6 := greatS_len hG.2.1
  have q7 := greatS_len hG.2.2.1
  refine vwp_skip ?_
  try simp only [thenQ, blockQ, jumpQ, stayQ]
  refine vwp_seq (vwp_region ?_)
  refine oG [] ?_
  refine oC (fun _ => c_closure_Down l one (by omega)) b_closure_Down ?_
  simp only [go_sem]
  refine oG [] ?_
  refine vops_done [0, 2, 7, 10, 11] ?_
  simp only [go_sem, thenQ, blockQ, jumpQ, stayQ]
  refine vwp_seq (vwp_region ?_)
  refine oG [] ?_
  refine oC (fun _ => c_closure_Down l two (by omega)) b_closure_Down ?_
  simp only [go_sem]
  refine oG [] ?_
  refine vops_done [0, 7, 10, 11, 12, 13] ?_
  simp only [go_sem, thenQ, blockQ, jumpQ, stayQ]
  refine vwp_seq ?_
  refine oR [0, 7, 10, 12, 66] ?_
  refine oB (fun h1 => ?_) fun h1 => ?_
  ·
   refine oR [6] ?_
   refine vwp_ret ?_
   simp only [thenQ, blockQ, jumpQ, stayQ, RetQ, go_sem]
   refine ⟨by simp, Wk.eq ?_⟩
   rfl
  ·
   have hed : (downP l one).2 = 0 ∧ (downP l two).2 = 0 := by simp at h1; exact h1
   obtain ⟨g1, g2, g3, g4⟩ := both_law hb hr q5 hed.1 hed.2 rfl rfl
   refine vwp_skip ?_
   try simp only [thenQ, blockQ, jumpQ, stayQ]
   refine oR [0, 7, 10, 12, 14] ?_
   refine oR [0, 7, 10, 12, 14, 15] ?_
   refine oR [0, 7, 10, 12, 14, 15, 16] ?_
   refine vwp_seq ?_
   refine oR [0, 7, 10, 12, 14, 15, 16, 17] ?_
   refine vwp_block ?_
   refine vwp_own 14 45 3 rfl ?_
   refine vwp_own 15 45 3 rfl ?_
   refine vwp_keep [0, 7, 10, 12, 14, 15, 16, 17] ?_
   simp only [go_sem]
   refine vwp_loopW (fun i : Nat => [(0, .list 3 (l.map cPatch)), (7, .bool true), (10, .list 1 ((downP l one).1.map cS)), (12, .list 1 ((downP l two).1.map cS)), (14, .arr 0 (pickP (l.take i) (downP l one).1).length), (15, .arr 1 (pickP (l.take i) (downP l two).1).length), (16, .int .i64 ((cntN (l.take i) (downP l one).1 (downP l two).1) : Int)), (17, .int .i64 (i : Int))]) (fun i => [.arr 45 3 ((pickP (l.take i) (downP l one).1).map cPatch), .arr 45 3 ((pickP (l.take i) (downP l two).1).map cPatch)]) (fun i => i ≤ l.length) (fun i => l.length - i) 0 (Nat.zero_le _) (wC (wC (wC (wC (wC (wC (wC (wC (Env.wk_nil _))))))))) rfl ?_
   rintro i hi
   refine vwp_seq ?_
   refine oR [0, 7, 10, 12, 14, 15, 16, 17, 71] ?_
   refine oB (fun h2 => ?_) fun h2 => ?_
   ·
    have h2' : i < l.length := by simp at h2; omega
    have hpx := pickQ_len (l := l) (i := i) (downP l one).1
    have hpy := pickQ_len (l := l) (i := i) (downP l two).1
    have hpn := cntN_len (l := l) (i := i) (downP l one).1 (downP l two).1
    refine vwp_skip ?_
    try simp only [thenQ, blockQ, jumpQ, stayQ]
    refine vwp_seq ?_
    refine vwp_block ?_
    refine vwp_seq (vwp_region ?_)
    refine vops_go tabOk [] (by simp only [go_sem, getD_map, h2']; rfl) (by first | trivial | (simp [h2']; done) | (simp [h2']; omega)) ?_
    refine vops_call (hc := fun _ => c_ref14_Has (downP l one).1 l[i].name) rfl (by simp only [go_sem, getD_map, h2']; rfl) rfl b_ref14_Has (by simp only [go_sem]; exact WkL.refl _) rfl (fun hg => by simp only [go_sem]; try (intros; first | assumption | trivial | simp_all)) ?_
    simp only [go_sem]
    refine vops_go tabOk [] (by simp only [go_sem, getD_map, h2']; rfl) (by first | trivial | (simp [h2']; done) | (simp [h2']; omega)) ?_
    refine vops_done [0, 7, 10, 12, 14, 15, 16, 17, 18] ?_
    simp only [go_sem, thenQ, blockQ, jumpQ, stayQ]
    refine vwp_seq (vwp_region ?_)
    refine vops_go tabOk [] (by simp only [go_sem, getD_map, h2']; rfl) (by first | trivial | (simp [h2']; done) | (simp [h2']; omega)) ?_
    refine vops_call (hc := fun _ => c_ref14_Has (downP l two).1 l[i].name) rfl (by simp only [go_sem, getD_map, h2']; rfl) rfl b_ref14_Has (by simp only [go_sem]; exact WkL.refl _) rfl (fun hg => by simp only [go_sem]; try (intros; first | assumption | trivial | simp_all)) ?_
    simp only [go_sem]
    refine vops_go tabOk [] (by simp only [go_sem, getD_map, h2']; rfl) (by first | trivial | (simp [h2']; done) | (simp [h2']; omega)) ?_
    refine vops_done [0, 7, 10, 12, 14, 15, 16, 17, 18, 19] ?_
    simp only [go_sem, thenQ, blockQ, jumpQ, stayQ]
    refine vwp_seq ?_
    refine oR [0, 7, 10, 12, 14, 15, 16, 17, 18, 19, 88] ?_
    refine oB (fun h3 => ?_) fun h3 => ?_
    ·
     refine vwp_reg1 tabOk [] [0, 7, 10, 12, 14, 15, 16, 17, 18, 19] (by simp only [go_sem, getD_map, h2']; rfl) (by first | trivial | (simp [h2']; done) | (simp [h2']; omega)) ?_
     try simp only [thenQ, blockQ, jumpQ, stayQ]
     refine vwp_seq ?_
     refine oR [0, 7, 10, 12, 14, 15, 16, 17, 18, 19, 96] ?_
     refine oB (fun h4 => ?_) fun h4 => ?_
     ·
      refine vwp_reg1 tabOk [] [0, 7, 10, 12, 14, 15, 16, 17, 18, 19] (by simp only [go_sem, getD_map, h2']; rfl) (by first | trivial | (simp [h2']; done) | (simp [h2']; omega)) ?_
      try simp only [thenQ, blockQ, jumpQ, stayQ]
      refine oR [0, 7, 10, 12, 14, 15, 16, 17, 107] ?_
      refine oB (fun h5 => ?_) fun h5 => ?_
      ·
       refine vwp_reg1 tabOk [] [0, 7, 10, 12, 14, 15, 16, 17] (by simp only [go_sem]; rfl) (by first | trivial | (simp; omega) | (simp [in64]; omega)) ?_
       try simp only [thenQ, blockQ, jumpQ, stayQ]
       refine vwp_trim 2 (by simp) (by simp) ?_
       simp only [go_sem, mapE]
       refine vwp_reg1 tabOk [] [0, 7, 10, 12, 14, 15, 16, 17] (by simp only [go_sem]; rfl) (by first | trivial | (simp; done) | (simp [in64]; omega)) ?_
       try simp only [thenQ, blockQ, jumpQ, stayQ]
       have hX := pickQ_take h2' (downP l one).1
       rw [if_pos (of_decide_eq_true h3)] at hX
       have hY := pickQ_take h2' (downP l two).1
       rw [if_pos (of_decide_eq_true h4)] at hY
       have hN := cntN_take h2' (downP l one).1 (downP l two).1
       rw [if_pos (.inl (of_decide_eq_true h3))] at hN
       exact ⟨i + 1, by omega, by omega, (Env.wk_cons (Wk.refl _) (Env.wk_cons (Wk.refl _) (Env.wk_cons (Wk.refl _) (Env.wk_cons (Wk.refl _) (Env.wk_cons (Wk.eq (by rw [hX]; try simp)) (Env.wk_cons (Wk.eq (by rw [hY]; try simp)) (Env.wk_cons (Wk.eq (by rw [hN]; try rfl)) (Env.wk_cons (Wk.refl _) (Env.wk_nil _))))))))), by rw [hX, hY]; try simp [cPatch]⟩
      ·
       simp [h3] at h5
       done
     ·
      refine vwp_skip ?_
      try simp only [thenQ, blockQ, jumpQ, stayQ]
      refine oR [0, 7, 10, 12, 14, 15, 16, 17, 107] ?_
      refine oB (fun h6 => ?_) fun h6 => ?_
      ·
       refine vwp_reg1 tabOk [] [0, 7, 10, 12, 14, 15, 16, 17] (by simp only [go_sem]; rfl) (by first | trivial | (simp; omega) | (simp [in64]; omega)) ?_
       try simp only [thenQ, blockQ, jumpQ, stayQ]
       refine vwp_trim 2 (by simp) (by simp) ?_
       simp only [go_sem, mapE]
       refine vwp_reg1 tabOk [] [0, 7, 10, 12, 14, 15, 16, 17] (by simp only [go_sem]; rfl) (by first | trivial | (simp; done) | (simp [in64]; omega)) ?_
       try simp only [thenQ, blockQ, jumpQ, stayQ]
       have hX := pickQ_take h2' (downP l one).1
       rw [if_pos (of_decide_eq_true h3)] at hX
       have hY := pickQ_take h2' (downP l two).1
       rw [if_neg (of_decide_eq_false h4), List.append_nil] at hY
       have hN := cntN_take h2' (downP l one).1 (downP l two).1
       rw [if_pos (.inl (of_decide_eq_true h3))] at hN
       exact ⟨i + 1, by omega, by omega, (Env.wk_cons (Wk.refl _) (Env.wk_cons (Wk.refl _) (Env.wk_cons (Wk.refl _) (Env.wk_cons (Wk.refl _) (Env.wk_cons (Wk.eq (by rw [hX]; try simp)) (Env.wk_cons (Wk.eq (by rw [hY]; try simp)) (Env.wk_cons (Wk.eq (by rw [hN]; try rfl)) (Env.wk_cons (Wk.refl _) (Env.wk_nil _))))))))), by rw [hX, hY]; try simp [cPatch]⟩
      ·
       simp [h3] at h6
       done
    ·
     refine vwp_skip ?_
     try simp only [thenQ, blockQ, jumpQ, stayQ]
     refine vwp_seq ?_
     refine oR [0, 7, 10, 12, 14, 15, 16, 17, 18, 19, 96] ?_
     refine oB (fun h7 => ?_) fun h7 => ?_
     ·
      refine vwp_reg1 tabOk [] [0, 7, 10, 12, 14, 15, 16, 17, 18, 19] (by simp only [go_sem, getD_map, h2']; rfl) (by first | trivial | (simp [h2']; done) | (simp [h2']; omega)) ?_
      try simp only [thenQ, blockQ, jumpQ, stayQ]
      refine oR [0, 7, 10, 12, 14, 15, 16, 17, 107] ?_
      refine oB (fun h8 => ?_) fun h8 => ?_
      ·
       refine vwp_reg1 tabOk [] [0, 7, 10, 12, 14, 15, 16, 17] (by simp only [go_sem]; rfl) (by first | trivial | (simp; omega) | (simp [in64]; omega)) ?_
       try simp only [thenQ, blockQ, jumpQ, stayQ]
       refine vwp_trim 2 (by simp) (by simp) ?_
       simp only [go_sem, mapE]
       refine vwp_reg1 tabOk [] [0, 7, 10, 12, 14, 15, 16, 17] (by simp only [go_sem]; rfl) (by first | trivial | (simp; done) | (simp [in64]; omega)) ?_
       try simp only [thenQ, blockQ, jumpQ, stayQ]
       have hX := pickQ_take h2' (downP l one).1
       rw [if_neg (of_decide_eq_false h3), List.append_nil] at hX
       have hY := pickQ_take h2' (downP l two).1
       rw [if_pos (of_decide_eq_true h7)] at hY
       have hN := cntN_take h2' (downP l one).1 (downP l two).1
       rw [if_pos (.inr (of_decide_eq_true h7))] at hN
       exact ⟨i + 1, by omega, by omega, (Env.wk_cons (Wk.refl _) (Env.wk_cons (Wk.refl _) (Env.wk_cons (Wk.refl _) (Env.wk_cons (Wk.refl _) (Env.wk_cons (Wk.eq (by rw [hX]; try simp)) (Env.wk_cons (Wk.eq (by rw [hY]; try simp)) (Env.wk_cons (Wk.eq (by rw [hN]; try rfl)) (Env.wk_cons (Wk.refl _) (Env.wk_nil _))))))))), by rw [hX, hY]; try simp [cPatch]⟩
      ·
       simp [h7] at h8
       done
     ·
      refine vwp_skip ?_
      try simp only [thenQ, blockQ, jumpQ, stayQ]
      refine oR [0, 7, 10, 12, 14, 15, 16, 17, 107] ?_
      refine oB (fun h9 => ?_) fun h9 => ?_
      ·
       simp [h3, h7] at h9
       done
      ·
       refine vwp_skip ?_
       try simp only [thenQ, blockQ, jumpQ, stayQ]
       refine vwp_trim 2 (by simp) (by simp) ?_
       simp only [go_sem, mapE]
       refine vwp_reg1 tabOk [] [0, 7, 10, 12, 14, 15, 16, 17] (by simp only [go_sem]; rfl) (by first | trivial | (simp; done) | (simp [in64]; omega)) ?_
       try simp only [thenQ, blockQ, jumpQ, stayQ]
       have hX := pickQ_take h2' (downP l one).1
       rw [if_neg (of_decide_eq_false h3), List.append_nil] at hX
       have hY := pickQ_take h2' (downP l two).1
       rw [if_neg (of_decide_eq_false h7), List.append_nil] at hY
       have hN := cntN_take h2' (downP l one).1 (downP l two).1
       rw [if_neg (by rintro (h | h); exact of_decide_eq_false h3 h; exact of_decide_eq_false h7 h), Nat.add_zero] at hN
       exact ⟨i + 1, by omega, by omega, (Env.wk_cons (Wk.refl _) (Env.wk_cons (Wk.refl _) (Env.wk_cons (Wk.refl _) (Env.wk_cons (Wk.refl _) (Env.wk_cons (Wk.eq (by rw [hX]; try simp)) (Env.wk_cons (Wk.eq (by rw [hY]; try simp)) (Env.wk_cons (Wk.eq (by rw [hN]; try rfl)) (Env.wk_cons (Wk.refl _) (Env.wk_nil _))))))))), by rw [hX, hY]; try simp [cPatch]⟩
   ·
    have hie : i = l.length := by simp at h2; omega
    subst hie
    rw [List.take_length]
    refine vwp_exit ?_
    simp only [thenQ, blockQ, jumpQ, stayQ, if_true, reduceIte, Nat.reduceEqDiff]
    refine vwp_freeze 0 45 3 _ rfl ?_
    simp only [go_sem]
    refine vwp_freeze 1 45 3 _ rfl ?_
    simp only [go_sem]
    refine vwp_trim 0 (by simp) (by simp) ?_
    simp only [go_sem, mapE]
    try rw [List.take_of_length_le (by simp)]
    try rw [List.take_of_length_le (by simp)]
    have hxl : (pickP l (downP l one).1).length ≤ 60 := Nat.le_trans (List.length_filter_le _ _) q5
    have hyl : (pickP l (downP l two).1).length ≤ 60 := Nat.le_trans (List.length_filter_le _ _) q5
    obtain ⟨f1, f2, f3⟩ := put_ask hxl (by decide) g1
    obtain ⟨k1, k2, k3⟩ := put_ask hyl (by decide) g2
    have hu : ∀ p ∈ (acceptP (pickP l (downP l one).1) (answerP (pickP l (downP l two).1) (askP (pickP l (downP l one).1) []).1)).1, (patchEnc p).length ≤ 500000000 := fun p hp => (accept_sub.1 p hp).elim (fun h => q4 p (pick_mem.1 h).1) fun h => q4 p (pick_mem.1 (answer_sub.1 p h)).1
    refine vwp_seq (vwp_region ?_)
    refine oG [] ?_
    refine vops_call (hc := fun _ => c_exchange_Ask (pickP l (downP l one).1) [] (by simp)) rfl (by simp only [go_sem]; rfl) rfl b_exchange_Ask (by simp only [go_sem]; exact ⟨Wk.refl _, Wk.nils _, trivial⟩) rfl (fun hg => by simp only [go_sem]; try (intros; first | assumption | trivial | simp_all)) ?_
    simp only [go_sem]
    refine oG [] ?_
    refine vops_done [7, 14, 15, 16, 20, 21] ?_
    simp only [go_sem, thenQ, blockQ, jumpQ, stayQ]
    refine vwp_seq (vwp_region ?_)
    refine oG [] ?_
    refine oC (fun _ => c_exchange_Answer (pickP l (downP l two).1) (askP (pickP l (downP l one).1) []).1 (by omega) (fun p hp => q4 p (pick_mem.1 hp).1) f2 f3 enc_ask) b_exchange_Answer ?_
    simp only [go_sem]
    refine oC (fun _ => c_exchange_Accept (pickP l (downP l one).1) (answerP (pickP l (downP l two).1) (askP (pickP l (downP l one).1) []).1) (fun p hp => q4 p (pick_mem.1 hp).1) (fun p hp => q4 p (pick_mem.1 (answer_sub.1 p hp)).1)) b_exchange_Accept ?_
    simp only [go_sem]
    refine oG [] ?_
    refine vops_done [7, 15, 16, 21, 22, 23] ?_
    simp only [go_sem, thenQ, blockQ, jumpQ, stayQ]
    refine vwp_seq (vwp_region ?_)
    refine oG [] ?_
    refine vops_call (hc := fun _ => c_exchange_Ask (pickP l (downP l two).1) [] (by simp)) rfl (by simp only [go_sem]; rfl) rfl b_exchange_Ask (by simp only [go_sem]; exact ⟨Wk.refl _, Wk.nils _, trivial⟩) rfl (fun hg => by simp only [go_sem]; try (intros; first | assumption | trivial | simp_all)) ?_
    simp only [go_sem]
    refine oG [] ?_
    refine vops_done [7, 15, 16, 21, 22, 23, 24, 25] ?_
    simp only [go_sem, thenQ, blockQ, jumpQ, stayQ]
    refine vwp_seq (vwp_region ?_)
    refine oG [] ?_
    refine oC (fun _ => c_exchange_Answer (acceptP (pickP l (downP l one).1) (answerP (pickP l (downP l two).1) (askP (pickP l (downP l one).1) []).1)).1 (askP (pickP l (downP l two).1) []).1 (by have := (accept_sub (a := (pickP l (downP l one).1)) (x := answerP (pickP l (downP l two).1) (askP (pickP l (downP l one).1) []).1)).2.1; omega) hu k2 k3 enc_ask) b_exchange_Answer ?_
    simp only [go_sem]
    refine oC (fun _ => c_exchange_Accept (pickP l (downP l two).1) (answerP (acceptP (pickP l (downP l one).1) (answerP (pickP l (downP l two).1) (askP (pickP l (downP l one).1) []).1)).1 (askP (pickP l (downP l two).1) []).1) (fun p hp => q4 p (pick_mem.1 hp).1) (fun p hp => hu p (answer_sub.1 p hp))) b_exchange_Accept ?_
    simp only [go_sem]
    refine oG [] ?_
    refine vops_done [7, 16, 21, 22, 23, 25, 26, 27] ?_
    simp only [go_sem, thenQ, blockQ, jumpQ, stayQ]
    refine vwp_seq ?_
    refine oR [7, 16, 22, 23, 26, 27, 141] ?_
    refine oB (fun h10 => ?_) fun h10 => ?_
    ·
     simp [g1, g2] at h10
     done
    ·
     refine vwp_skip ?_
     try simp only [thenQ, blockQ, jumpQ, stayQ]
     refine vwp_seq ?_
     refine oR [7, 16, 22, 23, 26, 27, 147] ?_
     refine oB (fun h11 => ?_) fun h11 => ?_
     ·
      refine oR [6] ?_
      refine vwp_ret ?_
      simp only [thenQ, blockQ, jumpQ, stayQ, RetQ, go_sem]
      refine ⟨by simp, Wk.eq ?_⟩
      rfl
     ·
      have hne : (acceptP (pickP l (downP l one).1) (answerP (pickP l (downP l two).1) (askP (pickP l (downP l one).1) []).1)).2 ≠ 2 ∧ (acceptP (pickP l (downP l two).1) (answerP (acceptP (pickP l (downP l one).1) (answerP (pickP l (downP l two).1) (askP (pickP l (downP l one).1) []).1)).1 (askP (pickP l (downP l two).1) []).1)).2 ≠ 2 := by simp at h11; exact h11
      have hu0 := g3.resolve_right hne.1
      obtain ⟨w1, w2, w3⟩ := (g4 hu0).resolve_right hne.2
      refine vwp_skip ?_
      try simp only [thenQ, blockQ, jumpQ, stayQ]
      refine vwp_seq (vwp_region ?_)
      refine oG [] ?_
      refine oC (fun _ => c_ref13_SameList (acceptP (pickP l (downP l one).1) (answerP (pickP l (downP l two).1) (askP (pickP l (downP l one).1) []).1)).1 (acceptP (pickP l (downP l two).1) (answerP (acceptP (pickP l (downP l one).1) (answerP (pickP l (downP l two).1) (askP (pickP l (downP l one).1) []).1)).1 (askP (pickP l (downP l two).1) []).1)).1) b_ref13_SameList ?_
      simp only [go_sem]
      refine oG [] ?_
      refine vops_done [6] ?_
      simp only [go_sem, thenQ, blockQ, jumpQ, stayQ]
      refine vwp_ret ?_
      simp only [thenQ, blockQ, jumpQ, stayQ, RetQ, go_sem]
      refine ⟨by simp, Wk.eq ?_⟩
      rw [hu0, w1, ← w2, w3]; simp [cntN]
end Go.Proofs.YtnobnefabagbhaaGreatDoor.Q
end

section
/- The laws on exchange: what the form hands to a call, read in the logic 'Q'. -/
namespace Go.Proofs.YtnobnefabagbhaaGreatDoor.Q
open Go Go.Q
open Go.RowKit (Below)
theorem relL1 {F : Nat → Prop} {ρ : List Value} {w : World} {v : V} {u : Value} {vs : List V} {us : List Value} (h : RelL F ρ w [v] [u]) (k : RelL F ρ w vs us) : RelL F ρ w (v :: vs) (u :: us) := by
 simp only [RelL] at h
 obtain ⟨_, _, e, h1, h2⟩ := h
 cases e
 simp only [RelL]
 exact ⟨_, _, rfl, h1, k⟩
theorem rel1 {F : Nat → Prop} {ρ : List Value} {w : World} {v : V} {u : Value} (h : RelL F ρ w [v] [u]) : Rel F ρ w v u := by
 simp only [RelL] at h
 obtain ⟨_, _, e, h1, h2⟩ := h
 cases e
 exact h1
section
variable {H : Type} {enc : TypeId × Value → H} {w : World}
abbrev Trods (enc : TypeId × Value → H) (w : World) (n : Nat) (t : TypeId) (cs : List Value) (y : DataW H × List MemPlace) : Prop := DataW.trod enc Go.Proofs.Tryz.prog w 0 (fun _ => true) true n t cs = some y
theorem cells9 : Go.Proofs.Tryz.prog.cellsOf 9 = 1 := by kernel_rfl
theorem cells109 : Go.Proofs.Tryz.prog.cellsOf 109 = 7 := by kernel_rfl
theorem cells45 : Go.Proofs.Tryz.prog.cellsOf 45 = 3 := by kernel_rfl
theorem cells26 : Go.Proofs.Tryz.prog.cellsOf 26 = 5 := by kernel_rfl
theorem wf64 {n : Int} (h : (Lit.int .i64 n).wf = true) : in64 n := by
 simp only [Lit.wf, IntKind.min, IntKind.max, IntKind.signed, IntKind.bits, Bool.and_eq_true, decide_eq_true_eq] at h
 simp [in64]
 simp at h
 omega
theorem rd_strs {n : Nat} {cs : List Value} {y : DataW H × List MemPlace} (h : Trods enc w n 23 cs y) (hs : small Go.Proofs.Tryz.prog 23 y.1) : ∃ l : List Str, RelL (allF w) [] w [.list 1 (l.map cS)] cs ∧ ∀ u ∈ cs, u.oneCell' = true := by
 obtain ⟨l, h1, h2, _⟩ := rd_list (φ := fun _ => True) cS (k := 1) (fun _ => rfl) (by decide) Tryz.underlying23 cells9 (of_decide_eq_true (by kernel_rfl)) (fun n cs y h hs => by
  obtain ⟨s, h1, h2⟩ := rd_str Tryz.underlying9 h hs
  exact ⟨s, h1, h2, trivial⟩) h hs
 exact ⟨l, h1, h2⟩
theorem rd_prim {n : Nat} {cs : List Value} {y : DataW H × List MemPlace} (h : Trods enc w n 109 cs y) (hs : small Go.Proofs.Tryz.prog 109 y.1) :
  ∃ a : Prim, RelL (allF w) [] w (cPrim a) cs ∧ (∀ u ∈ cs, u.oneCell' = true) ∧ in64 a.kind ∧ in64 a.at_ := by
 obtain ⟨hl, hf⟩ := rd_struct Tryz.underlying109 (_root_.Go.Deep.hone_of (by kernel_rfl)) cells109 h hs
 obtain ⟨_, u0, _, e0, t0, s0⟩ := hf 0 _ rfl
 obtain ⟨_, u1, _, e1, t1, s1⟩ := hf 1 _ rfl
 obtain ⟨_, u2, _, e2, t2, s2⟩ := hf 2 _ rfl
 obtain ⟨_, u3, _, e3, t3, s3⟩ := hf 3 _ rfl
 obtain ⟨_, u4, _, e4, t4, s4⟩ := hf 4 _ rfl
 obtain ⟨_, u5, _, e5, t5, s5⟩ := hf 5 _ rfl
 obtain ⟨_, u6, _, e6, t6, s6⟩ := hf 6 _ rfl
 obtain ⟨a0, r0, o0, w0⟩ := rd_int Tryz.underlying3 t0
 obtain ⟨a1, r1, o1⟩ := rd_str Tryz.underlying9 t1 s1
 obtain ⟨a2, r2, o2⟩ := rd_str Tryz.underlying9 t2 s2
 obtain ⟨a3, r3, o3⟩ := rd_str Tryz.underlying9 t3 s3
 obtain ⟨a4, r4, o4, w4⟩ := rd_int Tryz.underlying3 t4
 obtain ⟨a5, r5, o5⟩ := rd_strs t5 s5
 obtain ⟨a6, r6, o6⟩ := rd_strs t6 s6
 have hcs : cs = [u0, u1, u2, u3, u4, u5, u6] := by
  match cs, hl with
  | [x0, x1, x2, x3, x4, x5, x6], _ => simp at e0 e1 e2 e3 e4 e5 e6; simp [e0, e1, e2, e3, e4, e5, e6]
 subst hcs
 refine ⟨⟨a0, a1, a2, a3, a4, a5, a6⟩, relL1 r0 (relL1 r1 (relL1 r2 (relL1 r3 (relL1 r4 (relL1 r5 r6))))), ?_, wf64 w0, wf64 w4⟩
 intro u hu
 simp only [List.mem_cons, List.not_mem_nil, or_false] at hu
 rcases hu with rfl | rfl | rfl | rfl | rfl | rfl | rfl
 ·exact o0 _ (by simp)
 ·exact o1 _ (by simp)
 ·exact o2 _ (by simp)
 ·exact o3 _ (by simp)
 ·exact o4 _ (by simp)
 ·exact o5 _ (by simp)
 ·exact o6 _ (by simp)
theorem rd_patch {n : Nat} {cs : List Value} {y : DataW H × List MemPlace} (h : Trods enc w n 45 cs y) (hs : small Go.Proofs.Tryz.prog 45 y.1) :
  ∃ a : Patch, RelL (allF w) [] w (cPatch a) cs ∧ (∀ u ∈ cs, u.oneCell' = true) ∧ fitP a := by
 obtain ⟨hl, hf⟩ := rd_struct Tryz.underlying45 (_root_.Go.Deep.hone_of (by kernel_rfl)) cells45 h hs
 obtain ⟨_, u0, _, e0, t0, s0⟩ := hf 0 _ rfl
 obtain ⟨_, u1, _, e1, t1, s1⟩ := hf 1 _ rfl
 obtain ⟨_, u2, _, e2, t2, s2⟩ := hf 2 _ rfl
 obtain ⟨a0, r0, o0⟩ := rd_str Tryz.underlying9 t0 s0
 obtain ⟨a1, r1, o1⟩ := rd_strs t1 s1
 obtain ⟨a2, r2, o2, f2⟩ := rd_list (φ := fun a : Prim => in64 a.kind ∧ in64 a.at_) cPrim (k := 7) (fun _ => rfl) (by decide) Tryz.underlying43 cells109 (of_decide_eq_true (by kernel_rfl)) (fun n cs y h hs => rd_prim h hs) t2 s2
 have hcs : cs = [u0, u1, u2] := by
  match cs, hl with
  | [x0, x1, x2], _ => simp at e0 e1 e2; simp [e0, e1, e2]
 subst hcs
 refine ⟨⟨a0, a1, a2⟩, relL1 r0 (relL1 r1 r2), ?_, f2⟩
 intro u hu
 simp only [List.mem_cons, List.not_mem_nil, or_false] at hu
 rcases hu with rfl | rfl | rfl
 ·exact o0 _ (by simp)
 ·exact o1 _ (by simp)
 ·exact o2 _ (by simp)
theorem rd_patches {n : Nat} {cs : List Value} {y : DataW H × List MemPlace} (h : Trods enc w n 22 cs y) (hs : small Go.Proofs.Tryz.prog 22 y.1) :
  ∃ l : List Patch, RelL (allF w) [] w [.list 3 (l.map cPatch)] cs ∧ (∀ u ∈ cs, u.oneCell' = true) ∧ ∀ p ∈ l, fitP p :=
 rd_list (φ := fitP) cPatch (k := 3) (fun _ => rfl) (by decide) Tryz.underlying22 cells45 (of_decide_eq_true (by kernel_rfl)) (fun n cs y h hs => rd_patch h hs) h hs
theorem rd_msg {n : Nat} {cs : List Value} {y : DataW H × List MemPlace} (h : Trods enc w n 26 cs y) (hs : small Go.Proofs.Tryz.prog 26 y.1) :
  ∃ a : Msg, RelL (allF w) [] w (cMsg a) cs ∧ (∀ u ∈ cs, u.oneCell' = true) ∧ ∀ p ∈ a.patches, fitP p := by
 obtain ⟨hl, hf⟩ := rd_struct Tryz.underlying26 (_root_.Go.Deep.hone_of (by kernel_rfl)) cells26 h hs
 obtain ⟨_, u0, _, e0, t0, s0⟩ := hf 0 _ rfl
 obtain ⟨_, u1, _, e1, t1, s1⟩ := hf 1 _ rfl
 obtain ⟨_, u2, _, e2, t2, s2⟩ := hf 2 _ rfl
 obtain ⟨_, u3, _, e3, t3, s3⟩ := hf 3 _ rfl
 obtain ⟨_, u4, _, e4, t4, s4⟩ := hf 4 _ rfl
 obtain ⟨a0, r0, o0, _⟩ := rd_int Tryz.underlying3 t0
 obtain ⟨a1, r1, o1⟩ := rd_strs t1 s1
 obtain ⟨a2, r2, o2⟩ := rd_strs t2 s2
 obtain ⟨a3, r3, o3, _⟩ := rd_int Tryz.underlying24 t3
 obtain ⟨a4, r4, o4, f4⟩ := rd_patches t4 s4
 have hcs : cs = [u0, u1, u2, u3, u4] := by
  match cs, hl with
  | [x0, x1, x2, x3, x4], _ => simp at e0 e1 e2 e3 e4; simp [e0, e1, e2, e3, e4]
 subst hcs
 refine ⟨⟨a0, a1, a2, a3, a4⟩, relL1 r0 (relL1 r1 (relL1 r2 (relL1 r3 r4))), ?_, f4⟩
 intro u hu
 simp only [List.mem_cons, List.not_mem_nil, or_false] at hu
 rcases hu with rfl | rfl | rfl | rfl | rfl
 ·exact o0 _ (by simp)
 ·exact o1 _ (by simp)
 ·exact o2 _ (by simp)
 ·exact o3 _ (by simp)
 ·exact o4 _ (by simp)
variable {base : Nat} {v : Value} {d : DataW H} {ps : List MemPlace}
theorem arg_msg (hv : Value.okWide Go.Proofs.Tryz.prog w .any base 26 v) (h : DataW.Trod enc Go.Proofs.Tryz.prog w 0 (fun _ => true) true 26 v d ps) (hs : small Go.Proofs.Tryz.prog 26 d) :
  ∃ a : Msg, Rel (allF w) [] w (.agg (cMsg a)) v ∧ ∀ p ∈ a.patches, fitP p := by
 obtain ⟨cs, rfl, _⟩ := WideShapes.okWide_struct Tryz.underlying26 hv
 obtain ⟨n, hn⟩ := h
 obtain ⟨a, h1, h2, h3⟩ := rd_msg hn hs
 refine ⟨a, ?_, h3⟩
 simp only [Rel]
 exact ⟨cs.toList, by simp, h1, h2⟩
theorem arg_patches (hv : Value.okWide Go.Proofs.Tryz.prog w .any base 22 v) (h : DataW.Trod enc Go.Proofs.Tryz.prog w 0 (fun _ => true) true 22 v d ps) (hs : small Go.Proofs.Tryz.prog 22 d) :
  ∃ l : List Patch, Rel (allF w) [] w (.list 3 (l.map cPatch)) v ∧ ∀ p ∈ l, fitP p := by
 obtain ⟨_, _, _, rfl⟩ := WideShapes.okWide_slice Tryz.underlying22 hv
 obtain ⟨n, hn⟩ := h
 obtain ⟨a, h1, h2, h3⟩ := rd_patches hn hs
 exact ⟨a, rel1 h1, h3⟩
theorem arg_strs (hv : Value.okWide Go.Proofs.Tryz.prog w .any base 23 v) (h : DataW.Trod enc Go.Proofs.Tryz.prog w 0 (fun _ => true) true 23 v d ps) (hs : small Go.Proofs.Tryz.prog 23 d) :
  ∃ l : List Str, Rel (allF w) [] w (.list 1 (l.map cS)) v := by
 obtain ⟨_, _, _, rfl⟩ := WideShapes.okWide_slice Tryz.underlying23 hv
 obtain ⟨n, hn⟩ := h
 obtain ⟨a, h1, h2⟩ := rd_strs hn hs
 exact ⟨a, rel1 h1⟩
theorem arg_str (hv : Value.okWide Go.Proofs.Tryz.prog w .any base 9 v) (h : DataW.Trod enc Go.Proofs.Tryz.prog w 0 (fun _ => true) true 9 v d ps) (hs : small Go.Proofs.Tryz.prog 9 d) : ∃ s : Str, Rel (allF w) [] w (.str s) v := by
 obtain ⟨_, rfl⟩ := WideShapes.okWide_string Tryz.underlying9 hv
 obtain ⟨n, hn⟩ := h
 obtain ⟨a, h1, _⟩ := rd_str Tryz.underlying9 hn hs
 exact ⟨a, rel1 h1⟩
theorem arg_int (hv : Value.okWide Go.Proofs.Tryz.prog w .any base 3 v) (h : DataW.Trod enc Go.Proofs.Tryz.prog w 0 (fun _ => true) true 3 v d ps) : ∃ n : Int, in64 n ∧ Rel (allF w) [] w (.int .i64 n) v := by
 obtain ⟨k, rfl⟩ := WideShapes.okWide_int Tryz.underlying3 hv
 obtain ⟨n, hn⟩ := h
 obtain ⟨k', h1, _, hw⟩ := rd_int (w := w) Tryz.underlying3 hn
 have := rel1 h1
 simp only [Rel] at this
 cases this
 exact ⟨k, wf64 hw, by simp only [Rel]⟩
end
end Go.Proofs.YtnobnefabagbhaaGreatDoor.Q
end

section
/- The laws on exchange: from the contract in the logic 'Q' to the form's row. -/
namespace Go.Q
open Go Go.RowKit
theorem trodAll_stays {H : Type} {enc : TypeId × Value → H} {P : Program} (hlo : laidOutB P = true) {W W' : World} (hb : Below W.heap.size W W') : ∀ {ts : List TypeId} {vs : List Value} {ds : List (DataW H)} {ps : List MemPlace},
  (ts.all fun t => P.readableRec t && decide (t < P.types.size)) = true → DataW.TrodAll enc P W 0 (fun _ => true) true ts vs ds ps → (∀ x ∈ ps, x.block < W.heap.size) → DataW.TrodAll enc P W' 0 (fun b => decide (b < W.heap.size)) true ts vs ds ps
 | [], [], [], ps, _, h, _ => h
 | t :: ts, v :: vs, d :: ds, ps, hr, h, hlt => by
  obtain ⟨p, q, h1, h2, rfl⟩ := h
  simp only [List.all_cons, Bool.and_eq_true, decide_eq_true_eq] at hr
  exact ⟨p, q, Below.trod hlo hr.1.1 hr.1.2 h1 hb fun x hx => hlt x (List.mem_append_left _ hx), trodAll_stays hlo hb hr.2 h2 fun x hx => hlt x (List.mem_append_right _ hx), rfl⟩
 | [], _ :: _, _, _, _, h, _ => h.elim
 | [], [], _ :: _, _, _, h, _ => h.elim
 | _ :: _, [], _, _, _, h, _ => h.elim
 | _ :: _, _ :: _, [], _, _, h, _ => h.elim
theorem trodAll_len {H : Type} {enc : TypeId × Value → H} {P : Program} {W : World} {b : Nat} {sp : Nat → Bool} {hd : Bool} : ∀ {ts : List TypeId} {vs : List Value} {ds : List (DataW H)} {ps : List MemPlace}, DataW.TrodAll enc P W b sp hd ts vs ds ps → ds.length = ts.length
 | [], [], [], _, _ => rfl
 | t :: ts, v :: vs, d :: ds, ps, h => by
  obtain ⟨p, q, h1, h2, rfl⟩ := h
  simp [trodAll_len h2]
 | [], _ :: _, _, _, h => h.elim
 | [], [], _ :: _, _, h => h.elim
 | _ :: _, [], _, _, h => h.elim
 | _ :: _, _ :: _, [], _, h => h.elim
theorem weights_more {H : Type} {P : Program} {us : List TypeId} : ∀ {ts : List TypeId} {ds : List (DataW H)}, ds.length = ts.length → DataW.weightsEach P (ts ++ us) ds = DataW.weightsEach P ts ds
 | [], [], _ => by cases us <;> simp [DataW.weightsEach]
 | t :: ts, d :: ds, h => by
  simp only [List.cons_append, DataW.weightsEach]
  rw [weights_more (by simpa using h)]
 | [], _ :: _, h => by simp at h
 | _ :: _, [], h => by simp at h
end Go.Q
namespace Go.Proofs.YtnobnefabagbhaaGreatDoor
open Go Go.ChangeShapes Go.WideShapes Go.RowKit Go.Q
theorem Tryz.own : ownKnob Tryz.prog.godebug = none := by kernel_rfl
theorem Tryz.laidOut : laidOutB Tryz.prog = true := by kernel_rfl
def laidAll : List (String × DataW Unit) := [("math/bits.deBruijn32tab", Rows.laid_math_bits_deBruijn32tab), ("math/bits.deBruijn64tab", Rows.laid_math_bits_deBruijn64tab), ("internal/strconv.uint64pow10", Rows.laid_internal_strconv_uint64pow10), ("unicode/utf8.acceptRanges", Rows.laid_unicode_utf8_acceptRanges), ("unicode/utf8.first", Rows.laid_unicode_utf8_first)]
theorem laid_pow10 {W : World} (hL : laidMetH Tryz.prog laidAll W) : Lib.TabIs Tryz.prog W "internal/strconv.uint64pow10" .u64 Lib.pow10Tab := by
 rw [MakeChecks.laidMetH_plain _ _ _ (by kernel_rfl)] at hL
 have h2 : laidMet Tryz.prog (("internal/strconv.uint64pow10", Lib.tabData .u64 Lib.pow10Tab) :: [("unicode/utf8.acceptRanges", Rows.laid_unicode_utf8_acceptRanges), ("unicode/utf8.first", Rows.laid_unicode_utf8_first)]) W := hL.tail.tail
 exact Lib.tabIs_of_head (g := 1) (t := 186) (e := 144) (n := 20) (by kernel_rfl) (by kernel_rfl) (by kernel_rfl) (by kernel_rfl) (by kernel_rfl) (by kernel_rfl) h2
theorem maxLen_cell {W : World} (hs : W.ShapedOpen Tryz.prog) : ∃ m, W.cell? ⟨0, 0, none⟩ = some (.int .i64 m) := by
 obtain ⟨h1, _⟩ := hs
 obtain ⟨cs, hc, hz, hr⟩ := h1 0 #[.int .i64 0] 3 (of_decide_eq_true (by kernel_rfl)) (by kernel_rfl)
 obtain ⟨ts, ht, _, hok⟩ := hr (by kernel_rfl)
 have ht' : Tryz.prog.cellTypes Tryz.prog.depth 3 = some [3] := by kernel_rfl
 rw [ht'] at ht
 cases ht
 have h0 : 0 < cs.size := by rw [hz]; decide
 obtain ⟨u, hu, hcell⟩ := hok 0 cs[0] (by simp [h0])
 simp at hu
 subst hu
 unfold Cell.ok at hcell
 rw [show Tryz.prog.underlying 3 = some (.int .i64) from Tryz.underlying3] at hcell
 split at hcell
 all_goals first
  | (rename_i k k' n e1 e2; cases e1; obtain ⟨rfl, _⟩ := hcell; refine ⟨n, ?_⟩; simp [World.cell?, hc, h0, e2]; done)
  | (rename_i e1; cases e1; done)
  | (rename_i e1 _; cases e1; done)
  | (exact hcell.elim)
  | skip
theorem base_of {W : World} (hs : W.ShapedOpen Tryz.prog) (hL : laidMetH Tryz.prog laidAll W) : Q.G.G (allF W) W := by
 obtain ⟨m, hm⟩ := maxLen_cell hs
 have hp := laid_pow10 hL
 have h0 : 0 < W.heap.size := by
  unfold World.cell? at hm
  split at hm
  ·rename_i h; exact (Array.getElem?_eq_some_iff.1 h).1
  ·cases hm
 have hg : Tryz.prog.globalNamed "internal/strconv.uint64pow10" = some 1 := by kernel_rfl
 have h1 : 1 < W.heap.size := by
  unfold Lib.TabIs World.var? at hp
  rw [hg] at hp
  simp only [Option.bind_some] at hp
  split at hp
  ·rename_i h; exact (Array.getElem?_eq_some_iff.1 h).1
  ·cases hp
 refine ⟨W.heap.size, fun b hb => hb, fun w' hw => ⟨⟨m, ?_⟩, ?_⟩⟩
 ·rw [← hm]; exact World.cell?_of_block (hw 0 h0)
 ·unfold Lib.TabIs World.var? at hp ⊢
  rw [hg] at hp ⊢
  simp only [Option.bind_some] at hp ⊢
  rw [hw 1 h1]; exact hp
theorem lifted_of {f : FuncId} {fn : Func} {s : ChangeSpec} (hv : s.vars = []) (hfn : Tryz.prog.funcs[f]? = some fn) (noInit : Tryz.checked.prog.inits.idxOf? f = none) (os : Os) (started : os.Started) (H : Type) (enc : TypeId × Value → H)
  (hs : ∀ ds : List (DataW H), ds.length = fn.params.size → s.fn H (ds ++ []) = { results := [.lit (.bool true)], args := ds }) (hrt : fn.resultTypes = #[4]) (hread : (fn.params.toList.all fun t => Tryz.prog.readableRec t && decide (t < Tryz.prog.types.size)) = true)
  (witness : ∃ (w : World) (tape : Tape) (i : Input), w.os = os ∧ (w.forCall tape i).Shaped Tryz.checked.prog ∧ i.vars = [] ∧ Input.okWide Tryz.checked.prog (w.forCall tape i) .any w.heap.size f i ∧
   ((s.pre enc Tryz.checked.prog fn [] false (w.forCall tape i).memory i.args ∧ laidMetH Tryz.prog laidAll (w.forCall tape i).memory) ∧ sizedMet enc Tryz.checked.prog fn (OpenSpec.ofChange s) false (w.forCall tape i).memory i.args) ∧ ({} : Assume).holds Tryz.checked.prog (lone (Frame.enter Tryz.checked.prog f i.args .normal) [] (w.forCall tape i)))
  (walk : ∀ (W : World) (base : Nat) (args : List Value) (ds : List (DataW H)) (p : List MemPlace), (∀ (j : Nat) t v, fn.params.toList[j]? = some t → args[j]? = some v → Value.okWide Tryz.prog W .any base t v) →
   DataW.TrodAll enc Tryz.prog W 0 (fun _ => true) true fn.params.toList args ds p → (DataW.weightsEach Tryz.prog fn.params.toList ds).all (· ≤ reachBytes) = true → ∃ vs, RelL (allF W) [] W vs args ∧ VPure Tryz.prog Q.G f vs (.bool true)) :
  ReturnsInHanded {} Tryz.checked os f .any (fun w args => (s.pre enc Tryz.prog fn [] false w args ∧ laidMetH Tryz.prog laidAll w) ∧ sizedMet enc Tryz.prog fn (OpenSpec.ofChange s) false w args) (s.post enc Tryz.prog fn false true false false) := by
 refine returnsInHanded_of_calls (C := Tryz.checked) Tryz.own started noInit witness ?_
 intro w tape i _ hshape _ hok hpre hholds
 obtain ⟨_, _, _, fn', hfn', _, _, _, _, hval⟩ := hok
 have e : fn' = fn := Option.some.inj (hfn'.symm.trans hfn)
 subst e
 obtain ⟨⟨⟨ds, gs, before, hw, _⟩, hx⟩, hz⟩ := hpre
 have hw' := DataW.Whole.of_heap (w' := w.forCall tape i) (by rfl) hw
 have hzw := hz.weights hw
 have hL : laidMetH Tryz.prog laidAll (w.forCall tape i) := laidMetH.of_heap (by rfl) hx
 have hG := base_of hshape hL
 have hlt := hw'.lt
 have hW := hw'
 obtain ⟨p, q, hA, hV, rfl, _, _⟩ := hw'
 rw [hv] at hV
 obtain ⟨rfl, rfl⟩ : gs = [] ∧ q = [] := by
  cases gs with
  | nil => exact ⟨rfl, hV⟩
  | cons g r => exact absurd hV (by intro h; cases h)
 have hl := trodAll_len hA
 have hwt : (DataW.weightsEach Tryz.prog fn'.params.toList ds).all (· ≤ reachBytes) = true := by
  rw [List.append_nil, weights_more hl] at hzw
  exact hzw
 obtain ⟨vs, hrel, hvp⟩ := walk (w.forCall tape i) w.heap.size i.args.toList ds p (fun j t v h1 h2 => hval j t v (by simpa using h1) (by simpa using h2)) hA hwt
 have hrel' : RelL (allF (w.forCall tape i)) [] (w.forCall tape i) vs i.args.toList := hrel
 refine (hvp _ _ _ hrel' (fun b hb => hb) hG).mono ?_
 rintro e W' ⟨mr, rfl, hmr, hb⟩
 simp only [Rel] at hmr
 subst hmr
 refine ChangeSpec.post_blind ?_
 have hbl := hW
 refine ⟨ds, [], p ++ [], [], p, [], hbl, ?_, ?_, ?_, hb.frame _, fun h => by cases h⟩
 ·rw [hs ds (by simpa using hl), hrt]
  exact trodAll_mk1 (shut_bool Tryz.underlying4 _)
 ·rw [hs ds (by simpa using hl)]
  exact trodAll_stays Tryz.laidOut hb hread hA fun x hx => hlt x (by simpa using hx)
 ·rw [hv, hs ds (by simpa using hl)]
  exact rfl
end Go.Proofs.YtnobnefabagbhaaGreatDoor
end
