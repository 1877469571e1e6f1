/- Part 4 of our proof: a logic over the model's code, contracts of the functions, and plain laws. -/
import Derived.Test.YtnobnefabagbhaaGreatDoorQ3
import Derived.Shelf.Strings.BuilderF
import Derived.Test.YtnobnefabagbhaaGreatDoorQ1
import Derived.Test.YtnobnefabagbhaaGreatDoorQ2
import Derived.Shelf.SlSortCmp.NoneTotal
import Derived.Ground.SlsfProg
import Derived.Test.YtnobnefabagbhaaGreatDoorProg
import Derived.Shelf.SlIter.Sorted
import Derived.Ground.GgzProg
import Derived.Deep.AppendSrc
import Derived.Lib.SliceRun
set_option linter.unusedVariables false
set_option linter.unusedSimpArgs false
set_option linter.unusedSectionVars false
set_option maxRecDepth 100000
section
/- Walks of what is a right change, in the program's own words, in the logic 'Q'. -/
namespace Go.Proofs.YtnobnefabagbhaaGreatDoor.Q
open Go Go.Q
open Go.RowKit (Below)
theorem or32 (c : UInt8) : (BitVec.ofInt 8 (c.toNat : Int) ||| BitVec.ofInt 8 32).toNat = (c ||| 32).toNat := by
 simp
theorem wrapu8 (c : UInt8) : IntKind.u8.wrap (c.toNat : Int) = (c.toNat : Int) := by
 have := c.toNat_lt
 simp [IntKind.wrap, IntKind.bits, IntKind.signed]; omega
theorem okT_byte (c : UInt8) : (bif bif decide ((c.toNat : Int) = 95) then true else bif decide (97 ≤ ((c ||| 32).toNat : Int)) then decide (((c ||| 32).toNat : Int) ≤ 122) else false then true
   else bif decide (48 ≤ (c.toNat : Int)) then decide ((c.toNat : Int) ≤ 57) else false) = okT c := by
 have h : ∀ n : Fin 256, (bif bif decide (((UInt8.ofNat n.val).toNat : Int) = 95) then true else bif decide (97 ≤ ((UInt8.ofNat n.val ||| 32).toNat : Int)) then decide (((UInt8.ofNat n.val ||| 32).toNat : Int) ≤ 122) else false then true
   else bif decide (48 ≤ ((UInt8.ofNat n.val).toNat : Int)) then decide (((UInt8.ofNat n.val).toNat : Int) ≤ 57) else false) = okT (UInt8.ofNat n.val) := by decide +kernel
 have := h ⟨c.toNat, c.toNat_lt⟩
 simpa using this
theorem b_lines_in : bodied Go.Proofs.Tryz.prog 185 = true := by rw [bodied, Tryz.func185]; rfl
theorem c_lines_in (c : UInt8) : VPure Go.Proofs.Tryz.prog G 185 [.int .u8 (c.toNat : Int)] (.bool (okT c)) := by
 refine vpure_of (ts := [2]) Tryz.func185 rfl (by simp [Tryz.ntmps185]) rfl rfl ?_
 rw [Tryz.ntmps185]
 refine oR [0] ?_
 refine oR [2] ?_
 refine vwp_ret ?_
 simp only [thenQ, blockQ, jumpQ, stayQ, RetQ, go_sem]
 refine ⟨by simp, Wk.eq ?_⟩
 have e : IntKind.u8.wrap (((BitVec.ofInt 8 (c.toNat : Int)) ||| BitVec.ofInt 8 32).toNat : Int) = ((c ||| 32).toNat : Int) := by rw [or32, wrapu8]
 refine (congrArg (fun m : Int => V.bool (bif bif decide ((c.toNat : Int) = 95) then true else bif decide (97 ≤ m) then decide (m ≤ 122) else false then true else bif decide (48 ≤ (c.toNat : Int)) then decide ((c.toNat : Int) ≤ 57) else false)) e).trans ?_
 rw [okT_byte]
theorem b_lines_Token : bodied Go.Proofs.Tryz.prog 154 = true := by rw [bodied, Tryz.func154]; rfl
theorem c_lines_Token (s : Str) : VPure Go.Proofs.Tryz.prog G 154 [.str s] (.bool (tokenB s)) := by
 refine vpure_know fun hk => ?_
 simp only [factsL, facts, maxB] at hk
 refine vpure_of (ts := [2]) Tryz.func154 rfl (by simp [Tryz.ntmps154]) rfl rfl ?_
 rw [Tryz.ntmps154]
 refine oR [0] ?_
 refine vwp_seq ?_
 refine oR [0, 5, 6] ?_
 refine vwp_block ?_
 refine vwp_loopW (fun i : Nat => [(0, .str s), (5, .int .i64 (s.length : Int)), (6, .int .i64 (i : Int))]) (fun i => []) (fun i => i ≤ s.length ∧ (s.take i).all okT = true) (fun i => s.length - i) 0 ⟨Nat.zero_le _, by rfl⟩ (wC (wC (wC (Env.wk_nil _)))) rfl ?_
 rintro i ⟨hi, hok⟩
 refine oR [0, 5, 6, 7] ?_
 refine vwp_seq ?_
 refine oB (fun h0 => ?_) fun h0 => ?_
 ·
  have h0' : i < s.length := by simp at h0; omega
  refine vwp_skip ?_
  try simp only [thenQ, blockQ, jumpQ, stayQ]
  refine vwp_seq ?_
  refine vwp_block ?_
  refine oR [0, 3, 5, 6] ?_
  refine vwp_seq (vwp_region ?_)
  refine vops_go tabOk [] (by simp only [go_sem]; rfl) (by first | trivial | (simp; done) | (simp; omega)) ?_
  refine oC (fun _ => c_lines_in (s.getD i 0)) b_lines_in ?_
  simp only [go_sem]
  refine vops_go tabOk [] (by simp only [go_sem]; rfl) (by first | trivial | (simp; done) | (simp; omega)) ?_
  refine vops_done [0, 5, 6, 13] ?_
  simp only [go_sem, thenQ, blockQ, jumpQ, stayQ]
  refine oB (fun h1 => ?_) fun h1 => ?_
  ·
   refine oR [2] ?_
   refine vwp_ret ?_
   simp only [thenQ, blockQ, jumpQ, stayQ, RetQ, go_sem]
   refine ⟨by simp, Wk.eq ?_⟩
   rw [tokenB, not_all okT s i h0' (by rw [← getD_lt s i 0 h0']; simpa using h1), Bool.false_and]
  ·
   refine vwp_skip ?_
   try simp only [thenQ, blockQ, jumpQ, stayQ]
   refine vwp_reg1 tabOk [] [0, 5, 6] (by simp only [go_sem]; rfl) (by first | trivial | (simp; done) | (simp [in64]; omega)) ?_
   try simp only [thenQ, blockQ, jumpQ, stayQ]
   exact ⟨i + 1, ⟨by omega, by rw [take_all okT s i h0', hok, ← getD_lt s i 0 h0']; simpa using h1⟩, by omega, (wC (wC (wC (Env.wk_nil _)))), (by first | rfl | trivial)⟩
 ·
  refine vwp_exit ?_
  simp only [thenQ, blockQ, jumpQ, stayQ, if_true, reduceIte, Nat.reduceEqDiff]
  refine oR [2] ?_
  refine vwp_ret ?_
  simp only [thenQ, blockQ, jumpQ, stayQ, RetQ, go_sem]
  refine ⟨by simp, Wk.eq ?_⟩
  have : i = s.length := by simp at h0; omega
  subst this; rw [List.take_length] at hok; rw [tokenB, hok]; cases s <;> simp
theorem b_lines_Right_1 : bodied Go.Proofs.Tryz.prog 187 = true := by rw [bodied, Tryz.func187]; rfl
theorem c_lines_Right_1 (s : Str) : VPure Go.Proofs.Tryz.prog G 187 [.str s] (.bool (s.contains 10)) := by
 refine vpure_of (ts := [2]) Tryz.func187 rfl (by simp [Tryz.ntmps187]) rfl rfl ?_
 rw [Tryz.ntmps187]
 refine oR [0] ?_
 refine vwp_seq (vwp_region ?_)
 refine oG [] ?_
 refine oC (fun _ => c_Contains s 10) b_strings_Contains ?_
 simp only [go_sem]
 refine oG [] ?_
 refine vops_done [2] ?_
 simp only [go_sem, thenQ, blockQ, jumpQ, stayQ]
 refine vwp_ret ?_
 simp only [thenQ, blockQ, jumpQ, stayQ, RetQ, go_sem]
 refine ⟨by simp, Wk.eq ?_⟩
 rfl
def firstQ {α : Type} (p : α → Bool) (l : List α) : Int := match l.findIdx? p with | some i => (i : Int) | none => -1
theorem firstQ_at {α : Type} {p : α → Bool} {l : List α} {q : Nat} (hq : q < l.length) (ha : ∀ j (hj : j < q), p (l[j]'(by omega)) = false) (hp : p l[q] = true) : firstQ p l = q := by
 have : l.findIdx? p = some q := by
  rw [List.findIdx?_eq_some_iff_getElem]
  exact ⟨hq, hp, fun j hj => by rw [ha j hj]; simp⟩
 rw [firstQ, this]
theorem firstQ_none {α : Type} {p : α → Bool} {l : List α} (ha : ∀ j (hj : j < l.length), p l[j] = false) : firstQ p l = -1 := by
 have : l.findIdx? p = none := by
  rw [List.findIdx?_eq_none_iff]
  intro b hb
  obtain ⟨j, hj, rfl⟩ := List.getElem_of_mem hb
  exact ha j hj
 rw [firstQ, this]
theorem firstQ_nonneg {α : Type} (p : α → Bool) (l : List α) : decide (0 ≤ firstQ p l) = l.any p := by
 rw [firstQ]
 cases h : l.findIdx? p with
 | some i =>
  rw [List.findIdx?_eq_some_iff_getElem] at h
  obtain ⟨h1, h2, _⟩ := h
  have : l.any p = true := List.any_eq_true.2 ⟨l[i], List.getElem_mem h1, h2⟩
  rw [this]; simp
 | none =>
  rw [List.findIdx?_eq_none_iff] at h
  have : l.any p = false := by
   rw [List.any_eq_false]; intro b hb; simp [h b hb]
  rw [this]; rfl
structure ElemP (P : Program) (G : Glob) (g : FuncId) {α : Type} (enc : α → V) (p : α → Bool) : Prop where
 body : bodied P g = true
 pure : ∀ x, VPure P G g [enc x] (.bool (p x))
theorem b_slices_IndexFunc_string_string : bodied Go.Proofs.Tryz.prog 48 = true := by rw [bodied, Tryz.func48]; rfl
theorem c_slices_IndexFunc_string_string (g : FuncId) (p : Str → Bool) (hp : ElemP Go.Proofs.Tryz.prog G g (fun x : Str => (.str x)) p) (l : List Str) : VPure Go.Proofs.Tryz.prog G 48 [.list 1 (l.map cS), .func (.func g) [] []] (.int .i64 (firstQ p l)) := by
 refine vpure_know fun hk => ?_
 simp only [factsL, facts, maxB, List.length_map] at hk
 refine vpure_of (ts := [4]) Tryz.func48 rfl (by simp [Tryz.ntmps48]) rfl rfl ?_
 rw [Tryz.ntmps48]
 refine oR [0, 1] ?_
 refine vwp_seq ?_
 refine oR [0, 1, 7, 8] ?_
 refine vwp_block ?_
 refine vwp_loopW (fun i : Nat => [(0, .list 1 (l.map cS)), (1, .func (.func g) [] []), (7, .int .i64 (l.length : Int)), (8, .int .i64 (i : Int))]) (fun i => []) (fun i => i ≤ l.length ∧ ∀ j (hj : j < i) (hl : j < l.length), p l[j] = false) (fun i => l.length - i) 0 ⟨Nat.zero_le _, fun j hj => by omega⟩ (wC (wC (wC (wC (Env.wk_nil _))))) rfl ?_
 rintro i ⟨hi, ha⟩
 refine oR [0, 1, 7, 8, 9] ?_
 refine vwp_seq ?_
 refine oB (fun h0 => ?_) fun h0 => ?_
 ·
  have h0' : i < l.length := by simp at h0; omega
  refine vwp_skip ?_
  try simp only [thenQ, blockQ, jumpQ, stayQ]
  refine vwp_seq ?_
  refine vwp_block ?_
  refine oR [0, 1, 5, 7, 8] ?_
  refine vwp_seq (vwp_region ?_)
  refine vops_go tabOk [] (by simp only [go_sem, getD_map, h0']; rfl) (by first | trivial | (simp [h0']; done) | (simp [h0']; omega)) ?_
  refine vops_callVP (hc := (hp.pure l[i])) rfl (by simp only [go_sem]; rfl) rfl rfl hp.body (by simp only [go_sem]; exact WkL.refl _) rfl (by simp only [go_sem]) ?_
  simp only [go_sem]
  refine vops_done [0, 1, 5, 7, 8, 16] ?_
  simp only [go_sem, thenQ, blockQ, jumpQ, stayQ]
  refine oB (fun h1 => ?_) fun h1 => ?_
  ·
   refine oR [4] ?_
   refine vwp_ret ?_
   simp only [thenQ, blockQ, jumpQ, stayQ, RetQ, go_sem]
   refine ⟨by simp, Wk.eq ?_⟩
   rw [firstQ_at h0' (fun j hj => ha j hj (by omega)) h1]
  ·
   refine vwp_skip ?_
   try simp only [thenQ, blockQ, jumpQ, stayQ]
   refine vwp_reg1 tabOk [] [0, 1, 7, 8] (by simp only [go_sem]; rfl) (by first | trivial | (simp; done) | (simp [in64]; omega)) ?_
   try simp only [thenQ, blockQ, jumpQ, stayQ]
   exact ⟨i + 1, ⟨by omega, fun j hj hl => by rcases Nat.lt_or_ge j i with h | h; exact ha j h hl; obtain rfl : j = i := (by omega); exact h1⟩, by omega, (wC (wC (wC (wC (Env.wk_nil _))))), (by first | rfl | trivial)⟩
 ·
  refine vwp_exit ?_
  simp only [thenQ, blockQ, jumpQ, stayQ, if_true, reduceIte, Nat.reduceEqDiff]
  refine oR [4] ?_
  refine vwp_ret ?_
  simp only [thenQ, blockQ, jumpQ, stayQ, RetQ, go_sem]
  refine ⟨by simp, Wk.eq ?_⟩
  have : i = l.length := by simp at h0; omega
  rw [firstQ_none fun j hj => ha j (by omega) hj]
theorem b_slices_ContainsFunc_string_string : bodied Go.Proofs.Tryz.prog 27 = true := by rw [bodied, Tryz.func27]; rfl
theorem c_slices_ContainsFunc_string_string (g : FuncId) (p : Str → Bool) (hp : ElemP Go.Proofs.Tryz.prog G g (fun x : Str => (.str x)) p) (l : List Str) : VPure Go.Proofs.Tryz.prog G 27 [.list 1 (l.map cS), .func (.func g) [] []] (.bool (l.any p)) := by
 refine vpure_of (ts := [4]) Tryz.func27 rfl (by simp [Tryz.ntmps27]) rfl rfl ?_
 rw [Tryz.ntmps27]
 refine oR [0, 1] ?_
 refine vwp_seq (vwp_region ?_)
 refine oG [] ?_
 refine oC (fun _ => c_slices_IndexFunc_string_string g p hp l) b_slices_IndexFunc_string_string ?_
 simp only [go_sem]
 refine oG [] ?_
 refine vops_done [4] ?_
 simp only [go_sem, thenQ, blockQ, jumpQ, stayQ]
 refine vwp_ret ?_
 simp only [thenQ, blockQ, jumpQ, stayQ, RetQ, go_sem]
 refine ⟨by simp, Wk.eq ?_⟩
 rw [firstQ_nonneg]
theorem b_slices_IndexFunc_api_Prim_api_Prim : bodied Go.Proofs.Tryz.prog 152 = true := by rw [bodied, Tryz.func152]; rfl
theorem c_slices_IndexFunc_api_Prim_api_Prim (g : FuncId) (p : Prim → Bool) (hp : ElemP Go.Proofs.Tryz.prog G g (fun x : Prim => (.agg (cPrim x))) p) (l : List Prim) : VPure Go.Proofs.Tryz.prog G 152 [.list 7 (l.map cPrim), .func (.func g) [] []] (.int .i64 (firstQ p l)) := by
 refine vpure_know fun hk => ?_
 simp only [factsL, facts, maxB, List.length_map] at hk
 refine vpure_of (ts := [4]) Tryz.func152 rfl (by simp [Tryz.ntmps152]) rfl rfl ?_
 rw [Tryz.ntmps152]
 refine oR [0, 1] ?_
 refine vwp_seq ?_
 refine oR [0, 1, 7, 8] ?_
 refine vwp_block ?_
 refine vwp_loopW (fun i : Nat => [(0, .list 7 (l.map cPrim)), (1, .func (.func g) [] []), (7, .int .i64 (l.length : Int)), (8, .int .i64 (i : Int))]) (fun i => []) (fun i => i ≤ l.length ∧ ∀ j (hj : j < i) (hl : j < l.length), p l[j] = false) (fun i => l.length - i) 0 ⟨Nat.zero_le _, fun j hj => by omega⟩ (wC (wC (wC (wC (Env.wk_nil _))))) rfl ?_
 rintro i ⟨hi, ha⟩
 refine oR [0, 1, 7, 8, 9] ?_
 refine vwp_seq ?_
 refine oB (fun h0 => ?_) fun h0 => ?_
 ·
  have h0' : i < l.length := by simp at h0; omega
  refine vwp_skip ?_
  try simp only [thenQ, blockQ, jumpQ, stayQ]
  refine vwp_seq ?_
  refine vwp_block ?_
  refine oR [0, 1, 5, 7, 8] ?_
  refine vwp_seq (vwp_region ?_)
  refine vops_go tabOk [] (by simp only [go_sem, getD_map, h0']; rfl) (by first | trivial | (simp [h0']; done) | (simp [h0']; omega)) ?_
  refine vops_callVP (hc := (hp.pure l[i])) rfl (by simp only [go_sem]; rfl) rfl rfl hp.body (by simp only [go_sem]; exact WkL.refl _) rfl (by simp only [go_sem]) ?_
  simp only [go_sem]
  refine vops_done [0, 1, 5, 7, 8, 16] ?_
  simp only [go_sem, thenQ, blockQ, jumpQ, stayQ]
  refine oB (fun h1 => ?_) fun h1 => ?_
  ·
   refine oR [4] ?_
   refine vwp_ret ?_
   simp only [thenQ, blockQ, jumpQ, stayQ, RetQ, go_sem]
   refine ⟨by simp, Wk.eq ?_⟩
   rw [firstQ_at h0' (fun j hj => ha j hj (by omega)) h1]
  ·
   refine vwp_skip ?_
   try simp only [thenQ, blockQ, jumpQ, stayQ]
   refine vwp_reg1 tabOk [] [0, 1, 7, 8] (by simp only [go_sem]; rfl) (by first | trivial | (simp; done) | (simp [in64]; omega)) ?_
   try simp only [thenQ, blockQ, jumpQ, stayQ]
   exact ⟨i + 1, ⟨by omega, fun j hj hl => by rcases Nat.lt_or_ge j i with h | h; exact ha j h hl; obtain rfl : j = i := (by omega); exact h1⟩, by omega, (wC (wC (wC (wC (Env.wk_nil _))))), (by first | rfl | trivial)⟩
 ·
  refine vwp_exit ?_
  simp only [thenQ, blockQ, jumpQ, stayQ, if_true, reduceIte, Nat.reduceEqDiff]
  refine oR [4] ?_
  refine vwp_ret ?_
  simp only [thenQ, blockQ, jumpQ, stayQ, RetQ, go_sem]
  refine ⟨by simp, Wk.eq ?_⟩
  have : i = l.length := by simp at h0; omega
  rw [firstQ_none fun j hj => ha j (by omega) hj]
theorem b_slices_ContainsFunc_api_Prim_api_Prim : bodied Go.Proofs.Tryz.prog 114 = true := by rw [bodied, Tryz.func114]; rfl
theorem c_slices_ContainsFunc_api_Prim_api_Prim (g : FuncId) (p : Prim → Bool) (hp : ElemP Go.Proofs.Tryz.prog G g (fun x : Prim => (.agg (cPrim x))) p) (l : List Prim) : VPure Go.Proofs.Tryz.prog G 114 [.list 7 (l.map cPrim), .func (.func g) [] []] (.bool (l.any p)) := by
 refine vpure_of (ts := [4]) Tryz.func114 rfl (by simp [Tryz.ntmps114]) rfl rfl ?_
 rw [Tryz.ntmps114]
 refine oR [0, 1] ?_
 refine vwp_seq (vwp_region ?_)
 refine oG [] ?_
 refine oC (fun _ => c_slices_IndexFunc_api_Prim_api_Prim g p hp l) b_slices_IndexFunc_api_Prim_api_Prim ?_
 simp only [go_sem]
 refine oG [] ?_
 refine vops_done [4] ?_
 simp only [go_sem, thenQ, blockQ, jumpQ, stayQ]
 refine vwp_ret ?_
 simp only [thenQ, blockQ, jumpQ, stayQ, RetQ, go_sem]
 refine ⟨by simp, Wk.eq ?_⟩
 rw [firstQ_nonneg]
theorem elemP_line : ElemP Go.Proofs.Tryz.prog G 187 (fun x : Str => .str x) (fun s => s.contains 10) := ⟨b_lines_Right_1, c_lines_Right_1⟩
theorem lines_any (l : List Str) : (!l.any fun s => s.contains 10) = linesB l := by
 rw [linesB, List.any_eq_not_all_not, Bool.not_not]
 congr 1; funext s
 rw [lineB, Bool.eq_iff_iff]; simp; exact ⟨fun h c hc e => h (e ▸ hc), fun h hc => h 10 hc rfl⟩
theorem b_lines_Right : bodied Go.Proofs.Tryz.prog 156 = true := by rw [bodied, Tryz.func156]; rfl
theorem c_lines_Right (l : List Str) : VPure Go.Proofs.Tryz.prog G 156 [.list 1 (l.map cS)] (.bool (linesB l)) := by
 refine vpure_of (ts := [2]) Tryz.func156 rfl (by simp [Tryz.ntmps156]) rfl rfl ?_
 rw [Tryz.ntmps156]
 refine oR [0] ?_
 refine vwp_seq (vwp_region ?_)
 refine oG [] ?_
 refine oC (fun _ => c_slices_ContainsFunc_string_string _ _ elemP_line l) b_slices_ContainsFunc_string_string ?_
 simp only [go_sem]
 refine oG [] ?_
 refine vops_done [2] ?_
 simp only [go_sem, thenQ, blockQ, jumpQ, stayQ]
 refine vwp_ret ?_
 simp only [thenQ, blockQ, jumpQ, stayQ, RetQ, go_sem]
 refine ⟨by simp, Wk.eq ?_⟩
 rw [lines_any]
theorem within_eq (p q : Str) : (bif Lib.hasPrefix p q then bif decide (Lib.trimPrefix p q = []) then true else decide (((Lib.trimPrefix p q).getD 0 0).toNat = (47 : Int)) else false) = withinB p q := by
 by_cases h : q <+: p
 ·obtain ⟨r, rfl⟩ := h
  have h1 : Lib.hasPrefix (q ++ r) q = true := by simp [Lib.hasPrefix]
  have h2 : Lib.trimPrefix (q ++ r) q = r := by simp [Lib.trimPrefix, h1]
  rw [h1, h2, cond_true, withinB]
  cases r with
  | nil => simp
  | cons b r =>
   have h3 : ((b.toNat : Int) = 47) ↔ b = 47 := u8_47 b
   simp [h3]
 ·have h1 : Lib.hasPrefix p q = false := by
   cases hh : Lib.hasPrefix p q with
   | false => rfl
   | true => exact absurd (by simpa [Lib.hasPrefix] using hh) h
  rw [h1, cond_false, withinB]
  have h2 : p ≠ q := fun e => h (e ▸ List.prefix_refl _)
  have h3 : p.take q.length ≠ q := fun e => h (e ▸ List.take_prefix _ _)
  simp [h2, h3]
theorem b_path_Within : bodied Go.Proofs.Tryz.prog 186 = true := by rw [bodied, Tryz.func186]; rfl
theorem c_path_Within (p q : Str) : VPure Go.Proofs.Tryz.prog G 186 [.str p, .str q] (.bool (withinB p q)) := by
 refine vpure_of (ts := [4]) Tryz.func186 rfl (by simp [Tryz.ntmps186]) rfl rfl ?_
 rw [Tryz.ntmps186]
 refine oR [0, 1] ?_
 refine vwp_seq (vwp_region ?_)
 refine oG [] ?_
 refine oC (fun _ => c_CutPrefix p q) b_strings_CutPrefix ?_
 simp only [go_sem]
 refine oG [] ?_
 refine vops_done [5, 6] ?_
 simp only [go_sem, thenQ, blockQ, jumpQ, stayQ]
 refine vwp_reg tabOk [] [4] (by simp only [go_sem]; rfl) (by first | trivial | (simp; done) | (simp; intro _ h; exact List.length_pos_iff.2 h)) ?_
 refine vwp_ret ?_
 simp only [thenQ, blockQ, jumpQ, stayQ, RetQ, go_sem]
 refine ⟨by simp, Wk.eq ?_⟩
 rw [← within_eq]
theorem b_path_Apart : bodied Go.Proofs.Tryz.prog 155 = true := by rw [bodied, Tryz.func155]; rfl
theorem c_path_Apart (p q : Str) : VPure Go.Proofs.Tryz.prog G 155 [.str p, .str q] (.bool (apartB p q)) := by
 refine vpure_of (ts := [4]) Tryz.func155 rfl (by simp [Tryz.ntmps155]) rfl rfl ?_
 rw [Tryz.ntmps155]
 refine oR [0, 1] ?_
 refine vwp_seq (vwp_region ?_)
 refine oG [] ?_
 refine oC (fun _ => c_path_Within p q) b_path_Within ?_
 simp only [go_sem]
 refine oG [] ?_
 refine oC (fun _ => c_path_Within q p) b_path_Within ?_
 simp only [go_sem]
 refine oG [] ?_
 refine vops_done [4] ?_
 simp only [go_sem, thenQ, blockQ, jumpQ, stayQ]
 refine vwp_ret ?_
 simp only [thenQ, blockQ, jumpQ, stayQ, RetQ, go_sem]
 refine ⟨by simp, Wk.eq ?_⟩
 rw [apartB]; cases withinB p q <;> rfl
theorem bare_eq (x : Prim) : (bif decide (0 < (x.old.length : Int) + (x.new.length : Int)) then true else !decide (x.at_ = 0)) = !bare x := by
 rw [bare, Bool.eq_iff_iff]
 simp only [Bool.cond_true_left, Bool.or_eq_true, decide_eq_true_eq, Bool.not_eq_true', decide_eq_false_iff_not, Bool.and_eq_false_iff]
 omega
theorem primB_eq (x : Prim) : primB x = bif (!pathB x.path || ((bif decide (0 < (x.old.length : Int) + (x.new.length : Int)) then true else !decide (x.at_ = 0)) && !decide (x.kind = 7))) then false else bif decide (x.kind = 8) then (bif bif tokenB x.frm then tokenB x.to else false then !decide (x.frm = x.to) else false) else
  bif decide (x.kind = 9) then !decide (x.frm = x.to) else bif !decide (x.frm = []) then false else bif decide (x.kind = 10) then (bif pathB x.to then apartB x.path x.to else false) else
  bif decide (x.kind = 7) then (bif bif bif bif bif decide (x.to = []) then decide (0 ≤ x.at_) else false then decide (x.at_ ≤ 1073741824) else false then linesB x.old else false then linesB x.new else false then decide (0 < (x.old.length : Int) + (x.new.length : Int)) else false) else (bif bif decide (x.to = []) then decide (1 ≤ x.kind) else false then decide (x.kind ≤ 6) else false) := by
 rw [bare_eq, primB]
 cases hp : pathB x.path with
 | false => rfl
 | true =>
  simp only [Bool.true_and, Bool.not_true, Bool.false_or]
  by_cases k7 : x.kind = 7
  ·have h0 : decide (0 < (x.old.length : Int) + (x.new.length : Int)) = decide (0 < x.old.length + x.new.length) := decide_eq_decide.2 (by omega)
   rw [if_neg (by omega), if_pos k7, h0]
   simp only [k7, decide_true, Bool.not_true, Bool.and_false, cond_false, show (decide ((7 : Int) = 8)) = false from rfl, show (decide ((7 : Int) = 9)) = false from rfl, show (decide ((7 : Int) = 10)) = false from rfl, cond_true]
   cases decide (x.frm = []) <;> cases decide (x.to = []) <;> cases decide (0 ≤ x.at_) <;> cases decide (x.at_ ≤ 1073741824) <;> cases linesB x.old <;> cases linesB x.new <;> rfl
  ·rw [if_neg k7]
   simp only [k7, decide_false, Bool.not_false, Bool.and_true]
   cases hb : bare x with
   | false =>
    simp only [Bool.not_false, cond_true, Bool.false_and]
    split <;> (try split) <;> (try split) <;> (try split) <;> rfl
   | true =>
    simp only [Bool.not_true, cond_false, Bool.true_and]
    by_cases k8 : x.kind = 8
    ·rw [if_neg (by omega), if_pos k8]; simp only [k8, decide_true, cond_true, show (decide ((8 : Int) = 8)) = true from rfl]
     cases tokenB x.frm <;> cases tokenB x.to <;> rfl
    ·by_cases k9 : x.kind = 9
     ·rw [if_neg (by omega), if_neg k8, if_pos k9]; simp [k9]
     ·by_cases k10 : x.kind = 10
      ·rw [if_neg (by omega), if_neg k8, if_neg k9, if_pos k10]; simp only [k10, show (decide ((10 : Int) = 8)) = false from rfl, show (decide ((10 : Int) = 9)) = false from rfl, show (decide ((10 : Int) = 10)) = true from rfl, cond_true, cond_false]
       cases decide (x.frm = []) <;> cases pathB x.to <;> rfl
      ·simp only [k8, k9, k10, decide_false, cond_false]
       by_cases k1 : 1 ≤ x.kind ∧ x.kind ≤ 6
       ·rw [if_pos (by omega)]; simp only [k1.1, k1.2, decide_true]
        cases decide (x.frm = []) <;> cases decide (x.to = []) <;> rfl
       ·rw [if_neg (by omega)]; simp only [if_false]
        have : (decide (1 ≤ x.kind) && decide (x.kind ≤ 6)) = false := by simp; omega
        revert this
        cases decide (x.frm = []) <;> cases decide (x.to = []) <;> cases decide (1 ≤ x.kind) <;> cases decide (x.kind ≤ 6) <;> simp
theorem b_prim_Right : bodied Go.Proofs.Tryz.prog 116 = true := by rw [bodied, Tryz.func116]; rfl
set_option maxHeartbeats 4000000 in
theorem c_prim_Right (x : Prim) : VPure Go.Proofs.Tryz.prog G 116 [.agg (cPrim x)] (.bool (primB x)) := by
 refine vpure_know fun hk => ?_
 simp only [factsL, facts, cPrim, maxB, List.length_map] at hk
 refine vpure_of (ts := [2]) Tryz.func116 rfl (by simp [Tryz.ntmps116]) rfl rfl ?_
 rw [Tryz.ntmps116]
 refine oR [1] ?_
 refine oR [1, 3] ?_
 refine vwp_seq ?_
 refine vwp_block ?_
 refine vwp_joinE (fun b : Bool => [(1, .ptr 0 0), (17, .bool b)]) (fun b => [.box (cPrim x)]) (fun b => b = (!pathB x.path || ((bif decide (0 < (x.old.length : Int) + (x.new.length : Int)) then true else !decide (x.at_ = 0)) && !decide (x.kind = 7)))) ?_ ?_
 ·
  refine vwp_seq (vwp_region ?_)
  refine oG [] ?_
  refine oC (fun _ => c_path_Right x.path) b_path_Right ?_
  simp only [go_sem]
  refine oG [] ?_
  refine vops_done [1, 3, 17] ?_
  simp only [go_sem, thenQ, blockQ, jumpQ, stayQ]
  refine oB (fun h0 => ?_) fun h0 => ?_
  ·
   refine vwp_skip ?_
   try simp only [thenQ, blockQ, jumpQ, stayQ]
   exact ⟨!pathB x.path, by rw [h0]; rfl, (Env.wk_cons2 (by simp only [go_sem]; first | exact Wk.refl _ | exact Wk.nils _ | (refine Wk.eq ?_; simp; done) | (refine Wk.eq ?_; congr 1 <;> omega)) (Env.wk_cons2 (by simp only [go_sem]; first | exact Wk.refl _ | exact Wk.nils _ | (refine Wk.eq ?_; simp; done) | (refine Wk.eq ?_; congr 1 <;> omega)) (Env.wk_nil _))), (by first | rfl | trivial)⟩
  ·
   refine vwp_reg1 tabOk [] [1, 17] (by simp only [go_sem]; rfl) (by first | trivial | (simp; done) | (simp [in64]; omega)) ?_
   try simp only [thenQ, blockQ, jumpQ, stayQ]
   exact ⟨(bif (bif decide (0 < (x.old.length : Int) + (x.new.length : Int)) then true else !decide (x.at_ = 0)) then !decide (x.kind = 7) else false), by simp at h0; simp [h0], (Env.wk_cons2 (by simp only [go_sem]; first | exact Wk.refl _ | exact Wk.nils _ | (refine Wk.eq ?_; simp; done) | (refine Wk.eq ?_; congr 1 <;> omega)) (Env.wk_cons2 (by simp only [go_sem]; first | exact Wk.refl _ | exact Wk.nils _ | (refine Wk.eq ?_; simp; done) | (refine Wk.eq ?_; congr 1 <;> omega)) (Env.wk_nil _))), (by first | rfl | trivial)⟩
 ·
  rintro b hb
  refine oB (fun h1 => ?_) fun h1 => ?_
  ·
   refine oR [2] ?_
   refine vwp_ret ?_
   simp only [thenQ, blockQ, jumpQ, stayQ, RetQ, go_sem]
   refine ⟨by simp, Wk.eq ?_⟩
   rw [primB_eq, ← hb, h1, cond_true]
  ·
   refine oR [1, 28] ?_
   refine oB (fun h2 => ?_) fun h2 => ?_
   ·
    refine vwp_seq (vwp_region ?_)
    refine oG [] ?_
    refine oC (fun _ => c_lines_Token x.frm) b_lines_Token ?_
    simp only [go_sem]
    refine oG [] ?_
    refine oC (fun _ => c_lines_Token x.to) b_lines_Token ?_
    simp only [go_sem]
    refine oG [] ?_
    refine vops_done [2] ?_
    simp only [go_sem, thenQ, blockQ, jumpQ, stayQ]
    refine vwp_ret ?_
    simp only [thenQ, blockQ, jumpQ, stayQ, RetQ, go_sem]
    refine ⟨by simp, Wk.eq ?_⟩
    rw [primB_eq, ← hb, h1, cond_false, h2, cond_true]
   ·
    refine oR [1, 47] ?_
    refine oB (fun h3 => ?_) fun h3 => ?_
    ·
     refine oR [2] ?_
     refine vwp_ret ?_
     simp only [thenQ, blockQ, jumpQ, stayQ, RetQ, go_sem]
     refine ⟨by simp, Wk.eq ?_⟩
     rw [primB_eq, ← hb, h1, cond_false, h2, cond_false, h3, cond_true]
    ·
     refine oR [1, 56] ?_
     refine oB (fun h4 => ?_) fun h4 => ?_
     ·
      refine oR [2] ?_
      refine vwp_ret ?_
      simp only [thenQ, blockQ, jumpQ, stayQ, RetQ, go_sem]
      refine ⟨by simp, Wk.eq ?_⟩
      rw [primB_eq, ← hb, h1, cond_false, h2, cond_false, h3, cond_false, h4, cond_true]
     ·
      refine oR [1, 60] ?_
      refine oB (fun h5 => ?_) fun h5 => ?_
      ·
       refine vwp_seq (vwp_region ?_)
       refine oG [] ?_
       refine oC (fun _ => c_path_Right x.to) b_path_Right ?_
       simp only [go_sem]
       refine oG [] ?_
       refine oC (fun _ => c_path_Apart x.path x.to) b_path_Apart ?_
       simp only [go_sem]
       refine oG [] ?_
       refine vops_done [2] ?_
       simp only [go_sem, thenQ, blockQ, jumpQ, stayQ]
       refine vwp_ret ?_
       simp only [thenQ, blockQ, jumpQ, stayQ, RetQ, go_sem]
       refine ⟨by simp, Wk.eq ?_⟩
       rw [primB_eq, ← hb, h1, cond_false, h2, cond_false, h3, cond_false, h4, cond_false, h5, cond_true]
      ·
       refine oR [1, 74] ?_
       refine oB (fun h6 => ?_) fun h6 => ?_
       ·
        refine vwp_seq (vwp_region ?_)
        refine oG [] ?_
        refine oC (fun _ => c_lines_Right x.old) b_lines_Right ?_
        simp only [go_sem]
        refine oG [] ?_
        refine oC (fun _ => c_lines_Right x.new) b_lines_Right ?_
        simp only [go_sem]
        refine oG [] ?_
        refine vops_done [2] ?_
        simp only [go_sem, thenQ, blockQ, jumpQ, stayQ]
        refine vwp_ret ?_
        simp only [thenQ, blockQ, jumpQ, stayQ, RetQ, go_sem]
        refine ⟨by simp, Wk.eq ?_⟩
        rw [primB_eq, ← hb, h1, cond_false, h2, cond_false, h3, cond_false, h4, cond_false, h5, cond_false, h6, cond_true]
       ·
        refine vwp_skip ?_
        try simp only [thenQ, blockQ, jumpQ, stayQ]
        refine oR [2] ?_
        refine vwp_ret ?_
        simp only [thenQ, blockQ, jumpQ, stayQ, RetQ, go_sem]
        refine ⟨by simp, Wk.eq ?_⟩
        rw [primB_eq, ← hb, h1, cond_false, h2, cond_false, h3, cond_false, h4, cond_false, h5, cond_false, h6, cond_false]
theorem b_named_Right_1 : bodied Go.Proofs.Tryz.prog 115 = true := by rw [bodied, Tryz.func115]; rfl
theorem c_named_Right_1 (x : Prim) : VPure Go.Proofs.Tryz.prog G 115 [.agg (cPrim x)] (.bool (!primB x)) := by
 refine vpure_of (ts := [2]) Tryz.func115 rfl (by simp [Tryz.ntmps115]) rfl rfl ?_
 rw [Tryz.ntmps115]
 refine oR [1] ?_
 refine vwp_seq (vwp_region ?_)
 refine oG [] ?_
 refine oC (fun _ => c_prim_Right x) b_prim_Right ?_
 simp only [go_sem]
 refine oG [] ?_
 refine vops_done [2] ?_
 simp only [go_sem, thenQ, blockQ, jumpQ, stayQ]
 refine vwp_ret ?_
 simp only [thenQ, blockQ, jumpQ, stayQ, RetQ, go_sem]
 refine ⟨by simp, Wk.eq ?_⟩
 rfl
theorem elemP_prim : ElemP Go.Proofs.Tryz.prog G 115 (fun x : Prim => .agg (cPrim x)) (fun x => !primB x) := ⟨b_named_Right_1, c_named_Right_1⟩
theorem prims_any (l : List Prim) : (!l.any fun x => !primB x) = l.all primB := by
 rw [List.any_eq_not_all_not, Bool.not_not]; simp
theorem b_named_Right : bodied Go.Proofs.Tryz.prog 84 = true := by rw [bodied, Tryz.func84]; rfl
set_option maxHeartbeats 4000000 in
theorem c_named_Right (x : Patch) : VPure Go.Proofs.Tryz.prog G 84 [.agg (cPatch x)] (.bool (patchB x)) := by
 refine vpure_know fun hk => ?_
 simp only [factsL, facts, cPatch, maxB, List.length_map] at hk
 refine vpure_of (ts := [2]) Tryz.func84 rfl (by simp [Tryz.ntmps84]) rfl rfl ?_
 rw [Tryz.ntmps84]
 refine oR [1] ?_
 refine vwp_seq ?_
 refine vwp_seq (vwp_region ?_)
 refine oG [] ?_
 refine oC (fun _ => c_named_Label x.name) b_named_Label ?_
 simp only [go_sem]
 refine oG [] ?_
 refine vops_done [1, 20] ?_
 simp only [go_sem, thenQ, blockQ, jumpQ, stayQ]
 refine oB (fun h0 => ?_) fun h0 => ?_
 ·
  refine oR [2] ?_
  refine vwp_ret ?_
  simp only [thenQ, blockQ, jumpQ, stayQ, RetQ, go_sem]
  refine ⟨by simp, Wk.eq ?_⟩
  rw [patchB]; congr 1; symm; rw [Bool.and_eq_false_iff]; left; simp at h0 ⊢; intro h5 h6; rcases h0 with (h0 | h0) | h0 <;> first | omega | (rw [h5] at h0; cases h0)
 ·
  refine vwp_skip ?_
  try simp only [thenQ, blockQ, jumpQ, stayQ]
  refine vwp_seq ?_
  refine oR [1, 22, 23, 24] ?_
  refine vwp_block ?_
  refine vwp_loopW (fun i : Nat => [(1, .ptr 0 0), (22, .list 1 (x.deps.map cS)), (23, .int .i64 (x.deps.length : Int)), (24, .int .i64 (i : Int))]) (fun i => [.box (cPatch x)]) (fun i => i ≤ x.deps.length ∧ depsB (x.deps.take i) x.name = true) (fun i => x.deps.length - i) 0 ⟨Nat.zero_le _, by rfl⟩ (wC (wC (wC (wC (Env.wk_nil _))))) rfl ?_
  rintro i ⟨hi, hok⟩
  refine oR [1, 22, 23, 24, 25] ?_
  refine vwp_seq ?_
  refine oB (fun h1 => ?_) fun h1 => ?_
  ·
   have h1' : i < x.deps.length := by simp at h1; omega
   refine vwp_skip ?_
   try simp only [thenQ, blockQ, jumpQ, stayQ]
   refine vwp_seq ?_
   refine vwp_block ?_
   refine vwp_reg tabOk [] [1, 3, 4, 22, 23, 24] (by simp only [go_sem]; rfl) (by first | (simp [h1']; done) | (simp [h1']; omega)) ?_
   refine vwp_seq (vwp_region ?_)
   refine vops_go tabOk [] (by simp only [go_sem]; rfl) (by first | trivial | (simp [h1']; done) | (simp [h1', in64]; omega) | (simp [h1', in64]; repeat' (first | omega | intro _ | constructor))) ?_
   refine oC (fun _ => c_named_Label (x.deps.getD i [])) b_named_Label ?_
   simp only [go_sem]
   refine vops_go tabOk [] (by simp only [go_sem]; rfl) (by first | trivial | (simp [h1']; done) | (simp [h1', in64]; omega) | (simp [h1', in64]; repeat' (first | omega | intro _ | constructor))) ?_
   refine vops_done [1, 22, 23, 24, 51] ?_
   simp only [go_sem, thenQ, blockQ, jumpQ, stayQ]
   refine oB (fun h2 => ?_) fun h2 => ?_
   ·
    refine oR [2] ?_
    refine vwp_ret ?_
    simp only [thenQ, blockQ, jumpQ, stayQ, RetQ, go_sem]
    refine ⟨by simp, Wk.eq ?_⟩
    rw [step_go] at h2; rw [patchB, depsB_false _ _ i h1' (by simpa using h2)]; simp
   ·
    refine vwp_skip ?_
    try simp only [thenQ, blockQ, jumpQ, stayQ]
    refine vwp_reg1 tabOk [] [1, 22, 23, 24] (by simp only [go_sem]; rfl) (by first | trivial | (simp; done) | (simp [in64]; omega)) ?_
    try simp only [thenQ, blockQ, jumpQ, stayQ]
    exact ⟨i + 1, ⟨by omega, by rw [depsB_take _ _ _ h1', hok]; rw [step_go] at h2; simpa using h2⟩, by omega, (wC (wC (wC (wC (Env.wk_nil _))))), (by first | rfl | trivial)⟩
  ·
   refine vwp_exit ?_
   simp only [thenQ, blockQ, jumpQ, stayQ, if_true, reduceIte, Nat.reduceEqDiff]
   refine vwp_seq (vwp_region ?_)
   refine oG [] ?_
   refine oC (fun _ => c_slices_ContainsFunc_api_Prim_api_Prim _ _ elemP_prim x.body) b_slices_ContainsFunc_api_Prim_api_Prim ?_
   simp only [go_sem]
   refine oG [] ?_
   refine vops_done [2] ?_
   simp only [go_sem, thenQ, blockQ, jumpQ, stayQ]
   refine vwp_ret ?_
   simp only [thenQ, blockQ, jumpQ, stayQ, RetQ, go_sem]
   refine ⟨by simp, Wk.eq ?_⟩
   have e1 : i = x.deps.length := by simp at h1; omega
   subst e1; rw [List.take_length] at hok; rw [prims_any, patchB, hok]; cases x.body.all primB <;> simp <;> (simp at h0; simp [h0]; omega)
end Go.Proofs.YtnobnefabagbhaaGreatDoor.Q
end

section
/- Walks of what writes a patch's bytes, in the program's own words, in the logic 'Q'. -/
namespace Go.Proofs.YtnobnefabagbhaaGreatDoor.Q
open Go Go.Q
open Go.RowKit (Below)
open Go.Shelf Go.RowKit
set_option maxHeartbeats 1000000 in
theorem copyCheck_used (b : Nat) (w : World) (h0 : w.cell? ⟨b, 0, none⟩ = some (.pointer (some ⟨b, 0, none⟩))) :
  Calls Go.Proofs.Tryz.prog 194 #[.pointer (some ⟨b, 0, none⟩)] w fun e w' => e = .returned (.tuple #[]) ∧ w' = w := by
 obtain ⟨j, hj, _⟩ := Option.map_eq_some_iff.1 Tryz.Builder_Extra_169.sizeBuilder
 go_enter Tryz.func194, Tryz.ntmps194
 go_wp2
 rw [Lib.run_neq_ptr_same w _ Tryz.underlying146 hj]
 go_wp2
 go_end0
 exact ⟨rfl, rfl⟩
set_option maxHeartbeats 1000000 in
theorem copyCheck_fresh (b : Nat) (w : World) (h0 : w.cell? ⟨b, 0, none⟩ = some (.pointer none)) (hsh : w.shape? b = some (150, 2)) (hfz : w.frozen? ⟨b, 0, none⟩ = false) :
  Calls Go.Proofs.Tryz.prog 194 #[.pointer (some ⟨b, 0, none⟩)] w fun e w' => e = .returned (.tuple #[]) ∧ w' = w.setCell ⟨b, 0, none⟩ (.pointer (some ⟨b, 0, none⟩)) := by
 obtain ⟨j, hj, hjs⟩ := Option.map_eq_some_iff.1 Tryz.Builder_Extra_169.sizeBuilder
 go_enter Tryz.func194, Tryz.ntmps194
 go_wp2
 rw [Lib.run_to_unsafe w ⟨b, 0, none⟩ Tryz.underlying146 Tryz.underlying193 hj (by rw [hjs]; decide) hsh (Nat.zero_lt_succ 1)]
 simp only [Result.andThen]
 rw [Oper.upon_value]
 go_wp2
 rw [run_callFunc_extern Tryz.func204 (by kernel_rfl) (by kernel_rfl) (by kernel_rfl) (e := Extern.AbiNoEscape.same) (by kernel_rfl)]
 rw [Lib.run_noEscape]
 simp only [Result.andThen]
 rw [Oper.upon_value]
 go_wp2
 rw [Lib.run_from_unsafe w ⟨b, 0, none⟩ Tryz.underlying193 Tryz.underlying146 hj hsh (by kernel_rfl)]
 simp only [Result.andThen]
 rw [Oper.upon_value]
 go_wp2
 go_end0
 exact ⟨rfl, rfl⟩
set_option maxHeartbeats 2000000 in
theorem string_raw (b g cap : Nat) (p : Value) (cur : Array Value) (s : List UInt8) (h0 : s ≠ []) (w : World) {ty : TypeId} (hbk : w.heap[b]? = some (.cells #[p, .slice (some ⟨g, 0, none⟩) s.length cap] ty (0, 0))) (hg : w.heap[g]? = some (.cells cur 5 (0, 0)))
  (hcell : ∀ j x, s[j]? = some x → w.cell? ⟨g, j, none⟩ = some (.int .u8 (x.toNat : Int))) (hn : s.length ≤ cap) (hcm : cap ≤ maxLen) (hcs : cur.size = cap) :
  Calls Go.Proofs.Tryz.prog 146 #[.pointer (some ⟨b, 0, none⟩)] w fun e w' => e = .returned (.string ⟨s.toArray⟩) ∧ w' = w.drew.freeze ⟨g, 0, none⟩ s.length := by
 have hl1 : 1 ≤ s.length := List.length_pos_iff.2 h0
 have mixed : Go.Proofs.Tryz.prog.follows .mixedOrders = true := by kernel_rfl
 have c1 : w.drew.cell? ⟨b, 1, none⟩ = some (.slice (some ⟨g, 0, none⟩) s.length cap) := by
  have : w.drew.heap[b]? = some (.cells #[p, .slice (some ⟨g, 0, none⟩) s.length cap] ty (0, 0)) := hbk
  rw [Lib.cell_of_heap this]; rfl
 have hSD : (Builtin.unsafeSliceData_ #[64] 173 #[.slice (some ⟨g, 0, none⟩) s.length cap]).run Go.Proofs.Tryz.prog w.drew = .ok (.pointer (some ⟨g, 0, none⟩)) w.drew :=
  Lib.run_unsafeSliceData_row _ _ _ _ _ _ (by omega)
 have hUS : (Builtin.unsafeString_ #[173, 3] 9 #[.pointer (some ⟨g, 0, none⟩), .int .i64 s.length]).run Go.Proofs.Tryz.prog w.drew = .ok (.string ⟨s.toArray⟩) (w.drew.freeze ⟨g, 0, none⟩ s.length) := by
  refine Lib.run_unsafeString_row w.drew 173 3 9 5 Tryz.underlying173 Tryz.Builder_Extra_169.cellsByte g cur.size (by have hg' : w.drew.heap[g]? = some (.cells cur 5 (0, 0)) := hg; simp [World.shape?, hg']) s h0 (by omega) (by unfold maxLen at hcm; omega) ?_
  intro j x hx
  have := hcell j x hx
  rw [add_spot rfl]; simpa using this
 go_enter Tryz.func146, Tryz.ntmps146
 go_wp2
 go_region_o
 all_goals (go_wp2; go_ret; exact ⟨rfl, rfl⟩)
def bld (ad : V) (s : Str) : List Q.Obj := [.box [ad, .arr 1 s.length] (some 150), .arr 5 1 (s.map encB)]
attribute [go_sem] bld
theorem b_strings_Builder_copyCheck : bodied Go.Proofs.Tryz.prog 194 = true := by rw [bodied, Tryz.func194]; rfl
theorem b_strings_Builder_String : bodied Go.Proofs.Tryz.prog 146 = true := by rw [bodied, Tryz.func146]; rfl
theorem setCell_row {w : World} {b : Nat} {us : List Value} {t : TypeId} (h : w.heap[b]? = some (.cells us.toArray t (0, 0))) (v : Value) : (w.setCell ⟨b, 0, none⟩ v).heap[b]? = some (.cells (us.set 0 v).toArray t (0, 0)) := by
 obtain ⟨hlt, hk⟩ := Array.getElem?_eq_some_iff.1 h
 show (w.heap.modify b _)[b]? = _
 rw [Array.getElem?_eq_getElem (by rw [Array.size_modify]; exact hlt), Array.getElem_modify_self, hk]
 simp
theorem setCell_else {w : World} {b k : Nat} (v : Value) (h : b ≠ k) : (w.setCell ⟨b, 0, none⟩ v).heap[k]? = w.heap[k]? := by
 show (w.heap.modify b _)[k]? = _
 simp [Array.getElem?_modify, h]
theorem c_strings_Builder_copyCheck (ad : V) (ha : ad = .nilptr ∨ ad = .ptr 0 0) (s : Str) : VCalls Go.Proofs.Tryz.prog G 194 [.ptr 0 0] (bld ad s) [] (fun r H => r = .tuple [] ∧ H = bld (.ptr 0 0) s) := by
 intro F ρ w ms sim hr hG
 simp only [RelL, Rel] at hr
 obtain ⟨u, t, rfl, ⟨b, o, hρ, rfl⟩, rfl⟩ := hr
 obtain ⟨b', us, ty, hh, hheap, hrel, hone⟩ := sim.obj 0 _ _ rfl hρ
 simp only [Value.pointer.injEq, Option.some.injEq, Addr.mk.injEq, and_true] at hh
 obtain ⟨rfl, rfl⟩ := hh
 simp only [Option.getD_some] at hheap
 simp only [RelL] at hrel
 obtain ⟨u0, _, rfl, hu0, u1, _, rfl, hu1, rfl⟩ := hrel
 have hc0 : w.cell? ⟨b, 0, none⟩ = some u0 := by rw [Lib.cell_of_heap hheap]; rfl
 have fin : ∀ w', Sim F ρ (bld (.ptr 0 0) s) w' → Evol ⟨F, ρ, bld ad s, w⟩ [] F ρ (bld (.ptr 0 0) s) w' →
   ∃ F' ρ' H' r mr, (Ending.returned (.tuple #[]) : Ending) = .returned mr ∧ (r = .tuple [] ∧ H' = bld (.ptr 0 0) s) ∧ Rel F' ρ' w' r mr ∧ Sim F' ρ' H' w' ∧ Evol ⟨F, ρ, bld ad s, w⟩ [] F' ρ' H' w' :=
  fun w' h1 h2 => ⟨F, ρ, _, _, _, rfl, ⟨rfl, rfl⟩, by simp [Rel, RelL], h1, h2⟩
 rcases ha with rfl | rfl
 ·simp only [Rel] at hu0
  subst hu0
  refine (copyCheck_fresh b w hc0 (by simp [World.shape?, hheap]) (by simp [World.frozen?, hheap])).mono ?_
  rintro e w' ⟨rfl, rfl⟩
  have st := st_of_sim Go.Proofs.Tryz.prog G [] sim hG
  have st' := st.setObj (w' := w.setCell ⟨b, 0, none⟩ (.pointer (some ⟨b, 0, none⟩))) (i := 0) (o' := .box [.ptr 0 0, .arr 1 s.length] (some 150)) rfl rfl hρ rfl rfl rfl (by show (w.heap.modify b _).size = _; simp)
   (fun b2 hb2 => setCell_else _ (fun e => hb2 (by rw [← e]; rfl)))
   ⟨b, [.pointer (some ⟨b, 0, none⟩), u1], ty, rfl, by simpa using setCell_row hheap _, by
    simp only [RelL]
    refine ⟨_, _, rfl, ⟨b, 0, hρ, rfl⟩, _, _, rfl, ?_, rfl⟩
    have hF : ∀ k, F k → (w.setCell ⟨b, 0, none⟩ (.pointer (some ⟨b, 0, none⟩))).heap[k]? = w.heap[k]? := fun k hk => setCell_else _ fun e => sim.apart 0 _ _ k rfl rfl hρ (by rw [← e]; rfl) hk
    exact Rel.goes ⟨fun _ h => h, hF, fun _ _ h => h⟩ _ _ hu1, by
    intro u hu
    simp only [List.mem_cons, List.not_mem_nil, or_false] at hu
    rcases hu with rfl | rfl
    ·rfl
    ·exact hone _ (by simp)⟩
  exact fin _ st'.sim st'.evol
 ·have hu0' := hu0
  simp only [Rel] at hu0'
  obtain ⟨b2, o2, e1, rfl⟩ := hu0'
  rw [hρ] at e1
  simp only [Option.some.injEq, Value.pointer.injEq, Addr.mk.injEq, and_true] at e1
  obtain ⟨rfl, rfl⟩ := e1
  refine (copyCheck_used b w hc0).mono ?_
  rintro e w' ⟨rfl, rfl⟩
  exact fin _ sim (evol_refl _ _ _ _ _)
theorem freeze_else {w : World} {g k n : Nat} (h : g ≠ k) : (w.drew.freeze ⟨g, 0, none⟩ n).heap[k]? = w.heap[k]? := by
 unfold World.freeze
 split
 ·rfl
 ·show (w.heap.modify g _)[k]? = _
  simp [Array.getElem?_modify, h]
theorem freeze_same (w : World) (g n : Nat) : (w.drew.freeze ⟨g, 0, none⟩ n).os = w.os ∧ (w.drew.freeze ⟨g, 0, none⟩ n).tape = w.tape ∧ (w.drew.freeze ⟨g, 0, none⟩ n).output = w.output ∧ (w.drew.freeze ⟨g, 0, none⟩ n).heap.size = w.heap.size := by
 unfold World.freeze
 split
 ·exact ⟨rfl, rfl, rfl, rfl⟩
 ·refine ⟨rfl, rfl, rfl, ?_⟩
  show (w.heap.modify g _).size = _
  simp
theorem c_strings_Builder_String (ad : V) (s : Str) (h0 : s ≠ []) (hm : s.length ≤ maxB) : VCalls Go.Proofs.Tryz.prog G 146 [.ptr 0 0] (bld ad s) [] (fun r H => r = .str s ∧ H = [.box [ad, .arr 1 s.length] (some 150), .dead]) := by
 intro F ρ w ms sim hr hG
 simp only [RelL, Rel] at hr
 obtain ⟨u, t, rfl, ⟨b, o, hρ, rfl⟩, rfl⟩ := hr
 obtain ⟨b', us, ty, hh, hheap, hrel, hone⟩ := sim.obj 0 _ _ rfl hρ
 simp only [Value.pointer.injEq, Option.some.injEq, Addr.mk.injEq, and_true] at hh
 obtain ⟨rfl, rfl⟩ := hh
 simp only [Option.getD_some] at hheap
 simp only [RelL] at hrel
 obtain ⟨u0, _, rfl, hu0, u1, _, rfl, hu1, rfl⟩ := hrel
 simp only [Rel] at hu1
 obtain ⟨a, m, c, h1, rfl, hle⟩ := hu1
 obtain ⟨row, c', a', hh, hown, hll, hB⟩ := sim.obj 1 _ _ rfl h1
 injection hh with ha hm' hc; subst ha; subst hm'; subst hc
 rw [List.length_map] at hle hown
 have hl1 : 1 ≤ s.length := List.length_pos_iff.2 h0
 rcases hown.2 with ⟨_, hz⟩ | ⟨g, cap, cur, hv, _, hg, hnc, hcm, hcs, htk⟩
 ·omega
 ·simp only [Value.slice.injEq] at hv
  obtain ⟨rfl, _, rfl⟩ := hv
  have hrow : row = Lib.byteCells s := by
   have h2 := relLL_bytes (F := F) (w := w) s
   have h3 := hll
   clear hll hown htk
   revert h3
   have key : ∀ (s : Str) (row : List Value), RelLL F w 1 (s.map encB) row → row = Lib.byteCells s := by
    intro s
    induction s with
    | nil => intro row h; simpa [RelLL, Lib.byteCells] using h
    | cons x s ih =>
     intro row h
     simp only [List.map_cons, RelLL, encB, RelL, Rel] at h
     obtain ⟨u, t, rfl, _, ⟨_, _, rfl, rfl, rfl⟩, _, h5⟩ := h
     rw [ih _ h5]; rfl
   exact key s row
  have hcell : ∀ j x, s[j]? = some x → w.cell? ⟨g, j, none⟩ = some (.int .u8 (x.toNat : Int)) := by
   intro j x hx
   have h2 := hown.cells (g := g) rfl j (.int .u8 (x.toNat : Int)) (by rw [hrow]; simp [Lib.byteCells, hx])
   rw [add_spot rfl] at h2; simpa using h2
  refine (string_raw b g c u0 cur s h0 w (ty := _) hheap hg hcell hnc hcm (by simpa using hcs)).mono ?_
  rintro e w' ⟨rfl, rfl⟩
  have st := st_of_sim Go.Proofs.Tryz.prog G [] sim hG
  obtain ⟨f1, f2, f3, f4⟩ := freeze_same w g s.length
  have st' := st.setObj (w' := w.drew.freeze ⟨g, 0, none⟩ s.length) (i := 1) (o' := .dead) rfl rfl h1 f1 f2 f3 f4
   (fun b2 hb2 => freeze_else fun e => hb2 (by rw [← e]; rfl)) trivial
  exact ⟨F, ρ, _, .str s, _, rfl, ⟨rfl, rfl⟩, by simp only [Rel]; exact ⟨trivial, hm⟩, st'.sim, st'.evol⟩
theorem b_strings_Builder_WriteString : bodied Go.Proofs.Tryz.prog 176 = true := by rw [bodied, Tryz.func176]; rfl
theorem c_strings_Builder_WriteString (s x : Str) (hs : s.length + x.length ≤ 137438953472) : VCalls Go.Proofs.Tryz.prog G 176 [.ptr 0 0, .str x] (bld (.ptr 0 0) s) [1] (fun r H => r = .tuple [.int .i64 (x.length : Int), .niliface] ∧ H = bld (.ptr 0 0) (s ++ x)) := by
 refine vcalls_of2 tabOk (rs := _) 2 Tryz.func176 rfl (by simp [Tryz.ntmps176]) rfl (by first | (simp; done) | exact Nat.le_refl _) ?_
 rw [Tryz.ntmps176]
 refine oR [0, 1] ?_
 refine vwp_seq (vwp_region ?_)
 refine oG [] ?_
 refine vops_callH (hc := c_strings_Builder_copyCheck (.ptr 0 0) (.inr rfl) s) rfl rfl rfl b_strings_Builder_copyCheck [0, 1] [] [] rfl rfl rfl (by simp only [go_sem]; exact WkL.refl _) (by simp only [go_sem]) ?_
 rintro r0 H0 ⟨rfl, rfl⟩
 simp only [go_sem]
 refine vops_done [0, 1] ?_
 simp only [go_sem, thenQ, blockQ, jumpQ, stayQ]
 refine oR [1] ?_
 refine oR [4, 5] ?_
 refine vwp_ret ?_
 try simp only [thenQ, blockQ, jumpQ, stayQ, go_sem]
 refine ⟨by simp, _, _, rfl, by first | trivial | simp, ?_⟩
 exact ⟨by simp only [go_sem], by simp [bld]⟩
theorem b_strings_Builder_WriteByte : bodied Go.Proofs.Tryz.prog 177 = true := by rw [bodied, Tryz.func177]; rfl
theorem c_strings_Builder_WriteByte (s : Str) (x : UInt8) (hs : s.length + 1 ≤ 137438953472) : VCalls Go.Proofs.Tryz.prog G 177 [.ptr 0 0, .int .u8 (x.toNat : Int)] (bld (.ptr 0 0) s) [1] (fun r H => r = .niliface ∧ H = bld (.ptr 0 0) (s ++ [x])) := by
 refine vcalls_of2 tabOk (rs := _) 2 Tryz.func177 rfl (by simp [Tryz.ntmps177]) rfl (by first | (simp; done) | exact Nat.le_refl _) ?_
 rw [Tryz.ntmps177]
 refine oR [0, 1] ?_
 refine vwp_seq (vwp_region ?_)
 refine oG [] ?_
 refine vops_callH (hc := c_strings_Builder_copyCheck (.ptr 0 0) (.inr rfl) s) rfl rfl rfl b_strings_Builder_copyCheck [0, 1] [] [] rfl rfl rfl (by simp only [go_sem]; exact WkL.refl _) (by simp only [go_sem]) ?_
 rintro r0 H0 ⟨rfl, rfl⟩
 simp only [go_sem]
 refine vops_done [0, 1] ?_
 simp only [go_sem, thenQ, blockQ, jumpQ, stayQ]
 refine oR [] ?_
 refine oR [4] ?_
 refine vwp_ret ?_
 try simp only [thenQ, blockQ, jumpQ, stayQ, go_sem]
 refine ⟨by simp, _, _, rfl, by first | trivial | simp, ?_⟩
 exact ⟨by simp only [go_sem], by simp [bld, encB]⟩
theorem b_named_writer_number : bodied Go.Proofs.Tryz.prog 145 = true := by rw [bodied, Tryz.func145]; rfl
theorem c_named_writer_number (s : Str) (n : Int) (hn : in64 n) (hs : s.length ≤ 130000000000) : VCalls Go.Proofs.Tryz.prog G 145 [.ptr 0 0, .int .i64 n] (bld (.ptr 0 0) s) [1] (fun r H => r = .tuple [] ∧ H = bld (.ptr 0 0) (s ++ num n)) := by
 have hl := Lib.itoa_length_le n hn.1 hn.2
 refine vcalls_of2 tabOk (rs := _) 2 Tryz.func145 rfl (by simp [Tryz.ntmps145]) rfl (by first | (simp; done) | exact Nat.le_refl _) ?_
 rw [Tryz.ntmps145]
 refine vwp_seq (vwp_drawE1 mixed (by kernel_rfl) 5 [0, 0, 0, 0, 0, 0] (by kernel_rfl) (f0 := ?f0_r0) (f1 := ?f1_r0) (H1 := ?H1_r0) (g1 := ?g1_r0) (v1 := ?v1_r0) (by simp only [go_sem]; rfl) ?hs0_r0 ?he1_r0 ?hg1_r0 ?hs1_r0 ?hk1_r0 ?hv1_r0 [0] rfl ?hq_r0)
 case hs0_r0 =>
  refine dstage_go tabOk (by simp only [go_sem]; rfl) (by first | trivial | (simp; done) | (simp [in64]; omega)) ?_
  refine dstage_call (hc := fun _ => c_Itoa n hn) rfl (by simp only [go_sem]; rfl) b_strconv_Itoa (by simp only [go_sem]; exact WkL.refl _) rfl (fun hg => by simp only [go_sem]) rfl (by decide) ?_
  refine dstage_go tabOk (by simp only [go_sem]; rfl) (by first | trivial | (simp; done) | (simp [in64]; omega)) ?_
  exact dstage_nil
 case he1_r0 =>
  refine effOk_callH (f := ?f) (vs := ?vs) (H' := ?Hn) (r := ?r) (args := ?args) (ats := ?ats) [0, 1] [1] [1] ?yc ?y0 ?yb ?y1 ?y2 ?y3 ?y4 ?y5
  case y0 => rfl
  case yc => exact c_strings_Builder_WriteString s (Lib.itoa n) (by omega)
  case yb => exact b_strings_Builder_WriteString
  case y1 => rfl
  case y2 => rfl
  case y3 => rfl
  case y4 => simp only [go_sem]; exact WkL.refl _
  case y5 => simp only [go_sem]
 case hg1_r0 => rfl
 case hs1_r0 =>
  refine dstage_go tabOk (by simp only [go_sem]; rfl) (by first | trivial | (simp; done) | (simp [in64]; omega)) ?_
  refine dstage_call (hc := fun _ => c_Itoa n hn) rfl (by simp only [go_sem]; rfl) b_strconv_Itoa (by simp only [go_sem]; exact WkL.refl _) rfl (fun hg => by simp only [go_sem]) rfl (by decide) ?_
  refine dstage_go tabOk (by simp only [go_sem]; rfl) (by first | trivial | (simp; done) | (simp [in64]; omega)) ?_
  exact dstage_nil
 case hk1_r0 => simp [keptOk, inStage, mapE, go_sem]
 case hv1_r0 => simp [mapE, go_sem]
 simp only [go_sem, mapE, thenQ, blockQ, jumpQ, stayQ]
 refine vwp_region ?_
 refine oG [] ?_
 refine vops_callH (hc := c_strings_Builder_WriteByte (s ++ Lib.itoa n) 58 (by simp; omega)) rfl rfl rfl b_strings_Builder_WriteByte [0, 1] [1] [1] rfl rfl rfl (by simp only [go_sem]; exact WkL.refl _) (by simp only [go_sem]) ?_
 rintro r1 H1 ⟨rfl, rfl⟩
 simp only [go_sem]
 refine vops_done [] ?_
 simp only [go_sem, thenQ, blockQ, jumpQ, stayQ]
 try simp only [thenQ, blockQ, jumpQ, stayQ]
 try simp only [thenQ, blockQ, jumpQ, stayQ, go_sem]
 refine ⟨by simp, _, _, rfl, by first | trivial | simp, ?_⟩
 exact ⟨by simp only [go_sem], by simp [bld, num, encB]⟩
theorem c_strings_Builder_WriteString0 (s x : Str) (hs : s.length + x.length ≤ 137438953472) : VCalls Go.Proofs.Tryz.prog G 176 [.ptr 0 0, .str x] (bld (.nilptr) s) [1] (fun r H => r = .tuple [.int .i64 (x.length : Int), .niliface] ∧ H = bld (.ptr 0 0) (s ++ x)) := by
 refine vcalls_of2 tabOk (rs := _) 2 Tryz.func176 rfl (by simp [Tryz.ntmps176]) rfl (by first | (simp; done) | exact Nat.le_refl _) ?_
 rw [Tryz.ntmps176]
 refine oR [0, 1] ?_
 refine vwp_seq (vwp_region ?_)
 refine oG [] ?_
 refine vops_callH (hc := c_strings_Builder_copyCheck (.nilptr) (.inl rfl) s) rfl rfl rfl b_strings_Builder_copyCheck [0, 1] [] [] rfl rfl rfl (by simp only [go_sem]; exact WkL.refl _) (by simp only [go_sem]) ?_
 rintro r0 H0 ⟨rfl, rfl⟩
 simp only [go_sem]
 refine vops_done [0, 1] ?_
 simp only [go_sem, thenQ, blockQ, jumpQ, stayQ]
 refine oR [1] ?_
 refine oR [4, 5] ?_
 refine vwp_ret ?_
 try simp only [thenQ, blockQ, jumpQ, stayQ, go_sem]
 refine ⟨by simp, _, _, rfl, by first | trivial | simp, ?_⟩
 exact ⟨by simp only [go_sem], by simp [bld]⟩
theorem c_named_writer_number0 (s : Str) (n : Int) (hn : in64 n) (hs : s.length ≤ 130000000000) : VCalls Go.Proofs.Tryz.prog G 145 [.ptr 0 0, .int .i64 n] (bld (.nilptr) s) [1] (fun r H => r = .tuple [] ∧ H = bld (.ptr 0 0) (s ++ num n)) := by
 have hl := Lib.itoa_length_le n hn.1 hn.2
 refine vcalls_of2 tabOk (rs := _) 2 Tryz.func145 rfl (by simp [Tryz.ntmps145]) rfl (by first | (simp; done) | exact Nat.le_refl _) ?_
 rw [Tryz.ntmps145]
 refine vwp_seq (vwp_drawE1 mixed (by kernel_rfl) 5 [0, 0, 0, 0, 0, 0] (by kernel_rfl) (f0 := ?f0_r0) (f1 := ?f1_r0) (H1 := ?H1_r0) (g1 := ?g1_r0) (v1 := ?v1_r0) (by simp only [go_sem]; rfl) ?hs0_r0 ?he1_r0 ?hg1_r0 ?hs1_r0 ?hk1_r0 ?hv1_r0 [0] rfl ?hq_r0)
 case hs0_r0 =>
  refine dstage_go tabOk (by simp only [go_sem]; rfl) (by first | trivial | (simp; done) | (simp [in64]; omega)) ?_
  refine dstage_call (hc := fun _ => c_Itoa n hn) rfl (by simp only [go_sem]; rfl) b_strconv_Itoa (by simp only [go_sem]; exact WkL.refl _) rfl (fun hg => by simp only [go_sem]) rfl (by decide) ?_
  refine dstage_go tabOk (by simp only [go_sem]; rfl) (by first | trivial | (simp; done) | (simp [in64]; omega)) ?_
  exact dstage_nil
 case he1_r0 =>
  refine effOk_callH (f := ?f) (vs := ?vs) (H' := ?Hn) (r := ?r) (args := ?args) (ats := ?ats) [0, 1] [1] [1] ?yc ?y0 ?yb ?y1 ?y2 ?y3 ?y4 ?y5
  case y0 => rfl
  case yc => exact c_strings_Builder_WriteString0 s (Lib.itoa n) (by omega)
  case yb => exact b_strings_Builder_WriteString
  case y1 => rfl
  case y2 => rfl
  case y3 => rfl
  case y4 => simp only [go_sem]; exact WkL.refl _
  case y5 => simp only [go_sem]
 case hg1_r0 => rfl
 case hs1_r0 =>
  refine dstage_go tabOk (by simp only [go_sem]; rfl) (by first | trivial | (simp; done) | (simp [in64]; omega)) ?_
  refine dstage_call (hc := fun _ => c_Itoa n hn) rfl (by simp only [go_sem]; rfl) b_strconv_Itoa (by simp only [go_sem]; exact WkL.refl _) rfl (fun hg => by simp only [go_sem]) rfl (by decide) ?_
  refine dstage_go tabOk (by simp only [go_sem]; rfl) (by first | trivial | (simp; done) | (simp [in64]; omega)) ?_
  exact dstage_nil
 case hk1_r0 => simp [keptOk, inStage, mapE, go_sem]
 case hv1_r0 => simp [mapE, go_sem]
 simp only [go_sem, mapE, thenQ, blockQ, jumpQ, stayQ]
 refine vwp_region ?_
 refine oG [] ?_
 refine vops_callH (hc := c_strings_Builder_WriteByte (s ++ Lib.itoa n) 58 (by simp; omega)) rfl rfl rfl b_strings_Builder_WriteByte [0, 1] [1] [1] rfl rfl rfl (by simp only [go_sem]; exact WkL.refl _) (by simp only [go_sem]) ?_
 rintro r1 H1 ⟨rfl, rfl⟩
 simp only [go_sem]
 refine vops_done [] ?_
 simp only [go_sem, thenQ, blockQ, jumpQ, stayQ]
 try simp only [thenQ, blockQ, jumpQ, stayQ]
 try simp only [thenQ, blockQ, jumpQ, stayQ, go_sem]
 refine ⟨by simp, _, _, rfl, by first | trivial | simp, ?_⟩
 exact ⟨by simp only [go_sem], by simp [bld, num, encB]⟩
theorem b_named_writer_texts : bodied Go.Proofs.Tryz.prog 143 = true := by rw [bodied, Tryz.func143]; rfl
set_option maxHeartbeats 4000000 in
theorem c_named_writer_texts (s : Str) (l : List Str) (hl : (txts l).length ≤ 1000000000) (hs : s.length ≤ 100000000000) : VCalls Go.Proofs.Tryz.prog G 143 [.ptr 0 0, .list 1 (l.map cS)] (bld (.ptr 0 0) s) [1] (fun r H => r = .tuple [] ∧ H = bld (.ptr 0 0) (s ++ txts l)) := by
 refine vcalls_know fun hk hK => ?_
 simp only [factsL, facts, maxB, List.length_map] at hk
 refine vcalls_of2 tabOk (rs := _) 2 Tryz.func143 rfl (by simp [Tryz.ntmps143]) rfl (by first | (simp; done) | exact Nat.le_refl _) ?_
 rw [Tryz.ntmps143]
 refine oR [0, 6, 7, 8] ?_
 refine vwp_block ?_
 refine vwp_loopW (fun i : Nat => [(0, .ptr 0 0), (6, .list 1 (l.map cS)), (7, .int .i64 (l.length : Int)), (8, .int .i64 (i : Int))]) (fun i => bld (.ptr 0 0) (s ++ txts (l.take i))) (fun i => i ≤ l.length) (fun i => l.length - i) 0 (Nat.zero_le _) (wC (wC (wC (wC (Env.wk_nil _))))) (by simp [txts, bld]) ?_
 rintro i hi
 refine oR [0, 6, 7, 8, 9] ?_
 refine vwp_seq ?_
 refine oB (fun h0 => ?_) fun h0 => ?_
 ·
  have h0' : i < l.length := by simp at h0; omega
  have ht := txts_take l (i) h0'
  have hle := txts_le l (i + 1)
  rw [ht, List.length_append] at hle
  have hgl : l.getD (i) [] = l[i] := getD_lt l _ [] h0'
  have hli : l[i].length ≤ (txt l[i]).length := txt_ge _
  have hlx : (txt l[i]).length = (num l[i].length).length + l[i].length := by rw [txt, List.length_append]
  rw [← hgl] at hle hli hlx
  refine vwp_skip ?_
  try simp only [thenQ, blockQ, jumpQ, stayQ]
  refine vwp_seq ?_
  refine vwp_block ?_
  refine oR [0, 5, 6, 7, 8] ?_
  refine vwp_seq (vwp_region ?_)
  refine oG [] ?_
  refine vops_callH (hc := c_named_writer_number (s ++ txts (l.take i)) ((l.getD i []).length : Int) (by unfold in64; omega) (by simp only [List.length_append]; omega)) rfl rfl rfl b_named_writer_number [0, 1] [1] [1] rfl rfl rfl (by simp only [go_sem]; exact WkL.refl _) (by simp only [go_sem]) ?_
  rintro r0 H0 ⟨rfl, rfl⟩
  simp only [go_sem]
  refine vops_done [0, 5, 6, 7, 8] ?_
  simp only [go_sem, thenQ, blockQ, jumpQ, stayQ]
  refine vwp_region ?_
  refine oG [] ?_
  refine vops_callH (hc := c_strings_Builder_WriteString ((s ++ txts (l.take i)) ++ num (l.getD i []).length) (l.getD i []) (by simp only [List.length_append]; omega)) rfl rfl rfl b_strings_Builder_WriteString [0, 1] [1] [1] rfl rfl rfl (by simp only [go_sem]; exact WkL.refl _) (by simp only [go_sem]) ?_
  rintro r1 H1 ⟨rfl, rfl⟩
  simp only [go_sem]
  refine vops_done [0, 6, 7, 8] ?_
  simp only [go_sem, thenQ, blockQ, jumpQ, stayQ]
  try simp only [thenQ, blockQ, jumpQ, stayQ]
  refine vwp_reg1 tabOk [] [0, 6, 7, 8] (by simp only [go_sem]; rfl) (by first | trivial | (simp; done) | (simp [in64]; omega)) ?_
  try simp only [thenQ, blockQ, jumpQ, stayQ]
  exact ⟨i + 1, by omega, by omega, Env.wk_cons (Wk.refl _) (Env.wk_cons (Wk.refl _) (Env.wk_cons (Wk.refl _) (Env.wk_cons (Wk.refl _) (Env.wk_nil _)))), by show _ = bld (.ptr 0 0) (s ++ txts (l.take (i + 1))); rw [txts_take l (i) h0', hgl, txt]; simp [bld]⟩
 ·
  refine vwp_exit ?_
  simp only [thenQ, blockQ, jumpQ, stayQ, if_true, reduceIte, Nat.reduceEqDiff]
  try simp only [thenQ, blockQ, jumpQ, stayQ, go_sem]
  refine ⟨by simp, _, _, rfl, by first | trivial | simp, ?_⟩
  have : i = l.length := by simp at h0; omega
  subst this; rw [List.take_length]; exact ⟨by simp only [go_sem], by simp [bld]⟩
set_option maxHeartbeats 4000000 in
theorem c_named_writer_texts0 (s : Str) (l : List Str) (h00 : l ≠ []) (hl : (txts l).length ≤ 1000000000) (hs : s.length ≤ 100000000000) : VCalls Go.Proofs.Tryz.prog G 143 [.ptr 0 0, .list 1 (l.map cS)] (bld .nilptr s) [1] (fun r H => r = .tuple [] ∧ H = bld (.ptr 0 0) (s ++ txts l)) := by
 refine vcalls_know fun hk hK => ?_
 simp only [factsL, facts, maxB, List.length_map] at hk
 have hl1 : 1 ≤ l.length := List.length_pos_iff.2 h00
 refine vcalls_of2 tabOk (rs := _) 2 Tryz.func143 rfl (by simp [Tryz.ntmps143]) rfl (by first | (simp; done) | exact Nat.le_refl _) ?_
 rw [Tryz.ntmps143]
 refine oR [0, 6, 7, 8] ?_
 refine vwp_block ?_
 refine vwp_loopW (fun i : Nat => [(0, .ptr 0 0), (6, .list 1 (l.map cS)), (7, .int .i64 (l.length : Int)), (8, .int .i64 (i : Int))]) (fun i => (match i with | 0 => bld .nilptr s | j + 1 => bld (.ptr 0 0) (s ++ txts (l.take (j + 1))))) (fun i => i ≤ l.length) (fun i => l.length - i) 0 (Nat.zero_le _) (wC (wC (wC (wC (Env.wk_nil _))))) (by simp [bld]) ?_
 rintro i hi
 rcases i with _ | i
 ·
  refine oR [0, 6, 7, 8, 9] ?_
  refine vwp_seq ?_
  refine oB (fun h0 => ?_) fun h0 => ?_
  ·
   have h0' : 0 < l.length := by simp at h0; omega
   have ht := txts_take l (0) h0'
   have hle := txts_le l (0 + 1)
   rw [ht, List.length_append] at hle
   have hgl : l.getD (0) [] = l[0] := getD_lt l _ [] h0'
   have hli : l[0].length ≤ (txt l[0]).length := txt_ge _
   have hlx : (txt l[0]).length = (num l[0].length).length + l[0].length := by rw [txt, List.length_append]
   rw [← hgl] at hle hli hlx
   refine vwp_skip ?_
   try simp only [thenQ, blockQ, jumpQ, stayQ]
   refine vwp_seq ?_
   refine vwp_block ?_
   refine oR [0, 5, 6, 7, 8] ?_
   refine vwp_seq (vwp_region ?_)
   refine oG [] ?_
   refine vops_callH (hc := c_named_writer_number0 s ((l.getD 0 []).length : Int) (by unfold in64; omega) (by first | omega | (simp only [List.length_append]; omega))) rfl rfl rfl b_named_writer_number [0, 1] [1] [1] rfl rfl rfl (by simp only [go_sem]; exact WkL.refl _) (by simp only [go_sem]) ?_
   rintro r0 H0 ⟨rfl, rfl⟩
   simp only [go_sem]
   refine vops_done [0, 5, 6, 7, 8] ?_
   simp only [go_sem, thenQ, blockQ, jumpQ, stayQ]
   refine vwp_region ?_
   refine oG [] ?_
   refine vops_callH (hc := c_strings_Builder_WriteString (s ++ num (l.getD 0 []).length) (l.getD 0 []) (by simp only [List.length_append]; omega)) rfl rfl rfl b_strings_Builder_WriteString [0, 1] [1] [1] rfl rfl rfl (by simp only [go_sem]; exact WkL.refl _) (by simp only [go_sem]) ?_
   rintro r1 H1 ⟨rfl, rfl⟩
   simp only [go_sem]
   refine vops_done [0, 6, 7, 8] ?_
   simp only [go_sem, thenQ, blockQ, jumpQ, stayQ]
   try simp only [thenQ, blockQ, jumpQ, stayQ]
   refine vwp_reg1 tabOk [] [0, 6, 7, 8] (by simp only [go_sem]; rfl) (by first | trivial | (simp; done) | (simp [in64]; omega)) ?_
   try simp only [thenQ, blockQ, jumpQ, stayQ]
   exact ⟨0 + 1, by omega, by omega, Env.wk_cons (Wk.refl _) (Env.wk_cons (Wk.refl _) (Env.wk_cons (Wk.refl _) (Env.wk_cons (Wk.refl _) (Env.wk_nil _)))), by show _ = bld (.ptr 0 0) (s ++ txts (l.take (0 + 1))); rw [txts_take l (0) h0', hgl, txt]; simp [bld, txts]⟩
  ·
   refine vwp_exit ?_
   simp only [thenQ, blockQ, jumpQ, stayQ, if_true, reduceIte, Nat.reduceEqDiff]
   try simp only [thenQ, blockQ, jumpQ, stayQ, go_sem]
   refine ⟨by simp, _, _, rfl, by first | trivial | simp, ?_⟩
   exact absurd h0 (by simp; omega)
 ·
  refine oR [0, 6, 7, 8, 9] ?_
  refine vwp_seq ?_
  refine oB (fun h1 => ?_) fun h1 => ?_
  ·
   have h0' : (i + 1) < l.length := by simp at h1; omega
   have ht := txts_take l ((i + 1)) h0'
   have hle := txts_le l ((i + 1) + 1)
   rw [ht, List.length_append] at hle
   have hgl : l.getD ((i + 1)) [] = l[(i + 1)] := getD_lt l _ [] h0'
   have hli : l[(i + 1)].length ≤ (txt l[(i + 1)]).length := txt_ge _
   have hlx : (txt l[(i + 1)]).length = (num l[(i + 1)].length).length + l[(i + 1)].length := by rw [txt, List.length_append]
   rw [← hgl] at hle hli hlx
   refine vwp_skip ?_
   try simp only [thenQ, blockQ, jumpQ, stayQ]
   refine vwp_seq ?_
   refine vwp_block ?_
   refine oR [0, 5, 6, 7, 8] ?_
   refine vwp_seq (vwp_region ?_)
   refine oG [] ?_
   refine vops_callH (hc := c_named_writer_number (s ++ txts (l.take (i + 1))) ((l.getD (i + 1) []).length : Int) (by unfold in64; omega) (by first | omega | (simp only [List.length_append]; omega))) rfl rfl rfl b_named_writer_number [0, 1] [1] [1] rfl rfl rfl (by simp only [go_sem]; exact WkL.refl _) (by simp only [go_sem]) ?_
   rintro r2 H2 ⟨rfl, rfl⟩
   simp only [go_sem]
   refine vops_done [0, 5, 6, 7, 8] ?_
   simp only [go_sem, thenQ, blockQ, jumpQ, stayQ]
   refine vwp_region ?_
   refine oG [] ?_
   refine vops_callH (hc := c_strings_Builder_WriteString ((s ++ txts (l.take (i + 1))) ++ num (l.getD (i + 1) []).length) (l.getD (i + 1) []) (by simp only [List.length_append]; omega)) rfl rfl rfl b_strings_Builder_WriteString [0, 1] [1] [1] rfl rfl rfl (by simp only [go_sem]; exact WkL.refl _) (by simp only [go_sem]) ?_
   rintro r3 H3 ⟨rfl, rfl⟩
   simp only [go_sem]
   refine vops_done [0, 6, 7, 8] ?_
   simp only [go_sem, thenQ, blockQ, jumpQ, stayQ]
   try simp only [thenQ, blockQ, jumpQ, stayQ]
   refine vwp_reg1 tabOk [] [0, 6, 7, 8] (by simp only [go_sem]; rfl) (by first | trivial | (simp; done) | (simp [in64]; omega)) ?_
   try simp only [thenQ, blockQ, jumpQ, stayQ]
   exact ⟨(i + 1) + 1, by omega, by omega, Env.wk_cons (Wk.refl _) (Env.wk_cons (Wk.refl _) (Env.wk_cons (Wk.refl _) (Env.wk_cons (Wk.refl _) (Env.wk_nil _)))), by show _ = bld (.ptr 0 0) (s ++ txts (l.take ((i + 1) + 1))); rw [txts_take l ((i + 1)) h0', hgl, txt]; simp [bld]⟩
  ·
   refine vwp_exit ?_
   simp only [thenQ, blockQ, jumpQ, stayQ, if_true, reduceIte, Nat.reduceEqDiff]
   try simp only [thenQ, blockQ, jumpQ, stayQ, go_sem]
   refine ⟨by simp, _, _, rfl, by first | trivial | simp, ?_⟩
   have : i + 1 = l.length := by simp at h1; omega
   rw [this, List.take_length]; exact ⟨by simp only [go_sem], by simp [bld]⟩
end Go.Proofs.YtnobnefabagbhaaGreatDoor.Q
end

section
/- Walks of the program's own writing and reading of patches (the package 'named'), in the logic 'Q'. -/
namespace Go.Proofs.YtnobnefabagbhaaGreatDoor.Q
open Go Go.Q
theorem vops_quiet1 {p : Par} {T : Tab} {env : Env} {H : List Q.Obj} {Q : Post} {ops : Array Oper} (hT : T.Ok p.P) {o : Oper} {rest : List Oper} {v : V} {O : Prop} (hg : vguard ops env o = some true) (hd : dstOk p.n o.dst = true) (hv : vop T H true env o.op = some (v, O)) (hO : O)
  (h : VOps p ops rest Q (putE o.dst (wrapg o true v) env) H) : VOps p ops (o :: rest) Q env H := by
 intro E F ρ a w st
 have hw := vguard_ok st hg
 simp only [wpList]
 rw [if_pos hw]
 left
 obtain ⟨mv, hr, hrel⟩ := vop_run hT st rfl hv hO
 simp only [Oper.wp, hr, Oper.upon_value]
 exact h E F ρ _ w (st.putO hd (wrapg_rel hrel))
theorem patchEnc_ne (x : Patch) : patchEnc x ≠ [] := by
 intro h
 have := congrArg List.length h
 rw [patchEnc, num] at this
 simp only [List.length_append, List.length_cons, List.length_nil] at this
 omega
theorem b_named_writer_list : bodied Go.Proofs.Tryz.prog 144 = true := by rw [bodied, Tryz.func144]; rfl
theorem c_named_writer_list (s : Str) (l : List Str) (hl : (lst l).length ≤ 1000000000) (hs : s.length ≤ 90000000000) : VCalls Go.Proofs.Tryz.prog G 144 [.ptr 0 0, .list 1 (l.map cS)] (bld (.ptr 0 0) s) [1] (fun r H => r = .tuple [] ∧ H = bld (.ptr 0 0) (s ++ lst l)) := by
 refine vcalls_know fun hk hK => ?_
 simp only [factsL, facts, maxB, List.length_map] at hk
 rw [lst, List.length_append] at hl
 refine vcalls_of2 tabOk (rs := _) 2 Tryz.func144 rfl (by simp [Tryz.ntmps144]) rfl (by first | (simp; done) | exact Nat.le_refl _) ?_
 rw [Tryz.ntmps144]
 refine vwp_seq (vwp_region ?_)
 refine oG [] ?_
 refine vops_callH (hc := c_named_writer_number s (l.length : Int) (by unfold in64; omega) (by omega)) rfl rfl rfl b_named_writer_number [0, 1] [1] [1] rfl rfl rfl (by simp only [go_sem]; exact WkL.refl _) (by simp only [go_sem]) ?_
 rintro r0 H0 ⟨rfl, rfl⟩
 simp only [go_sem]
 refine vops_done [0, 1] ?_
 simp only [go_sem, thenQ, blockQ, jumpQ, stayQ]
 refine vwp_region ?_
 refine oG [] ?_
 refine vops_callH (hc := c_named_writer_texts (s ++ num l.length) l (by omega) (by simp only [List.length_append]; omega)) rfl rfl rfl b_named_writer_texts [0, 1] [1] [1] rfl rfl rfl (by simp only [go_sem]; exact WkL.refl _) (by simp only [go_sem]) ?_
 rintro r1 H1 ⟨rfl, rfl⟩
 simp only [go_sem]
 refine vops_done [] ?_
 simp only [go_sem, thenQ, blockQ, jumpQ, stayQ]
 try simp only [thenQ, blockQ, jumpQ, stayQ]
 try simp only [thenQ, blockQ, jumpQ, stayQ, go_sem]
 refine ⟨by simp, _, _, rfl, by first | trivial | simp, ?_⟩
 exact ⟨by simp only [go_sem], by simp [bld, lst]⟩
theorem b_named_Put : bodied Go.Proofs.Tryz.prog 101 = true := by rw [bodied, Tryz.func101]; rfl
set_option maxHeartbeats 40000000 in
theorem c_named_Put (x : Patch) (h : (patchEnc x).length ≤ 1000000000) : VPure Go.Proofs.Tryz.prog G 101 [.agg (cPatch x)] (.tuple [.list 1 ((putPatch x).1.map encB), .int .i64 (putPatch x).2]) := by
 refine vpure_know fun hk => ?_
 simp only [factsL, facts, cPatch, maxB, List.length_map] at hk
 have hB := h
 rw [patchEnc, List.length_append, List.length_append, List.length_append] at hB
 have hn := txt_ge x.name
 refine vpure_of (ts := [2, 3]) Tryz.func101 rfl (by simp [Tryz.ntmps101]) rfl rfl ?_
 rw [Tryz.ntmps101]
 refine oR [1] ?_
 refine vwp_seq ?_
 refine vwp_seq (vwp_region ?_)
 refine oG [] ?_
 refine oC (fun _ => c_named_Right x) b_named_Right ?_
 simp only [go_sem]
 refine oG [] ?_
 refine vops_done [1, 9] ?_
 simp only [go_sem, thenQ, blockQ, jumpQ, stayQ]
 refine oB (fun h0 => ?_) fun h0 => ?_
 ·
  refine oR [2, 3] ?_
  refine vwp_ret ?_
  simp only [thenQ, blockQ, jumpQ, stayQ, RetQ, go_sem]
  refine ⟨by simp, ?_⟩
  rw [show putPatch x = ([], 1) from by rw [putPatch, if_neg (by simpa using h0)]]
  exact Wk.tuple ⟨Wk.nils _, Wk.refl _, trivial⟩
 ·
  refine vwp_skip ?_
  try simp only [thenQ, blockQ, jumpQ, stayQ]
  refine vwp_seq (vwp_region ?_)
  refine vops_quiet1 tabOk (by rfl) (by rfl) (by simp only [go_sem]; rfl) (by first | trivial | simp) ?_
  simp only [go_sem]
  refine vops_step1 (step_boxT (cs := [.nilptr, .nils]) rfl (by simp only [go_sem])) rfl (by rfl) ?_
  simp only [go_sem]
  refine oG [] ?_
  refine vops_done [1, 4] ?_
  simp only [go_sem, thenQ, blockQ, jumpQ, stayQ]
  refine vwp_ownCell 1 1 5 1 _ rfl rfl ?_
  simp only [go_sem]
  refine vwp_seq (vwp_region ?_)
  refine oG [] ?_
  refine vops_callH (hc := c_named_writer_texts0 [] [x.name] (by simp) (by simp [txts]; omega) (by simp)) rfl rfl rfl b_named_writer_texts [1, 2] [1] [2] rfl rfl rfl (by simp only [go_sem]; exact WkL.refl _) (by simp only [go_sem]) ?_
  rintro r1 H1 ⟨rfl, rfl⟩
  simp only [go_sem]
  refine vops_done [1, 4] ?_
  simp only [go_sem, thenQ, blockQ, jumpQ, stayQ]
  refine vwp_seq (vwp_region ?_)
  refine oG [] ?_
  refine vops_callH (hc := c_named_writer_list (txts [x.name]) x.deps (by omega) (by simp [txts]; omega)) rfl rfl rfl b_named_writer_list [1, 2] [1] [2] rfl rfl rfl (by simp only [go_sem]; exact WkL.refl _) (by simp only [go_sem]) ?_
  rintro r2 H2 ⟨rfl, rfl⟩
  simp only [go_sem]
  refine vops_done [1, 4] ?_
  simp only [go_sem, thenQ, blockQ, jumpQ, stayQ]
  refine vwp_seq (vwp_region ?_)
  refine oG [] ?_
  refine vops_callH (hc := c_named_writer_number (txts [x.name] ++ lst x.deps) x.body.length (by simp [in64]; omega) (by simp [txts]; omega)) rfl rfl rfl b_named_writer_number [1, 2] [1] [2] rfl rfl rfl (by simp only [go_sem]; exact WkL.refl _) (by simp only [go_sem]) ?_
  rintro r3 H3 ⟨rfl, rfl⟩
  simp only [go_sem]
  refine vops_done [1, 4] ?_
  simp only [go_sem, thenQ, blockQ, jumpQ, stayQ]
  refine vwp_seq ?_
  refine oR [4, 27, 28, 29] ?_
  refine vwp_block ?_
  refine vwp_loopW (fun i : Nat => [(4, .ptr 1 0), (27, .list 7 (x.body.map cPrim)), (28, .int .i64 (x.body.length : Int)), (29, .int .i64 (i : Int))]) (fun i => [.box (cPatch x), .box [.ptr 1 0, .arr 2 (txt x.name ++ lst x.deps ++ num x.body.length ++ prims (x.body.take i)).length] (some 150), .arr 5 1 ((txt x.name ++ lst x.deps ++ num x.body.length ++ prims (x.body.take i)).map encB)]) (fun i => i ≤ x.body.length) (fun i => x.body.length - i) 0 (Nat.zero_le _) (wC (wC (wC (wC (Env.wk_nil _))))) (by simp [prims, cPatch, txts]) ?_
  rintro i hi
  refine oR [4, 27, 28, 29, 30] ?_
  refine vwp_seq ?_
  refine oB (fun h1 => ?_) fun h1 => ?_
  ·
   have h1' : i < x.body.length := by simp at h1; omega
   have hb := primB_bounds (patchB_prim (by simpa using h0) i h1')
   have hle := prims_le x.body (i + 1)
   rw [prims_take x.body i h1', List.length_append] at hle
   have he : (primEnc x.body[i]).length = (primEnc x.body[i]).length := rfl
   conv at he => rhs; rw [primEnc]
   simp only [List.length_append] at he
   have g1 := txt_ge x.body[i].path
   have g2 := txt_ge x.body[i].to
   have g3 := txt_ge x.body[i].frm
   have g4 : (txts [x.body[i].path, x.body[i].to, x.body[i].frm]).length = (txt x.body[i].path).length + (txt x.body[i].to).length + (txt x.body[i].frm).length := by simp [txts, Nat.add_assoc]
   refine vwp_skip ?_
   try simp only [thenQ, blockQ, jumpQ, stayQ]
   refine vwp_seq ?_
   refine vwp_block ?_
   refine vwp_reg tabOk [] [4, 6, 27, 28, 29] (by simp only [go_sem, getD_map, h1']; rfl) (by first | trivial | (simp [h1']; done) | (simp [h1']; omega)) ?_
   refine vwp_seq (vwp_region ?_)
   refine oG [] ?_
   refine vops_callH (hc := c_named_writer_number (txt x.name ++ lst x.deps ++ num x.body.length ++ prims (x.body.take i)) x.body[i].kind hb.1 (by simp only [List.length_append]; omega)) rfl rfl rfl b_named_writer_number [1, 2] [1] [2] rfl rfl rfl (by simp only [go_sem]; exact WkL.refl _) (by simp only [go_sem]) ?_
   rintro r4 H4 ⟨rfl, rfl⟩
   simp only [go_sem]
   refine vops_done [4, 6, 27, 28, 29] ?_
   simp only [go_sem, thenQ, blockQ, jumpQ, stayQ]
   refine vwp_seq (vwp_region ?_)
   refine oG [] ?_
   refine vops_callH (hc := c_named_writer_texts ((txt x.name ++ lst x.deps ++ num x.body.length ++ prims (x.body.take i)) ++ num x.body[i].kind) [x.body[i].path, x.body[i].to, x.body[i].frm] (by simp [txts]; omega) (by simp only [List.length_append]; omega)) rfl rfl rfl b_named_writer_texts [1, 2] [1] [2] rfl rfl rfl (by simp only [go_sem]; exact WkL.refl _) (by simp only [go_sem]) ?_
   rintro r5 H5 ⟨rfl, rfl⟩
   simp only [go_sem]
   refine vops_done [4, 6, 27, 28, 29] ?_
   simp only [go_sem, thenQ, blockQ, jumpQ, stayQ]
   refine vwp_seq (vwp_region ?_)
   refine oG [] ?_
   refine vops_callH (hc := c_named_writer_number (((txt x.name ++ lst x.deps ++ num x.body.length ++ prims (x.body.take i)) ++ num x.body[i].kind) ++ txts [x.body[i].path, x.body[i].to, x.body[i].frm]) x.body[i].at_ hb.2 (by simp only [List.length_append]; omega)) rfl rfl rfl b_named_writer_number [1, 2] [1] [2] rfl rfl rfl (by simp only [go_sem]; exact WkL.refl _) (by simp only [go_sem]) ?_
   rintro r6 H6 ⟨rfl, rfl⟩
   simp only [go_sem]
   refine vops_done [4, 6, 27, 28, 29] ?_
   simp only [go_sem, thenQ, blockQ, jumpQ, stayQ]
   refine vwp_seq (vwp_region ?_)
   refine oG [] ?_
   refine vops_callH (hc := c_named_writer_list ((((txt x.name ++ lst x.deps ++ num x.body.length ++ prims (x.body.take i)) ++ num x.body[i].kind) ++ txts [x.body[i].path, x.body[i].to, x.body[i].frm]) ++ num x.body[i].at_) x.body[i].old (by omega) (by simp only [List.length_append]; omega)) rfl rfl rfl b_named_writer_list [1, 2] [1] [2] rfl rfl rfl (by simp only [go_sem]; exact WkL.refl _) (by simp only [go_sem]) ?_
   rintro r7 H7 ⟨rfl, rfl⟩
   simp only [go_sem]
   refine vops_done [4, 6, 27, 28, 29] ?_
   simp only [go_sem, thenQ, blockQ, jumpQ, stayQ]
   refine vwp_region ?_
   refine oG [] ?_
   refine vops_callH (hc := c_named_writer_list (((((txt x.name ++ lst x.deps ++ num x.body.length ++ prims (x.body.take i)) ++ num x.body[i].kind) ++ txts [x.body[i].path, x.body[i].to, x.body[i].frm]) ++ num x.body[i].at_) ++ lst x.body[i].old) x.body[i].new (by omega) (by simp only [List.length_append]; omega)) rfl rfl rfl b_named_writer_list [1, 2] [1] [2] rfl rfl rfl (by simp only [go_sem]; exact WkL.refl _) (by simp only [go_sem]) ?_
   rintro r8 H8 ⟨rfl, rfl⟩
   simp only [go_sem]
   refine vops_done [4, 27, 28, 29] ?_
   simp only [go_sem, thenQ, blockQ, jumpQ, stayQ]
   try simp only [thenQ, blockQ, jumpQ, stayQ]
   refine vwp_trim 3 (by simp) (by simp) ?_
   simp only [go_sem]
   refine vwp_reg1 tabOk [] [4, 27, 28, 29] (by simp only [go_sem]; rfl) (by first | trivial | (simp; done) | (simp [in64]; omega)) ?_
   try simp only [thenQ, blockQ, jumpQ, stayQ]
   exact ⟨i + 1, by omega, by omega, Env.wk_cons (Wk.refl _) (Env.wk_cons (Wk.refl _) (Env.wk_cons (Wk.refl _) (Env.wk_cons (Wk.refl _) (Env.wk_nil _)))), by rw [prims_take x.body i h1', primEnc]; simp [cPatch, txts]⟩
  ·
   refine vwp_exit ?_
   simp only [thenQ, blockQ, jumpQ, stayQ, if_true, reduceIte, Nat.reduceEqDiff]
   have e1 : i = x.body.length := by simp at h1; omega
   rw [show (txt x.name ++ lst x.deps ++ num x.body.length ++ prims (x.body.take i)) = patchEnc x from by rw [e1, List.take_length, patchEnc]]
   refine vwp_seq (vwp_region ?_)
   refine oG [] ?_
   refine vops_callH (hc := c_strings_Builder_String (.ptr 0 0) (patchEnc x) (patchEnc_ne x) (by unfold maxB; omega)) rfl rfl rfl b_strings_Builder_String [1, 2] [] [2] rfl rfl rfl (by simp only [go_sem]; exact WkL.refl _) (by simp only [go_sem]) ?_
   rintro r9 H9 ⟨rfl, rfl⟩
   simp only [go_sem]
   refine oG [] ?_
   refine vops_done [2, 3] ?_
   simp only [go_sem, thenQ, blockQ, jumpQ, stayQ]
   refine vwp_ret ?_
   simp only [thenQ, blockQ, jumpQ, stayQ, RetQ, go_sem]
   refine ⟨by simp, ?_⟩
   rw [show putPatch x = (patchEnc x, 0) from by rw [putPatch, if_pos (by simpa using h0)]]
   exact Wk.refl _
end Go.Proofs.YtnobnefabagbhaaGreatDoor.Q
end

section
/- Walks of the program's own reading of patches (the package 'named'), in the logic 'Q'. -/
namespace Go.Proofs.YtnobnefabagbhaaGreatDoor.Q
open Go Go.Q
end Go.Proofs.YtnobnefabagbhaaGreatDoor.Q
end

section
/- Walks of the closure's map of patches, and of the sorting by names, in the logic 'Q'. -/
namespace Go.Proofs.YtnobnefabagbhaaGreatDoor.Q
open Go Go.Q
theorem relM_len {F : Nat → Prop} {w : World} : ∀ {es : MapV} {ms : List MapEntry}, RelM F w es ms → ms.length = es.length
 | [], ms, h => by simp only [RelM] at h; subst h; rfl
 | (k, v) :: r, ms, h => by
  simp only [RelM] at h
  obtain ⟨m, t, rfl, _, _, h2⟩ := h
  simp [relM_len h2]
theorem step_lenMap {p : Par} {env : Env} {H : List Q.Obj} {o : Oper} {t k e : TypeId} {x : Operand} {i : Nat} {es : MapV} (ho : o.op = .call { callee := .builtin .len, args := #[x], argTypes := #[t] }) (ht : mapTyB p.P t k e = true) (hx : ev env x = .map i) (hi : H[i]? = some (.map es)) :
  OpStep p o env H fun v env' H' => v = .int .i64 (es.length : Int) ∧ env' = env ∧ H' = H := by
 obtain ⟨ht1, ht2⟩ := mapTyB_ok ht
 intro E F ρ a w st
 have hrx := st.ev x
 rw [hx] at hrx
 simp only [Rel] at hrx
 obtain ⟨r, hρ, hme⟩ := hrx
 obtain ⟨r', ms, clk, hh, hheap, hrel, hpw, hlt⟩ := st.sim.obj i _ _ hi hρ
 injection hh with hh; injection hh with hh; subst hh
 refine ⟨_, w, F, ρ, _, _, _, ?_, ⟨rfl, rfl, rfl⟩, st, .inl ⟨.int .i64 es.length, rfl, by simp [Rel]⟩⟩
 have := relM_len hrel
 simp only [execOp, ho, resolve, Sem.run_bind, Sem.run_pure, Result.andThen_ok]
 simp [invoke, builtin, Builtin.len_, run_underlying ht1, runQ_getMap hheap, goInt, hme, ← this]
theorem b_closure_of : bodied Go.Proofs.Tryz.prog 46 = true := by rw [bodied, Tryz.func46]; rfl
set_option maxHeartbeats 4000000 in
theorem c_closure_of_s (l : List Patch) : VCalls Go.Proofs.Tryz.prog G 46 [.list 3 (l.map cPatch)] [] [] (fun r H => ∃ m es, r = .tuple [m, .bool (ofB l)] ∧ H = [.map es] ∧ (m = bif l.all patchB then .map 0 else .nilmap) ∧ (ofB l = true → m = .map 0 ∧ es = mapOf l)) := by
 refine vcalls_know fun hk hK => ?_
 simp only [factsL, facts, maxB, List.length_map] at hk
 refine vcalls_of2 tabOk (rs := _) 1 Tryz.func46 rfl (by simp [Tryz.ntmps46]) rfl (by first | (simp; done) | exact Nat.le_refl _) ?_
 rw [Tryz.ntmps46]
 refine oR [0] ?_
 refine vwp_seq (vwp_region ?_)
 refine vops_step1 (step_makeMap (r := none) rfl) rfl rfl ?_
 simp only [go_sem]
 refine oG [] ?_
 refine vops_done [0, 4] ?_
 simp only [go_sem, thenQ, blockQ, jumpQ, stayQ]
 refine vwp_seq ?_
 refine oR [0, 4, 8, 9, 10] ?_
 refine vwp_block ?_
 refine vwp_loopW (fun i : Nat => [(0, .list 3 (l.map cPatch)), (4, .map 0), (8, .list 3 (l.map cPatch)), (9, .int .i64 (l.length : Int)), (10, .int .i64 (i : Int))]) (fun i => [.map (setAll [] (l.take i))]) (fun i => i ≤ l.length ∧ (l.take i).all patchB = true) (fun i => l.length - i) 0 ⟨Nat.zero_le _, by rfl⟩ (wC (wC (wC (wC (wC (Env.wk_nil _)))))) (by simp [setAll]) ?_
 rintro i ⟨hi, hok⟩
 refine oR [0, 4, 8, 9, 10, 11] ?_
 refine vwp_seq ?_
 refine oB (fun h0 => ?_) fun h0 => ?_
 ·
  have h0' : i < l.length := by simp at h0; omega
  refine vwp_skip ?_
  try simp only [thenQ, blockQ, jumpQ, stayQ]
  refine vwp_seq ?_
  refine vwp_block ?_
  refine vwp_reg tabOk [] [0, 4, 6, 8, 9, 10] (by simp only [go_sem, getD_map, h0']; rfl) (by first | trivial | (simp; done) | (simp [in64]; omega)) ?_
  refine vwp_seq ?_
  refine vwp_seq (vwp_region ?_)
  refine oG [] ?_
  refine oC (fun _ => c_named_Right l[i]) b_named_Right ?_
  simp only [go_sem]
  refine oG [] ?_
  refine vops_done [0, 4, 6, 8, 9, 10, 16] ?_
  simp only [go_sem, thenQ, blockQ, jumpQ, stayQ]
  refine oB (fun h1 => ?_) fun h1 => ?_
  ·
   refine oR [2, 3] ?_
   refine vwp_ret ?_
   try simp only [thenQ, blockQ, jumpQ, stayQ, go_sem]
   refine ⟨by simp, _, _, rfl, by first | trivial | simp, ?_⟩
   have hall : l.all patchB = false := by
    rw [List.all_eq_false]; exact ⟨l[i], List.getElem_mem h0', by simpa using h1⟩
   have hno : ofB l = false := by
    rw [ofB, hall]; rfl
   exact ⟨.nilmap, _, by rw [hno]; simp only [go_sem], rfl, by rw [hall]; rfl, by rw [hno]; intro h; exact absurd h (by decide)⟩
  ·
   refine vwp_skip ?_
   try simp only [thenQ, blockQ, jumpQ, stayQ]
   refine vwp_region ?_
   refine oG [] ?_
   refine vops_step1 (step_mapUpdate (t := 70) (k := 9) (e := 45) (i := 0) (s := l[i].name) rfl (by kernel_rfl) (by simp only [go_sem]) rfl (by simp only [go_sem]) (by simp only [go_sem])) rfl rfl ?_
   simp only [go_sem]
   refine vops_done [0, 4, 8, 9, 10] ?_
   simp only [go_sem, thenQ, blockQ, jumpQ, stayQ]
   try simp only [thenQ, blockQ, jumpQ, stayQ]
   refine vwp_trim 1 (by simp) (by simp) ?_
   simp only [go_sem]
   refine vwp_reg1 tabOk [] [0, 4, 8, 9, 10] (by simp only [go_sem]; rfl) (by first | trivial | (simp; done) | (simp [in64]; omega)) ?_
   try simp only [thenQ, blockQ, jumpQ, stayQ]
   exact ⟨i + 1, ⟨by omega, by rw [take_all patchB l i h0', hok]; simpa using h1⟩, by omega, (wC (wC (wC (wC (wC (Env.wk_nil _)))))), by rw [setAll_take _ l i h0']; rfl⟩
 ·
  refine vwp_exit ?_
  simp only [thenQ, blockQ, jumpQ, stayQ, if_true, reduceIte, Nat.reduceEqDiff]
  refine vwp_seq (vwp_region ?_)
  refine oG [] ?_
  refine vops_step1 (step_lenMap (t := 70) (k := 9) (e := 45) (i := 0) rfl (by kernel_rfl) (by simp only [go_sem]) rfl) rfl rfl ?_
  simp only [go_sem]
  refine oG [] ?_
  refine vops_done [2, 3] ?_
  simp only [go_sem, thenQ, blockQ, jumpQ, stayQ]
  refine vwp_ret ?_
  try simp only [thenQ, blockQ, jumpQ, stayQ, go_sem]
  refine ⟨by simp, _, _, rfl, by first | trivial | simp, ?_⟩
  have hi2 : i = l.length := by simp at h0; omega
  subst hi2
  rw [List.take_length] at hok ⊢
  refine ⟨.map 0, _, ?_, rfl, by rw [hok]; rfl, fun _ => ⟨rfl, rfl⟩⟩
  have e1 : decide (((setAll [] l).length : Int) = (l.length : Int)) = decide ((mapOf l).length = l.length) := by simp only [mapOf]; exact decide_eq_decide.2 (by omega)
  have e2 : decide ((l.length : Int) ≤ 256) = decide (l.length ≤ 256) := decide_eq_decide.2 (by omega)
  simp only [go_sem, e1, e2]
  rw [ofB, hok, Bool.true_and]; cases decide ((mapOf l).length = l.length) <;> rfl
theorem vcalls_imp {P : Program} {G : Glob} {f : FuncId} {args : List V} {H0 : List Go.Q.Obj} {M : List Nat} {post post' : V → List Go.Q.Obj → Prop} (h : VCalls P G f args H0 M post) (hw : ∀ r H, post r H → post' r H) : VCalls P G f args H0 M post' := by
 intro F ρ w ms sim hr hG
 refine (h F ρ w ms sim hr hG).mono ?_
 rintro e w' ⟨F', ρ', H', r, mr, rfl, hp, hrel, sim', ev⟩
 exact ⟨F', ρ', H', r, mr, rfl, hw _ _ hp, hrel, sim', ev⟩
theorem c_closure_of (l : List Patch) : VCalls Go.Proofs.Tryz.prog G 46 [.list 3 (l.map cPatch)] [] [] (fun r H => ∃ m es, r = .tuple [m, .bool (ofB l)] ∧ H = [.map es] ∧ (ofB l = true → m = .map 0 ∧ es = mapOf l)) :=
 vcalls_imp (c_closure_of_s l) fun _ _ ⟨m, es, h1, h2, _, h3⟩ => ⟨m, es, h1, h2, h3⟩
end Go.Proofs.YtnobnefabagbhaaGreatDoor.Q
end

section
/- Walks of the package 'codec': its reader, in the logic 'Q'. -/
namespace Go.Proofs.YtnobnefabagbhaaGreatDoor.Q
open Go Go.Q Go.Proofs Go.Shelf
end Go.Proofs.YtnobnefabagbhaaGreatDoor.Q
end

section
/- Plain laws of the program's bundles. -/
namespace Go.Proofs.YtnobnefabagbhaaGreatDoor.Q
open Go Go.Q
def txtP (l : List Patch) : Str := (l.map fun p => txt (putPatch p).1).flatten
theorem txtP_take (l : List Patch) (i : Nat) (h : i < l.length) : txtP (l.take (i + 1)) = txtP (l.take i) ++ txt (putPatch l[i]).1 := by
 rw [txtP, txtP, List.take_succ_eq_append_getElem h, List.map_append, List.flatten_append]; simp
theorem txtP_len (l : List Patch) (k : Nat) (hk : k ≤ 1000000000) (h : ∀ p ∈ l, (patchEnc p).length ≤ k) : (txtP l).length ≤ l.length * (k + 22) := by
 induction l with
 | nil => simp [txtP]
 | cons p r ih =>
  have h1 := putPatch_len (h p (by simp))
  have h2 := txt_len (putPatch p).1 (by omega)
  have h3 := ih fun q hq => h q (by simp [hq])
  have : txtP (p :: r) = txt (putPatch p).1 ++ txtP r := by simp [txtP]
  rw [this, List.length_append, List.length_cons, Nat.add_mul, Nat.one_mul]; omega
def bunF (l : List Patch) : Str := num (sortP l).1.length ++ txtP (sortP l).1
def bunC (s : Str) (l : List Patch) : Str × Int := if (sortP l).2 ≠ 0 then ([], 1) else if 32768 < (s ++ bunF l).length then ([], 2) else (s ++ bunF l, 0)
def bunH (s : Str) (l : List Patch) : Str := if (sortP l).2 ≠ 0 then s else s ++ bunF l
theorem bunC_err {s : Str} {l : List Patch} (h : (bunC s l).2 ≠ 0) : (bunC s l).1 = [] := by
 unfold bunC at h ⊢
 split
 ·rfl
 ·rename_i h1
  rw [if_neg h1] at h
  split
  ·rfl
  ·rename_i h2; rw [if_neg h2] at h; exact absurd rfl h
theorem bunC_ok {s : Str} {l : List Patch} (h : (bunC s l).2 = 0) : (sortP l).2 = 0 ∧ (s ++ bunF l).length ≤ 32768 ∧ bunC s l = (s ++ bunF l, 0) := by
 unfold bunC at h ⊢
 split at h
 ·exact absurd h (by decide)
 ·rename_i h1
  split at h
  ·exact absurd h (by decide)
  ·rename_i h2
   rw [if_neg h1, if_neg h2]
   exact ⟨by simpa using h1, by omega, rfl⟩
theorem bunGo_full : ∀ (l : List Patch) (out : Str), (out ++ txtP l).length ≤ 32768 → bunGo out l = out ++ txtP l
 | [], out, _ => by simp [bunGo, txtP]
 | p :: r, out, h => by
  have e : txtP (p :: r) = txt (putPatch p).1 ++ txtP r := by simp [txtP]
  rw [e] at h ⊢
  rw [bunGo, if_pos (by simp only [List.length_append] at h; omega), bunGo_full r _ (by rw [List.append_assoc]; exact h), List.append_assoc]
theorem bunGo_big : ∀ (l : List Patch) (out : Str), 32768 < (out ++ txtP l).length → 32768 < (bunGo out l).length
 | [], out, h => by simpa [bunGo, txtP] using h
 | p :: r, out, h => by
  have e : txtP (p :: r) = txt (putPatch p).1 ++ txtP r := by simp [txtP]
  rw [e] at h
  rw [bunGo]
  split
  ·exact bunGo_big r _ (by rw [List.append_assoc]; exact h)
  ·omega
theorem bunR_ok {l : List Patch} (e : sortedP l = some (sortP l).1) : bunR l = (bunGo (num (sortP l).1.length) (sortP l).1, 0) := by rw [bunR, e]
theorem bunGo_F {l : List Patch} (h : (bunF l).length ≤ 32768) : bunGo (num (sortP l).1.length) (sortP l).1 = bunF l := bunGo_full _ _ h
theorem bunGo_G {l : List Patch} (h : 32768 < (bunF l).length) : 32768 < (bunGo (num (sortP l).1.length) (sortP l).1).length := bunGo_big _ _ h
def headC (x : Msg) : Str := num x.kind ++ lst x.names ++ lst x.have_ ++ num x.err
theorem putMsg_C (x : Msg) : putMsgR x = if rightC x then bunC (headC x) x.patches else ([], 1) := by
 unfold putMsgR
 rw [rightM_C]
 cases hr : rightC x with
 | false => simp
 | true =>
  simp only [Bool.true_and, decide_eq_true_eq, if_true]
  rcases sortP_err (l := x.patches) with ⟨e1, e2⟩ | ⟨e1, e2, e3⟩
  ·have hm : msgR x = headC x ++ bunGo (num (sortP x.patches).1.length) (sortP x.patches).1 := by rw [msgR, bunR_ok e2]; rfl
   unfold bunC
   rw [if_pos e1, if_neg (c := (sortP x.patches).2 ≠ 0) (fun h => h e1), hm]
   by_cases h : 32768 < (headC x ++ bunF x.patches).length
   ·rw [if_pos h]
    by_cases h2 : 32768 < (bunF x.patches).length
    ·have := bunGo_G h2
     rw [if_pos (show 32768 < (headC x ++ bunGo (num (sortP x.patches).1.length) (sortP x.patches).1).length from by rw [List.length_append]; omega)]
    ·rw [bunGo_F (by omega), if_pos h]
   ·have h2 : (bunF x.patches).length ≤ 32768 := by rw [List.length_append] at h; omega
    rw [bunGo_F h2]
  ·rw [if_neg (by rw [e1]; decide)]
   unfold bunC
   rw [if_pos (by rw [e1]; decide)]
theorem rightC_bounds {x : Msg} (h : rightC x = true) : (1 ≤ x.kind ∧ x.kind ≤ 3) ∧ 0 ≤ x.err ∧ x.err ≤ 1000 := by
 simp only [rightC, Bool.and_eq_true, Bool.not_eq_true'] at h
 obtain ⟨ha, hb, he⟩ := h
 constructor
 ·unfold rmA at ha
  by_cases h1 : x.kind < 1
  ·simp [h1] at ha
  ·by_cases h2 : 3 < x.kind
   ·simp [h1, h2] at ha
   ·omega
 ·unfold errC at he
  by_cases h1 : x.kind = 3
  ·simp [h1] at he; omega
  ·simp [h1] at he; omega
end Go.Proofs.YtnobnefabagbhaaGreatDoor.Q
end

section
/- Plain laws: how long what the package 'codec' reads is, and its answers. -/
namespace Go.Proofs.YtnobnefabagbhaaGreatDoor.Q
open Go Go.Q
end Go.Proofs.YtnobnefabagbhaaGreatDoor.Q
end

section
/-
 DERIVED: THE SHELF's CONTRACTS AT THIS DUMP, IN PLAIN WORDS (tools/lay-plain.mjs out of 'TryzMini.lean', which tools/lay-shelf.mjs wrote): THE SAME DECLARATIONS UNDER THE SAME NAMES: 'import', 'namespace', 'open', 'def', 'theorem' AND NOTHING ELSE: no command of the shelf's: FOR A HAND-IN. Each laying: the table of numbers ('.._ren') and one theorem, a field a fact of the dump's own or the kernel's comparison; each contract: ONE APPLICATION.
-/
namespace Go.Proofs
open Go.Shelf
def Tryz.sortPatchL_ren : Go.Shelf.Ren := ⟨fun | 6 => 94 | 15 => 99 | 14 => 126 | 28 => 137 | 29 => 138 | 20 => 159 | 21 => 160 | 22 => 161 | 23 => 162 | 24 => 163 | 25 => 164 | 26 => 165 | 27 => 166 | 46 => 190 | 47 => 168 | 48 => 169 | 49 => 191 | 50 => 192 | 57 => 203 | n => n, fun | 22 => 22 | 24 => 45 | 25 => 88 | 3 => 3 | 39 => 118 | 0 => 0 | 53 => 142 | 55 => 144 | 4 => 4 | 46 => 134 | 45 => 133 | 50 => 139 | 5 => 5 | 9 => 9 | 66 => 161 | 70 => 165 | 76 => 182 | 77 => 183 | n => n, fun | n => n⟩
theorem Tryz.sortPatchL : Go.Proofs.SlLaysF0.n6 Tryz.prog Tryz.sortPatchL_ren := {
 mixed := by kernel_rfl
 f6 := ⟨Tryz.f94.name, by decide, Tryz.func94.trans (congrArg some (by kernel_rfl))⟩
 f14 := ⟨Tryz.f126.name, by decide, Tryz.func126.trans (congrArg some (by kernel_rfl))⟩
 f15 := Tryz.func99.trans (congrArg some (by kernel_rfl))
 f20 := ⟨Tryz.f159.name, by decide, Tryz.func159.trans (congrArg some (by kernel_rfl))⟩
 f21 := ⟨Tryz.f160.name, by decide, Tryz.func160.trans (congrArg some (by kernel_rfl))⟩
 f22 := ⟨Tryz.f161.name, by decide, Tryz.func161.trans (congrArg some (by kernel_rfl))⟩
 f23 := ⟨Tryz.f162.name, by decide, Tryz.func162.trans (congrArg some (by kernel_rfl))⟩
 f24 := ⟨Tryz.f163.name, by decide, Tryz.func163.trans (congrArg some (by kernel_rfl))⟩
 f25 := ⟨Tryz.f164.name, by decide, Tryz.func164.trans (congrArg some (by kernel_rfl))⟩
 f26 := ⟨Tryz.f165.name, by decide, Tryz.func165.trans (congrArg some (by kernel_rfl))⟩
 f27 := ⟨Tryz.f166.name, by decide, Tryz.func166.trans (congrArg some (by kernel_rfl))⟩
 f28 := Tryz.func137.trans (congrArg some (by kernel_rfl))
 f29 := Tryz.func138.trans (congrArg some (by kernel_rfl))
 f46 := ⟨Tryz.f190.name, by decide, Tryz.func190.trans (congrArg some (by kernel_rfl))⟩
 f47 := Tryz.func168.trans (congrArg some (by kernel_rfl))
 f48 := Tryz.func169.trans (congrArg some (by kernel_rfl))
 f49 := ⟨Tryz.f191.name, by decide, Tryz.func191.trans (congrArg some (by kernel_rfl))⟩
 f50 := ⟨Tryz.f192.name, by decide, Tryz.func192.trans (congrArg some (by kernel_rfl))⟩
 f57 := ⟨Tryz.f203.name, by decide, Tryz.func203.trans (congrArg some (by kernel_rfl))⟩
 t0 := Tryz.underlying0
 a0 := Tryz.isAgg0
 z0 := Tryz.sizeOf0
 v0 := Tryz.zeroValue0
 t3 := Tryz.underlying3
 a3 := Tryz.isAgg3
 z3 := Tryz.sizeOf3
 v3 := Tryz.zeroValue3
 t4 := Tryz.underlying4
 a4 := Tryz.isAgg4
 z4 := Tryz.sizeOf4
 v4 := Tryz.zeroValue4
 t5 := Tryz.underlying5
 a5 := Tryz.isAgg5
 z5 := Tryz.sizeOf5
 v5 := Tryz.zeroValue5
 t9 := Tryz.underlying9
 a9 := Tryz.isAgg9
 z9 := Tryz.sizeOf9
 v9 := Tryz.zeroValue9
 t22 := Tryz.underlying22
 a22 := Tryz.isAgg22
 z22 := Tryz.sizeOf22
 v22 := Tryz.zeroValue22
 t25 := Tryz.underlying88
 a25 := Tryz.isAgg88
 z25 := Tryz.sizeOf88
 v25 := Tryz.zeroValue88
 t39 := Tryz.underlying118
 a39 := Tryz.isAgg118
 z39 := Tryz.sizeOf118
 v39 := Tryz.zeroValue118
 t45 := Tryz.underlying133
 a45 := Tryz.isAgg133
 z45 := Tryz.sizeOf133
 v45 := Tryz.zeroValue133
 t46 := Tryz.underlying134
 a46 := Tryz.isAgg134
 z46 := Tryz.sizeOf134
 v46 := Tryz.zeroValue134
 t50 := Tryz.underlying139
 a50 := Tryz.isAgg139
 z50 := Tryz.sizeOf139
 v50 := Tryz.zeroValue139
 t53 := Tryz.underlying142
 a53 := Tryz.isAgg142
 z53 := Tryz.sizeOf142
 v53 := Tryz.zeroValue142
 t55 := Tryz.underlying144
 a55 := Tryz.isAgg144
 z55 := Tryz.sizeOf144
 v55 := Tryz.zeroValue144
 t66 := Tryz.underlying161
 a66 := Tryz.isAgg161
 z66 := Tryz.sizeOf161
 v66 := Tryz.zeroValue161
 t70 := Tryz.underlying165
 a70 := Tryz.isAgg165
 z70 := Tryz.sizeOf165
 v70 := Tryz.zeroValue165
 t76 := Tryz.underlying182
 a76 := Tryz.isAgg182
 z76 := Tryz.sizeOf182
 v76 := Tryz.zeroValue182
 t77 := Tryz.underlying183
 a77 := Tryz.isAgg183
 z77 := Tryz.sizeOf183
 v77 := Tryz.zeroValue183 }
end Go.Proofs
end

section
/- The sorting of patches by names: the kit's law of slices.SortFunc, laid and read. -/
namespace Go.Proofs
open Go.Shelf Go.RowKit Go.Lib Go.Sort
set_option maxHeartbeats 1000000 in
theorem Tryz.closure_sorted (s t : List UInt8) (u1 u2 v1 v2 : Value) (W : World) : Calls Tryz.prog 62 #[.agg #[.string ⟨s.toArray⟩, u1, u2], .agg #[.string ⟨t.toArray⟩, v1, v2]] W fun e w' => e = .returned (.int .i64 (Lib.compareBytes s t)) ∧ ∃ q os', w' = grow (W.drewN q) os' := by
 have hcon := fun W' => Tryz.strings_Compare ⟨s.toArray⟩ ⟨t.toArray⟩ W'
 have mixed : Go.Proofs.Tryz.prog.follows .mixedOrders = true := by kernel_rfl
 go_enter Tryz.func62, Tryz.ntmps62
 go_wp2_with (go_at_call 63; refine (hcon _).mono ?_; rintro e w' ⟨rfl, rfl⟩)
 go_ret
 exact ⟨rfl, 0, _, by rw [alloc_eq_grow, alloc_eq_grow, grow_grow]; rfl⟩
end Go.Proofs
namespace Go.Proofs.YtnobnefabagbhaaGreatDoor.Q
open Go Go.Q Go.Sort Go.Proofs
open Go.Lib (compareBytes)
structure SElt where
 p : Patch
 u : Value
 v : Value
 hu : u.oneCell' = true
 hv : v.oneCell' = true
instance : Inhabited SElt := ⟨⟨⟨[], [], []⟩, .bool true, .bool true, rfl, rfl⟩⟩
def encS (x : SElt) : List Value := [.string ⟨x.p.name.toArray⟩, x.u, x.v]
def cfS (x y : SElt) : Int := compareBytes x.p.name y.p.name
theorem encS_len (x : SElt) : (encS x).length = 3 := rfl
theorem encS_one (x : SElt) : ∀ v ∈ encS x, v.oneCell' = true := by
 intro v hv
 simp only [encS, List.mem_cons, List.not_mem_nil, or_false] at hv
 rcases hv with rfl | rfl | rfl
 ·rfl
 ·exact x.hu
 ·exact x.hv
theorem elts {F : Nat → Prop} {w : World} : ∀ {l : List Patch} {us : List Value}, RelLL F w 3 (l.map cPatch) us → ∃ d : List SElt, d.map (·.p) = l ∧ us = (d.map encS).flatten ∧ ∀ x ∈ d, RelL F [] w (cPatch x.p) (encS x)
 | [], us, h => by simp only [List.map_nil, RelLL] at h; subst h; exact ⟨[], rfl, rfl, by simp⟩
 | p :: r, us, h => by
  simp only [List.map_cons, RelLL] at h
  obtain ⟨c, t, rfl, _, h3, h4, h5⟩ := h
  obtain ⟨d, rfl, rfl, h6⟩ := elts h5
  have h3' := h3
  simp only [cPatch, RelL] at h3
  obtain ⟨u0, _, rfl, hu0, u1, _, rfl, _, u2, _, rfl, _, rfl⟩ := h3
  have hs := hu0
  simp only [Rel] at hs
  obtain ⟨rfl, _⟩ := hs
  refine ⟨⟨p, u1, u2, h4 _ (by simp), h4 _ (by simp)⟩ :: d, rfl, by simp [encS], fun x hx => ?_⟩
  rcases List.mem_cons.1 hx with rfl | hx
  ·exact h3'
  ·exact h6 x hx
theorem elts_back {F : Nat → Prop} {w : World} : ∀ {d : List SElt}, (∀ x ∈ d, RelL F [] w (cPatch x.p) (encS x)) → RelLL F w 3 ((d.map (·.p)).map cPatch) (d.map encS).flatten
 | [], _ => by simp [RelLL]
 | x :: d, h => by
  simp only [List.map_cons, RelLL, List.flatten_cons]
  exact ⟨encS x, _, rfl, rfl, h x (by simp), encS_one x, elts_back fun y hy => h y (by simp [hy])⟩
theorem flat_get : ∀ (d : List SElt) (j : Nat), j < d.length * 3 → (d.map encS).flatten[j]? = (encS (d.getD (j / 3) default))[j % 3]?
 | [], j, h => by simp at h
 | x :: d, j, h => by
  simp only [List.map_cons, List.flatten_cons]
  by_cases hj : j < 3
  ·rw [List.getElem?_append_left (by rw [encS_len]; exact hj), Nat.div_eq_of_lt hj, Nat.mod_eq_of_lt hj]; rfl
  ·rw [List.getElem?_append_right (by rw [encS_len]; omega), encS_len]
   have := flat_get d (j - 3) (by simp at h; omega)
   have e1 : j / 3 = (j - 3) / 3 + 1 := by omega
   have e2 : j % 3 = (j - 3) % 3 := by omega
   rw [this, e1, e2]; rfl
theorem flatten_len : ∀ (d : List SElt), (d.map encS).flatten.length = d.length * 3
 | [] => rfl
 | x :: d => by
  simp only [List.map_cons, List.flatten_cons, List.length_append, encS_len, List.length_cons, flatten_len d]; omega
theorem flatK_toList (d : List SElt) : (flatK encS 3 d.toArray).toList = (d.map encS).flatten := by
 apply List.ext_getElem?
 intro j
 by_cases h : j < d.length * 3
 ·rw [flat_get d j h]
  have h2 : j < (flatK encS 3 d.toArray).size := by rw [size_flatK]; simpa using h
  rw [Array.getElem?_toList, Array.getElem?_eq_getElem h2, ← getElem!_pos (flatK encS 3 d.toArray) j h2, get_flatK _ _ _ _ (by simpa using h)]
  have h3 : j % 3 < (encS (d.getD (j / 3) default)).length := by rw [encS_len]; omega
  rw [List.getElem?_eq_getElem h3]
  have e : d.toArray[j / 3]! = d.getD (j / 3) default := by
   have : j / 3 < d.length := by omega
   rw [getElem!_pos d.toArray (j / 3) (by simpa using this)]; simp [List.getD, this]
  rw [e, getElem!_pos (encS (d.getD (j / 3) default)) (j % 3) h3]
 ·rw [List.getElem?_eq_none (by rw [Array.length_toList, size_flatK]; simpa using Nat.not_lt.1 h), List.getElem?_eq_none (by rw [flatten_len]; omega)]
theorem cmpB_lt : ∀ (a b : Str), compareBytes a b < 0 ↔ a < b
 | [], [] => by simp [compareBytes]
 | [], b :: bs => by simp [compareBytes]
 | a :: q, [] => by simp [compareBytes]
 | a :: q, b :: bs => by
  have ih := cmpB_lt q bs
  rw [compareBytes, List.cons_lt_cons_iff]
  by_cases h1 : a < b
  ·simp [h1]
  ·rw [if_neg h1]
   by_cases h2 : b < a
   ·rw [if_pos h2]
    have hne : a ≠ b := by rintro rfl; exact h1 h2
    simp [h1, hne]
   ·rw [if_neg h2, ih]
    have he : a = b := UInt8.le_antisymm (UInt8.not_lt.1 h2) (UInt8.not_lt.1 h1)
    simp [he]
theorem ltS (x y : SElt) : ltOf cfS x y = decide (x.p.name < y.p.name) := by
 unfold ltOf cfS
 exact decide_eq_decide.2 (cmpB_lt _ _)
theorem swoS : SWO (ltOf cfS) := {
 irrefl x := by rw [ltS]; simp
 trans x y z h1 h2 := by rw [ltS] at *; simp only [decide_eq_true_eq] at *; exact List.lt_trans h1 h2
 ntrans x y z h1 h2 := by
  rw [ltS] at *
  simp only [decide_eq_false_iff_not, List.not_lt] at *
  exact List.le_trans h2 h1 }
theorem grow_at {w : World} {n : Nat} {os : Array Go.Obj} {k : Nat} (h : k < w.heap.size) : (Go.Sort.grow (Go.Sort.ahead w n) os).heap[k]? = w.heap[k]? := by
 show (w.heap ++ os)[k]? = _
 rw [Array.getElem?_append_left h]
theorem sw_other {w : World} {g n : Nat} {d : Array SElt} {os : Array Go.Obj} {k : Nat} (h : g ≠ k) : (sortWorldK encS 3 w g 0 n d os).heap[k]? = (Go.Sort.grow (Go.Sort.ahead w n) os).heap[k]? := by
 show (w.heap.modify g _ ++ os)[k]? = (w.heap ++ os)[k]?
 by_cases hk : k < w.heap.size
 ·rw [Array.getElem?_append_left (by simpa using hk), Array.getElem?_append_left hk]
  simp [Array.getElem?_modify, h]
 ·rw [Array.getElem?_append_right (by simpa using Nat.not_lt.1 hk), Array.getElem?_append_right (Nat.not_lt.1 hk)]
  simp
theorem sw_at {w : World} {g n : Nat} {d : Array SElt} {os : Array Go.Obj} {cur : Array Value} {e : TypeId} (hg : w.heap[g]? = some (.cells cur e (0, 0))) : (sortWorldK encS 3 w g 0 n d os).heap[g]? = some (.cells (putCells id 0 (flatK encS 3 d) cur) e (0, 0)) := by
 have hlt : g < w.heap.size := (Array.getElem?_eq_some_iff.1 hg).1
 show (w.heap.modify g _ ++ os)[g]? = _
 rw [Array.getElem?_append_left (by simpa using hlt)]
 simp [Array.getElem?_modify, hg, onCells]
theorem put_take (F cur : Array Value) (h : F.size ≤ cur.size) : (putCells id 0 F cur).toList.take F.size = F.toList := by
 apply List.ext_getElem?
 intro j
 by_cases hj : j < F.size
 ·rw [List.getElem?_take, if_pos hj, Array.getElem?_toList, Array.getElem?_toList]
  unfold putCells
  rw [Array.getElem?_mapIdx, Array.getElem?_eq_getElem (show j < cur.size by omega), Array.getElem?_eq_getElem hj]
  simp [hj]
 ·rw [List.getElem?_eq_none (by simp; omega), List.getElem?_eq_none (by simp; omega)]
theorem b_slices_SortFunc_api_Patch_api_Patch : bodied Go.Proofs.Tryz.prog 94 = true := by rw [bodied, Tryz.func94]; rfl
theorem c_slices_SortFunc_api_Patch_api_Patch (l : List Patch) (hl : l.length ≤ 1000000000) : VCalls Go.Proofs.Tryz.prog G 94 [.arr 0 l.length, .func (.func 62) [] []] [.arr 45 3 (l.map cPatch)] [] (fun r H => ∃ l' : List Patch, l'.Perm l ∧ upP l' ∧ r = .tuple [] ∧ H = [.arr 45 3 (l'.map cPatch)]) := by
 intro F ρ w ms sim hr hG
 simp only [RelL, Rel] at hr
 obtain ⟨u, t, rfl, ⟨a, m, c, hρ, rfl, hle⟩, u2, t2, rfl, ⟨us1, vs1, rfl, rfl, rfl⟩, rfl⟩ := hr
 obtain ⟨us, c', a', hh, hown, hll, hB⟩ := sim.obj 0 _ _ rfl hρ
 injection hh with ha hm hc; subst ha; subst hm; subst hc
 rw [List.length_map] at hown hle
 rcases hown.2 with ⟨hn, hz⟩ | ⟨g, cap, cur, hv, _, hg, hnc, hcm, hcs, htk⟩
 ·have hl0 : l = [] := List.length_eq_zero_iff.1 hz
  subst hl0
  refine (AnyF.slices_SortFunc_none Tryz.sortPatchL a c _ w).mono ?_
  rintro e w' ⟨rfl, rfl⟩
  exact ⟨F, ρ, _, .tuple [], _, rfl, ⟨[], .refl _, by simp [upP], rfl, rfl⟩, by simp [Rel, RelL], sim, evol_refl _ _ _ _ _⟩
 ·simp only [Value.slice.injEq] at hv
  obtain ⟨rfl, _, rfl⟩ := hv
  obtain ⟨d, hd, hus, hdr⟩ := elts hll
  have hdl : d.length = l.length := by rw [← hd, List.length_map]
  have hgl : g < w.heap.size := (Array.getElem?_eq_some_iff.1 hg).1
  have hH : HoldsK encS 3 w g 0 d.toArray := by
   intro j hj
   have hj3 : j < d.length * 3 := by rw [size_flatK] at hj; simpa using hj
   constructor
   ·have h1 : us[j]? = some (flatK encS 3 d.toArray)[j]! := by
     rw [hus, ← flatK_toList, Array.getElem?_toList, Array.getElem?_eq_getElem hj, getElem!_pos (flatK encS 3 d.toArray) j hj]
    have h2 := hown.cells (g := g) rfl j _ h1
    rw [add_spot rfl] at h2
    exact h2
   ·simp [World.frozen?, hg]
  have eg : ∀ args w, (callFunc 62 args).run Go.Proofs.Tryz.prog w = .ok (.enter 62 args) w := enters_of Tryz.func62 (by kernel_rfl) rfl
  have hcmp : CmpLays Go.Proofs.Tryz.prog 62 #[] encS 3 cfS g 0 d.toArray.size w := fun m os dk _ x y => Tryz.closure_sorted x.p.name y.p.name x.u x.v y.u y.v _
  have hcon := AnyQ.slices_SortFunc Tryz.sortPatchL 3 Tryz.isAgg45 Tryz.sizeOf45 encS encS_len encS_one cfS swoS 62 #[] g 0 c d.toArray w eg hcmp hH hgl (by simp; omega)
  have e1 : d.toArray.size = l.length := by simpa using hdl
  rw [e1] at hcon
  refine Calls.mono hcon ?_
  rintro e w' ⟨rfl, d', n, os, hp, hs, rfl⟩
  have hsz : d'.size = l.length := by rw [hp.1]; simpa using hdl
  have hpd : d'.toList.Perm d := by
   have := hp.2.2
   rw [← hsz, Array.extract_size] at this
   have e2 : d.toArray.extract 0 d'.size = d.toArray := by rw [hsz, ← e1, Array.extract_size]
   rw [e2] at this
   simpa using this
  have hpl : (d'.toList.map (·.p)).Perm l := by rw [← hd]; exact hpd.map _
  have hup : upP (d'.toList.map (·.p)) := by
   unfold upP
   rw [List.pairwise_map, List.pairwise_iff_getElem]
   intro i j hi hj hij
   have h1 := hs i j (Nat.zero_le _) hij (by simpa [hsz] using hj)
   rw [ltS, getElem!_pos d' j (by simpa using hj), getElem!_pos d' i (by simpa using hi)] at h1
   have h2 := of_decide_eq_false h1
   rw [strGt_false]
   simp only [Array.getElem_toList]
   rcases str_tri d'[i].p.name d'[j].p.name with h3 | h3 | h3
   ·exact .inl h3
   ·exact .inr h3
   ·exact absurd h3 h2
  have st := st_of_sim Go.Proofs.Tryz.prog G [] sim hG
  have hbelow : RowKit.Below w.heap.size w (Go.Sort.grow (Go.Sort.ahead w n) os) := ⟨rfl, rfl, rfl, by show w.heap.size ≤ (w.heap ++ os).size; simp, fun k hk => grow_at hk⟩
  have st1 := st.grow (F' := F) hbelow (fun _ h => h) (fun _ h => .inl h) (fun b hb => Nat.lt_of_lt_of_le (sim.alloc b hb) hbelow.size)
  have hl3 : l.length * 3 ≤ cur.size := by rw [hcs]; exact Nat.mul_le_mul_right 3 hnc
  have hF : ∀ k, F k → (sortWorldK encS 3 w g 0 n d' os).heap[k]? = w.heap[k]? := fun k hk => (sw_other (by rintro rfl; exact sim.apart 0 _ _ g rfl rfl hρ rfl hk)).trans (grow_at (sim.alloc k hk))
  have st2 := st1.setObj (w' := sortWorldK encS 3 w g 0 n d' os) (i := 0) (o' := .arr 45 3 ((d'.toList.map (·.p)).map cPatch)) rfl rfl hρ rfl rfl rfl
   (by show (w.heap.modify g _ ++ os).size = (w.heap ++ os).size; simp) (fun b2 hb2 => sw_other fun e => hb2 (by rw [← e]; rfl))
   ⟨(d'.toList.map encS).flatten, c, some ⟨g, 0, none⟩, by simp [hsz], ⟨by rw [flatten_len]; simp, .inr ⟨g, c, _, by simp [hsz], Nat.zero_le _, sw_at hg, by simpa [hsz] using hnc, hcm, by rw [← hcs]; simp [putCells], by
    have h1 := put_take (flatK encS 3 d') cur (by rw [size_flatK, hsz]; exact hl3)
    rw [size_flatK] at h1
    have h2 := flatK_toList d'.toList
    simp only [Array.toArray_toList] at h2
    simp only [List.length_map, Array.length_toList]
    rw [h1, h2]⟩⟩, elts_back fun x hx => RelL.goes (F := F) (F' := F) (ρ := []) (ρ' := []) (w := w) ⟨fun _ h => h, hF, fun _ _ h => h⟩ _ _ (hdr x (hpd.mem_iff.1 hx)), by simpa [hsz] using hB⟩
  exact ⟨F, ρ, _, .tuple [], _, rfl, ⟨_, hpl, hup, rfl, rfl⟩, by simp [Rel, RelL], st2.sim, st2.evol⟩
end Go.Proofs.YtnobnefabagbhaaGreatDoor.Q
end

section
/- slices.Values at patches: its iterator, in the logic 'Q'. -/
namespace Go.Proofs.YtnobnefabagbhaaGreatDoor.Q
open Go Go.Q
theorem iter_values (l : List Patch) (hl : l.length ≤ 140737488355328) (J : CInv Nat) (hY : ∀ i (h : i < l.length), RoundJ Go.Proofs.Tryz.prog G J i (.agg (cPatch l[i])) fun b s' => b = true ∧ s' = i + 1)
  {F B : Nat → Prop} {w : World} {bx : Value} (sim : Sim F [.func (.yield J.l) #[] #[], bx] [.dead, .box [.list 3 (l.map cPatch)]] w) {ms : List Value} (hr : RelL F [.func (.yield J.l) #[] #[], bx] w [.ptr 1 0] ms) (hG : G.G F w) (hJ : J.J 0 F B w)
  (hF : ∀ b, B b → ¬ F b) (hL : ∀ b, B b → ¬ liveBlock [.dead, .box [.list 3 (l.map cPatch)]] [.func (.yield J.l) #[] #[], bx] b) :
  CallsIn Fence.wide 0 Go.Proofs.Tryz.prog 95 (.func (.yield J.l) #[] #[] :: ms).toArray w fun e w' => ∃ s B' F' v, e = .returned v ∧ s = l.length ∧ J.J s F' B' w' ∧ (∀ b, B' b → ¬ F' b) ∧ (∀ b, F b → F' b) ∧ G.G F' w' ∧ (∀ b, F' b → b < w'.heap.size) ∧
   (∀ b, F' b ∨ B' b → F b ∨ B b ∨ liveBlock [.dead, .box [.list 3 (l.map cPatch)]] [.func (.yield J.l) #[] #[], bx] b ∨ w.heap.size ≤ b) ∧ Upd (fun b => B b ∨ liveBlock [.dead, .box [.list 3 (l.map cPatch)]] [.func (.yield J.l) #[] #[], bx] b) w w' := by
 refine iter_of (args := [.ptr 1 0]) (φ := fun s => s = l.length) Tryz.func95 rfl (by simp [Tryz.ntmps95]) rfl ?_ sim hr hG hJ hF hL
 rw [Tryz.ntmps95]
 refine vwpJ_reg tabOk [] [0, 5, 6, 7] (by simp only [go_sem]; rfl) (by first | trivial | (simp; done) | (simp [in64]; omega)) ?_
 refine vwpJ_block ?_
 refine vwpJ_loop (fun i : Nat => [(0, .obj 0), (5, .list 3 (l.map cPatch)), (6, .int .i64 (l.length : Int)), (7, .int .i64 (i : Int))]) (fun _ => [.dead, .box [.list 3 (l.map cPatch)]]) (fun i s => s = i ∧ i ≤ l.length) (fun i => l.length - i) 0 ⟨rfl, Nat.zero_le _⟩ (Env.wk_cons (Wk.refl _) (Env.wk_cons (Wk.refl _) (Env.wk_cons (Wk.refl _) (Env.wk_cons (Wk.refl _) (Env.wk_nil _))))) rfl ?_
 rintro i s ⟨rfl, hi⟩
 refine vwpJ_reg tabOk [] [0, 5, 6, 7, 8] (by simp only [go_sem]; rfl) (by first | trivial | (simp; done) | (simp [in64]; omega)) ?_
 refine vwpJ_seq (vwpJ_cond (by simp only [go_sem]; rfl) (fun h0 => ?_) (fun h0 => ?_))
 ·refine vwpJ_skip ?_
  have h0' : s < l.length := by simp at h0; omega
  simp only [thenQ]
  refine vwpJ_seq (vwpJ_block ?_)
  refine vwpJ_reg tabOk [] [0, 4, 5, 6, 7] (by simp only [go_sem, getD_map, h0']; rfl) (by first | trivial | (simp [h0']; done) | (simp [h0']; omega)) ?_
  refine vwpJ_seq (vwpJ_region ?_)
  refine vopsJ_quiet tabOk rfl (by intro c hc; cases hc) rfl (by simp only [go_sem]; rfl) (by first | trivial | simp) ?_
  simp only [go_sem]
  refine vopsJ_quiet tabOk rfl (by intro c hc; cases hc) rfl (by simp only [go_sem]; rfl) (by first | trivial | simp) ?_
  simp only [go_sem]
  refine vopsJ_yield (v := .agg (cPatch l[s])) (φ := fun b s' => b = true ∧ s' = s + 1) rfl rfl rfl (by simp only [go_sem]) (by simp only [go_sem]) (by simp [clean, cleanL, cPatch]) (hY s h0') ?_
  rintro b s' ⟨rfl, rfl⟩
  simp only [go_sem]
  refine vopsJ_quiet tabOk rfl (by intro c hc; cases hc) rfl (by simp only [go_sem]; rfl) (by first | trivial | simp) ?_
  simp only [go_sem]
  refine vopsJ_done ?_
  simp only [thenQ]
  refine vwpJ_cond (by simp only [go_sem]; rfl) (fun h1 => ?_) (fun h1 => ?_)
  ·exact absurd h1 (by decide)
  ·refine vwpJ_skip ?_
   simp only [thenQ, blockQ]
   refine vwpJ_trim 2 (by omega) ?_
   simp only [go_sem]
   refine vwpJ_reg1 tabOk [] [0, 5, 6, 7] (by simp only [go_sem]; rfl) (by first | trivial | (simp; done) | (simp [in64]; omega)) ?_
   simp only [thenQ]
   exact ⟨s + 1, ⟨rfl, by omega⟩, by omega, Env.wk_cons (Wk.refl _) (Env.wk_cons (Wk.refl _) (Env.wk_cons (Wk.refl _) (Env.wk_cons (Wk.refl _) (Env.wk_nil _)))), by first | trivial | rfl⟩
 ·refine vwpJ_exit ?_
  simp only [thenQ, blockQ, if_true]
  exact ⟨.inl (by first | trivial | rfl), by simp at h0; omega⟩
end Go.Proofs.YtnobnefabagbhaaGreatDoor.Q
end

section
/- slices.AppendSeq at patches, over slices.Values: in the logic 'Q'. -/
namespace Go.Proofs.YtnobnefabagbhaaGreatDoor.Q
open Go Go.Q
theorem c_slices_AppendSeq (l : List Patch) (hl : l.length ≤ 256) : VCalls Go.Proofs.Tryz.prog G 125 [.nils, .func (.func 95) [] [.ptr 0 0]] [.box [.list 3 (l.map cPatch)]] []
  (fun r H => r = .arr 2 l.length ∧ H = [.dead, .box [.arr 2 l.length], .arr 45 3 (l.map cPatch)]) := by
 refine vcalls_ofT Tryz.func125 rfl (by simp [Tryz.ntmps125]) ?_
 rw [Tryz.ntmps125]
 refine vwpT_seq ?_
 refine vwp_reg1 tabOk [] [1, 2, 4] (by simp only [go_sem]; rfl) (by first | trivial | (simp; done)) ?_
 refine ⟨rfl, ?_⟩
 refine vwpT_then ?_
 refine vwpT_seq ?_
 refine vwp_ownCell 1 0 45 3 _ rfl rfl ?_
 simp only [go_sem]
 refine vwp_reg1 tabOk [] [2, 6] (by simp only [go_sem]; rfl) (by first | trivial | (simp; done)) ?_
 refine ⟨rfl, ?_⟩
 refine vwpT_range (γ := Nat) tabOk (rs := [.tmp 4]) rfl (fun s => [.box [.arr 1 s], .arr 45 3 ((l.take s).map cPatch)]) 0 [(2, .ptr 0 0)] (fun _ => .ready) (fun _ => none) (fI := 95)
  (cs := [.ptr 0 0]) (csI := [.ptr 1 0]) (HI := [.box [.list 3 (l.map cPatch)]]) (φ := fun s => s = l.length) [0] [1, 2]
  (by simp only [go_sem]) (by rw [bodied, Tryz.func95]; rfl) rfl rfl (by simp) (by simp) (by decide) (by simp) (by simp) rfl rfl ?_ ?_ ?_ rfl (by intro s _; simp) (by intro s _; exact .inl rfl) ?_ (by intro s _ h; cases h)
 ·exact ⟨Wk.refl _, trivial⟩
 ·intro t
  simp only [Q.get]
  cases h : ((2 : Nat) == t) with
  | true => exact Wk.refl _
  | false => exact Wk.undef _
 ·intro c hcK hcE hcS hcP hps has hbd hsz
  obtain ⟨cl, cD, cfn, ctmps, cps, cas, cbd, cenv, cK, cst, cpd, cne⟩ := c
  simp only at hcK hcE hcS hcP hps has hbd hsz
  subst hcK; subst hcE; subst hcS; subst hcP; subst hps; subst has; subst hbd
  intro F B ρ w ms sim hr hG hJ hBF hBL
  have hlen := sim.len
  simp only [List.length_cons, List.length_nil] at hlen
  obtain ⟨bx, rfl⟩ : ∃ bx, ρ = [bx] := by
   match ρ, hlen with
   | [bx], _ => exact ⟨bx, rfl⟩
  refine iter_values l (by omega) _ ?_ sim hr hG hJ hBF hBL
  intro i hi
  refine round_of (M := [1]) _ 7 rfl rfl rfl (by show 7 < ctmps.size; omega) ?_ ?_ ?_
  ·intro t
   simp only [Q.get]
   cases h : ((2 : Nat) == t) <;> rfl
  ·intro t
   simp only [Q.get]
   cases h : ((2 : Nat) == t) <;> rfl
  ·clear hJ sim hr hBL
   show VWpR cl ⟨_, G, [1], 2, ctmps.size⟩ _ _ [(7, .agg (cPatch l[i])), (2, .ptr 0 0)] [.box [.arr 1 i], .arr 45 3 ((l.take i).map cPatch)]
   rw [hsz]
   have hli : (l.take i).length = i := by rw [List.length_take]; omega
   refine vwpR_reg1 tabOk [] [2, 5] rfl (fun _ _ h => by cases h.1) (by simp only [go_sem]; rfl) (by first | trivial | (simp; done)) ?_
   refine ⟨rfl, by simp, ?_⟩
   refine vwpR_block ?_
   refine vwpR_reg1 tabOk [] [] rfl (fun _ _ h => by simp [blockQ, endQ] at h) (by simp only [go_sem, hli]; rfl) (by first | trivial | (simp; done) | exact ⟨by omega, by omega, .inl (by simp)⟩) ?_
   refine ⟨i + 1, ⟨rfl, rfl⟩, ?_, rfl, by simp, rfl, rfl⟩
   simp only [trimH, go_sem]
   rw [show (l.take (i + 1)).map cPatch = (l.take i).map cPatch ++ [cPatch l[i]] by rw [List.take_succ_eq_append_getElem hi, List.map_append]; rfl]
   rfl
 ·intro s hs _
  have hs : s = l.length := hs
  subst hs
  refine vops_all tabOk [] [4] (by simp only [go_sem]; rfl) (by first | trivial | (simp; done)) ?_
  refine ⟨rfl, _, _, rfl, ⟨trivial, trivial⟩, rfl, ?_⟩
  have e : (l.take l.length).map cPatch = l.map cPatch := by rw [List.take_length]
  rw [e]; rfl
end Go.Proofs.YtnobnefabagbhaaGreatDoor.Q
end

section
/- Walks of slices.Collect and slices.SortedFunc at patches, in the logic 'Q'. -/
namespace Go.Proofs.YtnobnefabagbhaaGreatDoor.Q
open Go Go.Q
theorem b_slices_AppendSeq_api_Patch_api_Patch : bodied Go.Proofs.Tryz.prog 125 = true := by rw [bodied, Tryz.func125]; rfl
theorem b_slices_Collect_api_Patch : bodied Go.Proofs.Tryz.prog 93 = true := by rw [bodied, Tryz.func93]; rfl
theorem c_slices_Collect_api_Patch (l : List Patch) (hl : l.length ≤ 256) : VCalls Go.Proofs.Tryz.prog G 93 [.func (.func 95) [] [.ptr 0 0]] [.box [.list 3 (l.map cPatch)]] [] (fun r H => r = .arr 2 l.length ∧ H = [.dead, .box [.arr 2 l.length], .arr 45 3 (l.map cPatch)]) := by
 refine vcalls_of2 tabOk (rs := _) 3 Tryz.func93 rfl (by simp [Tryz.ntmps93]) rfl (by first | (simp; done) | exact Nat.le_refl _) ?_
 rw [Tryz.ntmps93]
 refine vwp_reg tabOk [] [0] (by simp only [go_sem, List.getElem?_nil]; rfl) (by first | trivial | (simp; done) | (simp [in64]; omega)) ?_
 refine vwp_seq (vwp_region ?_)
 refine oL [] ?_
 refine vops_callH (hc := c_slices_AppendSeq l hl) rfl rfl rfl b_slices_AppendSeq_api_Patch_api_Patch [0] [] [] rfl rfl rfl (by simp only [go_sem]; exact WkL.refl _) (by simp only [go_sem]) ?_
 rintro r0 H0 ⟨rfl, rfl⟩
 simp only [go_sem, List.getElem?_nil]
 refine oL [] ?_
 refine vops_done [2] ?_
 simp only [go_sem, thenQ, blockQ, jumpQ, stayQ]
 refine vwp_ret ?_
 try simp only [thenQ, blockQ, jumpQ, stayQ, go_sem]
 refine ⟨by simp, _, _, rfl, by first | trivial | simp, ?_⟩
 exact ⟨rfl, rfl⟩
theorem b_slices_SortedFunc_api_Patch : bodied Go.Proofs.Tryz.prog 60 = true := by rw [bodied, Tryz.func60]; rfl
theorem c_slices_SortedFunc_api_Patch (l : List Patch) (hl : l.length ≤ 256) : VCalls Go.Proofs.Tryz.prog G 60 [.func (.func 95) [] [.ptr 0 0], .func (.func 62) [] []] [.box [.list 3 (l.map cPatch)]] [] (fun r H => ∃ l' : List Patch, l'.Perm l ∧ upP l' ∧ r = .arr 2 l'.length ∧ H = [.dead, .box [.arr 2 l'.length], .arr 45 3 (l'.map cPatch)]) := by
 refine vcalls_of2 tabOk (rs := _) 3 Tryz.func60 rfl (by simp [Tryz.ntmps60]) rfl (by first | (simp; done) | exact Nat.le_refl _) ?_
 rw [Tryz.ntmps60]
 refine vwp_reg tabOk [] [0, 1] (by simp only [go_sem, List.getElem?_nil]; rfl) (by first | trivial | (simp; done) | (simp [in64]; omega)) ?_
 refine vwp_seq (vwp_region ?_)
 refine oL [] ?_
 refine vops_callH (hc := c_slices_Collect_api_Patch l hl) rfl rfl rfl b_slices_Collect_api_Patch [0] [] [] rfl rfl rfl (by simp only [go_sem]; exact WkL.refl _) (by simp only [go_sem]) ?_
 rintro r0 H0 ⟨rfl, rfl⟩
 simp only [go_sem, List.getElem?_nil]
 refine oL [] ?_
 refine vops_done [1, 5] ?_
 simp only [go_sem, thenQ, blockQ, jumpQ, stayQ]
 refine vwp_seq (vwp_region ?_)
 refine oL [] ?_
 refine vops_callH (hc := c_slices_SortFunc_api_Patch_api_Patch l (by omega)) rfl rfl rfl b_slices_SortFunc_api_Patch_api_Patch [2] [] [] rfl rfl rfl (by simp only [go_sem]; exact WkL.refl _) (by simp only [go_sem]) ?_
 rintro r1 H1 ⟨l', hp, hup, rfl, rfl⟩
 simp only [go_sem, List.getElem?_nil]
 refine vops_done [5] ?_
 simp only [go_sem, thenQ, blockQ, jumpQ, stayQ]
 refine vwp_reg tabOk [] [4] (by simp only [go_sem, List.getElem?_nil]; rfl) (by first | trivial | (simp; done) | (simp [in64]; omega)) ?_
 refine vwp_ret ?_
 try simp only [thenQ, blockQ, jumpQ, stayQ, go_sem]
 refine ⟨by simp, _, _, rfl, by first | trivial | simp, ?_⟩
 exact ⟨l', hp, hup, by rw [hp.length_eq]; rfl, by rw [hp.length_eq]; rfl⟩
end Go.Proofs.YtnobnefabagbhaaGreatDoor.Q
end

section
/- Walks of the sorting by names and of the package 'codec', in the logic 'Q'. -/
namespace Go.Proofs.YtnobnefabagbhaaGreatDoor.Q
open Go Go.Q
theorem vcalls_wk {P : Program} {G : Glob} {f : FuncId} {args : List V} {H0 : List Go.Q.Obj} {M : List Nat} {post post' : V → List Go.Q.Obj → Prop} (h : VCalls P G f args H0 M post) (hw : ∀ r H, post r H → ∃ r', Wk r r' ∧ post' r' H) : VCalls P G f args H0 M post' := by
 intro F ρ w ms sim hr hG
 refine (h F ρ w ms sim hr hG).mono ?_
 rintro e w' ⟨F', ρ', H', r, mr, rfl, hp, hrel, sim', ev⟩
 obtain ⟨r', hw1, hp'⟩ := hw r H' hp
 exact ⟨F', ρ', H', r', mr, rfl, hp', hw1 _ _ _ _ hrel, sim', ev⟩
theorem c_closure_of_u (l : List Patch) : VCalls Go.Proofs.Tryz.prog G 46 [.list 3 (l.map cPatch)] [] [] (fun r H => ∃ es, r = .tuple [.undef, .bool (ofB l)] ∧ H = [.map es]) :=
 vcalls_wk (c_closure_of l) fun r H ⟨m, es, h1, h2, _⟩ => ⟨_, by rw [h1]; exact Wk.tuple ⟨Wk.undef _, Wk.refl _, trivial⟩, es, rfl, h2⟩
theorem b_slices_Values_api_Patch_api_Patch : bodied Go.Proofs.Tryz.prog 61 = true := by rw [bodied, Tryz.func61]; rfl
theorem c_slices_Values_api_Patch_api_Patch (l : List Patch) : VCalls Go.Proofs.Tryz.prog G 61 [.list 3 (l.map cPatch)] [] [] (fun r H => r = .func (.func 95) [] [.ptr 0 0] ∧ H = [.box [.list 3 (l.map cPatch)]]) := by
 refine vcalls_of2 tabOk (rs := _) 1 Tryz.func61 rfl (by simp [Tryz.ntmps61]) rfl (by first | (simp; done) | exact Nat.le_refl _) ?_
 rw [Tryz.ntmps61]
 refine oR [1] ?_
 refine oR [2] ?_
 refine vwp_ret ?_
 try simp only [thenQ, blockQ, jumpQ, stayQ, go_sem]
 refine ⟨by simp, _, _, rfl, by first | trivial | simp, ?_⟩
 first | exact ⟨rfl, rfl⟩ | rfl
theorem b_closure_Sorted : bodied Go.Proofs.Tryz.prog 30 = true := by rw [bodied, Tryz.func30]; rfl
theorem c_closure_Sorted (l : List Patch) : VPure Go.Proofs.Tryz.prog G 30 [.list 3 (l.map cPatch)] (.tuple [.list 3 ((sortP l).1.map cPatch), .int .i64 (sortP l).2]) := by
 refine vpure_of (ts := [2, 3]) Tryz.func30 rfl (by simp [Tryz.ntmps30]) rfl rfl ?_
 rw [Tryz.ntmps30]
 refine oR [0] ?_
 refine vwp_seq ?_
 refine vwp_seq (vwp_region ?_)
 refine oG [] ?_
 refine vops_callH (hc := c_closure_of_u l) rfl rfl rfl b_closure_of [] [] [] rfl rfl rfl (by simp only [go_sem]; exact WkL.refl _) (by simp only [go_sem]) ?_
 rintro r0 H0 ⟨es, rfl, rfl⟩
 simp only [go_sem]
 refine oG [] ?_
 refine vops_done [0, 5] ?_
 simp only [go_sem, thenQ, blockQ, jumpQ, stayQ]
 refine oR [0, 12] ?_
 refine oB (fun h0 => ?_) fun h0 => ?_
 ·
  refine oR [2, 3] ?_
  refine vwp_ret ?_
  simp only [thenQ, blockQ, jumpQ, stayQ, RetQ, go_sem]
  refine ⟨by simp, ?_⟩
  rw [sortP_no (by simpa using h0)]
  exact Wk.tuple ⟨Wk.nils _, Wk.refl _, trivial⟩
 ·
  refine vwp_skip ?_
  try simp only [thenQ, blockQ, jumpQ, stayQ]
  refine vwp_seq (vwp_region ?_)
  refine oG [] ?_
  refine vops_callH (hc := c_slices_Values_api_Patch_api_Patch l) rfl rfl rfl b_slices_Values_api_Patch_api_Patch [] [] [] rfl rfl rfl (by simp only [go_sem]; exact WkL.refl _) (by simp only [go_sem]) ?_
  rintro r1 H1 ⟨rfl, rfl⟩
  simp only [go_sem]
  refine vops_callH (hc := c_slices_SortedFunc_api_Patch l (ofB_len (by simpa using h0))) rfl rfl rfl b_slices_SortedFunc_api_Patch [1] [] [] rfl rfl rfl (by simp only [go_sem]; exact WkL.refl _) (by simp only [go_sem]) ?_
  rintro r2 H2 ⟨l', hp, hup, rfl, rfl⟩
  simp only [go_sem]
  refine oG [] ?_
  refine vops_done [2, 3] ?_
  simp only [go_sem, thenQ, blockQ, jumpQ, stayQ]
  refine vwp_ret ?_
  simp only [thenQ, blockQ, jumpQ, stayQ, RetQ, go_sem]
  refine ⟨by simp, ?_⟩
  rw [sortP_uniq (by simpa using h0) hp hup]
  refine Wk.eq ?_
  simp only [go_sem]
  simp
  rw [List.take_of_length_le (by simp)]
theorem b_codec_labels : bodied Go.Proofs.Tryz.prog 104 = true := by rw [bodied, Tryz.func104]; rfl
theorem c_codec_labels (l : List Str) : VPure Go.Proofs.Tryz.prog G 104 [.list 1 (l.map cS)] (.bool (namesB l)) := by
 refine vpure_know fun hk => ?_
 simp only [factsL, facts, maxB, List.length_map] at hk
 refine vpure_of (ts := [2]) Tryz.func104 rfl (by simp [Tryz.ntmps104]) rfl rfl ?_
 rw [Tryz.ntmps104]
 refine oR [0] ?_
 refine vwp_seq ?_
 refine oR [0, 5, 6, 7] ?_
 refine vwp_block ?_
 refine vwp_loopW (fun i : Nat => [(0, .list 1 (l.map cS)), (5, .list 1 (l.map cS)), (6, .int .i64 (l.length : Int)), (7, .int .i64 (i : Int))]) (fun i => []) (fun i => i ≤ l.length ∧ namesB (l.take i) = true) (fun i => l.length - i) 0 ⟨Nat.zero_le _, by rfl⟩ (wC (wC (wC (wC (Env.wk_nil _))))) rfl ?_
 rintro i ⟨hi, hok⟩
 refine oR [0, 5, 6, 7, 8] ?_
 refine vwp_seq ?_
 refine oB (fun h0 => ?_) fun h0 => ?_
 ·
  have h0' : i < l.length := by simp at h0; omega
  refine vwp_skip ?_
  try simp only [thenQ, blockQ, jumpQ, stayQ]
  refine vwp_seq ?_
  refine vwp_block ?_
  refine vwp_reg tabOk [] [0, 3, 4, 5, 6, 7] (by simp only [go_sem]; rfl) (by first | (simp [h0']; done) | (simp [h0', in64]; omega)) ?_
  refine vwp_seq (vwp_region ?_)
  refine vops_go tabOk [] (by simp only [go_sem]; rfl) (by first | (simp [h0']; done) | (simp [h0', in64]; omega) | (simp [h0', in64]; repeat' (first | omega | intro _ | constructor))) ?_
  refine oC (fun _ => c_named_Label (l.getD i [])) b_named_Label ?_
  simp only [go_sem]
  refine vops_go tabOk [] (by simp only [go_sem]; rfl) (by first | (simp [h0']; done) | (simp [h0', in64]; omega) | (simp [h0', in64]; repeat' (first | omega | intro _ | constructor))) ?_
  refine vops_done [0, 5, 6, 7, 27] ?_
  simp only [go_sem, thenQ, blockQ, jumpQ, stayQ]
  refine oB (fun h1 => ?_) fun h1 => ?_
  ·
   refine oR [2] ?_
   refine vwp_ret ?_
   simp only [thenQ, blockQ, jumpQ, stayQ, RetQ, go_sem]
   refine ⟨by simp, Wk.eq ?_⟩
   rw [stepN_go] at h1; rw [namesB_false _ i h0' (by simpa using h1)]
  ·
   refine vwp_skip ?_
   try simp only [thenQ, blockQ, jumpQ, stayQ]
   refine vwp_reg1 tabOk [] [0, 5, 6, 7] (by simp only [go_sem]; rfl) (by first | trivial | (simp; done) | (simp [in64]; omega)) ?_
   try simp only [thenQ, blockQ, jumpQ, stayQ]
   exact ⟨i + 1, ⟨by omega, by rw [namesB_take _ _ h0', hok]; rw [stepN_go] at h1; simpa using h1⟩, by omega, (wC (wC (wC (wC (Env.wk_nil _))))), (by first | rfl | trivial)⟩
 ·
  refine vwp_exit ?_
  simp only [thenQ, blockQ, jumpQ, stayQ, if_true, reduceIte, Nat.reduceEqDiff]
  refine oR [2] ?_
  refine vwp_ret ?_
  simp only [thenQ, blockQ, jumpQ, stayQ, RetQ, go_sem]
  refine ⟨by simp, Wk.eq ?_⟩
  have : i = l.length := by simp at h0; omega
  subst this; rw [List.take_length] at hok; rw [hok]
theorem b_codec_right : bodied Go.Proofs.Tryz.prog 73 = true := by rw [bodied, Tryz.func73]; rfl
set_option maxHeartbeats 4000000 in
theorem c_codec_right (x : Msg) : VPure Go.Proofs.Tryz.prog G 73 [.agg (cMsg x)] (.bool (rightC x)) := by
 refine vpure_know fun hk => ?_
 simp only [factsL, facts, cMsg, maxB, List.length_map] at hk
 refine vpure_of (ts := [2]) Tryz.func73 rfl (by simp [Tryz.ntmps73]) rfl rfl ?_
 rw [Tryz.ntmps73]
 refine oR [1] ?_
 refine vwp_seq (vwp_drawD mixed (by kernel_rfl) (eF := ?_) ?_ [1, 3, 4] rfl ?_)
 rotate_left
 ·
  refine dall_go tabOk (by simp only [go_sem]; rfl) (by first | trivial | (simp; done) | (simp [in64]; omega)) ?_
  exact dall_nil
 simp only [go_sem, thenQ, blockQ, jumpQ, stayQ]
 refine vwp_seq ?_
 refine vwp_block ?_
 refine vwp_joinE (fun y : Bool => [(1, .ptr 0 0), (3, .bool (decide (x.kind = 1))), (4, .bool (decide (x.kind = 3))), (11, .bool y)]) (fun y => [.box (cMsg x)]) (fun y => y = rmA x) ?_ ?_
 ·
  refine oR [1, 3, 4, 11] ?_
  refine oB (fun h0 => ?_) fun h0 => ?_
  ·
   refine vwp_skip ?_
   try simp only [thenQ, blockQ, jumpQ, stayQ]
   exact ⟨true, by rw [rmA, h0]; try rfl, (wC (wC (wC (wC (Env.wk_nil _))))), (by first | rfl | trivial)⟩
  ·
   refine oR [1, 3, 4, 11] ?_
   refine oB (fun h1 => ?_) fun h1 => ?_
   ·
    refine vwp_skip ?_
    try simp only [thenQ, blockQ, jumpQ, stayQ]
    exact ⟨true, by rw [rmA, h0, h1]; try rfl, (wC (wC (wC (wC (Env.wk_nil _))))), (by first | rfl | trivial)⟩
   ·
    refine vwp_seq (vwp_region ?_)
    refine oG [] ?_
    refine oC (fun _ => c_codec_labels x.names) b_codec_labels ?_
    simp only [go_sem]
    refine oG [] ?_
    refine vops_done [1, 3, 4, 11] ?_
    simp only [go_sem, thenQ, blockQ, jumpQ, stayQ]
    refine oB (fun h2 => ?_) fun h2 => ?_
    ·
     refine vwp_skip ?_
     try simp only [thenQ, blockQ, jumpQ, stayQ]
     exact ⟨true, by rw [rmA, h0, h1, h2]; try rfl, (wC (wC (wC (wC (Env.wk_nil _))))), (by first | rfl | trivial)⟩
    ·
     refine vwp_region ?_
     refine oG [] ?_
     refine oC (fun _ => c_codec_labels x.have_) b_codec_labels ?_
     simp only [go_sem]
     refine oG [] ?_
     refine vops_done [1, 3, 4, 11] ?_
     simp only [go_sem, thenQ, blockQ, jumpQ, stayQ]
     try simp only [thenQ, blockQ, jumpQ, stayQ]
     exact ⟨(!namesB x.have_), by rw [rmA, h0, h1, h2]; rfl, (Env.wk_cons (Wk.refl _) (Env.wk_cons (Wk.refl _) (Env.wk_cons (Wk.refl _) (Env.wk_cons (Wk.refl _) (Env.wk_nil _)))))⟩
 ·
  rintro y rfl
  refine oB (fun h3 => ?_) fun h3 => ?_
  ·
   refine oR [2] ?_
   refine vwp_ret ?_
   simp only [thenQ, blockQ, jumpQ, stayQ, RetQ, go_sem]
   refine ⟨by simp, Wk.eq ?_⟩
   rw [rightC, h3]; rfl
  ·
   refine vwp_joinE (fun z : Bool => [(1, .ptr 0 0), (4, .bool (decide (x.kind = 3))), (26, .bool z)]) (fun z => [.box (cMsg x)]) (fun z => z = rmB x) ?_ ?_
   ·
    refine oR [1, 4, 26] ?_
    refine oB (fun h4 => ?_) fun h4 => ?_
    ·
     refine vwp_skip ?_
     try simp only [thenQ, blockQ, jumpQ, stayQ]
     exact ⟨true, by rw [rmB, h4]; try rfl, (wC (wC (wC (Env.wk_nil _)))), (by first | rfl | trivial)⟩
    ·
     refine vwp_reg1 tabOk [] [1, 4, 26] (by simp only [go_sem]; rfl) (by first | trivial | (simp; done) | (simp [in64]; omega)) ?_
     try simp only [thenQ, blockQ, jumpQ, stayQ]
     exact ⟨_, by rw [rmB, h4]; try rfl, (wC (wC (wC (Env.wk_nil _)))), (by first | rfl | trivial)⟩
   ·
    rintro z rfl
    refine oB (fun h5 => ?_) fun h5 => ?_
    ·
     refine oR [2] ?_
     refine vwp_ret ?_
     simp only [thenQ, blockQ, jumpQ, stayQ, RetQ, go_sem]
     refine ⟨by simp, Wk.eq ?_⟩
     rw [rightC, h5]; simp
    ·
     refine vwp_skip ?_
     try simp only [thenQ, blockQ, jumpQ, stayQ]
     refine oR [2] ?_
     refine vwp_ret ?_
     simp only [thenQ, blockQ, jumpQ, stayQ, RetQ, go_sem]
     refine ⟨by simp, Wk.eq ?_⟩
     rw [rightC, h3, h5]; rfl
theorem b_bytes_Equal : bodied Go.Proofs.Tryz.prog 102 = true := by rw [bodied, Tryz.func102]; rfl
theorem c_bytes_Equal (s t : Str) : VPure Go.Proofs.Tryz.prog G 102 [.list 1 (s.map encB), .list 1 (t.map encB)] (.bool (decide (s = t))) := by
 refine vpure_of (ts := [4]) Tryz.func102 rfl (by simp [Tryz.ntmps102]) rfl rfl ?_
 rw [Tryz.ntmps102]
 refine oR [0, 1] ?_
 refine oR [4] ?_
 refine vwp_ret ?_
 simp only [thenQ, blockQ, jumpQ, stayQ, RetQ, go_sem]
 refine ⟨by simp, Wk.eq ?_⟩
 rfl
theorem b_codec_bundle : bodied Go.Proofs.Tryz.prog 76 = true := by rw [bodied, Tryz.func76]; rfl
set_option maxHeartbeats 8000000 in
theorem c_codec_bundle (s : Str) (l : List Patch) (hs : s.length ≤ 1000000000) (h : ∀ p ∈ l, (patchEnc p).length ≤ 500000000) : VCalls Go.Proofs.Tryz.prog G 76 [.arr 0 s.length, .list 3 (l.map cPatch)] [.arr 5 1 (s.map encB)] [0] (fun r H => r = .tuple [if (bunC s l).2 = 0 then .arr 0 (bunC s l).1.length else .nils, .int .i64 (bunC s l).2] ∧ H = [.arr 5 1 ((bunH s l).map encB)]) := by
 refine vcalls_know fun hk hK => ?_
 have hS := sortP_length l
 have hnl := num_nat (sortP l).1.length (by omega)
 refine vcalls_of2 tabOk (rs := _) 1 Tryz.func76 rfl (by simp [Tryz.ntmps76]) rfl (by first | (simp; done) | exact Nat.le_refl _) ?_
 rw [Tryz.ntmps76]
 refine oR [0, 1] ?_
 refine vwp_seq (vwp_region ?_)
 refine oG [] ?_
 refine oC (fun _ => c_closure_Sorted l) b_closure_Sorted ?_
 simp only [go_sem]
 refine oG [] ?_
 refine vops_done [0, 1, 6] ?_
 simp only [go_sem, thenQ, blockQ, jumpQ, stayQ]
 refine vwp_seq ?_
 refine oR [0, 1, 17] ?_
 refine oB (fun h0 => ?_) fun h0 => ?_
 ·
  refine oR [4, 5] ?_
  refine vwp_ret ?_
  try simp only [thenQ, blockQ, jumpQ, stayQ, go_sem]
  refine ⟨by simp, _, _, rfl, by first | trivial | simp, ?_⟩
  have hc : bunC s l = ([], 1) := by rw [bunC, if_pos (by simpa using h0)]
  rw [hc, if_neg (by decide), show bunH s l = s from by rw [bunH, if_pos (by simpa using h0)]]; exact ⟨by simp only [go_sem], rfl⟩
 ·
  refine vwp_skip ?_
  try simp only [thenQ, blockQ, jumpQ, stayQ]
  refine vwp_seq (vwp_region ?_)
  refine oG [] ?_
  refine vops_callH (hc := c_codec_number s (sortP l).1.length (by omega) (by omega)) rfl rfl rfl b_codec_number [0] [0] [0] rfl rfl rfl (by simp only [go_sem]; exact WkL.refl _) (by simp only [go_sem]) ?_
  rintro r1 H1 ⟨rfl, rfl⟩
  simp only [go_sem]
  refine oG [] ?_
  refine vops_done [0, 1] ?_
  simp only [go_sem, thenQ, blockQ, jumpQ, stayQ]
  refine vwp_seq ?_
  refine oR [0, 22, 23, 24] ?_
  refine vwp_block ?_
  refine vwp_loopW (fun i : Nat => [(0, .arr 0 (s ++ num (sortP l).1.length ++ txtP ((sortP l).1.take i)).length), (22, .list 3 ((sortP l).1.map cPatch)), (23, .int .i64 ((sortP l).1.length : Int)), (24, .int .i64 (i : Int))]) (fun i => [.arr 5 1 ((s ++ num (sortP l).1.length ++ txtP ((sortP l).1.take i)).map encB)]) (fun i => i ≤ (sortP l).1.length) (fun i => (sortP l).1.length - i) 0 (Nat.zero_le _) (Env.wk_cons (by first | exact Wk.refl _ | exact Wk.nils _ | (refine Wk.eq ?_; simp; done) | (refine Wk.eq ?_; simp [txtP]; done) | (refine Wk.eq ?_; congr 1 <;> omega)) (Env.wk_cons (by first | exact Wk.refl _ | exact Wk.nils _ | (refine Wk.eq ?_; simp; done) | (refine Wk.eq ?_; simp [txtP]; done) | (refine Wk.eq ?_; congr 1 <;> omega)) (Env.wk_cons (by first | exact Wk.refl _ | exact Wk.nils _ | (refine Wk.eq ?_; simp; done) | (refine Wk.eq ?_; simp [txtP]; done) | (refine Wk.eq ?_; congr 1 <;> omega)) (Env.wk_cons (by first | exact Wk.refl _ | exact Wk.nils _ | (refine Wk.eq ?_; simp; done) | (refine Wk.eq ?_; simp [txtP]; done) | (refine Wk.eq ?_; congr 1 <;> omega)) (Env.wk_nil _))))) (by simp [txtP]) ?_
  rintro i hi
  refine oR [0, 22, 23, 24, 25] ?_
  refine vwp_seq ?_
  refine oB (fun h1 => ?_) fun h1 => ?_
  ·
   have h1' : i < (sortP l).1.length := by simp at h1; omega
   have hp := h _ (sortP_mem (List.getElem_mem h1'))
   have hp2 := putPatch_len hp
   have hx := txtP_len ((sortP l).1.take i) 500000000 (by omega) fun q hq => h q (sortP_mem (List.mem_of_mem_take hq))
   rw [List.length_take, Nat.min_eq_left hi] at hx
   refine vwp_skip ?_
   try simp only [thenQ, blockQ, jumpQ, stayQ]
   refine vwp_seq ?_
   refine vwp_block ?_
   refine vwp_reg tabOk [] [0, 8, 22, 23, 24] (by simp only [go_sem, getD_map, h1']; rfl) (by first | trivial | (simp [h1']; done) | (simp [h1']; omega)) ?_
   refine vwp_seq (vwp_region ?_)
   refine oG [] ?_
   refine oC (fun _ => c_named_Put (sortP l).1[i] (Nat.le_trans hp (by omega))) b_named_Put ?_
   simp only [go_sem]
   refine oG [] ?_
   refine vops_done [0, 9, 22, 23, 24] ?_
   simp only [go_sem, thenQ, blockQ, jumpQ, stayQ]
   refine vwp_region ?_
   refine oG [] ?_
   refine vops_callH (hc := c_codec_text (s ++ num (sortP l).1.length ++ txtP ((sortP l).1.take i)) (putPatch (sortP l).1[i]).1 (by omega) (by simp only [List.length_append]; omega)) rfl rfl rfl b_codec_text [0] [0] [0] rfl rfl rfl (by simp only [go_sem]; exact WkL.refl _) (by simp only [go_sem]) ?_
   rintro r3 H3 ⟨rfl, rfl⟩
   simp only [go_sem]
   refine oG [] ?_
   refine vops_done [0, 22, 23, 24] ?_
   simp only [go_sem, thenQ, blockQ, jumpQ, stayQ]
   try simp only [thenQ, blockQ, jumpQ, stayQ]
   refine vwp_trim 1 (by simp) (by simp) ?_
   simp only [go_sem]
   refine vwp_reg1 tabOk [] [0, 22, 23, 24] (by simp only [go_sem]; rfl) (by first | trivial | (simp; done) | (simp [in64]; omega)) ?_
   try simp only [thenQ, blockQ, jumpQ, stayQ]
   exact ⟨i + 1, by omega, by omega, Env.wk_cons (Wk.eq (by rw [txtP_take _ i h1', ← List.append_assoc])) (Env.wk_cons (Wk.refl _) (Env.wk_cons (Wk.refl _) (Env.wk_cons (Wk.refl _) (Env.wk_nil _)))), by rw [txtP_take _ i h1', ← List.append_assoc]⟩
  ·
   refine vwp_exit ?_
   simp only [thenQ, blockQ, jumpQ, stayQ, if_true, reduceIte, Nat.reduceEqDiff]
   refine vwp_seq ?_
   refine oR [0, 39] ?_
   refine oB (fun h2 => ?_) fun h2 => ?_
   ·
    refine oR [4, 5] ?_
    refine vwp_ret ?_
    try simp only [thenQ, blockQ, jumpQ, stayQ, go_sem]
    refine ⟨by simp, _, _, rfl, by first | trivial | simp, ?_⟩
    have hi2 : i = (sortP l).1.length := by simp at h1; omega
    rw [hi2, List.take_length] at h2 ⊢
    have hc : bunC s l = ([], 2) := by rw [bunC, if_neg (by simpa using h0), if_pos (by rw [bunF, ← List.append_assoc]; have := of_decide_eq_true h2; omega)]
    rw [hc, if_neg (by decide), show bunH s l = s ++ num (sortP l).1.length ++ txtP (sortP l).1 from by rw [bunH, if_neg (by simpa using h0), bunF, List.append_assoc]]; exact ⟨by simp only [go_sem], rfl⟩
   ·
    refine vwp_skip ?_
    try simp only [thenQ, blockQ, jumpQ, stayQ]
    refine oR [4, 5] ?_
    refine vwp_ret ?_
    try simp only [thenQ, blockQ, jumpQ, stayQ, go_sem]
    refine ⟨by simp, _, _, rfl, by first | trivial | simp, ?_⟩
    have hi2 : i = (sortP l).1.length := by simp at h1; omega
    rw [hi2, List.take_length] at h2 ⊢
    have hc : bunC s l = (s ++ num (sortP l).1.length ++ txtP (sortP l).1, 0) := by rw [bunC, if_neg (by simpa using h0), if_neg (by rw [bunF, ← List.append_assoc]; have := of_decide_eq_false h2; omega), bunF, List.append_assoc]
    rw [hc, if_pos rfl, show bunH s l = s ++ num (sortP l).1.length ++ txtP (sortP l).1 from by rw [bunH, if_neg (by simpa using h0), bunF, List.append_assoc]]; exact ⟨by simp only [go_sem], rfl⟩
theorem c_codec_bundle_ok (s : Str) (l : List Patch) (hs : s.length ≤ 1000000000) (h : ∀ p ∈ l, (patchEnc p).length ≤ 500000000) (hb : (bunC s l).2 = 0) : VCalls Go.Proofs.Tryz.prog G 76 [.arr 0 s.length, .list 3 (l.map cPatch)] [.arr 5 1 (s.map encB)] [0] (fun r H => r = .tuple [.arr 0 (bunC s l).1.length, .int .i64 0] ∧ H = [.arr 5 1 ((bunH s l).map encB)]) :=
 vcalls_wk (c_codec_bundle s l hs h) fun r H hp => ⟨r, Wk.refl _, by rw [if_pos hb, hb] at hp; exact hp⟩
theorem c_codec_bundle_err (s : Str) (l : List Patch) (hs : s.length ≤ 1000000000) (h : ∀ p ∈ l, (patchEnc p).length ≤ 500000000) (hb : ¬ (bunC s l).2 = 0) : VCalls Go.Proofs.Tryz.prog G 76 [.arr 0 s.length, .list 3 (l.map cPatch)] [.arr 5 1 (s.map encB)] [0] (fun r H => r = .tuple [.nils, .int .i64 (bunC s l).2] ∧ H = [.arr 5 1 ((bunH s l).map encB)]) :=
 vcalls_wk (c_codec_bundle s l hs h) fun r H hp => ⟨r, Wk.refl _, by rw [if_neg hb] at hp; exact hp⟩
theorem b_codec_Put : bodied Go.Proofs.Tryz.prog 41 = true := by rw [bodied, Tryz.func41]; rfl
set_option maxHeartbeats 4000000 in
theorem c_codec_Put_ok (k e : Nat) (ns hv : List Str) (ps : List Patch) (hn : (lst ns).length ≤ 100000000) (hh : (lst hv).length ≤ 100000000) (h : ∀ p ∈ ps, (patchEnc p).length ≤ 500000000) (hr : rightC (⟨(k : Int), ns, hv, (e : Int), ps⟩ : Msg) = true) (hk : k ≤ 3) (he : e ≤ 1000) (hb : (bunC (num (k : Int) ++ lst ns ++ lst hv ++ num (e : Int)) ps).2 = 0) : VPure Go.Proofs.Tryz.prog G 41 [.agg (cMsg (⟨(k : Int), ns, hv, (e : Int), ps⟩ : Msg))] (.tuple [.list 1 ((bunC (num (k : Int) ++ lst ns ++ lst hv ++ num (e : Int)) ps).1.map encB), .int .i64 (bunC (num (k : Int) ++ lst ns ++ lst hv ++ num (e : Int)) ps).2]) := by
 have l1 := num_nat k (by omega)
 have l2 := num_nat e (by omega)
 refine vpure_of (ts := [2, 3]) Tryz.func41 rfl (by simp [Tryz.ntmps41]) rfl rfl ?_
 rw [Tryz.ntmps41]
 refine vwp_reg tabOk [] [1] (by simp only [go_sem, List.getElem?_nil]; rfl) (by first | trivial | (simp; done) | (simp [in64]; omega)) ?_
 refine vwp_seq ?_
 refine vwp_seq (vwp_region ?_)
 refine oL [] ?_
 refine vops_call (hc := fun _ => c_codec_right (⟨(k : Int), ns, hv, (e : Int), ps⟩ : Msg)) rfl (by simp only [go_sem, List.getElem?_nil]; rfl) rfl b_codec_right (by simp only [go_sem, List.getElem?_nil]; exact WkL.refl _) rfl (fun hg => by simp only [go_sem]; try (intros; first | assumption | trivial | simp_all)) ?_
 simp only [go_sem]
 refine oL [] ?_
 refine vops_done [1, 7] ?_
 simp only [go_sem, thenQ, blockQ, jumpQ, stayQ]
 refine oB (fun h0 => ?_) fun h0 => ?_
 ·
  rw [hr] at h0; exact absurd h0 (by decide)
 ·
  refine vwp_skip ?_
  try simp only [thenQ, blockQ, jumpQ, stayQ]
  refine vwp_seq (vwp_region ?_)
  refine oL [] ?_
  refine vops_callH (hc := vcalls_nil rfl (c_codec_number [] k (by omega) (by simp))) rfl rfl rfl b_codec_number [] [] [] rfl rfl rfl (by simp only [go_sem]; exact WkL.refl _) (by simp only [go_sem]) ?_
  rintro r1 H1 ⟨rfl, rfl⟩
  simp only [go_sem, List.getElem?_nil]
  refine oL [] ?_
  refine vops_done [1, 4] ?_
  simp only [go_sem, thenQ, blockQ, jumpQ, stayQ]
  refine vwp_seq (vwp_drawE2 mixed (by kernel_rfl) 3 6 (by decide) [0, 0, 0, 0, 0, 0, 1, 2] (by kernel_rfl) (f0 := ?f0_r4) (f1 := ?f1_r4) (f2 := ?f2_r4) (H1 := ?H1_r4) (H2 := ?H2_r4) (g1 := ?g1_r4) (g2 := ?g2_r4) (v1 := ?v1_r4) (v2 := ?v2_r4) (by simp only [go_sem]; rfl) (by simp only [go_sem]; rfl) ?hs0_r4 ?he1_r4 ?hg1_r4 ?hs1_r4 ?hk1_r4 ?hv1_r4 ?he2_r4 ?hg2_r4 ?hs2_r4 ?hk2_r4 ?hv2_r4 [1, 4] rfl ?hq_r4)
  case hs0_r4 =>
   refine dstage_go tabOk (by simp only [go_sem, List.getElem?_nil]; rfl) (by first | trivial | (simp; done) | (simp [in64]; omega)) ?_
   exact dstage_nil
  case he1_r4 =>
   refine effOk_callH (f := ?f1) (vs := ?vs1) (H' := ?Hn1) (r := ?r1) (args := ?args1) (ats := ?ats1) [1] [0] [1] ?yc1 ?y01 ?yb1 ?y11 ?y21 ?y31 ?y41 ?y51
   case y01 => rfl
   case yc1 => exact c_codec_list (num (k : Int)) ns (by omega) (by omega)
   case yb1 => exact b_codec_list
   case y11 => rfl
   case y21 => rfl
   case y31 => rfl
   case y41 => simp only [go_sem]; exact WkL.refl _
   case y51 => simp only [go_sem]
  case hg1_r4 => rfl
  case hs1_r4 =>
   refine dstage_go tabOk (by simp only [go_sem, List.getElem?_nil]; rfl) (by first | trivial | (simp; done) | (simp [in64]; omega)) ?_
   exact dstage_nil
  case hk1_r4 => simp [keptOk, inStage, mapE, go_sem, List.getElem?_nil]
  case hv1_r4 => simp [mapE, go_sem]
  case he2_r4 =>
   refine effOk_callH (f := ?f2) (vs := ?vs2) (H' := ?Hn2) (r := ?r2) (args := ?args2) (ats := ?ats2) [1] [0] [1] ?yc2 ?y02 ?yb2 ?y12 ?y22 ?y32 ?y42 ?y52
   case y02 => rfl
   case yc2 => exact c_codec_list (num (k : Int) ++ lst ns) hv (by omega) (by simp only [List.length_append]; omega)
   case yb2 => exact b_codec_list
   case y12 => rfl
   case y22 => rfl
   case y32 => rfl
   case y42 => simp only [go_sem]; exact WkL.refl _
   case y52 => simp only [go_sem]
  case hg2_r4 => rfl
  case hs2_r4 =>
   refine dstage_go tabOk (by simp only [go_sem, List.getElem?_nil]; rfl) (by first | trivial | (simp; done) | (simp [in64]; omega)) ?_
   exact dstage_nil
  case hk2_r4 => simp [keptOk, inStage, mapE, go_sem, List.getElem?_nil]
  case hv2_r4 => simp [mapE, go_sem]
  simp only [go_sem, mapE, thenQ, blockQ, jumpQ, stayQ]
  refine vwp_seq (vwp_drawE2 mixed (by kernel_rfl) 3 6 (by decide) [0, 0, 0, 0, 0, 0, 1, 2, 2, 2, 2] (by kernel_rfl) (f0 := ?f0_r5) (f1 := ?f1_r5) (f2 := ?f2_r5) (H1 := ?H1_r5) (H2 := ?H2_r5) (g1 := ?g1_r5) (g2 := ?g2_r5) (v1 := ?v1_r5) (v2 := ?v2_r5) (by simp only [go_sem]; rfl) (by simp only [go_sem]; rfl) ?hs0_r5 ?he1_r5 ?hg1_r5 ?hs1_r5 ?hk1_r5 ?hv1_r5 ?he2_r5 ?hg2_r5 ?hs2_r5 ?hk2_r5 ?hv2_r5 [2, 3] rfl ?hq_r5)
  case hs0_r5 =>
   refine dstage_go tabOk (by simp only [go_sem, List.getElem?_nil]; rfl) (by first | trivial | (simp; done) | (simp [in64]; omega)) ?_
   exact dstage_nil
  case he1_r5 =>
   refine effOk_callH (f := ?f3) (vs := ?vs3) (H' := ?Hn3) (r := ?r3) (args := ?args3) (ats := ?ats3) [1] [0] [1] ?yc3 ?y03 ?yb3 ?y13 ?y23 ?y33 ?y43 ?y53
   case y03 => rfl
   case yc3 => exact c_codec_number (num (k : Int) ++ lst ns ++ lst hv) e (by omega) (by simp only [List.length_append]; omega)
   case yb3 => exact b_codec_number
   case y13 => rfl
   case y23 => rfl
   case y33 => rfl
   case y43 => simp only [go_sem]; exact WkL.refl _
   case y53 => simp only [go_sem]
  case hg1_r5 => rfl
  case hs1_r5 =>
   refine dstage_go tabOk (by simp only [go_sem, List.getElem?_nil]; rfl) (by first | trivial | (simp; done) | (simp [in64]; omega)) ?_
   exact dstage_nil
  case hk1_r5 => simp [keptOk, inStage, mapE, go_sem, List.getElem?_nil]
  case hv1_r5 => simp [mapE, go_sem]
  case he2_r5 =>
   refine effOk_callH (f := ?f4) (vs := ?vs4) (H' := ?Hn4) (r := ?r4) (args := ?args4) (ats := ?ats4) [1] [0] [1] ?yc4 ?y04 ?yb4 ?y14 ?y24 ?y34 ?y44 ?y54
   case y04 => rfl
   case yc4 => exact c_codec_bundle_ok (num (k : Int) ++ lst ns ++ lst hv ++ num (e : Int)) ps (by simp only [List.length_append]; omega) h hb
   case yb4 => exact b_codec_bundle
   case y14 => rfl
   case y24 => rfl
   case y34 => rfl
   case y44 => simp only [go_sem]; exact WkL.refl _
   case y54 => simp only [go_sem]
  case hg2_r5 => rfl
  case hs2_r5 =>
   refine dstage_go tabOk (by simp only [go_sem, List.getElem?_nil]; rfl) (by first | trivial | (simp; done) | (simp [in64]; omega)) ?_
   exact dstage_nil
  case hk2_r5 => simp [keptOk, inStage, mapE, go_sem, List.getElem?_nil]
  case hv2_r5 => simp [mapE, go_sem]
  simp only [go_sem, mapE, thenQ, blockQ, jumpQ, stayQ]
  refine vwp_ret ?_
  simp only [thenQ, blockQ, jumpQ, stayQ, RetQ, go_sem]
  refine ⟨by simp, Wk.eq ?_⟩
  rw [hb, show bunH (num (k : Int) ++ lst ns ++ lst hv ++ num (e : Int)) ps = (bunC (num (k : Int) ++ lst ns ++ lst hv ++ num (e : Int)) ps).1 from by rw [bunH, if_neg (by have := (bunC_ok hb).1; simpa using this), (bunC_ok hb).2.2]]
  rw [List.take_of_length_le (by simp)]
set_option maxHeartbeats 4000000 in
theorem c_codec_Put_err (k e : Nat) (ns hv : List Str) (ps : List Patch) (hn : (lst ns).length ≤ 100000000) (hh : (lst hv).length ≤ 100000000) (h : ∀ p ∈ ps, (patchEnc p).length ≤ 500000000) (hr : rightC (⟨(k : Int), ns, hv, (e : Int), ps⟩ : Msg) = true) (hk : k ≤ 3) (he : e ≤ 1000) (hb : ¬ (bunC (num (k : Int) ++ lst ns ++ lst hv ++ num (e : Int)) ps).2 = 0) : VPure Go.Proofs.Tryz.prog G 41 [.agg (cMsg (⟨(k : Int), ns, hv, (e : Int), ps⟩ : Msg))] (.tuple [.list 1 ((bunC (num (k : Int) ++ lst ns ++ lst hv ++ num (e : Int)) ps).1.map encB), .int .i64 (bunC (num (k : Int) ++ lst ns ++ lst hv ++ num (e : Int)) ps).2]) := by
 have l1 := num_nat k (by omega)
 have l2 := num_nat e (by omega)
 refine vpure_of (ts := [2, 3]) Tryz.func41 rfl (by simp [Tryz.ntmps41]) rfl rfl ?_
 rw [Tryz.ntmps41]
 refine vwp_reg tabOk [] [1] (by simp only [go_sem, List.getElem?_nil]; rfl) (by first | trivial | (simp; done) | (simp [in64]; omega)) ?_
 refine vwp_seq ?_
 refine vwp_seq (vwp_region ?_)
 refine oL [] ?_
 refine vops_call (hc := fun _ => c_codec_right (⟨(k : Int), ns, hv, (e : Int), ps⟩ : Msg)) rfl (by simp only [go_sem, List.getElem?_nil]; rfl) rfl b_codec_right (by simp only [go_sem, List.getElem?_nil]; exact WkL.refl _) rfl (fun hg => by simp only [go_sem]; try (intros; first | assumption | trivial | simp_all)) ?_
 simp only [go_sem]
 refine oL [] ?_
 refine vops_done [1, 7] ?_
 simp only [go_sem, thenQ, blockQ, jumpQ, stayQ]
 refine oB (fun h0 => ?_) fun h0 => ?_
 ·
  rw [hr] at h0; exact absurd h0 (by decide)
 ·
  refine vwp_skip ?_
  try simp only [thenQ, blockQ, jumpQ, stayQ]
  refine vwp_seq (vwp_region ?_)
  refine oL [] ?_
  refine vops_callH (hc := vcalls_nil rfl (c_codec_number [] k (by omega) (by simp))) rfl rfl rfl b_codec_number [] [] [] rfl rfl rfl (by simp only [go_sem]; exact WkL.refl _) (by simp only [go_sem]) ?_
  rintro r1 H1 ⟨rfl, rfl⟩
  simp only [go_sem, List.getElem?_nil]
  refine oL [] ?_
  refine vops_done [1, 4] ?_
  simp only [go_sem, thenQ, blockQ, jumpQ, stayQ]
  refine vwp_seq (vwp_drawE2 mixed (by kernel_rfl) 3 6 (by decide) [0, 0, 0, 0, 0, 0, 1, 2] (by kernel_rfl) (f0 := ?f0_r4) (f1 := ?f1_r4) (f2 := ?f2_r4) (H1 := ?H1_r4) (H2 := ?H2_r4) (g1 := ?g1_r4) (g2 := ?g2_r4) (v1 := ?v1_r4) (v2 := ?v2_r4) (by simp only [go_sem]; rfl) (by simp only [go_sem]; rfl) ?hs0_r4 ?he1_r4 ?hg1_r4 ?hs1_r4 ?hk1_r4 ?hv1_r4 ?he2_r4 ?hg2_r4 ?hs2_r4 ?hk2_r4 ?hv2_r4 [1, 4] rfl ?hq_r4)
  case hs0_r4 =>
   refine dstage_go tabOk (by simp only [go_sem, List.getElem?_nil]; rfl) (by first | trivial | (simp; done) | (simp [in64]; omega)) ?_
   exact dstage_nil
  case he1_r4 =>
   refine effOk_callH (f := ?f5) (vs := ?vs5) (H' := ?Hn5) (r := ?r5) (args := ?args5) (ats := ?ats5) [1] [0] [1] ?yc5 ?y05 ?yb5 ?y15 ?y25 ?y35 ?y45 ?y55
   case y05 => rfl
   case yc5 => exact c_codec_list (num (k : Int)) ns (by omega) (by omega)
   case yb5 => exact b_codec_list
   case y15 => rfl
   case y25 => rfl
   case y35 => rfl
   case y45 => simp only [go_sem]; exact WkL.refl _
   case y55 => simp only [go_sem]
  case hg1_r4 => rfl
  case hs1_r4 =>
   refine dstage_go tabOk (by simp only [go_sem, List.getElem?_nil]; rfl) (by first | trivial | (simp; done) | (simp [in64]; omega)) ?_
   exact dstage_nil
  case hk1_r4 => simp [keptOk, inStage, mapE, go_sem, List.getElem?_nil]
  case hv1_r4 => simp [mapE, go_sem]
  case he2_r4 =>
   refine effOk_callH (f := ?f6) (vs := ?vs6) (H' := ?Hn6) (r := ?r6) (args := ?args6) (ats := ?ats6) [1] [0] [1] ?yc6 ?y06 ?yb6 ?y16 ?y26 ?y36 ?y46 ?y56
   case y06 => rfl
   case yc6 => exact c_codec_list (num (k : Int) ++ lst ns) hv (by omega) (by simp only [List.length_append]; omega)
   case yb6 => exact b_codec_list
   case y16 => rfl
   case y26 => rfl
   case y36 => rfl
   case y46 => simp only [go_sem]; exact WkL.refl _
   case y56 => simp only [go_sem]
  case hg2_r4 => rfl
  case hs2_r4 =>
   refine dstage_go tabOk (by simp only [go_sem, List.getElem?_nil]; rfl) (by first | trivial | (simp; done) | (simp [in64]; omega)) ?_
   exact dstage_nil
  case hk2_r4 => simp [keptOk, inStage, mapE, go_sem, List.getElem?_nil]
  case hv2_r4 => simp [mapE, go_sem]
  simp only [go_sem, mapE, thenQ, blockQ, jumpQ, stayQ]
  refine vwp_seq (vwp_drawE2 mixed (by kernel_rfl) 3 6 (by decide) [0, 0, 0, 0, 0, 0, 1, 2, 2, 2, 2] (by kernel_rfl) (f0 := ?f0_r5) (f1 := ?f1_r5) (f2 := ?f2_r5) (H1 := ?H1_r5) (H2 := ?H2_r5) (g1 := ?g1_r5) (g2 := ?g2_r5) (v1 := ?v1_r5) (v2 := ?v2_r5) (by simp only [go_sem]; rfl) (by simp only [go_sem]; rfl) ?hs0_r5 ?he1_r5 ?hg1_r5 ?hs1_r5 ?hk1_r5 ?hv1_r5 ?he2_r5 ?hg2_r5 ?hs2_r5 ?hk2_r5 ?hv2_r5 [2, 3] rfl ?hq_r5)
  case hs0_r5 =>
   refine dstage_go tabOk (by simp only [go_sem, List.getElem?_nil]; rfl) (by first | trivial | (simp; done) | (simp [in64]; omega)) ?_
   exact dstage_nil
  case he1_r5 =>
   refine effOk_callH (f := ?f7) (vs := ?vs7) (H' := ?Hn7) (r := ?r7) (args := ?args7) (ats := ?ats7) [1] [0] [1] ?yc7 ?y07 ?yb7 ?y17 ?y27 ?y37 ?y47 ?y57
   case y07 => rfl
   case yc7 => exact c_codec_number (num (k : Int) ++ lst ns ++ lst hv) e (by omega) (by simp only [List.length_append]; omega)
   case yb7 => exact b_codec_number
   case y17 => rfl
   case y27 => rfl
   case y37 => rfl
   case y47 => simp only [go_sem]; exact WkL.refl _
   case y57 => simp only [go_sem]
  case hg1_r5 => rfl
  case hs1_r5 =>
   refine dstage_go tabOk (by simp only [go_sem, List.getElem?_nil]; rfl) (by first | trivial | (simp; done) | (simp [in64]; omega)) ?_
   exact dstage_nil
  case hk1_r5 => simp [keptOk, inStage, mapE, go_sem, List.getElem?_nil]
  case hv1_r5 => simp [mapE, go_sem]
  case he2_r5 =>
   refine effOk_callH (f := ?f8) (vs := ?vs8) (H' := ?Hn8) (r := ?r8) (args := ?args8) (ats := ?ats8) [1] [0] [1] ?yc8 ?y08 ?yb8 ?y18 ?y28 ?y38 ?y48 ?y58
   case y08 => rfl
   case yc8 => exact c_codec_bundle_err (num (k : Int) ++ lst ns ++ lst hv ++ num (e : Int)) ps (by simp only [List.length_append]; omega) h hb
   case yb8 => exact b_codec_bundle
   case y18 => rfl
   case y28 => rfl
   case y38 => rfl
   case y48 => simp only [go_sem]; exact WkL.refl _
   case y58 => simp only [go_sem]
  case hg2_r5 => rfl
  case hs2_r5 =>
   refine dstage_go tabOk (by simp only [go_sem, List.getElem?_nil]; rfl) (by first | trivial | (simp; done) | (simp [in64]; omega)) ?_
   exact dstage_nil
  case hk2_r5 => simp [keptOk, inStage, mapE, go_sem, List.getElem?_nil]
  case hv2_r5 => simp [mapE, go_sem]
  simp only [go_sem, mapE, thenQ, blockQ, jumpQ, stayQ]
  refine vwp_ret ?_
  simp only [thenQ, blockQ, jumpQ, stayQ, RetQ, go_sem]
  refine ⟨by simp, ?_⟩
  rw [bunC_err hb]
  exact Wk.tuple ⟨Wk.nils _, Wk.refl _, trivial⟩
theorem c_codec_Put_no (x : Msg) (hr : rightC x = false) : VPure Go.Proofs.Tryz.prog G 41 [.agg (cMsg x)] (.tuple [.nils, .int .i64 1]) := by
 refine vpure_of (ts := [2, 3]) Tryz.func41 rfl (by simp [Tryz.ntmps41]) rfl rfl ?_
 rw [Tryz.ntmps41]
 refine oR [1] ?_
 refine vwp_seq ?_
 refine vwp_seq (vwp_region ?_)
 refine oG [] ?_
 refine oC (fun _ => c_codec_right x) b_codec_right ?_
 simp only [go_sem]
 refine oG [] ?_
 refine vops_done [1, 7] ?_
 simp only [go_sem, thenQ, blockQ, jumpQ, stayQ]
 refine oB (fun h0 => ?_) fun h0 => ?_
 ·
  refine oR [2, 3] ?_
  refine vwp_ret ?_
  simp only [thenQ, blockQ, jumpQ, stayQ, RetQ, go_sem]
  refine ⟨by simp, Wk.eq ?_⟩
  rfl
 ·
  rw [hr] at h0; exact absurd h0 (by decide)
theorem vpure_wk {P : Program} {G : Glob} {f : FuncId} {args : List V} {r r' : V} (hw : Wk r r') (h : VPure P G f args r) : VPure P G f args r' :=
 fun F w ms hr hb hG => (h F w ms hr hb hG).mono fun e w' ⟨mr, h1, h2, h3⟩ => ⟨mr, h1, hw _ _ _ _ h2, h3⟩
theorem c_codec_Put (x : Msg) (hn : (lst x.names).length ≤ 100000000) (hh : (lst x.have_).length ≤ 100000000) (h : ∀ p ∈ x.patches, (patchEnc p).length ≤ 500000000) : VPure Go.Proofs.Tryz.prog G 41 [.agg (cMsg x)] (.tuple [.list 1 ((putMsgR x).1.map encB), .int .i64 (putMsgR x).2]) := by
 rw [putMsg_C]
 cases hr : rightC x with
 | false => exact vpure_wk (Wk.tuple (l := [.nils, .int .i64 1]) (t := [.list 1 [], .int .i64 1]) ⟨Wk.nils _, Wk.refl _, trivial⟩) (c_codec_Put_no x hr)
 | true =>
  obtain ⟨hk, he⟩ := rightC_bounds hr
  obtain ⟨kd, ns, hv, er, ps⟩ := x
  obtain ⟨k, rfl⟩ := Int.eq_ofNat_of_zero_le (show 0 ≤ kd by simp only [] at hk; omega)
  obtain ⟨e, rfl⟩ := Int.eq_ofNat_of_zero_le (show 0 ≤ er by simp only [] at he; omega)
  by_cases hb : (bunC (num (k : Int) ++ lst ns ++ lst hv ++ num (e : Int)) ps).2 = 0
  ·exact c_codec_Put_ok k e ns hv ps hn hh h hr (by simp only [] at hk; omega) (by simp only [] at he; omega) hb
  ·exact c_codec_Put_err k e ns hv ps hn hh h hr (by simp only [] at hk; omega) (by simp only [] at he; omega) hb
end Go.Proofs.YtnobnefabagbhaaGreatDoor.Q
end

section
/- Walks of what lies under some patches (the program's closure.Down), in the logic 'Q'. -/
namespace Go.Proofs.YtnobnefabagbhaaGreatDoor.Q
open Go Go.Q
theorem zero_run {P : Program} {e : TypeId} {z : Value} (h : (P.info? e).bind (·.zero) = some z) (w : World) : (zeroValue e).run P w = .ok z w := by
 cases hi : P.info? e with
 | none => rw [hi] at h; cases h
 | some i =>
  rw [hi] at h
  have h' : i.zero = some z := h
  simp [zeroValue, typeInfo, hi, h']
def zeroP : Value := .agg #[.string ByteArray.empty, .slice none 0 0, .slice none 0 0]
def P0 : Patch := ⟨[], [], []⟩
theorem rel_zeroP (F : Nat → Prop) (ρ : List Value) (w : World) : Rel F ρ w (.agg (cPatch P0)) zeroP := by
 have hs : Rel F ρ w (.str []) (.string ByteArray.empty) := by simp only [Rel]; exact ⟨rfl, Nat.zero_le _⟩
 have hl : ∀ k, Rel F ρ w (.list k []) (.slice none 0 0) := fun k => Wk.nils k _ _ _ _ (by simp only [Rel])
 simp only [Rel]
 refine ⟨[.string ByteArray.empty, .slice none 0 0, .slice none 0 0], rfl, ?_, ?_⟩
 ·simp only [cPatch, P0, List.map_nil, RelL]
  exact ⟨_, _, rfl, hs, _, _, rfl, hl 1, _, _, rfl, hl 7, rfl⟩
 ·intro u hu
  simp at hu
  rcases hu with rfl | rfl <;> rfl
theorem rel_zeroI (F : Nat → Prop) (ρ : List Value) (w : World) : Rel F ρ w (.int .i64 0) (.int .i64 0) := by simp only [Rel]
def pOr (ps : List Patch) (n : Str) : Patch := (findP ps n).getD P0
def mapP (ps : List Patch) : MapV := ps.map fun p => (p.name, .agg (cPatch p))
theorem lookupV (ps : List Patch) (n : Str) : lookV (.agg (cPatch P0)) (mapGet (mapP ps) n) = .tuple [.agg (cPatch (pOr ps n)), .bool (gP ps n).isSome] := by
 rw [mapP, mapGet_map, pOr, gP]
 cases findP ps n <;> rfl
def HV (nx : FuncId) (ps : List Patch) (s : Cnts × Bool) : List Q.Obj := [.box [.map 5], .box [.bool s.2], .box [.map 6], .box [.func (.func 118) [] [.ptr 0 0, .ptr 1 0, .ptr 2 0, .ptr 3 0, .ptr 4 0]], .box [.func (.func nx) [] []], .map (mapP ps), .map (toldM s.1)]
attribute [go_sem] HV
def Deeper (nx : FuncId) (ps : List Patch) (f : Nat) : Prop := ∀ (l : List Str) (s : Cnts × Bool), room (ps.map (·.name)) s.1 < f → tot s.1 + l.length + pend (KP ps) s.1 ≤ 1000000000 →
 VCalls Go.Proofs.Tryz.prog G 118 [.list 1 (l.map cS), .ptr 0 0, .ptr 1 0, .ptr 2 0, .ptr 3 0, .ptr 4 0] (HV nx ps s) [] (fun r H => r = .tuple [] ∧ H = HV nx ps (visitN (gP ps) f l s))
theorem gP_pOr {ps : List Patch} {n : Str} (h : (gP ps n).isSome = true) : gP ps n = some (pOr ps n).deps := by
 cases hf : findP ps n with
 | none => simp [gP, hf] at h
 | some p => simp [gP, pOr, hf]
theorem visit_then {ps : List Patch} {f : Nat} {l : List Str} {s : Cnts × Bool} {i : Nat} (hi : i < l.length) (h1 : cnt (bump (visitN (gP ps) (f + 1) (l.take i) s).1 (l.getD i [])) (l.getD i []) = 1) (h2 : (gP ps (l.getD i [])).isSome = true) :
  visitN (gP ps) (f + 1) (l.take (i + 1)) s = visitN (gP ps) f (pOr ps (l.getD i [])).deps (bump (visitN (gP ps) (f + 1) (l.take i) s).1 (l.getD i []), (visitN (gP ps) (f + 1) (l.take i) s).2) := by
 have e : visitN (gP ps) (f + 1) (l.take (i + 1)) s = visit1 (gP ps) (visitN (gP ps) f) l[i] (visitN (gP ps) (f + 1) (l.take i) s) := foldl_take _ s l i hi
 have en : l.getD i [] = l[i] := by simp [List.getD, hi]
 rw [en] at h1 h2 ⊢
 rw [e, visit1, gP_pOr h2]
 simp only
 rw [if_pos h1]
theorem visit_else {ps : List Patch} {f : Nat} {l : List Str} {s : Cnts × Bool} {i : Nat} (hi : i < l.length) (h1 : (bif decide (((cnt (bump (visitN (gP ps) (f + 1) (l.take i) s).1 (l.getD i [])) (l.getD i []) : Nat) : Int) = 1) then (gP ps (l.getD i [])).isSome else false) = false) :
  visitN (gP ps) (f + 1) (l.take (i + 1)) s = (bump (visitN (gP ps) (f + 1) (l.take i) s).1 (l.getD i []), bif (visitN (gP ps) (f + 1) (l.take i) s).2 then (gP ps (l.getD i [])).isSome else false) := by
 have e : visitN (gP ps) (f + 1) (l.take (i + 1)) s = visit1 (gP ps) (visitN (gP ps) f) l[i] (visitN (gP ps) (f + 1) (l.take i) s) := foldl_take _ s l i hi
 have en : l.getD i [] = l[i] := by simp [List.getD, hi]
 rw [en] at h1 ⊢
 rw [e, visit1]
 generalize visitN (gP ps) (f + 1) (l.take i) s = t at h1 ⊢
 cases hg : gP ps l[i] with
 | none => simp
 | some d =>
  rw [hg] at h1
  simp only at h1 ⊢
  by_cases hc : cnt (bump t.1 l[i]) l[i] = 1
  ·rw [hc] at h1; simp at h1
  ·rw [if_neg hc]; simp
theorem b_closure_Down_1_1 : bodied Go.Proofs.Tryz.prog 54 = true := by rw [bodied, Tryz.func54]; rfl
theorem c_closure_Down_1_1 (p : Patch) : VPure Go.Proofs.Tryz.prog G 54 [.agg (cPatch p)] (.list 1 (p.deps.map cS)) := by
 refine vpure_of (ts := [2]) Tryz.func54 rfl (by simp [Tryz.ntmps54]) rfl rfl ?_
 rw [Tryz.ntmps54]
 refine oR [1] ?_
 refine oR [2] ?_
 refine vwp_ret ?_
 simp only [thenQ, blockQ, jumpQ, stayQ, RetQ, go_sem]
 refine ⟨by simp, Wk.eq ?_⟩
 rfl
theorem b_closure_Down_1 : bodied Go.Proofs.Tryz.prog 53 = true := by rw [bodied, Tryz.func53]; rfl
theorem c_closure_Down_1  : VPure Go.Proofs.Tryz.prog G 53 [.undef] (.func (.func 54) [] []) := by
 refine vpure_of (ts := [2]) Tryz.func53 rfl (by simp [Tryz.ntmps53]) rfl rfl ?_
 rw [Tryz.ntmps53]
 refine oR [] ?_
 refine oR [2] ?_
 refine vwp_ret ?_
 simp only [thenQ, blockQ, jumpQ, stayQ, RetQ, go_sem]
 refine ⟨by simp, Wk.eq ?_⟩
 rfl
theorem b_visit_step : bodied Go.Proofs.Tryz.prog 118 = true := by rw [bodied, Tryz.func118]; rfl
set_option maxHeartbeats 4000000 in
theorem c_visit_step (nx : FuncId) (hnb : bodied Go.Proofs.Tryz.prog nx = true) (hnx : ∀ p : Patch, VPure Go.Proofs.Tryz.prog G nx [.agg (cPatch p)] (.list 1 (p.deps.map cS))) (ps : List Patch) (hps : apartP ps) (f : Nat) (ih : Deeper nx ps f) (l : List Str) (s : Cnts × Bool) (hroom : room (ps.map (·.name)) s.1 ≤ f) (hbd : tot s.1 + l.length + pend (KP ps) s.1 ≤ 1000000000) : VCalls Go.Proofs.Tryz.prog G 118 [.list 1 (l.map cS), .ptr 0 0, .ptr 1 0, .ptr 2 0, .ptr 3 0, .ptr 4 0] (HV nx ps s) [] (fun r H => r = .tuple [] ∧ H = HV nx ps (visitN (gP ps) (f + 1) l s)) := by
 refine vcalls_know fun hk hK => ?_
 simp only [factsL, facts, maxB, List.length_map] at hk
 refine vcalls_of2 tabOk (rs := _) 7 Tryz.func118 rfl (by simp [Tryz.ntmps118]) rfl (by first | (simp; done) | exact Nat.le_refl _) ?_
 rw [Tryz.ntmps118]
 refine oR [1, 2, 3, 4, 5, 11, 12, 13] ?_
 refine vwp_block ?_
 refine vwp_loopW (fun i : Nat => [(1, .ptr 0 0), (2, .ptr 1 0), (3, .ptr 2 0), (4, .ptr 3 0), (5, .ptr 4 0), (11, .list 1 (l.map cS)), (12, .int .i64 (l.length : Int)), (13, .int .i64 (i : Int))]) (fun i => (HV nx ps (visitN (gP ps) (f + 1) (l.take i) s))) (fun i => i ≤ l.length) (fun i => l.length - i) 0 (Nat.zero_le _) (wC (wC (wC (wC (wC (wC (wC (wC (Env.wk_nil _))))))))) rfl ?_
 rintro i hi
 refine oR [1, 2, 3, 4, 5, 11, 12, 13, 14] ?_
 refine vwp_seq ?_
 refine oB (fun h0 => ?_) fun h0 => ?_
 ·
  have h0' : i < l.length := by simp at h0; omega
  have hb1 := visitN_bound (KP_nodup hps) (gP_mem hps) (f + 1) (l.take i) s
  rw [List.length_take, Nat.min_eq_left (by omega)] at hb1
  have hb2 := cnt_le_tot (visitN (gP ps) (f + 1) (l.take i) s).1 (l.getD i [])
  have hb3 := hb2
  simp only [List.getD_eq_getElem?_getD] at hb3
  refine vwp_skip ?_
  try simp only [thenQ, blockQ, jumpQ, stayQ]
  refine vwp_seq ?_
  refine vwp_block ?_
  refine vwp_reg tabOk [] [1, 2, 3, 4, 5, 8, 11, 12, 13] (by simp only [go_sem]; rfl) (by first | (simp [h0']; done) | (simp [h0', in64]; omega)) ?_
  refine vwp_seq (vwp_region ?_)
  refine oG [] ?_
  refine vops_step1 (step_lookup (t := 70) (k := 9) (e := 45) (i := 5) (s := (l.getD i [])) (z := zeroP) (zv := .agg (cPatch P0)) rel_zeroP rfl (by kernel_rfl) (zero_run (by kernel_rfl)) (by simp only [go_sem]) rfl (by simp only [go_sem])) rfl rfl ?_
  rw [lookupV]
  simp only [go_sem]
  refine oG [] ?_
  refine vops_done [1, 2, 3, 4, 5, 8, 9, 10, 11, 12, 13] ?_
  simp only [go_sem, thenQ, blockQ, jumpQ, stayQ]
  refine oR [1, 2, 3, 4, 5, 8, 9, 10, 11, 12, 13] ?_
  refine vwp_seq (vwp_region ?_)
  refine oG [] ?_
  refine vops_step1 (step_lookupZ (t := 103) (k := 9) (e := 3) (i := 6) (s := (l.getD i [])) (z := .int .i64 0) (zv := .int .i64 0) rel_zeroI rfl (by kernel_rfl) (zero_run (by kernel_rfl)) (by simp only [go_sem]) rfl (by simp only [go_sem])) rfl rfl ?_
  rw [toldM_get]
  simp only [go_sem]
  refine oG [] ?_
  refine vops_step1 (step_mapUpdate (t := 103) (k := 9) (e := 3) (i := 6) (s := (l.getD i [])) rfl (by kernel_rfl) (by simp only [go_sem]) rfl (by simp only [go_sem]) (by simp only [go_sem])) rfl rfl ?_
  simp only [go_sem, toldM_set]
  refine vops_done [1, 2, 3, 4, 5, 8, 9, 10, 11, 12, 13] ?_
  simp only [go_sem, thenQ, blockQ, jumpQ, stayQ]
  refine vwp_seq (vwp_region ?_)
  refine oG [] ?_
  refine vops_step1 (step_lookupZ (t := 103) (k := 9) (e := 3) (i := 6) (s := (l.getD i [])) (z := .int .i64 0) (zv := .int .i64 0) rel_zeroI rfl (by kernel_rfl) (zero_run (by kernel_rfl)) (by simp only [go_sem]) rfl (by simp only [go_sem])) rfl rfl ?_
  rw [toldM_get]
  simp only [go_sem]
  refine oG [] ?_
  refine vops_done [1, 2, 3, 4, 5, 9, 11, 12, 13, 37] ?_
  simp only [go_sem, thenQ, blockQ, jumpQ, stayQ]
  refine oB (fun h1 => ?_) fun h1 => ?_
  ·
   have h1' : cnt (bump (visitN (gP ps) (f + 1) (l.take i) s).1 (l.getD i [])) (l.getD i []) = 1 ∧ (gP ps (l.getD i [])).isSome = true := by
    revert h1; cases (gP ps (l.getD i [])).isSome <;> simp <;> omega
   have hfi : (bif (visitN (gP ps) (f + 1) (l.take i) s).2 then (gP ps (l.getD i [])).isSome else false) = (visitN (gP ps) (f + 1) (l.take i) s).2 := by rw [h1'.2]; cases (visitN (gP ps) (f + 1) (l.take i) s).2 <;> rfl
   rw [hfi]
   have hz0 : cnt (visitN (gP ps) (f + 1) (l.take i) s).1 (l.getD i []) = 0 := by
    have := h1'.1
    rw [cnt_bump] at this; simp at this; exact this
   have hsp := visitN_spec (gP_some hps) f (l.take i) s hroom
   have hr2 : room (ps.map (·.name)) (bump (visitN (gP ps) (f + 1) (l.take i) s).1 (l.getD i [])) < f := Nat.lt_of_lt_of_le (room_lt ((gP_some hps _).1 h1'.2) hz0 (by rw [cnt_bump]; simp) (bump_mono _ _)) (Nat.le_trans (room_mono hsp.mono) hroom)
   have hp2 := pend_bump_new (KP_nodup hps) ((gP_mem hps _ _).1 (gP_pOr h1'.2)) hz0
   have ht2 := tot_bump (visitN (gP ps) (f + 1) (l.take i) s).1 (l.getD i [])
   refine vwp_drawE1 mixed (by kernel_rfl) 4 [0, 0, 0, 0, 0] (by kernel_rfl) (f0 := ?f0_r7) (f1 := ?f1_r7) (H1 := ?H1_r7) (g1 := ?g1_r7) (v1 := ?v1_r7) (by simp only [go_sem]; rfl) ?hs0_r7 ?he1_r7 ?hg1_r7 ?hs1_r7 ?hk1_r7 ?hv1_r7 [1, 2, 3, 4, 5, 11, 12, 13] rfl ?hq_r7
   case hs0_r7 =>
    refine dstage_go tabOk (by simp only [go_sem]; rfl) (by first | trivial | (simp; done) | (simp [in64]; omega)) ?_
    refine dstage_callV (hc := hnx (pOr ps (l.getD i []))) rfl (by simp only [go_sem]; rfl) rfl hnb (by simp only [go_sem]; exact WkL.refl _) rfl (by simp only [go_sem]) rfl (by decide) ?_
    refine dstage_go tabOk (by simp only [go_sem]; rfl) (by first | trivial | (simp; done) | (simp [in64]; omega)) ?_
    exact dstage_nil
   case he1_r7 =>
    refine effOk_callVH (x := ?x) (f := ?f) (fs := ?fs) (cs := ?cs) (vs := ?vs) (H' := ?Hn) (r := ?r) (args := ?args) (ats := ?ats) [0, 1, 2, 3, 4, 5, 6] [] [] ?yc ?y0 ?yx ?yb ?y1 ?y2 ?y3 ?y4 ?y5
    case y0 => rfl
    case yx => simp only [go_sem]; rfl
    case yc => exact ih (pOr ps (l.getD i [])).deps (bump (visitN (gP ps) (f + 1) (l.take i) s).1 (l.getD i []), (visitN (gP ps) (f + 1) (l.take i) s).2) hr2 (by simp only; omega)
    case yb => exact b_visit_step
    case y1 => rfl
    case y2 => rfl
    case y3 => rfl
    case y4 => simp only [go_sem]; exact WkL.refl _
    case y5 => simp only [go_sem]
   case hg1_r7 => rfl
   case hs1_r7 =>
    refine dstage_go tabOk (by simp only [go_sem]; rfl) (by first | trivial | (simp; done) | (simp [in64]; omega)) ?_
    refine dstage_callV (hc := hnx (pOr ps (l.getD i []))) rfl (by simp only [go_sem]; rfl) rfl hnb (by simp only [go_sem]; exact WkL.refl _) rfl (by simp only [go_sem]) rfl (by decide) ?_
    refine dstage_go tabOk (by simp only [go_sem]; rfl) (by first | trivial | (simp; done) | (simp [in64]; omega)) ?_
    exact dstage_nil
   case hk1_r7 => simp [keptOk, inStage, mapE, go_sem]
   case hv1_r7 => simp [mapE, go_sem]
   simp only [go_sem, mapE, thenQ, blockQ, jumpQ, stayQ]
   try simp only [thenQ, blockQ, jumpQ, stayQ]
   refine vwp_trim 7 (by simp) (by simp) ?_
   simp only [go_sem]
   refine vwp_reg1 tabOk [] [1, 2, 3, 4, 5, 11, 12, 13] (by simp only [go_sem]; rfl) (by first | trivial | (simp; done) | (simp [in64]; omega)) ?_
   try simp only [thenQ, blockQ, jumpQ, stayQ]
   exact ⟨i + 1, (by omega), by omega, (wC (wC (wC (wC (wC (wC (wC (wC (Env.wk_nil _))))))))), by rw [visit_then h0' h1'.1 h1'.2]⟩
  ·
   refine vwp_skip ?_
   try simp only [thenQ, blockQ, jumpQ, stayQ]
   refine vwp_trim 7 (by simp) (by simp) ?_
   simp only [go_sem]
   refine vwp_reg1 tabOk [] [1, 2, 3, 4, 5, 11, 12, 13] (by simp only [go_sem]; rfl) (by first | trivial | (simp; done) | (simp [in64]; omega)) ?_
   try simp only [thenQ, blockQ, jumpQ, stayQ]
   exact ⟨i + 1, (by omega), by omega, (wC (wC (wC (wC (wC (wC (wC (wC (Env.wk_nil _))))))))), by rw [visit_else h0' h1]⟩
 ·
  refine vwp_exit ?_
  simp only [thenQ, blockQ, jumpQ, stayQ, if_true, reduceIte, Nat.reduceEqDiff]
  try simp only [thenQ, blockQ, jumpQ, stayQ, go_sem]
  refine ⟨by simp, _, _, rfl, by first | trivial | simp, ?_⟩
  have hi2 : i = l.length := by simp at h0; omega
  subst hi2
  rw [List.take_length]
  exact ⟨rfl, rfl⟩
theorem c_visit (nx : FuncId) (hnb : bodied Go.Proofs.Tryz.prog nx = true) (hnx : ∀ p : Patch, VPure Go.Proofs.Tryz.prog G nx [.agg (cPatch p)] (.list 1 (p.deps.map cS))) (ps : List Patch) (hps : apartP ps) : ∀ (f : Nat), Deeper nx ps f
 | 0 => fun l s h _ => absurd h (Nat.not_lt_zero _)
 | f + 1 => fun l s hroom hbd => c_visit_step nx hnb hnx ps hps f (c_visit nx hnb hnx ps hps f) l s (by omega) hbd
theorem b_closure_spread : bodied Go.Proofs.Tryz.prog 87 = true := by rw [bodied, Tryz.func87]; rfl
set_option maxHeartbeats 4000000 in
theorem c_closure_spread (nx : FuncId) (hnb : bodied Go.Proofs.Tryz.prog nx = true) (hnx : ∀ p : Patch, VPure Go.Proofs.Tryz.prog G nx [.agg (cPatch p)] (.list 1 (p.deps.map cS))) (ps : List Patch) (hps : apartP ps) (l : List Str) (hbd : l.length + pend (KP ps) [] ≤ 1000000000) : VCalls Go.Proofs.Tryz.prog G 87 [.map 0, .list 1 (l.map cS), .func (.func nx) [] []] [.map (mapP ps)] [] (fun r H => r = .tuple [.map 3, .bool (visitN (gP ps) (ps.length + 1) l ([], true)).2] ∧ H = [.map (mapP ps), .box [.map 0], .box [.func (.func nx) [] []], .map (toldM (visitN (gP ps) (ps.length + 1) l ([], true)).1)]) := by
 refine vcalls_of2 tabOk (rs := _) 4 Tryz.func87 rfl (by simp [Tryz.ntmps87]) rfl (by first | (simp; done) | exact Nat.le_refl _) ?_
 rw [Tryz.ntmps87]
 refine oR [1, 3, 5] ?_
 refine vwp_seq (vwp_region ?_)
 refine vops_step1 (step_makeMap (r := none) rfl) rfl rfl ?_
 simp only [go_sem]
 refine oG [] ?_
 refine vops_done [1, 3, 5, 8] ?_
 simp only [go_sem, thenQ, blockQ, jumpQ, stayQ]
 refine oR [1, 3, 5, 8, 9] ?_
 refine oR [1, 3, 5, 8, 9, 10] ?_
 refine oR [1, 8, 9, 10] ?_
 refine vwp_seq (vwp_region ?_)
 refine oG [] ?_
 refine vops_callVH (hc := c_visit nx hnb hnx ps hps (ps.length + 1) l ([], true) (Nat.lt_succ_of_le (Nat.le_trans (List.length_filter_le _ _) (by simp))) (by simpa [tot] using hbd)) rfl (by simp only [go_sem]; rfl) rfl rfl b_visit_step [1, 5, 4, 6, 2, 0, 3] [] [] rfl rfl rfl (by simp only [go_sem]; exact WkL.refl _) (by simp only [go_sem]) ?_
 rintro r0 H0 ⟨rfl, rfl⟩
 simp only [go_sem]
 refine vops_done [8, 9] ?_
 simp only [go_sem, thenQ, blockQ, jumpQ, stayQ]
 refine vwp_seq (vwp_drawD mixed (by kernel_rfl) (eF := ?_) ?_ [6, 7] rfl ?_)
 rotate_left
 ·
  refine dall_go tabOk (by simp only [go_sem]; rfl) (by first | trivial | (simp; done) | (simp [in64]; omega)) ?_
  exact dall_nil
 simp only [go_sem, thenQ, blockQ, jumpQ, stayQ]
 refine vwp_ret ?_
 try simp only [thenQ, blockQ, jumpQ, stayQ, go_sem]
 refine ⟨by simp, _, _, rfl, by first | trivial | simp, ?_⟩
 first | exact ⟨rfl, rfl⟩ | rfl
end Go.Proofs.YtnobnefabagbhaaGreatDoor.Q
end

section
/-
 DERIVED: THE SHELF's CONTRACTS AT THIS DUMP, IN PLAIN WORDS (tools/lay-plain.mjs out of 'TryzMini.lean', which tools/lay-shelf.mjs wrote): THE SAME DECLARATIONS UNDER THE SAME NAMES: 'import', 'namespace', 'open', 'def', 'theorem' AND NOTHING ELSE: no command of the shelf's: FOR A HAND-IN. Each laying: the table of numbers ('.._ren') and one theorem, a field a fact of the dump's own or the kernel's comparison; each contract: ONE APPLICATION.
-/
namespace Go.Proofs
open Go.Shelf
def Tryz.sortedZ_ren : Go.Shelf.Ren := ⟨fun | 6 => 32 | 8 => 64 | 9 => 65 | 11 => 97 | 13 => 99 | 12 => 98 | 23 => 137 | 24 => 138 | 14 => 128 | 15 => 129 | 16 => 130 | 17 => 131 | 18 => 132 | 19 => 133 | 20 => 134 | 21 => 135 | 22 => 136 | 25 => 167 | 26 => 168 | 27 => 169 | 28 => 170 | 29 => 171 | 30 => 172 | 31 => 193 | n => n, fun | 26 => 9 | 28 => 59 | 24 => 23 | 0 => 0 | 3 => 3 | 37 => 118 | 48 => 142 | 50 => 144 | 4 => 4 | 40 => 134 | 39 => 133 | 45 => 139 | 5 => 5 | 9 => 9 | 51 => 161 | 55 => 165 | 57 => 182 | 58 => 183 | 33 => 51 | n => n, fun | n => n⟩
theorem Tryz.sortedZ : Go.Proofs.SlLaysZ.n6 Tryz.prog Tryz.sortedZ_ren := {
 mixed := by kernel_rfl
 f6 := ⟨Tryz.f32.name, by decide, Tryz.func32.trans (congrArg some (by kernel_rfl))⟩
 f8 := ⟨Tryz.f64.name, by decide, Tryz.func64.trans (congrArg some (by kernel_rfl))⟩
 f11 := ⟨Tryz.f97.name, by decide, Tryz.func97.trans (congrArg some (by kernel_rfl))⟩
 t0 := Tryz.underlying0
 a0 := Tryz.isAgg0
 z0 := Tryz.sizeOf0
 v0 := Tryz.zeroValue0
 t24 := Tryz.underlying23
 a24 := Tryz.isAgg23
 z24 := Tryz.sizeOf23
 v24 := Tryz.zeroValue23
 t26 := Tryz.underlying9
 a26 := Tryz.isAgg9
 z26 := Tryz.sizeOf9
 v26 := Tryz.zeroValue9
 t28 := Tryz.underlying59
 a28 := Tryz.isAgg59
 z28 := Tryz.sizeOf59
 v28 := Tryz.zeroValue59
 i26 := by kernel_rfl }
def Tryz.keysI_ren : Go.Shelf.Ren := ⟨fun | 10 => 157 | n => n, fun | 33 => 51 | 23 => 103 | 0 => 0 | 4 => 4 | 26 => 9 | 3 => 3 | n => n, fun | n => n⟩
theorem Tryz.keysI : Go.Proofs.SlLaysZ.n10 Tryz.prog Tryz.keysI_ren := {
 mixed := by kernel_rfl
 f10 := ⟨Tryz.f157.name, by decide, Tryz.func157.trans (congrArg some (by kernel_rfl))⟩
 t0 := Tryz.underlying0
 a0 := Tryz.isAgg0
 z0 := Tryz.sizeOf0
 v0 := Tryz.zeroValue0
 t4 := Tryz.underlying4
 a4 := Tryz.isAgg4
 z4 := Tryz.sizeOf4
 v4 := Tryz.zeroValue4
 t23 := Tryz.underlying103
 a23 := Tryz.isAgg103
 z23 := Tryz.sizeOf103
 v23 := Tryz.zeroValue103
 t26 := Tryz.underlying9
 a26 := Tryz.isAgg9
 z26 := Tryz.sizeOf9
 v26 := Tryz.zeroValue9
 t33 := Tryz.underlying51
 a33 := Tryz.isAgg51
 z33 := Tryz.sizeOf51
 v33 := Tryz.zeroValue51 }
def Tryz.keysP_ren : Go.Shelf.Ren := ⟨fun | 10 => 117 | n => n, fun | 33 => 51 | 23 => 69 | 0 => 0 | 4 => 4 | 26 => 9 | 3 => 45 | n => n, fun | n => n⟩
theorem Tryz.keysP : Go.Proofs.SlLaysZ.n10 Tryz.prog Tryz.keysP_ren := {
 mixed := by kernel_rfl
 f10 := ⟨Tryz.f117.name, by decide, Tryz.func117.trans (congrArg some (by kernel_rfl))⟩
 t0 := Tryz.underlying0
 a0 := Tryz.isAgg0
 z0 := Tryz.sizeOf0
 v0 := Tryz.zeroValue0
 t4 := Tryz.underlying4
 a4 := Tryz.isAgg4
 z4 := Tryz.sizeOf4
 v4 := Tryz.zeroValue4
 t23 := Tryz.underlying69
 a23 := Tryz.isAgg69
 z23 := Tryz.sizeOf69
 v23 := Tryz.zeroValue69
 t26 := Tryz.underlying9
 a26 := Tryz.isAgg9
 z26 := Tryz.sizeOf9
 v26 := Tryz.zeroValue9
 t33 := Tryz.underlying51
 a33 := Tryz.isAgg51
 z33 := Tryz.sizeOf51
 v33 := Tryz.zeroValue51 }
end Go.Proofs
end

section
/- slices.Sorted over maps.Keys: the kit's laws, laid and read. -/
namespace Go.Proofs.YtnobnefabagbhaaGreatDoor.Q
open Go Go.Q Go.Proofs
open Go.RowKit (Below)
theorem vcalls_below {P : Program} {G : Glob} {f : FuncId} {args : List V} {H0 : List Go.Q.Obj} {post : V → Prop}
  (h : ∀ F ρ w (ms : List Value), Sim F ρ H0 w → RelL F ρ w args ms → G.G F w → Calls P f ms.toArray w fun e w' => ∃ mr r, e = .returned mr ∧ post r ∧ Rel (fun b => F b ∨ (w.heap.size ≤ b ∧ b < w'.heap.size)) [] w' r mr ∧ Below w.heap.size w w') : VCalls P G f args H0 [] (fun r H => post r ∧ H = H0) := by
 intro F ρ w ms sim hr hG
 refine (h F ρ w ms sim hr hG).mono ?_
 rintro e w' ⟨mr, r, rfl, hp, hrel, hb⟩
 have st := (st_of_sim P G [] sim hG).grow (F' := fun b => F b ∨ (w.heap.size ≤ b ∧ b < w'.heap.size)) hb (fun _ h => .inl h) (fun b hb => hb.imp id (·.1)) (fun b hb2 => hb2.elim (fun h => Nat.lt_of_lt_of_le (sim.alloc b h) hb.size) (·.2))
 exact ⟨_, ρ, H0, r, mr, rfl, ⟨hp, rfl⟩, Rel.goes ⟨fun _ h => h, fun _ _ => rfl, fun _ _ h => by simp at h⟩ _ _ hrel, st.sim, st.evol⟩
def anyR : Value → Option (DataW Unit × List MemPlace) := fun _ => some (.lit (.bool true), [])
theorem rd_any {P : Program} {k : TypeId} {x : MapEntry} {s : Str} (hk : P.underlying k = some .string) (hx : x.key = .string ⟨s.toArray⟩) (hl : s.length ≤ maxB) : WideElems.rd P k anyR x = some (.string s, .lit (.bool true)) := by
 have h1 : keyOf P k x.key = some (.string s) := by
  unfold keyOf
  rw [hk]
  simp only [mapKey, hk, hx]
  rw [if_pos (show (⟨s.toArray⟩ : ByteArray).size ≤ Go.maxLen from by rw [ba_size]; unfold maxB at hl; unfold Go.maxLen; omega)]
 simp [WideElems.rd, h1, anyR]
theorem relM_at {F : Nat → Prop} {w : World} : ∀ {es : MapV} {ms : List MapEntry}, RelM F w es ms → ms.map (·.key) = es.map fun x => .string ⟨x.1.toArray⟩
 | [], ms, h => by simp only [RelM] at h; subst h; rfl
 | (k, v) :: r, ms, h => by
  simp only [RelM] at h
  obtain ⟨m, t, rfl, h1, _, h2⟩ := h
  simp [relM_at h2, h1]
theorem rgs_of {P : Program} {k : TypeId} (hk : P.underlying k = some .string) : ∀ {es : MapV} {ms : List MapEntry}, (ms.map (·.key) = es.map fun x => .string ⟨x.1.toArray⟩) → (∀ x ∈ es, x.1.length ≤ maxB) → ms.map (WideElems.rg P k anyR) = es.map (fun x => (Lit.string x.1, (.lit (.bool true) : DataW Unit))) ∧ ∀ x ∈ ms, ∃ y, WideElems.rd P k anyR x = some y
 | [], ms, h, _ => by
  have : ms = [] := by simpa using h
  subst this; simp
 | (s, v) :: r, [], h, _ => by simp at h
 | (s, v) :: r, m :: ms, h, hl => by
  simp only [List.map_cons, List.cons.injEq] at h
  obtain ⟨h1, h2⟩ := h
  have hr := rd_any hk h1 (hl (s, v) (by simp))
  obtain ⟨g1, g2⟩ := rgs_of hk h2 fun x hx => hl x (List.mem_cons_of_mem _ hx)
  refine ⟨by simp [g1, WideElems.rg, hr], ?_⟩
  intro x hx
  rcases List.mem_cons.1 hx with rfl | hx
  ·exact ⟨_, hr⟩
  ·exact g2 x hx
theorem sorted_keys {κ : FuncId} {ρZ ρK : Go.Shelf.Ren} (LS : SlLaysZ.n6 Go.Proofs.Tryz.prog ρZ) (LK : SlLaysZ.n10 Go.Proofs.Tryz.prog ρK) (e6 : ρZ.f 6 = 32) (e9 : ρZ.f 9 = 65) (e10 : ρK.f 10 = κ) (t26 : Go.Proofs.Tryz.prog.underlying (ρK.t 26) = some .string) (t26' : Go.Proofs.Tryz.prog.underlying (ρZ.t 26) = some .string)
  (eκ : ∀ args w, (callFunc κ args).run Go.Proofs.Tryz.prog w = .ok (.enter κ args) w) (es : MapV) (hn : (es.map (·.1)).Nodup) (hl : ∀ x ∈ es, x.1.length ≤ maxB) (hsz : es.length ≤ 1000000000) :
  VCalls Go.Proofs.Tryz.prog G 32 [.func (.func κ) [] [.ptr 0 0]] [.box [.map 1], .map es] [] (fun r H => (∃ ks : List Str, ks.Perm (es.map (·.1)) ∧ ks.Pairwise (· ≤ ·) ∧ r = .list 1 (ks.map cS)) ∧ H = [.box [.map 1], .map es]) := by
 refine vcalls_below (post := fun r => ∃ ks : List Str, ks.Perm (es.map (·.1)) ∧ ks.Pairwise (· ≤ ·) ∧ r = .list 1 (ks.map cS)) ?_
 intro F ρ w ms sim hr hG
 have hlen := sim.len
 obtain ⟨b0, b1, rfl⟩ : ∃ b0 b1, ρ = [b0, b1] := by
  match ρ, hlen with
  | [b0, b1], _ => exact ⟨b0, b1, rfl⟩
 obtain ⟨bb, us, ty, rfl, hbox, hus, hone⟩ := sim.obj 0 _ _ rfl rfl
 obtain ⟨r, mes, clk, rfl, hheap, hrel, hpw, hlt⟩ := sim.obj 1 _ _ rfl rfl
 simp only [RelL, Rel] at hus
 obtain ⟨u, _, rfl, ⟨r', hr1, rfl⟩, rfl⟩ := hus
 simp at hr1
 subst hr1
 simp only [RelL, Rel] at hr
 obtain ⟨_, _, rfl, ⟨us, vs, rfl, rfl, _, _, rfl, ⟨_, _, hb0, rfl⟩, rfl⟩, rfl⟩ := hr
 simp at hb0
 obtain ⟨rfl, rfl⟩ := hb0
 have hkeys := relM_at hrel
 obtain ⟨hrg, hrd⟩ := rgs_of t26 hkeys hl
 have hml : mes.toList.length = es.length := by
  have := congrArg List.length hkeys
  simpa using this
 have hown : w.ownsMap Go.Proofs.Tryz.prog (ρK.t 26) anyR r mes.size (.map ((mes.toList.map (WideElems.rg Go.Proofs.Tryz.prog (ρK.t 26) anyR)).foldr DataW.insert [])) := by
  refine ⟨mes, clk, hheap, ⟨?_, ⟨hlt, ?_, ?_⟩, hrd⟩, Nat.le_refl _, rfl⟩
  ·have : mes.size = es.length := by simpa using hml
   unfold Go.maxLen; omega
  ·exact List.pairwise_map.2 (hpw.imp fun h => Nat.ne_of_lt h)
  ·rw [hkeys]
   refine List.pairwise_map.2 ((List.pairwise_map.1 hn).imp fun {a b} h e => h ?_)
   simp at e
   exact e
 have hBm : w.cell? ⟨bb, 0, none⟩ = some (.map (some r)) := by
  have hbox' : w.heap[bb]? = some (.cells #[.map (some r)] ty (0, 0)) := hbox
  simp [World.cell?, hbox']
 have hBl : bb < w.heap.size := (Array.getElem?_eq_some_iff.1 hbox).1
 have hseq : ∀ n, 1 ≤ n → SeqGives Fence.wide n Go.Proofs.Tryz.prog (ρK.f 10) #[.pointer (some ⟨bb, 0, none⟩)] encStr (fun ss => ss.Perm (strKeys (.map ((mes.toList.map (WideElems.rg Go.Proofs.Tryz.prog (ρK.t 26) anyR)).foldr DataW.insert []) : DataW Unit))) (Maps.size (.map ((mes.toList.map (WideElems.rg Go.Proofs.Tryz.prog (ρK.t 26) anyR)).foldr DataW.insert []) : DataW Unit)) w := fun n h1 =>
  AnyZ.keys_gives LK Fence.wide n trivial rfl h1 bb r _ _ w hBl hBm hown
 have hsk : (strKeys (.map ((mes.toList.map (WideElems.rg Go.Proofs.Tryz.prog (ρK.t 26) anyR)).foldr DataW.insert []) : DataW Unit)).Perm (es.map (·.1)) := by
  show (List.map (fun p : Lit × DataW Unit => strOf p.1) _).Perm _
  refine ((WideShapes.sorted_perm _).map _).trans ?_
  rw [hrg, List.map_map]
  exact .refl _
 have hms : Maps.size (.map ((mes.toList.map (WideElems.rg Go.Proofs.Tryz.prog (ρK.t 26) anyR)).foldr DataW.insert []) : DataW Unit) = es.length := by
  show List.length _ = _
  rw [(WideShapes.sorted_perm _).length_eq, List.length_map, hml]
 have hsort : ∀ m, AnyZ.SortsIn Go.Proofs.Tryz.prog ρZ Fence.wide m := by
  intro m
  refine ⟨fun blk off cap ss W h1 h2 h3 => ?_, fun p cap W => ?_⟩
  ·rw [e9]; exact callsIn_wide.2 (Tryz.slices_Sort_string blk off cap ss W h1 h2 h3)
  ·rw [e9]; exact callsIn_wide.2 (Tryz.slices_Sort_string_none p cap W)
 have hres := AnyZ.sorted_in LS Fence.wide 10 trivial trivial trivial trivial rfl (by decide) (hsort _) (fun args w => by rw [e9]; exact enters_of Tryz.func65 (by kernel_rfl) rfl args w) κ #[.pointer (some ⟨bb, 0, none⟩)] trivial eκ _ (Maps.size (.map ((mes.toList.map (WideElems.rg Go.Proofs.Tryz.prog (ρK.t 26) anyR)).foldr DataW.insert []) : DataW Unit)) (by rw [hms]; unfold Go.maxLen; omega) (by rw [hms]; omega) w (by rw [← e10]; exact hseq _ (by decide))
 rw [e6] at hres
 refine (callsIn_wide.1 hres).mono ?_
 rintro e w' ⟨v, ss, rfl, hS, hrow, hnil, hb⟩
 refine ⟨v, .list 1 ((ss.mergeSort fun x y => decide (x ≤ y)).map cS), rfl, ⟨_, ?_, ?_, rfl⟩, ?_, hb⟩
 ·exact (List.mergeSort_perm ss _).trans (hS.trans hsk)
 ·have tr : ∀ a b c : List UInt8, decide (a ≤ b) = true → decide (b ≤ c) = true → decide (a ≤ c) = true := fun a b c h1 h2 => by simp only [decide_eq_true_eq] at *; exact List.le_trans h1 h2
  have to : ∀ a b : List UInt8, (decide (a ≤ b) || decide (b ≤ a)) = true := fun a b => by simp only [Bool.or_eq_true, decide_eq_true_eq]; exact List.le_total a b
  exact (List.pairwise_mergeSort tr to ss).imp fun h => of_decide_eq_true h
 ·have hpm : (ss.mergeSort fun x y => decide (x ≤ y)).Perm (es.map (·.1)) := (List.mergeSort_perm ss _).trans (hS.trans hsk)
  have hlen2 : (ss.mergeSort fun x y => decide (x ≤ y)).length = es.length := by rw [hpm.length_eq, List.length_map]
  have hll : ∀ x ∈ (ss.mergeSort fun x y => decide (x ≤ y)), x.length ≤ maxB := by
   intro x hx
   obtain ⟨y, hy, rfl⟩ := List.mem_map.1 (hpm.mem_iff.1 hx)
   exact hl y hy
  have hlen3 : ss.length = es.length := by rw [← hlen2]; exact (List.mergeSort_perm ss _).length_eq.symm
  generalize hks : (ss.mergeSort fun x y => decide (x ≤ y)) = ks at *
  have hR : ∀ (F' : Nat → Prop) (l : List (List UInt8)), (∀ x ∈ l, x.length ≤ maxB) → RelLL F' w' 1 (l.map cS) (l.map encStr) := by
   intro F' l
   induction l with
   | nil => intro _; rfl
   | cons x r ih =>
    intro h
    exact ⟨[encStr x], r.map encStr, rfl, rfl, by simp only [cS, RelL, Rel, encStr]; exact ⟨_, _, rfl, ⟨rfl, h x (by simp)⟩, rfl⟩, by simp [encStr, Value.oneCell'], ih fun y hy => h y (List.mem_cons_of_mem _ hy)⟩
  simp only [Rel]
  rcases hrow.2 with ⟨rfl, hz⟩ | ⟨gb, cap, cur, rfl, hbase, hgb, r1, r2, r3, r4⟩
  ·have : ks = [] := List.eq_nil_of_length_eq_zero (by omega)
   subst this
   exact ⟨none, 0, [], by simp, by simp, by simp [maxB], rfl, .inl rfl⟩
  ·refine ⟨some ⟨gb, 0, none⟩, cap, ks.map encStr, by simp; omega, by simp; omega, by simp [maxB]; omega, hR _ ks hll, .inr ⟨gb, 0, rfl, .inr ⟨hbase, (Array.getElem?_eq_some_iff.1 hgb).1⟩, ?_⟩⟩
   intro j u hu
   have := World.ownsRow.cells hrow (g := gb) rfl j u hu
   rw [add_spot rfl] at this
   exact this
end Go.Proofs.YtnobnefabagbhaaGreatDoor.Q
end

section
/- What some names stand on: the document's answer and the program's are one. -/
namespace Go.Proofs.YtnobnefabagbhaaGreatDoor.Q
open Go Go.Q
def reachQ (s : List Patch) (l : List Str) : Option (List Str) := queue (gP s) (Q.load (KP s) l [] + 1) l []
def pickP (s : List Patch) (o : List Str) : List Patch := s.filter fun p => decide (p.name ∈ o)
def downP (ps : List Patch) (l : List Str) : List Str × Int := match sortedP ps with
 | none => ([], 1)
 | some s => match reachQ s l with
  | none => ([], 12)
  | some o => ((pickP s o).map (·.name), 0)
theorem sorted_of {ps : List Patch} (h : ofB ps = true) : ∃ s, sortedP ps = some s := by
 have h1 := sortedP_isSome ps
 rw [h] at h1
 exact Option.isSome_iff_exists.1 h1
theorem apart_perm {s ps : List Patch} (hp : s.Perm ps) (h : apartP ps) : apartP s := (apartP_perm hp).2 h
theorem gP_perm {s ps : List Patch} (hp : s.Perm ps) (h : apartP ps) : gP s = gP ps := by
 funext n
 have hs := apart_perm hp h
 cases h1 : gP ps n with
 | some d =>
  have := (gP_mem h n d).1 h1
  exact (gP_mem hs n d).2 ((hp.map _).mem_iff.2 this)
 | none =>
  cases h2 : gP s n with
  | none => rfl
  | some d =>
   have := (gP_mem hs n d).1 h2
   rw [(gP_mem h n d).2 ((hp.map _).mem_iff.1 this)] at h1
   cases h1
theorem reachQ_spec {s ps : List Patch} (hp : s.Perm ps) (h : apartP ps) (l : List Str) : match reachQ s l with
  | some o => o.Nodup ∧ (∀ n, n ∈ o ↔ Q.Reach (gP ps) l n) ∧ ∀ n, Q.Reach (gP ps) l n → (gP ps n).isSome = true
  | none => ∃ n, Q.Reach (gP ps) l n ∧ gP ps n = none := by
 have := queue_spec (KP_nodup (apart_perm hp h)) (gP_mem (apart_perm hp h)) (Q.load (KP s) l [] + 1) l [] (QInv.start (gP s) l) (Nat.lt_succ_self _)
 rw [gP_perm hp h] at this
 rw [reachQ, gP_perm hp h]
 exact this
theorem downP_no {ps : List Patch} (h : ofB ps = false) (l : List Str) : downP ps l = ([], 1) := by
 have h1 := sortedP_isSome ps
 rw [h] at h1
 rw [downP, Option.isSome_eq_false_iff.1 h1 |> Option.isNone_iff_eq_none.1]
abbrev FF (ps : List Patch) (l : List Str) : Cnts × Bool := visitN (gP ps) (ps.length + 1) l ([], true)
theorem FF_fine {ps : List Patch} (h : apartP ps) (l : List Str) : (FF ps l).2 = true ↔ ∀ n, Q.Reach (gP ps) l n → (gP ps n).isSome = true :=
 visitN_fine (gP_some h) l ps.length (by simp)
theorem FF_keys {ps : List Patch} (h : apartP ps) (l : List Str) (n : Str) : n ∈ keysOf (FF ps l).1 ↔ Q.Reach (gP ps) l n := by
 have hs : Sound (FF ps l).1 := visitN_sound _ l ([], true) ⟨by simp [keysOf], by simp⟩
 rw [hs.mem]
 exact visitN_reach (gP_some h) l ps.length (by simp) n
theorem FF_nodup (ps : List Patch) (l : List Str) : (keysOf (FF ps l).1).Nodup := (visitN_sound _ l ([], true) ⟨by simp [keysOf], by simp⟩ : Sound (FF ps l).1).1
theorem FF_names {ps : List Patch} (h : apartP ps) {l : List Str} (hf : (FF ps l).2 = true) {n : Str} (hn : n ∈ keysOf (FF ps l).1) : ∃ p ∈ ps, p.name = n := by
 have := (gP_some h n).1 ((FF_fine h l).1 hf n ((FF_keys h l n).1 hn))
 obtain ⟨p, h1, h2⟩ := List.mem_map.1 this
 exact ⟨p, h1, h2⟩
theorem downP_none {ps : List Patch} (h : ofB ps = true) {l : List Str} (hf : (FF ps l).2 = false) : downP ps l = ([], 12) := by
 obtain ⟨s, hs⟩ := sorted_of h
 have hp := (sortedP_facts hs).1
 have ha := ofB_apart h
 have hq := reachQ_spec hp ha l
 simp only [downP, hs]
 cases hr : reachQ s l with
 | none => rfl
 | some o =>
  rw [hr] at hq
  rw [(FF_fine ha l).2 hq.2.2] at hf
  cases hf
theorem le_gt {a b : Str} : a ≤ b ↔ strGt a b = false := by
 rw [strGt_false]
 constructor
 ·intro h
  rcases str_tri a b with h1 | h1 | h1
  ·exact .inl h1
  ·exact .inr h1
  ·exact absurd h1 h
 ·rintro (h | rfl)
  ·exact List.le_of_lt h
  ·exact List.le_refl _
theorem names_uniq {s : List Patch} (ha : apartP s) (hu : upP s) {o ks : List Str} (hk : ks.Nodup) (hs : ks.Pairwise (· ≤ ·)) (hm : ∀ n, n ∈ ks ↔ n ∈ o) (ho : ∀ n ∈ o, ∃ p ∈ s, p.name = n) : (pickP s o).map (·.name) = ks := by
 have h1 : ((pickP s o).map (·.name)).Pairwise (· ≤ ·) := by
  refine List.pairwise_map.2 ?_
  exact (List.Pairwise.filter _ hu).imp fun h => le_gt.2 h
 have h2 : ((pickP s o).map (·.name)).Nodup := by
  refine List.pairwise_map.2 ?_
  exact List.Pairwise.filter _ ha
 have hp : ((pickP s o).map (·.name)).Perm ks := by
  refine (List.perm_ext_iff_of_nodup h2 hk).2 fun n => ?_
  rw [hm]
  constructor
  ·intro h
   obtain ⟨p, hp, rfl⟩ := List.mem_map.1 h
   have := (List.mem_filter.1 hp).2
   simpa using this
  ·intro h
   obtain ⟨p, hp, rfl⟩ := ho n h
   exact List.mem_map.2 ⟨p, List.mem_filter.2 ⟨hp, by simpa using h⟩, rfl⟩
 exact List.Perm.eq_of_pairwise (fun a b _ _ e1 e2 => List.le_antisymm e1 e2) h1 hs hp
theorem downP_some {ps : List Patch} (h : ofB ps = true) {l : List Str} (hf : (FF ps l).2 = true) {ks : List Str} (hk : ks.Perm (keysOf (FF ps l).1)) (hs : ks.Pairwise (· ≤ ·)) : downP ps l = (ks, 0) := by
 obtain ⟨s, hso⟩ := sorted_of h
 obtain ⟨hp, hu, ha, _⟩ := sortedP_facts hso
 have hq := reachQ_spec hp ha l
 simp only [downP, hso]
 cases hr : reachQ s l with
 | none =>
  rw [hr] at hq
  obtain ⟨n, h1, h2⟩ := hq
  have := (FF_fine ha l).1 hf n h1
  rw [h2] at this; cases this
 | some o =>
  rw [hr] at hq
  simp only
  rw [names_uniq (apart_perm hp ha) hu (hk.nodup_iff.2 (FF_nodup ps l)) hs (fun n => by rw [hk.mem_iff, FF_keys ha, hq.2.1]) fun n hn => ?_]
  have := (gP_some ha n).1 (hq.2.2 n ((hq.2.1 n).1 hn))
  obtain ⟨p, h1, h2⟩ := List.mem_map.1 this
  exact ⟨p, hp.mem_iff.2 h1, h2⟩
end Go.Proofs.YtnobnefabagbhaaGreatDoor.Q
end

section
/- Walks of the names that some stand on (the program's closure.Down), in the logic 'Q'. -/
namespace Go.Proofs.YtnobnefabagbhaaGreatDoor.Q
open Go Go.Q
theorem b_maps_Keys_I : bodied Go.Proofs.Tryz.prog 119 = true := by rw [bodied, Tryz.func119]; rfl
theorem c_maps_Keys_I (es : MapV) : VCalls Go.Proofs.Tryz.prog G 119 [.map 0] [.map es] [] (fun r H => r = .func (.func 157) [] [.ptr 1 0] ∧ H = [.map es, .box [.map 0]]) := by
 refine vcalls_of2 tabOk (rs := _) 2 Tryz.func119 rfl (by simp [Tryz.ntmps119]) rfl (by first | (simp; done) | exact Nat.le_refl _) ?_
 rw [Tryz.ntmps119]
 refine oR [1] ?_
 refine oR [2] ?_
 refine vwp_ret ?_
 try simp only [thenQ, blockQ, jumpQ, stayQ, go_sem]
 refine ⟨by simp, _, _, rfl, by first | trivial | simp, ?_⟩
 first | exact ⟨rfl, rfl⟩ | rfl
theorem c_sorted_I (es : MapV) (hn : (es.map (·.1)).Nodup) (hl : ∀ x ∈ es, x.1.length ≤ maxB) (hsz : es.length ≤ 1000000000) :
  VCalls Go.Proofs.Tryz.prog G 32 [.func (.func 157) [] [.ptr 0 0]] [.box [.map 1], .map es] [] (fun r H => (∃ ks : List Str, ks.Perm (es.map (·.1)) ∧ ks.Pairwise (· ≤ ·) ∧ r = .list 1 (ks.map cS)) ∧ H = [.box [.map 1], .map es]) :=
 sorted_keys Tryz.sortedZ Tryz.keysI rfl rfl rfl (by kernel_rfl) (by kernel_rfl) (enters_of Tryz.func157 (by kernel_rfl) rfl) es hn hl hsz
theorem b_maps_Keys_P : bodied Go.Proofs.Tryz.prog 85 = true := by rw [bodied, Tryz.func85]; rfl
theorem c_maps_Keys_P (es : MapV) : VCalls Go.Proofs.Tryz.prog G 85 [.map 0] [.map es] [] (fun r H => r = .func (.func 117) [] [.ptr 1 0] ∧ H = [.map es, .box [.map 0]]) := by
 refine vcalls_of2 tabOk (rs := _) 2 Tryz.func85 rfl (by simp [Tryz.ntmps85]) rfl (by first | (simp; done) | exact Nat.le_refl _) ?_
 rw [Tryz.ntmps85]
 refine oR [1] ?_
 refine oR [2] ?_
 refine vwp_ret ?_
 try simp only [thenQ, blockQ, jumpQ, stayQ, go_sem]
 refine ⟨by simp, _, _, rfl, by first | trivial | simp, ?_⟩
 first | exact ⟨rfl, rfl⟩ | rfl
theorem c_sorted_P (es : MapV) (hn : (es.map (·.1)).Nodup) (hl : ∀ x ∈ es, x.1.length ≤ maxB) (hsz : es.length ≤ 1000000000) :
  VCalls Go.Proofs.Tryz.prog G 32 [.func (.func 117) [] [.ptr 0 0]] [.box [.map 1], .map es] [] (fun r H => (∃ ks : List Str, ks.Perm (es.map (·.1)) ∧ ks.Pairwise (· ≤ ·) ∧ r = .list 1 (ks.map cS)) ∧ H = [.box [.map 1], .map es]) :=
 sorted_keys Tryz.sortedZ Tryz.keysP rfl rfl rfl (by kernel_rfl) (by kernel_rfl) (enters_of Tryz.func117 (by kernel_rfl) rfl) es hn hl hsz
theorem b_closure_names_I : bodied Go.Proofs.Tryz.prog 88 = true := by rw [bodied, Tryz.func88]; rfl
theorem c_closure_names_I (es : MapV) (hn : (es.map (·.1)).Nodup) (hl : ∀ x ∈ es, x.1.length ≤ maxB) (hsz : es.length ≤ 1000000000) : VCalls Go.Proofs.Tryz.prog G 88 [.map 0] [.map es] [] (fun r H => (∃ ks : List Str, ks.Perm (es.map (·.1)) ∧ ks.Pairwise (· ≤ ·) ∧ r = .list 1 (ks.map cS)) ∧ H = [.map es]) := by
 refine vcalls_of2 tabOk (rs := _) 1 Tryz.func88 rfl (by simp [Tryz.ntmps88]) rfl (by first | (simp; done) | exact Nat.le_refl _) ?_
 rw [Tryz.ntmps88]
 refine oR [0] ?_
 refine vwp_seq (vwp_region ?_)
 refine oG [] ?_
 refine vops_callH (hc := c_maps_Keys_I es) rfl rfl rfl b_maps_Keys_I [0] [] [] rfl rfl rfl (by simp only [go_sem]; exact WkL.refl _) (by simp only [go_sem]) ?_
 rintro r0 H0 ⟨rfl, rfl⟩
 simp only [go_sem]
 refine vops_callH (hc := c_sorted_I es hn hl hsz) rfl rfl rfl (by rw [bodied, Tryz.func32]; rfl) [1, 0] [] [] rfl rfl rfl (by simp only [go_sem]; exact WkL.refl _) (by simp only [go_sem]) ?_
 rintro r1 H1 ⟨⟨ks, h1, h2, rfl⟩, rfl⟩
 simp only [go_sem]
 refine oG [] ?_
 refine vops_done [2] ?_
 simp only [go_sem, thenQ, blockQ, jumpQ, stayQ]
 refine vwp_ret ?_
 try simp only [thenQ, blockQ, jumpQ, stayQ, go_sem]
 refine ⟨by simp, _, _, rfl, by first | trivial | simp, ?_⟩
 exact ⟨ks, h1, h2, rfl⟩
theorem b_closure_names_P : bodied Go.Proofs.Tryz.prog 47 = true := by rw [bodied, Tryz.func47]; rfl
theorem c_closure_names_P (es : MapV) (hn : (es.map (·.1)).Nodup) (hl : ∀ x ∈ es, x.1.length ≤ maxB) (hsz : es.length ≤ 1000000000) : VCalls Go.Proofs.Tryz.prog G 47 [.map 0] [.map es] [] (fun r H => (∃ ks : List Str, ks.Perm (es.map (·.1)) ∧ ks.Pairwise (· ≤ ·) ∧ r = .list 1 (ks.map cS)) ∧ H = [.map es]) := by
 refine vcalls_of2 tabOk (rs := _) 1 Tryz.func47 rfl (by simp [Tryz.ntmps47]) rfl (by first | (simp; done) | exact Nat.le_refl _) ?_
 rw [Tryz.ntmps47]
 refine oR [0] ?_
 refine vwp_seq (vwp_region ?_)
 refine oG [] ?_
 refine vops_callH (hc := c_maps_Keys_P es) rfl rfl rfl b_maps_Keys_P [0] [] [] rfl rfl rfl (by simp only [go_sem]; exact WkL.refl _) (by simp only [go_sem]) ?_
 rintro r0 H0 ⟨rfl, rfl⟩
 simp only [go_sem]
 refine vops_callH (hc := c_sorted_P es hn hl hsz) rfl rfl rfl (by rw [bodied, Tryz.func32]; rfl) [1, 0] [] [] rfl rfl rfl (by simp only [go_sem]; exact WkL.refl _) (by simp only [go_sem]) ?_
 rintro r1 H1 ⟨⟨ks, h1, h2, rfl⟩, rfl⟩
 simp only [go_sem]
 refine oG [] ?_
 refine vops_done [2] ?_
 simp only [go_sem, thenQ, blockQ, jumpQ, stayQ]
 refine vwp_ret ?_
 try simp only [thenQ, blockQ, jumpQ, stayQ, go_sem]
 refine ⟨by simp, _, _, rfl, by first | trivial | simp, ?_⟩
 exact ⟨ks, h1, h2, rfl⟩
theorem c_closure_of_ok (l : List Patch) (h : ofB l = true) : VCalls Go.Proofs.Tryz.prog G 46 [.list 3 (l.map cPatch)] [] [] (fun r H => r = .tuple [.map 0, .bool true] ∧ H = [.map (mapP l)]) :=
 vcalls_wk (c_closure_of l) fun r H ⟨m, es, h1, h2, h3⟩ => ⟨_, Wk.refl _, by obtain ⟨rfl, rfl⟩ := h3 h; rw [h1, h2, h, mapOf_apart (ofB_apart h)]; exact ⟨rfl, rfl⟩⟩
theorem c_closure_of_no (l : List Patch) (h : ofB l = false) : VCalls Go.Proofs.Tryz.prog G 46 [.list 3 (l.map cPatch)] [] [] (fun r H => ∃ es, r = .tuple [.undef, .bool false] ∧ H = [.map es]) :=
 vcalls_wk (c_closure_of_u l) fun r H h1 => ⟨r, Wk.refl _, by rw [h] at h1; exact h1⟩
theorem pend_len (K : List (Str × List Str)) (m : Nat) (h : ∀ x ∈ K, x.2.length ≤ m) : pend K [] ≤ K.length * m := by
 unfold pend
 induction K with
 | nil => simp
 | cons x K ih =>
  have h1 := h x (by simp)
  have h2 := ih fun y hy => h y (List.mem_cons_of_mem _ hy)
  rw [List.filter_cons, if_pos (by simp [cnt]), List.map_cons, List.sum_cons, List.length_cons, Nat.add_mul]; omega
theorem pend_of {ps : List Patch} (h : ofB ps = true) : pend (KP ps) [] ≤ 65536 := by
 have h1 := ofB_len h
 have h2 : ∀ x ∈ KP ps, x.2.length ≤ 256 := by
  intro x hx
  obtain ⟨p, hp, rfl⟩ := List.mem_map.1 hx
  simp only [ofB, Bool.and_eq_true] at h
  have := List.all_eq_true.1 h.1 p hp
  simp only [patchB, Bool.and_eq_true, decide_eq_true_eq] at this
  exact this.1.1.2
 have := pend_len (KP ps) 256 h2
 have e : (KP ps).length = ps.length := by simp [KP]
 rw [e] at this
 omega
theorem keys_tot {t : Cnts} (h : ∀ x ∈ t, 0 < x.2) : (keysOf t).length ≤ tot t := by
 induction t with
 | nil => simp [keysOf]
 | cons x t ih =>
  have h1 := h x (by simp)
  have h2 := ih fun y hy => h y (List.mem_cons_of_mem _ hy)
  simp only [keysOf, tot, List.map_cons, List.length_cons, List.sum_cons] at *; omega
theorem FF_len {ps : List Patch} (h : ofB ps = true) {l : List Str} (hl : l.length ≤ 900000000) : (toldM (FF ps l).1).length ≤ 1000000000 := by
 have h1 := visitN_bound (KP_nodup (ofB_apart h)) (gP_mem (ofB_apart h)) (ps.length + 1) l ([], true)
 have h2 : Sound (FF ps l).1 := visitN_sound _ l ([], true) ⟨by simp [keysOf], by simp⟩
 have h3 := keys_tot h2.2
 have h4 := pend_of h
 have e : (toldM (FF ps l).1).length = (keysOf (FF ps l).1).length := by simp [toldM, keysOf]
 rw [e]
 have e0 : tot ([] : Cnts) = 0 := rfl
 simp only [e0] at h1
 simp only [FF] at h3 ⊢
 omega
theorem told_keys (t : Cnts) : (toldM t).map (·.1) = keysOf t := by simp [toldM, keysOf]
theorem b_closure_spreading : bodied Go.Proofs.Tryz.prog 52 = true := by rw [bodied, Tryz.func52]; rfl
theorem c_closure_spreading_no (ps : List Patch) (l : List Str) (h : ofB ps = false) : VPure Go.Proofs.Tryz.prog G 52 [.list 3 (ps.map cPatch), .list 1 (l.map cS), .func (.func 53) [] []] (.tuple [.list 1 [], .int .i64 1]) := by
 refine vpure_of (ts := [6, 7]) Tryz.func52 rfl (by simp [Tryz.ntmps52]) rfl rfl ?_
 rw [Tryz.ntmps52]
 refine oR [0, 1, 2] ?_
 refine vwp_seq (vwp_region ?_)
 refine oG [] ?_
 refine vops_callH (hc := c_closure_of_no ps h) rfl rfl rfl b_closure_of [] [] [] rfl rfl rfl (by simp only [go_sem]; exact WkL.refl _) (by simp only [go_sem]) ?_
 rintro r0 H0 ⟨es, rfl, rfl⟩
 simp only [go_sem]
 refine oG [] ?_
 refine vops_done [1, 2, 8, 9] ?_
 simp only [go_sem, thenQ, blockQ, jumpQ, stayQ]
 refine vwp_seq ?_
 refine oR [1, 2, 8, 18] ?_
 refine oB (fun h0 => ?_) fun h0 => ?_
 ·
  refine oR [6, 7] ?_
  refine vwp_ret ?_
  simp only [thenQ, blockQ, jumpQ, stayQ, RetQ, go_sem]
  refine ⟨by simp, ?_⟩
  exact Wk.tuple ⟨Wk.nils _, Wk.refl _, trivial⟩
 ·
  simp at h0
set_option maxHeartbeats 4000000 in
theorem c_closure_spreading_ok (ps : List Patch) (l : List Str) (h : ofB ps = true) (hl : l.length ≤ 900000000) : VPure Go.Proofs.Tryz.prog G 52 [.list 3 (ps.map cPatch), .list 1 (l.map cS), .func (.func 53) [] []] (.tuple [.list 1 ((downP ps l).1.map cS), .int .i64 (downP ps l).2]) := by
 refine vpure_know fun hk => ?_
 have hpd := pend_of h
 have hpn : ∀ p ∈ ps, p.name.length ≤ maxB := fun p hp => by
  have h1 := hk.1.2
  have h2 := facts_map h1 p hp
  simp only [cPatch, factsL, facts] at h2
  exact h2.1
 refine vpure_of (ts := [6, 7]) Tryz.func52 rfl (by simp [Tryz.ntmps52]) rfl rfl ?_
 rw [Tryz.ntmps52]
 refine vwp_reg tabOk [] [0, 1, 2] (by simp only [go_sem, List.getElem?_nil]; rfl) (by first | trivial | (simp; done) | (simp [in64]; omega)) ?_
 refine vwp_seq (vwp_region ?_)
 refine oL [] ?_
 refine vops_callH (hc := c_closure_of_ok ps h) rfl rfl rfl b_closure_of [] [] [] rfl rfl rfl (by simp only [go_sem]; exact WkL.refl _) (by simp only [go_sem]) ?_
 rintro r0 H0 ⟨rfl, rfl⟩
 simp only [go_sem, List.getElem?_nil]
 refine oL [] ?_
 refine vops_done [1, 2, 8, 9] ?_
 simp only [go_sem, thenQ, blockQ, jumpQ, stayQ]
 refine vwp_seq ?_
 refine vwp_reg tabOk [] [1, 2, 8, 18] (by simp only [go_sem, List.getElem?_nil]; rfl) (by first | trivial | (simp; done) | (simp [in64]; omega)) ?_
 refine oB (fun h0 => ?_) fun h0 => ?_
 ·
  simp at h0
 ·
  refine vwp_skip ?_
  try simp only [thenQ, blockQ, jumpQ, stayQ]
  refine vwp_seq (vwp_region ?_)
  refine oL [] ?_
  refine vops_callVP (hc := c_closure_Down_1) rfl (by simp only [go_sem, List.getElem?_nil]; rfl) rfl rfl b_closure_Down_1 (by simp only [go_sem]; exact ⟨Wk.undef _, trivial⟩) rfl (by simp only [go_sem]) ?_
  simp only [go_sem, List.getElem?_nil]
  refine vops_callH (hc := c_closure_spread 54 b_closure_Down_1_1 c_closure_Down_1_1 ps (ofB_apart h) l (by omega)) rfl rfl rfl b_closure_spread [0] [] [] rfl rfl rfl (by simp only [go_sem]; exact WkL.refl _) (by simp only [go_sem]) ?_
  rintro r2 H2 ⟨rfl, rfl⟩
  simp only [go_sem, List.getElem?_nil]
  refine oL [] ?_
  refine vops_done [10, 11] ?_
  simp only [go_sem, thenQ, blockQ, jumpQ, stayQ]
  refine vwp_seq ?_
  refine vwp_reg tabOk [] [10, 29] (by simp only [go_sem, List.getElem?_nil]; rfl) (by first | trivial | (simp; done) | (simp [in64]; omega)) ?_
  refine oB (fun h1 => ?_) fun h1 => ?_
  ·
   refine vwp_reg tabOk [] [6, 7] (by simp only [go_sem, List.getElem?_nil]; rfl) (by first | trivial | (simp; done) | (simp [in64]; omega)) ?_
   refine vwp_ret ?_
   simp only [thenQ, blockQ, jumpQ, stayQ, RetQ, go_sem]
   rw [downP_none h (by simpa using h1)]
   refine ⟨by simp, ?_⟩
   exact Wk.tuple ⟨Wk.nils _, Wk.refl _, trivial⟩
  ·
   refine vwp_skip ?_
   try simp only [thenQ, blockQ, jumpQ, stayQ]
   refine vwp_seq (vwp_region ?_)
   refine oL [] ?_
   refine vops_callH (hc := c_closure_names_I (toldM (FF ps l).1) (by rw [told_keys]; exact FF_nodup ps l) (fun x hx => by
 obtain ⟨p, h1, h2⟩ := FF_names (ofB_apart h) (l := l) (by simpa using h1) (n := x.1) (by rw [← told_keys]; exact List.mem_map.2 ⟨x, hx, rfl⟩)
 rw [← h2]; exact hpn p h1) (FF_len h hl)) rfl rfl rfl b_closure_names_I [3] [] [] rfl rfl rfl (by simp only [go_sem]; exact WkL.refl _) (by simp only [go_sem]) ?_
   rintro r3 H3 ⟨⟨ks, hk1, hk2, rfl⟩, rfl⟩
   simp only [go_sem, List.getElem?_nil]
   refine oL [] ?_
   refine vops_done [6, 7] ?_
   simp only [go_sem, thenQ, blockQ, jumpQ, stayQ]
   refine vwp_ret ?_
   simp only [thenQ, blockQ, jumpQ, stayQ, RetQ, go_sem]
   refine ⟨by simp, Wk.eq ?_⟩
   rw [told_keys] at hk1
   rw [downP_some h (by simpa using h1) hk1 hk2]
theorem c_closure_spreading (ps : List Patch) (l : List Str) (hl : l.length ≤ 900000000) : VPure Go.Proofs.Tryz.prog G 52 [.list 3 (ps.map cPatch), .list 1 (l.map cS), .func (.func 53) [] []] (.tuple [.list 1 ((downP ps l).1.map cS), .int .i64 (downP ps l).2]) := by
 cases h : ofB ps with
 | true => exact c_closure_spreading_ok ps l h hl
 | false => rw [downP_no h]; exact c_closure_spreading_no ps l h
theorem b_closure_Down : bodied Go.Proofs.Tryz.prog 21 = true := by rw [bodied, Tryz.func21]; rfl
theorem c_closure_Down (ps : List Patch) (l : List Str) (hl : l.length ≤ 900000000) : VPure Go.Proofs.Tryz.prog G 21 [.list 3 (ps.map cPatch), .list 1 (l.map cS)] (.tuple [.list 1 ((downP ps l).1.map cS), .int .i64 (downP ps l).2]) := by
 refine vpure_of (ts := [4, 5]) Tryz.func21 rfl (by simp [Tryz.ntmps21]) rfl rfl ?_
 rw [Tryz.ntmps21]
 refine oR [0, 1] ?_
 refine vwp_seq (vwp_region ?_)
 refine oG [] ?_
 refine oC (fun _ => c_closure_spreading ps l hl) b_closure_spreading ?_
 simp only [go_sem]
 refine oG [] ?_
 refine vops_done [4, 5] ?_
 simp only [go_sem, thenQ, blockQ, jumpQ, stayQ]
 refine vwp_ret ?_
 simp only [thenQ, blockQ, jumpQ, stayQ, RetQ, go_sem]
 refine ⟨by simp, Wk.eq ?_⟩
 rfl
end Go.Proofs.YtnobnefabagbhaaGreatDoor.Q
end

section
/- The logic 'Q': a slice of the call's own whose front is cut off, and what is appended to it. -/
namespace Go.Q
open Go
theorem RelLL.len {F : Nat → Prop} {w : World} {k : Nat} : ∀ {xs : List (List V)} {us : List Value}, RelLL F w k xs us → us.length = xs.length * k
 | [], us, h => by simp only [RelLL] at h; simp [h]
 | c :: r, us, h => by
  simp only [RelLL] at h
  obtain ⟨u, t, rfl, h1, h2, h3, h4⟩ := h
  have hl := RelL.length h2
  rw [List.length_append, RelLL.len h4, List.length_cons, Nat.add_mul]; omega
section
variable {p : Par} {E : Entry} {F : Nat → Prop} {ρ : List Value} {env : Env} {H : List Obj} {a : Act} {w : World} {Q : Post}
theorem St.sub (st : St p E F ρ env H a w) {i e k : Nat} {xs : List (List V)} (hi : H[i]? = some (.arr e k xs)) : St p E F ρ env (H.set i (.sub e k xs)) a w := by
 have hil : i < H.length := (List.getElem?_eq_some_iff.1 hi).1
 have hr : ρ[i]? = some (ρ[i]'(by rw [st.sim.len]; exact hil)) := by simp [st.sim.len, hil]
 generalize ρ[i]'(by rw [st.sim.len]; exact hil) = h at hr
 obtain ⟨us, c, ad, rfl, hown, hll, hB⟩ := st.sim.obj i _ _ hi hr
 refine st.setObj (w' := w) hi rfl hr rfl rfl rfl rfl (fun _ _ => rfl) ?_
 rcases hown.2 with ⟨hn, h0⟩ | ⟨g, cap, cur, hv, hb0, hg, hnc, hcm, hcs, htk⟩
 ·injection hn with h1 h2 h3
  subst h1; subst h3
  exact ⟨us, none, 0, rfl, by omega, Nat.zero_le _, hll, hB, .inl ⟨rfl, rfl⟩⟩
 ·injection hv with h1 h2 h3
  subst h1; subst h3
  refine ⟨us, _, c, rfl, hnc, hcm, hll, hB, .inr ⟨g, 0, cur, rfl, hg, .inr (by rw [hcs, Nat.zero_add]), fun j u hu => ?_⟩⟩
  rw [← htk, List.getElem?_take] at hu
  split at hu
  ·rw [Nat.zero_add]; simpa using hu
  ·cases hu
theorem vwp_sub {c : Code} {i e k : Nat} {xs : List (List V)} (hi : H[i]? = some (.arr e k xs)) (h : VWp p c Q env (H.set i (.sub e k xs))) : VWp p c Q env H := fun E F ρ a w st => h E F ρ a w (st.sub hi)
theorem step_subCut {o : Oper} {t : TypeId} {x lo : Operand} {i e k n : Nat} {xs : List (List V)} (ho : o.op = .slice t x (some lo) none none) (ht : p.P.underlying t = some (.slice e)) (hsz : ∀ w, (sizeOf e).run p.P w = .ok k w)
  (hx : ev env x = .arr i xs.length) (hi : H[i]? = some (.sub e k xs)) (hlo : ev env lo = .int .i64 (n : Int)) (hn : n ≤ xs.length) (hM : i ∈ p.M ∨ p.n0 ≤ i) :
  OpStep p o env H fun v env' H' => v = .arr i (xs.length - n) ∧ env' = killE i env ∧ H' = (killH i H).set i (.sub e k (xs.drop n)) := by
 intro E F ρ a w st
 have hp := st.ev x
 rw [hx] at hp
 simp only [Rel] at hp
 obtain ⟨ad, m, c, h1, h2, _⟩ := hp
 obtain ⟨us, ad', c', hh, hc, hcm, hll, hB, hat⟩ := st.sim.obj i _ _ hi h1
 injection hh with e1 e2 e3
 subst e1; subst e2; subst e3
 have hl := st.ev lo
 rw [hlo] at hl
 simp only [Rel] at hl
 have hrun : (execOp a.eval o).run p.P w = .ok (.value (.slice (if c = n then ad else ad.map (·.add (n * k))) (xs.length - n) (c - n))) w := by
  have hb : (0 : Int) ≤ (n : Int) ∧ (n : Int) ≤ (xs.length : Int) := ⟨by omega, by omega⟩
  simp [execOp, ho, h2, hl, Instr.sliceAt, Instr.slice, run_underlying ht, Instr.sliceBounds, Instr.sliceBound, asIntOf, hb, hn, hsz, Result.andThen]
 have hul := RelLL.len hll
 refine ⟨_, w, F, ρ.set i (.slice (if c = n then ad else ad.map (·.add (n * k))) (xs.length - n) (c - n)), _, _, _, hrun, ⟨rfl, rfl, rfl⟩, ?_, .inl ⟨_, rfl, ?_⟩⟩
 ·refine st.move (w' := w) hi rfl h1 hM rfl rfl rfl (Nat.le_refl _) (fun _ _ _ => rfl) (fun b hb => .inl ?_) ?_ rfl
  ·split at hb
   ·cases ad with
    | none => simp [blk] at hb
    | some ad => exact hb
   ·cases ad with
    | none => simp [blk] at hb
    | some ad =>
     simp only [Option.map_some, blk, Option.some.injEq] at hb ⊢
     rw [← hb]
     unfold Addr.add
     split <;> rfl
  ·refine ⟨us.drop (n * k), (if c = n then ad else ad.map (·.add (n * k))), c - n, by simp, by simp; omega, by omega, RelLL.drop n hll, by simp; omega, ?_⟩
   rcases hat with ⟨rfl, rfl⟩ | ⟨g, o2, cur, rfl, hg, hcs, hcell⟩
   ·left
    refine ⟨by split <;> rfl, by omega⟩
   ·right
    by_cases hcn : c = n
    ·rw [if_pos hcn]
     have hx0 : us.drop (n * k) = [] := by
      refine List.drop_of_length_le ?_
      rw [hul]
      exact Nat.mul_le_mul_right k (by omega)
     exact ⟨g, o2, cur, rfl, hg, .inl (by omega), fun j u hu => by rw [hx0] at hu; simp at hu⟩
    ·rw [if_neg hcn]
     refine ⟨g, o2 + n * k, cur, ?_, hg, ?_, fun j u hu => ?_⟩
     ·simp only [Option.map_some]
      rw [add_spot rfl]
     ·rcases hcs with hcs | hcs
      ·exact .inl (by omega)
      ·right
       rw [hcs, Nat.add_assoc, ← Nat.add_mul, show n + (c - n) = c by omega]
     ·rw [List.getElem?_drop] at hu
      have := hcell _ u hu
      rwa [← Nat.add_assoc] at this
 ·simp only [Rel]
  exact ⟨_, xs.length - n, c - n, by rw [List.getElem?_set_self (List.getElem?_eq_some_iff.1 h1).1], rfl, Nat.le_refl _⟩
theorem step_subApp {T : Tab} (hT : T.Ok p.P) {o : Oper} {t : TypeId} {x y : Operand} {i e k : Nat} {g : Bool} {xs ys : List (List V)} (ho : o.op = .call { callee := .builtin .append, args := #[x, y], argTypes := #[t, t] }) (he : T.es t = some (e, k, g))
  (hx : ev env x = .arr i xs.length) (hi : H[i]? = some (.sub e k xs)) (hy : ev env y = .list k ys) (hM : i ∈ p.M ∨ p.n0 ≤ i) (hB : xs.length + ys.length ≤ 137438953472) :
  OpStep p o env H fun v env' H' => v = .arr i (xs.length + ys.length) ∧ env' = killE i env ∧ H' = (killH i H).set i (.sub e k (xs ++ ys)) := by
 intro E F ρ a w st
 obtain ⟨hd, ⟨ti, hti, hz, hby, z, hzz, hzs⟩, hk, _⟩ := hT.es t _ _ _ he
 have hp := st.ev x
 rw [hx] at hp
 simp only [Rel] at hp
 obtain ⟨ad, m, c, h1, h2, _⟩ := hp
 obtain ⟨us, ad', c', hh, hc, hcm, hll, hB1, hat⟩ := st.sim.obj i _ _ hi h1
 injection hh with e1 e2 e3
 subst e1; subst e2; subst e3
 have hq := st.ev y
 rw [hy] at hq
 simp only [Rel] at hq
 obtain ⟨ad2, c2, news, hyv, hc2, hB2, hll2, hat2⟩ := hq
 have hul := RelLL.len hll
 have hnl := RelLL.len hll2
 have hone := fun u hu => RelLL.one hll2 u hu
 have hrun0 : ∀ v' w', (Builtin.append_ #[t, t] o.type #[a.eval x, a.eval y]).run p.P w = .ok v' w' → (execOp a.eval o).run p.P w = .ok (.value v') w' := by
  intro v' w' h
  simp only [execOp, ho, resolve, Sem.run_bind, Sem.run_pure, Result.andThen_ok]
  simp [invoke, builtin, h]
 have fin : ∀ (adn : Option Addr) (cn : Nat) (w' : World), (Builtin.append_ #[t, t] o.type #[a.eval x, a.eval y]).run p.P w = .ok (.slice adn (xs.length + ys.length) cn) w' →
   w'.os = w.os → w'.tape = w.tape → w'.output = w.output → w.heap.size ≤ w'.heap.size → (∀ b, b < w.heap.size → blk (.slice ad xs.length c) ≠ some b → w'.heap[b]? = w.heap[b]?) → (∀ b, blk (.slice adn (xs.length + ys.length) cn) = some b → blk (.slice ad xs.length c) = some b ∨ w.heap.size ≤ b) →
   xs.length + ys.length ≤ cn → cn ≤ maxLen → ((adn = none ∧ cn = 0) ∨ ∃ g o cur, adn = some ⟨g, o, none⟩ ∧ w'.heap[g]? = some (.cells cur e (0, 0)) ∧ (cn = 0 ∨ cur.size = o + cn * k) ∧ ∀ (j : Nat) u, (us ++ news)[j]? = some u → cur[o + j]? = some u) →
   ∃ nx w' F' ρ' v env' H', (execOp a.eval o).run p.P w = .ok nx w' ∧ (v = .arr i (xs.length + ys.length) ∧ env' = killE i env ∧ H' = (killH i H).set i (.sub e k (xs ++ ys))) ∧ St p E F' ρ' env' H' a w' ∧ ((∃ mv, nx = .value mv ∧ Rel F' ρ' w' v mv) ∨ (nx = .skip ∧ v = .undef)) := by
  intro adn cn w' hr q1 q2 q3 q4 q5 q6 q7 q8 q9
  refine ⟨_, w', F, ρ.set i (.slice adn (xs.length + ys.length) cn), _, _, _, hrun0 _ _ hr, ⟨rfl, rfl, rfl⟩, ?_, .inl ⟨_, rfl, ?_⟩⟩
  ·have hs : ∀ b, F b → w'.heap[b]? = w.heap[b]? := fun b hb => q5 b (st.sim.alloc b hb) fun he => st.sim.apart i _ _ b hi rfl h1 he hb
   have gg : Goes F [] w F [] w' := ⟨fun _ h => h, hs, fun _ _ h => h⟩
   refine st.move hi rfl h1 hM q1 q2 q3 q4 q5 q6 ?_ rfl
   exact ⟨us ++ news, adn, cn, by simp, by simpa using q7, q8, RelLL.append (RelLL.goes gg k _ _ hll) (RelLL.goes gg k _ _ hll2), by simp only [List.length_append]; unfold maxB; omega, q9⟩
  ·simp only [Rel]
   exact ⟨adn, _, cn, by rw [List.getElem?_set_self (List.getElem?_eq_some_iff.1 h1).1], rfl, Nat.le_refl _⟩
 rw [h2, hyv] at fin
 by_cases hy0 : ys = []
 ·subst hy0
  have hn0 : news = [] := List.eq_nil_of_length_eq_zero (by simpa using hnl)
  subst hn0
  refine fin ad c w ?_ rfl rfl rfl (Nat.le_refl _) (fun _ _ _ => rfl) (fun b hb => .inl hb) (by simpa using hc) hcm (by simpa using hat)
  cases ad <;> cases ad2 <;> simp [Builtin.append_, run_underlying hd, sizeOf, typeInfo, hti, Builtin.lenOf, Builtin.firstCells, loadCells, loadCellsFrom, hc, storeCells]
 ·have hylen : 0 < ys.length := by
   cases ys with
   | nil => exact absurd rfl hy0
   | cons y r => simp
  have hkpos : 0 < k := hk
  have hnne : news ≠ [] := by
   intro h
   rw [h] at hnl
   simp only [List.length_nil] at hnl
   have := Nat.mul_pos hylen hkpos
   omega
  obtain ⟨b2, o2, rfl, _, hcell2⟩ := hat2.resolve_left hnne
  have hs : Src p.P ti.size t (.slice (some ⟨b2, o2, none⟩) ys.length c2) ys.length news w := Src.ofSlice w hd ⟨b2, o2, none⟩ ys.length c2 news (by rw [hnl, hz]) (fun j u hu => by rw [add_spot rfl]; exact hcell2 j u hu) hone
  by_cases hroom : xs.length + ys.length ≤ c
  ·rcases hat with ⟨rfl, rfl⟩ | ⟨gb, ob, cur, rfl, hg, hcs, hcell⟩
   ·omega
   ·have hcs' : cur.size = ob + c * k := hcs.resolve_left (by omega)
    have hfit : (xs.length + ys.length) * k ≤ c * k := Nat.mul_le_mul_right k hroom
    rw [Nat.add_mul] at hfit
    have hst := run_storeCells_at p.P gb (ob + xs.length * k) e news 0 cur w hg (by rw [hnl]; omega) hone
    simp only [Nat.add_zero] at hst
    refine fin (some ⟨gb, ob, none⟩) c (w.setRow gb (cur.toList.take (ob + xs.length * k) ++ news ++ cur.toList.drop (ob + xs.length * k + news.length)).toArray) ?_ rfl rfl rfl (by simp [World.setRow]) (fun b hb hne => setRow_other w gb b _ (fun e => hne (by simp [blk, e]))) (fun b hb => .inl hb) hroom hcm (.inr ⟨gb, ob, _, rfl, setRow_heap w gb _ _ e (0, 0) hg, .inr ?_, fun j u hu => ?_⟩)
    ·have hfc := hs.cells
     rw [hz] at hfc
     simp only [List.append_assoc] at hst ⊢
     simp [Builtin.append_, run_underlying hd, sizeOf, typeInfo, hti, hs.len, hroom, hfc, Addr.add_lit, hz, hst]
    ·simp only [List.size_toArray, List.length_append, List.length_take, List.length_drop, Array.length_toList, hnl, hcs']
     omega
    ·have hA : (cur.toList.take (ob + xs.length * k)).length = ob + xs.length * k := by rw [List.length_take]; exact Nat.min_eq_left (by simp; omega)
     rw [List.getElem?_toArray, List.append_assoc]
     by_cases hj : j < us.length
     ·rw [List.getElem?_append_left hj] at hu
      rw [List.getElem?_append_left (by omega), List.getElem?_take, if_pos (by omega)]
      simpa using hcell j u hu
     ·rw [List.getElem?_append_right (by omega)] at hu
      rw [List.getElem?_append_right (by omega), hA, List.getElem?_append_left (by
       have := (List.getElem?_eq_some_iff.1 hu).1
       omega), show ob + j - (ob + xs.length * k) = j - us.length by omega]
      exact hu
  ·have hbb : (xs.length + ys.length) * ti.bytes ≤ 140737488355328 := Nat.le_trans (Nat.mul_le_mul hB hby) (by omega)
   have hold : (Builtin.firstCells ti.size xs.length (.slice ad xs.length c)).run p.P w.drew = .ok us.toArray w.drew := by
    rcases hat with ⟨rfl, rfl⟩ | ⟨gb, ob, cur, rfl, hg, hcs, hcell⟩
    ·have hx0 : us = [] := List.eq_nil_of_length_eq_zero (by rw [hul, show xs.length = 0 by omega, Nat.zero_mul])
     rw [hx0]
     exact run_firstCells_none _ ti.size xs.length xs.length 0
    ·refine run_firstCells_some w.drew ti.size xs.length ⟨gb, ob, none⟩ xs.length c us (by rw [hul, hz]) (fun j u hu => ?_)
     rw [add_spot rfl]
     have := hcell j u hu
     rw [World.cell?_of_block (w := w) (w' := w.drew) rfl]
     simp [World.cell?, hg, this]
   have hrun := run_append_grow_src (P := p.P) (w := w) t t o.type e ti z hd hti hzz ad xs.length c us hold (.slice (some ⟨b2, o2, none⟩) ys.length c2) ys.length news hs (by omega) (by omega) (growslice_fits (by omega) hbb)
   have hge := grownCap_ge w (xs.length + ys.length) c e
   have hcm' := grownCap_le_maxLen w (xs.length + ys.length) c e (by unfold maxLen; omega)
   generalize hcap : grownCap w (xs.length + ys.length) c e = cap at hrun hge hcm'
   refine fin (some ⟨w.heap.size, 0, none⟩) cap _ hrun rfl rfl rfl (by show w.heap.size ≤ (w.heap.push _).size; simp) (fun b hb _ => ?_) (fun b hb => .inr (by simp only [blk, Option.some.injEq] at hb; omega)) hge hcm' (.inr ⟨w.heap.size, 0, ((us ++ news).toArray ++ Builtin.zeroCells z.cells (cap - (xs.length + ys.length))), rfl, ?_, .inr ?_, fun j u hu => ?_⟩)
   ·show (w.heap.push _)[b]? = _
    rw [Array.getElem?_push, if_neg (by omega)]
   ·show (w.heap.push _)[w.heap.size]? = _
    rw [Array.getElem?_push, if_pos rfl]
   ·simp only [Array.size_append, List.size_toArray, size_zeroCells, hzs, List.length_append, hul, hnl, Nat.zero_add, ← Nat.add_mul]
    rw [show xs.length + ys.length + (cap - (xs.length + ys.length)) = cap by omega]
   ·rw [Nat.zero_add, Array.getElem?_append_left (by
     have := (List.getElem?_eq_some_iff.1 hu).1
     simpa using this)]
    simpa using hu
end
end Go.Q
end

section
/- A new slice without elements, as the effect of an open region. -/
namespace Go.Q
open Go
variable {T : Tab} {p : Par} {H : List Obj}
theorem mapE_same : ∀ (e : Env), mapE (fun v => v) e = e
 | [] => rfl
 | (t, v) :: r => by
  have ih := mapE_same r
  simp only [mapE] at ih ⊢
  simp [ih]
theorem vops_subHead (hT : T.Ok p.P) {Q : Post} {ops : Array Oper} {env : Env} {o1 o2 : Oper} {rest : List Oper} {t et e : TypeId} {x y : Operand} {i d1 : Nat} {g : Bool} {v : V} {xs : List (List V)}
  (ho1 : o1.op = .indexAddr t x y) (hd1 : o1.dst = some d1) (hg1 : o1.guard = none) (ho2 : o2.op = .load et (.tmp d1)) (hg2 : o2.guard = none) (hdn : dstOk p.n o1.dst = true) (hdn2 : dstOk p.n o2.dst = true)
  (he : T.es t = some (e, 1, g)) (hl : T.ld et = some none) (hx : ev env x = .arr i (xs.length + 1)) (hy : ev env y = .int .i64 0) (hi : H[i]? = some (.sub e 1 ([v] :: xs)))
  (h : VOps p ops rest Q (putE o2.dst v (putE o1.dst .undef env)) H) : VOps p ops (o1 :: o2 :: rest) Q env H := by
 intro E F ρ a w st
 obtain ⟨hd, ⟨ie, hie, hz, _⟩, hk, d, hed, hg⟩ := hT.es t _ _ _ he
 obtain ⟨d2, hd2, ha2, i2, hi2, hz2⟩ := hT.ld et _ hl
 have hp := st.ev x
 rw [hx] at hp
 simp only [Rel] at hp
 obtain ⟨ad, m, c, h1, h2, h3⟩ := hp
 obtain ⟨us, ad', c', hh, hc, hcm, hll, hB, hat⟩ := st.sim.obj i _ _ hi h1
 injection hh with e1 e2 e3
 subst e1; subst e2; subst e3
 have hyv := st.ev y
 rw [hy] at hyv
 simp only [Rel] at hyv
 simp only [RelLL, RelL] at hll
 obtain ⟨u1, t1, rfl, _, ⟨u, _, rfl, hu, rfl⟩, hone, hll⟩ := hll
 rcases hat with ⟨rfl, rfl⟩ | ⟨gb, o, cur, rfl, hgb, hcs, hcell⟩
 ·simp at hc
 ·have hcu := hcell 0 u rfl
  have hrun1 : (execOp a.eval o1).run p.P w = .ok (.value (.pointer (some ⟨gb, o, none⟩))) w := by
   simp [execOp, ho1, h2, hyv, Instr.indexAt, asIntOf, run_underlying hd, sizeOf_run hT hie, hz, add_spot]
  have hval : (a.put o1.dst (.pointer (some ⟨gb, o, none⟩))).eval (.tmp d1) = .pointer (some ⟨gb, o, none⟩) := by
   have : dstOk p.n (some d1) = true := by rw [← hd1]; exact hdn
   have hsz := st.size
   simp only [dstOk, decide_eq_true_eq] at this
   have hlt : d1 < a.tmps.size := by omega
   rw [hd1]
   simp [Act.put, Act.eval, Array.getD, hlt]
  have hrun2 : (execOp (a.put o1.dst (.pointer (some ⟨gb, o, none⟩))).eval o2).run p.P w = .ok (.value u) w := by
   have hcl : w.cell? ⟨gb, o, none⟩ = some u := by
    rw [Nat.add_zero] at hcu
    simp [World.cell?, hgb, hcu]
   simp only [execOp, ho2, hval]
   simp only [Instr.loadAt, Instr.sureAddr, loadVar, Sem.run_bind, Sem.run_pure, Result.andThen_ok, isAgg_run hT hd2, ← ha2, Option.isSome_none, Bool.false_eq_true, if_false, run_load, hcl]
  simp only [wpList]
  rw [if_pos (by simp [Region.wanted, hg1])]
  left
  simp only [Oper.wp, hrun1, Oper.upon_value, wpList]
  rw [if_pos (by simp [Region.wanted, hg2])]
  left
  simp only [Oper.wp, hrun2, Oper.upon_value]
  refine h E F ρ _ w ((st.putO hdn (v := .undef) (by simp [Rel])).putO hdn2 ?_)
  exact Rel.goes ⟨fun _ h => h, fun _ _ => rfl, fun _ _ h => by simp at h⟩ _ _ hu
def scalarV : V → Bool
 | .bool _ => true
 | .int _ _ => true
 | .str _ => true
 | _ => false
theorem scalarV_rel {F F' : Nat → Prop} {ρ ρ' : List Value} {w w' : World} {v : V} {mv : Value} (hs : scalarV v = true) (h : Rel F ρ w v mv) : Rel F' ρ' w' v mv := by
 cases v <;> simp_all [scalarV, Rel]
theorem viewA_rel {E : Entry} {F : Nat → Prop} {ρ : List Value} {env : Env} {a : Act} {w : World} (st : St p E F ρ env H a w) {v : V} {mv : Value} (h : Rel F ρ w v mv) : Rel (fun b => b < w.heap.size) ρ w (viewV H v) mv := by
 have hgo : Goes F ρ w (fun b => b < w.heap.size) ρ w := ⟨st.sim.alloc, fun _ _ => rfl, fun _ _ h => h⟩
 cases v with
 | arr i n =>
  simp only [viewV]
  split
  ·rename_i e k xs hi
   simp only [Rel] at h ⊢
   obtain ⟨ad, m, c, h1, rfl, hn⟩ := h
   obtain ⟨us, c', a', hh, hown, hll, hB⟩ := st.sim.obj i _ _ hi h1
   injection hh with e1 e2 e3
   subst e1; subst e2; subst e3
   have hll2 := RelLL.goes (hgo.bare) k xs us hll
   rcases hown.2 with ⟨hv, hz⟩ | ⟨gb, cap, cur, hv, _, hg, hnc, hcm, hcs, htk⟩
   ·injection hv with e1 e2 e3
    subst e1; subst e3
    have hxs : xs = [] := List.eq_nil_of_length_eq_zero hz
    subst hxs
    have hn0 : n = 0 := by simp at hn; exact hn
    subst hn0
    exact ⟨none, 0, [], by simp, by simp, by simp [maxB], by simp [RelLL], .inl rfl⟩
   ·injection hv with e1 e2 e3
    subst e1; subst e3
    have hgl : gb < w.heap.size := (Array.getElem?_eq_some_iff.1 hg).1
    refine ⟨some ⟨gb, 0, none⟩, c, us.take (n * k), by rw [List.length_take, Nat.min_eq_left hn], by rw [List.length_take]; omega, by rw [List.length_take]; omega, RelLL.take n hll2, .inr ⟨gb, 0, rfl, hgl, fun j u hu => ?_⟩⟩
    rw [List.getElem?_take] at hu
    split at hu
    ·have := hown.cells (g := gb) rfl j u hu
     rw [add_spot rfl] at this
     exact this
    ·simp at hu
  ·simp [Rel]
 | _ => exact Rel.goes hgo _ _ h
theorem viewB_rel {E : Entry} {F : Nat → Prop} {ρ : List Value} {env : Env} {a : Act} {w : World} (st : St p E F ρ env H a w) : ∀ {vs : List V} {ms : List Value}, RelL F ρ w vs ms → RelL (fun b => b < w.heap.size) ρ w (vs.map (viewV H)) ms
 | [], _, h => by simpa [RelL] using h
 | v :: r, ms, h => by
  simp only [RelL] at h
  obtain ⟨u, t, rfl, h1, h2⟩ := h
  exact ⟨u, t, rfl, viewA_rel st h1, viewB_rel st h2⟩
theorem vops_callS {Q : Post} {ops : Array Oper} {env : Env} {o : Oper} {rest : List Oper} {f : FuncId} {args : Array Operand} {ats : Array TypeId} {g : Bool} {r : V} (hsc : scalarV r = true) (ho : o.op = .call { callee := .value (.func f), args, argTypes := ats })
  (hg : vguard ops env o = some g) (hd : dstOk p.n o.dst = true) (hb : bodied p.P f = true) {vs : List V} (hvs : WkL ((argsOf g env args.toList).map (viewV H)) vs) (hcl : cleanL vs = true) (how : g = true → owed g env args.toList)
  (hc : g = true → VPure p.P p.glob f vs r) (h : VOps p ops rest Q (putE o.dst (wrapg o g r) env) H) : VOps p ops (o :: rest) Q env H := by
 intro E F ρ a w st
 have hw := vguard_ok st hg
 simp only [wpList]
 cases g with
 | false =>
  rw [if_neg (by simp [hw])]
  have hne : o.guard ≠ none := by
   intro hn
   simp [vguard, hn] at hg
  exact h E F ρ _ w (st.putO hd (wrapg_skip hne))
 | true =>
  rw [if_pos hw]
  left
  have hrel := viewB_rel st (relL_map st (g := true) rfl args.toList (owed_all (how rfl)))
  have hrel2 : RelL (fun b => b < w.heap.size) [] w vs (args.toList.map a.eval) := by
   exact cleanL_rel _ _ hcl (hvs.rel hrel)
  have hcall := hc rfl (fun b => b < w.heap.size) w _ hrel2 (fun _ h => h) (p.glob.stable F w _ w st.sim.alloc (fun _ _ => rfl) st.glob)
  have hrun : (execOp a.eval o).run p.P w = .ok (.enter f (args.toList.map a.eval).toArray) w := by
   have he : args.map a.eval = (args.toList.map a.eval).toArray := by apply Array.ext'; simp
   have hff : a.eval (.func f) = .func (.func f) #[] #[] := rfl
   simp only [execOp, ho, resolve, he, hff, Deferred.ofValue, Sem.run_bind, Sem.run_pure, Result.andThen_ok, invoke]
   simp [bodied_run hb]
  simp only [Oper.wp, hrun, Oper.upon_enter]
  refine hcall.mono ?_
  rintro e w' ⟨mr, rfl, hr, hbel⟩
  have hr2 : Rel (fun b => F b ∨ (w.heap.size ≤ b ∧ b < w'.heap.size)) ρ w' r mr := scalarV_rel hsc hr
  refine h E _ ρ _ w' ((st.grow hbel (fun _ h => .inl h) (fun b hb => hb.imp id (·.1)) (fun b hb => ?_)).putO hd (wrapg_rel hr2))
  rcases hb with hb | hb
  ·exact Nat.lt_of_lt_of_le (st.sim.alloc b hb) hbel.size
  ·exact hb.2
theorem vops_trim {Q : Post} {ops : Array Oper} {env : Env} {l : List Oper} (m : Nat) (hm : p.n0 ≤ m) (hmH : m ≤ H.length) (h : VOps p ops l Q (mapE (ren (below m)) env) (trimH m H)) : VOps p ops l Q env H := by
 intro E F ρ a w st
 refine h E F (ρ.take m) a w ⟨st.sim.trim m, fun t => ?_, st.size, st.defers, st.evol.trim st.sim (by rw [st.ent]; exact hm) hmH, st.ent, st.glob⟩
 rw [get_mapE (ren_undef _)]
 exact ren_rel (fun j i h => below_hf m j i h) _ _ (st.env t)
theorem effOk_step {o : Oper} {e : Env} {H' : List Obj} {f : V → V} {val : V} (h : ∀ envX, Env.le e envX → OpStep p o envX H (fun v env' H'' => v = val ∧ env' = mapE f envX ∧ H'' = H')) : EffOk p H H' o e f val := by
 intro E F ρ a w envX st hl K Q' hk
 obtain ⟨nx, w', F', ρ', v, env', H'', hr, ⟨rfl, rfl, rfl⟩, st', hx⟩ := h envX hl E F ρ a w st
 rcases hx with ⟨mv, rfl, hrel⟩ | ⟨rfl, hv⟩
 ·simp only [Oper.wp, hr, Oper.upon_value]
  exact hk F' ρ' w' mv st' hrel
 ·simp only [Oper.wp, hr, Oper.upon_skip]
  exact hk F' ρ' w' _ st' (by rw [hv]; simp [Rel])
theorem effOk_delete {o : Oper} {env : Env} {t t2 k e : TypeId} {m x : Operand} {i : Nat} {s : List UInt8} {es : MapV} (ho : o.op = .call { callee := .builtin .delete, args := #[m, x], argTypes := #[t, t2] }) (ht : mapTyB p.P t k e = true) (hm : ev env m = .map i) (hi : H[i]? = some (.map es)) (hx : ev env x = .str s) :
  EffOk p H (H.set i (.map (mapDel es s))) o env (fun v => v) (.tuple []) :=
 effOk_step fun envX hl => by
  rw [mapE_same]
  exact step_delete ho ht (by rw [ev_le hl (by rw [hm]; simp), hm]) hi (by rw [ev_le hl (by rw [hx]; simp), hx])
theorem effOk_store (hT : T.Ok p.P) {o : Oper} {e : Env} {t : TypeId} {ad x : Operand} {i c : Nat} {cs xs : List V} {ty : Option TypeId} {r : Option Nat} (ho : o.op = .store t ad x) (had : ev e ad = .ptr i c) (hx : cellsOf (ev e x) = some xs) (hne : ev e x ≠ .undef) (hld : T.ld t = some r) (hi : H[i]? = some (.box cs ty)) (hO : xs.length = r.getD 1 ∧ c + xs.length ≤ cs.length) :
  EffOk p H (H.set i (.box (cs.take c ++ xs ++ cs.drop (c + xs.length)) ty)) o e (fun v => v) .undef := by
 intro E F ρ a w envX st hl K Q' hk
 have h1 : ev envX ad = .ptr i c := by rw [ev_le hl (by rw [had]; simp), had]
 have h2 : ev envX x = ev e x := ev_le hl hne
 have hv : veff T p [] envX H o = some (.undef, H.set i (.box (cs.take c ++ xs ++ cs.drop (c + xs.length)) ty), envX, (xs.length = r.getD 1 ∧ c + xs.length ≤ cs.length)) := by
  simp only [veff, ho, h1, h2, hx, hld, hi]
 obtain ⟨nx, w', F', ρ', hr, st', hc⟩ := veff_run hT st hv hO
 rcases hc with ⟨mv, rfl, hrel⟩ | ⟨rfl, hc⟩
 ·simp only [Oper.wp, hr, Oper.upon_value]
  refine hk F' ρ' w' mv ?_ hrel
  rw [mapE_same]; exact st'
 ·simp only [Oper.wp, hr, Oper.upon_skip]
  refine hk F' ρ' w' _ ?_ (by simp [Rel])
  rw [mapE_same]; exact st'
theorem effOk_build1 (hT : T.Ok p.P) {o : Oper} {e : Env} {t el : TypeId} {k d : Nat} {g : Bool} {x : Operand} {xs : List (List V)} (ho : o.op = .buildSlice t 1 #[(0, x)]) (hd : o.dst = some d) (he : T.es t = some (el, k, g)) (hne : ev e x ≠ .undef) (hv : vparts k 0 [(0, ev e x)] = some xs) (hO : xs.length = 1 ∧ 1 * k ≤ 16777216) :
  EffOk p H H o e (fun v => v) (.list k xs) := by
 intro E F ρ a w envX st hl K Q' hk
 have h1 : ev envX x = ev e x := ev_le hl hne
 have hve : veff T p [] envX H o = some (.list k xs, H, envX, (xs.length = 1 ∧ 1 * k ≤ 16777216)) := by
  simp [veff, ho, hd, he, h1, hv]
 obtain ⟨nx, w', F', ρ', hr, st', hc⟩ := veff_run hT st hve hO
 rcases hc with ⟨mv, rfl, hrel⟩ | ⟨_, hc⟩
 ·simp only [Oper.wp, hr, Oper.upon_value]
  refine hk F' ρ' w' mv ?_ hrel
  rw [mapE_same]; exact st'
 ·simp at hc
theorem vwp_drawE3 {Q : Post} {ops : Array Oper} {env : Env} (hm : p.P.follows .mixedOrders = true) (hd : drawOk p.n ops = true) (i1 i2 i3 : Nat) (hne : (i1 == i2 || i1 == i3 || i2 == i3) = false) (av : List Nat) (hav : avOk ops [i1, i2, i3] av = true) {f0 f1 f2 f3 : Env} {H1 H2 H3 : List Obj} {o1 o2 o3 : Oper} {g1 g2 g3 : V → V} {v1 v2 v3 : V}
  (ho1 : ops[i1]? = some o1) (ho2 : ops[i2]? = some o2) (ho3 : ops[i3]? = some o3) (hs0 : DStage p ops H [i1, i2, i3] av 0 [] 0 ops.toList env f0) (he1 : EffOk p H H1 o1 (keepE (tms ops o1) f0) g1 v1) (hg1 : g1 .undef = .undef)
  (hs1 : DStage p ops H1 [i1, i2, i3] av 1 [v1] 0 ops.toList (mapE g1 env) f1) (hk1 : keptOk g1 [i1, i2, i3] av 0 f0 f1 0 ops.toList) (hv1 : ∀ d, o1.dst = some d → get f1 d = .undef ∨ get f1 d = v1)
  (he2 : EffOk p H1 H2 o2 (keepE (tms ops o2) f1) g2 v2) (hg2 : g2 .undef = .undef)
  (hs2 : DStage p ops H2 [i1, i2, i3] av 2 [g2 v1, v2] 0 ops.toList (mapE g2 (mapE g1 env)) f2) (hk2 : keptOk g2 [i1, i2, i3] av 1 f1 f2 0 ops.toList) (hv2 : ∀ d, o2.dst = some d → get f2 d = .undef ∨ get f2 d = v2)
  (he3 : EffOk p H2 H3 o3 (keepE (tms ops o3) f2) g3 v3) (hg3 : g3 .undef = .undef)
  (hs3 : DStage p ops H3 [i1, i2, i3] av 3 [g3 (g2 v1), g3 v2, v3] 0 ops.toList (mapE g3 (mapE g2 (mapE g1 env))) f3) (hk3 : keptOk g3 [i1, i2, i3] av 2 f2 f3 0 ops.toList) (hv3 : ∀ d, o3.dst = some d → get f3 d = .undef ∨ get f3 d = v3)
  (K : List Nat) (hK : K.all (fun t => decide (t < p.n)) = true) (hq : Q .normal (keepE K f3) H3) {id : Nat} : VWp p (.region id ops true) Q env H := by
 simp only [Bool.or_eq_false_iff] at hne
 obtain ⟨⟨n12, n13⟩, n23⟩ := hne
 refine vwp_drawE hm hd hav 3 (fun k => match k with | 0 => env | 1 => mapE g1 env | 2 => mapE g2 (mapE g1 env) | _ => mapE g3 (mapE g2 (mapE g1 env))) (fun k => match k with | 0 => f0 | 1 => f1 | 2 => f2 | _ => f3) (fun k => match k with | 0 => H | 1 => H1 | 2 => H2 | _ => H3) (fun k => match k with | 0 => [] | 1 => [v1] | 2 => [g2 v1, v2] | _ => [g3 (g2 v1), g3 v2, v3]) rfl rfl ?_ ?_ ?_ K hK hq
 ·intro k hk
  match k, hk with
  | 0, _ => exact hs0
  | 1, _ => exact hs1
  | 2, _ => exact hs2
  | 3, _ => exact hs3
 ·intro i
  simp only [effAt]
  cases (i1 == i) <;> cases (i2 == i) <;> cases (i3 == i) <;> simp
 ·intro k hk
  match k, hk with
  | 0, _ => exact ⟨i1, o1, g1, v1, by simp [effAt], ho1, he1, hg1, mapE_get hg1 env, fun j o' ho' hs d hd => keptOk_at hk1 j o' (by simpa using ho') (by rw [Nat.zero_add]; exact hs) d hd, hv1⟩
  | 1, _ => exact ⟨i2, o2, g2, v2, by simp [effAt, n12], ho2, he2, hg2, mapE_get hg2 _, fun j o' ho' hs d hd => keptOk_at hk2 j o' (by simpa using ho') (by rw [Nat.zero_add]; exact hs) d hd, hv2⟩
  | 2, _ => exact ⟨i3, o3, g3, v3, by simp [effAt, n13, n23], ho3, he3, hg3, mapE_get hg3 _, fun j o' ho' hs d hd => keptOk_at hk3 j o' (by simpa using ho') (by rw [Nat.zero_add]; exact hs) d hd, hv3⟩
theorem effOk_build1e (hT : T.Ok p.P) {o : Oper} {e : Env} {H' : List Obj} {f : V → V} {val : V} {t el : TypeId} {k d : Nat} {g : Bool} {x : Operand} {xs : List (List V)} (ho : o.op = .buildSlice t 1 #[(0, x)]) (hd : o.dst = some d) (he : T.es t = some (el, k, g)) (hne : ev e x ≠ .undef) (hv : vparts k 0 [(0, ev e x)] = some xs) (hO : xs.length = 1 ∧ 1 * k ≤ 16777216)
  (hf : f = fun v => v) (hH : H' = H) (hr : val = .list k xs) : EffOk p H H' o e f val := by subst hf hH hr; exact effOk_build1 hT ho hd he hne hv hO
theorem effOk_storee (hT : T.Ok p.P) {o : Oper} {e : Env} {H' : List Obj} {f : V → V} {val : V} {t : TypeId} {ad x : Operand} {i c : Nat} {cs xs : List V} {ty : Option TypeId} {r : Option Nat} (ho : o.op = .store t ad x) (had : ev e ad = .ptr i c) (hx : cellsOf (ev e x) = some xs) (hne : ev e x ≠ .undef) (hld : T.ld t = some r) (hi : H[i]? = some (.box cs ty)) (hO : xs.length = r.getD 1 ∧ c + xs.length ≤ cs.length)
  (hf : f = fun v => v) (hH : H' = H.set i (.box (cs.take c ++ xs ++ cs.drop (c + xs.length)) ty)) (hr : val = .undef) : EffOk p H H' o e f val := by subst hf hH hr; exact effOk_store hT ho had hx hne hld hi hO
theorem effOk_deletee {o : Oper} {env : Env} {H' : List Obj} {f : V → V} {val : V} {t t2 k e : TypeId} {m x : Operand} {i : Nat} {s : List UInt8} {es : MapV} (ho : o.op = .call { callee := .builtin .delete, args := #[m, x], argTypes := #[t, t2] }) (ht : mapTyB p.P t k e = true) (hm : ev env m = .map i) (hi : H[i]? = some (.map es)) (hx : ev env x = .str s)
  (hf : f = fun v => v) (hH : H' = H.set i (.map (mapDel es s))) (hr : val = .tuple []) : EffOk p H H' o env f val := by subst hf hH hr; exact effOk_delete ho ht hm hi hx
theorem dstage_gone (hT : T.Ok p.P) {ops : Array Oper} {es av : List Nat} {k : Nat} {gs : List V} {o : Oper} {rest : List Oper} {i : Nat} {e eF : Env} {g : Bool} {v : V} {O : Prop} (hg : vguard ops (keepE (tms ops o) e) o = some g) (hv : vop T H g (keepE (tms ops o) e) o.op = some (v, O)) (hO : g = true → O)
  (hs : effAt es i = 0) (hk : av.getD i 0 ≤ k) (hr : DStage p ops H es av k gs (i + 1) rest (putE o.dst .undef e) eF) : DStage p ops H es av k gs i (o :: rest) e eF := by
 simp only [DStage, hs, hk, if_true]
 refine ⟨.undef, ?_, hr⟩
 have h := opOk_quiet (ops := ops) (H := H) hT hg hv hO
 exact fun E F ρ a w st K Q' hk => h E F ρ a w st K Q' fun F' w' mv h1 h2 h3 h4 _ => hk F' w' mv h1 h2 h3 h4 (by simp [Rel])
theorem vops_own {Q : Post} {ops : Array Oper} {env : Env} {l : List Oper} (t e k : Nat) (h : get env t = .nils) (hc : VOps p ops l Q ((t, .arr H.length 0) :: env) (H ++ [.arr e k []])) : VOps p ops l Q env H := fun E F ρ a w st => hc E F _ a w (st.own t e k h)
theorem step_nilEq {env : Env} {o : Oper} {t e t2 : TypeId} {x : Operand} {k : Nat} {xs : List (List V)} (ho : o.op = .binOp .eql t x (.const (.slice none 0 0)) t2) (ht : p.P.underlying t = some (.slice e)) (hk : 0 < k) (hx : ev env x = .list k xs) :
  OpStep p o env H fun v env' H' => (∃ b, v = .bool b ∧ (b = true → xs = [])) ∧ env' = env ∧ H' = H := by
 intro E F ρ a w st
 have hp := st.ev x
 rw [hx] at hp
 simp only [Rel] at hp
 obtain ⟨ad, c, us, h1, h2, h3, h4, h5⟩ := hp
 have hrun : (execOp a.eval o).run p.P w = .ok (.value (.bool ad.isNone)) w := by
  have := Go.Lib.run_eql_slice_nil w t e ad xs.length c 0 0 ht
  simp only [execOp, ho, h1]
  simp [Act.eval, eqGuard, this]
 refine ⟨_, w, F, ρ, .bool ad.isNone, _, _, hrun, ⟨⟨_, rfl, fun hb => ?_⟩, rfl, rfl⟩, st, .inl ⟨_, rfl, by simp [Rel]⟩⟩
 rcases h5 with h5 | ⟨b, o', rfl, _⟩
 ·subst h5
  have := RelLL.length h4
  have h0 : xs.length * k = 0 := by simpa using this.symm
  rcases Nat.mul_eq_zero.1 h0 with h | h
  ·exact List.eq_nil_of_length_eq_zero h
  ·omega
 ·simp at hb
end Go.Q
end

section
/- Walks of the document's answer to what some names stand on, in the logic 'Q'. -/
namespace Go.Proofs.YtnobnefabagbhaaGreatDoor.Q
open Go Go.Q
theorem take_succ_mem {α : Type} {l : List α} {i : Nat} (h : i < l.length) {x : α} : x ∈ l.take (i + 1) ↔ x ∈ l.take i ∨ x = l[i] := by
 rw [List.take_succ_eq_append_getElem h, List.mem_append, List.mem_singleton]
theorem getD_lt {l : List Str} {i : Nat} (h : i < l.length) : l.getD i [] = l[i] := by simp [List.getD, h]
theorem findP_take {s : List Patch} {n : Str} {i : Nat} (hi : i < s.length) (h1 : ∀ p ∈ s.take i, p.name ≠ n) (h2 : s[i].name = n) : findP s n = some s[i] := by
 unfold findP
 conv => lhs; rw [← List.take_append_drop i s]
 rw [List.find?_append, List.find?_eq_none.2 (by intro p hp; simpa using h1 p hp), List.drop_eq_getElem_cons hi, List.find?_cons_of_pos (by simpa using h2)]
 rfl
theorem findP_none {s : List Patch} {n : Str} (h1 : ∀ p ∈ s, p.name ≠ n) : findP s n = none := List.find?_eq_none.2 (by intro p hp; simpa using h1 p hp)
theorem pickP_take {s : List Patch} {o : List Str} {i : Nat} (hi : i < s.length) : pickP (s.take (i + 1)) o = pickP (s.take i) o ++ if s[i].name ∈ o then [s[i]] else [] := by
 rw [List.take_succ_eq_append_getElem hi, pickP, List.filter_append]
 by_cases h : s[i].name ∈ o <;> simp [pickP, h]
theorem pickP_len (s : List Patch) (o : List Str) : (pickP s o).length ≤ s.length := List.length_filter_le _ _
theorem sortP_ok {ps : List Patch} (h : (sortP ps).2 = 0) : sortedP ps = some (sortP ps).1 := by
 unfold sortP at h ⊢
 cases hs : sortedP ps with
 | none => rw [hs] at h; simp at h
 | some s => rfl
theorem sortP_bad {ps : List Patch} (h : (sortP ps).2 ≠ 0) : sortP ps = ([], 1) ∧ sortedP ps = none := by
 unfold sortP at h ⊢
 cases hs : sortedP ps with
 | none => simp
 | some s => rw [hs] at h; simp at h
theorem queue_old {g : Grf} {K : List (Str × List Str)} (hn : (K.map (·.1)).Nodup) (hK : ∀ n d, g n = some d ↔ (n, d) ∈ K) {n : Str} {todo out : List Str} (ho : n ∈ out) : queue g (Q.load K (n :: todo) out + 1) (n :: todo) out = queue g (Q.load K todo out + 1) todo out := by
 rw [queue, if_pos ho]
 exact queue_more hn hK _ _ _ _ (by simp only [Q.load, List.length_cons]; omega) (Nat.lt_succ_self _)
theorem queue_new {g : Grf} {K : List (Str × List Str)} (hn : (K.map (·.1)).Nodup) (hK : ∀ n d, g n = some d ↔ (n, d) ∈ K) {n : Str} {d todo out : List Str} (ho : n ∉ out) (hg : g n = some d) : queue g (Q.load K (n :: todo) out + 1) (n :: todo) out = queue g (Q.load K (todo ++ d) (out ++ [n]) + 1) (todo ++ d) (out ++ [n]) ∧ Q.load K (todo ++ d) (out ++ [n]) + 1 = Q.load K (n :: todo) out := by
 have hw := wait_out hn ((hK n d).1 hg) ho
 have e : Q.load K (todo ++ d) (out ++ [n]) + 1 = Q.load K (n :: todo) out := by
  simp only [Q.load, List.length_cons, List.length_append]; omega
 refine ⟨?_, e⟩
 rw [queue, if_neg ho, hg]
 simp only
 rw [← e]
theorem wait_len (K : List (Str × List Str)) (out : List Str) (m : Nat) (h : ∀ x ∈ K, x.2.length ≤ m) : wait K out ≤ K.length * m := by
 unfold wait
 induction K with
 | nil => simp
 | cons x K ih =>
  have h1 := h x (by simp)
  have h2 := ih fun y hy => h y (List.mem_cons_of_mem _ hy)
  rw [List.length_cons, Nat.add_mul]
  rw [List.filter_cons]
  split
  ·rw [List.map_cons, List.sum_cons]; omega
  ·omega
theorem ofB_deps {ps : List Patch} (h : ofB ps = true) {p : Patch} (hp : p ∈ ps) : p.deps.length ≤ 256 := by
 simp only [ofB, Bool.and_eq_true] at h
 have := List.all_eq_true.1 h.1 p hp
 simp only [patchB, Bool.and_eq_true, decide_eq_true_eq] at this
 exact this.1.1.2
theorem load_of {s ps : List Patch} (hp : s.Perm ps) (h : ofB ps = true) (l : List Str) : Q.load (KP s) l [] ≤ l.length + 65536 := by
 have h1 := ofB_len h
 have h2 : ∀ x ∈ KP s, x.2.length ≤ 256 := by
  intro x hx
  obtain ⟨p, hm, rfl⟩ := List.mem_map.1 hx
  exact ofB_deps h (hp.mem_iff.1 hm)
 have := wait_len (KP s) [] 256 h2
 have e : (KP s).length = ps.length := by simp [KP, hp.length_eq]
 rw [e] at this
 unfold Q.load
 omega
theorem deps_of {s ps : List Patch} (hp : s.Perm ps) (h : ofB ps = true) {n : Str} {d : List Str} (hg : gP s n = some d) : d.length ≤ 256 := by
 have := (gP_mem (apart_perm hp (ofB_apart h)) n d).1 hg
 obtain ⟨p, hm, e⟩ := List.mem_map.1 this
 cases e
 exact ofB_deps h (hp.mem_iff.1 hm)
theorem queue_none {g : Grf} {f : Nat} {n : Str} {todo out : List Str} (ho : n ∉ out) (hg : g n = none) : queue g (f + 1) (n :: todo) out = none := by
 rw [queue, if_neg ho, hg]
theorem b_ref14_Has : bodied Go.Proofs.Tryz.prog 22 = true := by rw [bodied, Tryz.func22]; rfl
theorem c_ref14_Has (l : List Str) (s : Str) : VPure Go.Proofs.Tryz.prog G 22 [.list 1 (l.map cS), .str s] (.bool (decide (s ∈ l))) := by
 refine vpure_know fun hk => ?_
 simp only [factsL, facts, maxB, List.length_map] at hk
 refine vpure_of (ts := [4]) Tryz.func22 rfl (by simp [Tryz.ntmps22]) rfl rfl ?_
 rw [Tryz.ntmps22]
 refine oR [0, 1] ?_
 refine vwp_seq ?_
 refine oR [0, 1, 5] ?_
 refine vwp_block ?_
 refine vwp_loopW (fun i : Nat => [(0, .list 1 (l.map cS)), (1, .str s), (5, .int .i64 (i : Int))]) (fun i => []) (fun i => i ≤ l.length ∧ s ∉ l.take i) (fun i => l.length - i) 0 ⟨Nat.zero_le _, by simp⟩ (wC (wC (wC (Env.wk_nil _)))) rfl ?_
 rintro i ⟨hi, hn⟩
 refine vwp_seq ?_
 refine oR [0, 1, 5, 9] ?_
 refine oB (fun h0 => ?_) fun h0 => ?_
 ·
  have h0' : i < l.length := by simp at h0; omega
  refine vwp_skip ?_
  try simp only [thenQ, blockQ, jumpQ, stayQ]
  refine vwp_seq ?_
  refine vwp_block ?_
  refine vwp_reg tabOk [] [0, 1, 5, 17] (by simp only [go_sem]; rfl) (by first | (simp [h0']; done) | (simp [h0', in64]; omega)) ?_
  refine oB (fun h1 => ?_) fun h1 => ?_
  ·
   refine oR [4] ?_
   refine vwp_ret ?_
   simp only [thenQ, blockQ, jumpQ, stayQ, RetQ, go_sem]
   refine ⟨by simp, Wk.eq ?_⟩
   rw [getD_lt h0'] at h1
   rw [decide_eq_true (show s ∈ l from by have := of_decide_eq_true h1; rw [← this]; exact List.getElem_mem h0')]
  ·
   refine vwp_skip ?_
   try simp only [thenQ, blockQ, jumpQ, stayQ]
   refine vwp_reg1 tabOk [] [0, 1, 5] (by simp only [go_sem]; rfl) (by first | (simp [h0']; done) | (simp [h0', in64]; omega)) ?_
   try simp only [thenQ, blockQ, jumpQ, stayQ]
   exact ⟨i + 1, ⟨by omega, by rw [take_succ_mem h0', getD_lt h0'] at *; exact fun h => h.elim hn fun e => by simp [← e] at h1⟩, by omega, (wC (wC (wC (Env.wk_nil _)))), (by first | rfl | trivial)⟩
 ·
  refine vwp_exit ?_
  simp only [thenQ, blockQ, jumpQ, stayQ, if_true, reduceIte, Nat.reduceEqDiff]
  refine oR [4] ?_
  refine vwp_ret ?_
  simp only [thenQ, blockQ, jumpQ, stayQ, RetQ, go_sem]
  refine ⟨by simp, Wk.eq ?_⟩
  have : i = l.length := by simp at h0; omega
  subst this; rw [List.take_length] at hn; simp [hn]
theorem b_ref14_HasAll : bodied Go.Proofs.Tryz.prog 103 = true := by rw [bodied, Tryz.func103]; rfl
theorem c_ref14_HasAll (l : List Str) (all : List Str) : VPure Go.Proofs.Tryz.prog G 103 [.list 1 (l.map cS), .list 1 (all.map cS)] (.bool (all.all fun s => decide (s ∈ l))) := by
 refine vpure_know fun hk => ?_
 simp only [factsL, facts, maxB, List.length_map] at hk
 refine vpure_of (ts := [4]) Tryz.func103 rfl (by simp [Tryz.ntmps103]) rfl rfl ?_
 rw [Tryz.ntmps103]
 refine oR [0, 1] ?_
 refine vwp_seq ?_
 refine oR [0, 1, 5] ?_
 refine vwp_block ?_
 refine vwp_loopW (fun i : Nat => [(0, .list 1 (l.map cS)), (1, .list 1 (all.map cS)), (5, .int .i64 (i : Int))]) (fun i => []) (fun i => i ≤ all.length ∧ (all.take i).all (fun s => decide (s ∈ l)) = true) (fun i => all.length - i) 0 ⟨Nat.zero_le _, by simp⟩ (wC (wC (wC (Env.wk_nil _)))) rfl ?_
 rintro i ⟨hi, hn⟩
 refine vwp_seq ?_
 refine oR [0, 1, 5, 9] ?_
 refine oB (fun h0 => ?_) fun h0 => ?_
 ·
  have h0' : i < all.length := by simp at h0; omega
  refine vwp_skip ?_
  try simp only [thenQ, blockQ, jumpQ, stayQ]
  refine vwp_seq ?_
  refine vwp_block ?_
  refine vwp_seq (vwp_region ?_)
  refine vops_go tabOk [] (by simp only [go_sem]; rfl) (by first | (simp [h0']; done) | (simp [h0', in64]; omega)) ?_
  refine oC (fun _ => c_ref14_Has l (all.getD i [])) b_ref14_Has ?_
  simp only [go_sem]
  refine vops_go tabOk [] (by simp only [go_sem]; rfl) (by first | (simp [h0']; done) | (simp [h0', in64]; omega)) ?_
  refine vops_done [0, 1, 5, 18] ?_
  simp only [go_sem, thenQ, blockQ, jumpQ, stayQ]
  refine oB (fun h1 => ?_) fun h1 => ?_
  ·
   refine oR [4] ?_
   refine vwp_ret ?_
   simp only [thenQ, blockQ, jumpQ, stayQ, RetQ, go_sem]
   refine ⟨by simp, Wk.eq ?_⟩
   rw [getD_lt h0'] at h1
   simp only [Bool.not_eq_true'] at h1
   rw [show (all.all fun s => decide (s ∈ l)) = false from List.all_eq_false.2 ⟨_, List.getElem_mem h0', by rw [h1]; decide⟩]
  ·
   refine vwp_skip ?_
   try simp only [thenQ, blockQ, jumpQ, stayQ]
   refine vwp_reg1 tabOk [] [0, 1, 5] (by simp only [go_sem]; rfl) (by first | (simp [h0']; done) | (simp [h0', in64]; omega)) ?_
   try simp only [thenQ, blockQ, jumpQ, stayQ]
   exact ⟨i + 1, ⟨by omega, by rw [getD_lt h0'] at h1; rw [List.take_succ_eq_append_getElem h0', List.all_append, hn]; simpa using h1⟩, by omega, (wC (wC (wC (Env.wk_nil _)))), (by first | rfl | trivial)⟩
 ·
  refine vwp_exit ?_
  simp only [thenQ, blockQ, jumpQ, stayQ, if_true, reduceIte, Nat.reduceEqDiff]
  refine oR [4] ?_
  refine vwp_ret ?_
  simp only [thenQ, blockQ, jumpQ, stayQ, RetQ, go_sem]
  refine ⟨by simp, Wk.eq ?_⟩
  have : i = all.length := by simp at h0; omega
  subst this; rw [List.take_length] at hn; rw [hn]
theorem b_ref14_Find : bodied Go.Proofs.Tryz.prog 23 = true := by rw [bodied, Tryz.func23]; rfl
theorem c_ref14_Find (s : List Patch) (n : Str) : VPure Go.Proofs.Tryz.prog G 23 [.list 3 (s.map cPatch), .str n] (.tuple [.agg (cPatch (pOr s n)), .bool (gP s n).isSome]) := by
 refine vpure_know fun hk => ?_
 simp only [factsL, facts, maxB, List.length_map] at hk
 refine vpure_of2 tabOk (rs := _) Tryz.func23 rfl (by simp [Tryz.ntmps23]) rfl rfl ?_
 rw [Tryz.ntmps23]
 refine oR [0, 1, 4] ?_
 refine vwp_seq ?_
 refine oR [0, 1, 4, 6] ?_
 refine vwp_block ?_
 refine vwp_loopW (fun i : Nat => [(0, .list 3 (s.map cPatch)), (1, .str n), (4, .ptr 0 0), (6, .int .i64 (i : Int))]) (fun i => [.box [.str [], .nils, .nils]]) (fun i => i ≤ s.length ∧ ∀ p ∈ s.take i, p.name ≠ n) (fun i => s.length - i) 0 ⟨Nat.zero_le _, by simp⟩ (wC (wC (wC (wC (Env.wk_nil _))))) rfl ?_
 rintro i ⟨hi, hn⟩
 refine vwp_seq ?_
 refine oR [0, 1, 4, 6, 10] ?_
 refine oB (fun h0 => ?_) fun h0 => ?_
 ·
  have h0' : i < s.length := by simp at h0; omega
  refine vwp_skip ?_
  try simp only [thenQ, blockQ, jumpQ, stayQ]
  refine vwp_seq ?_
  refine vwp_block ?_
  refine vwp_reg tabOk [] [0, 1, 4, 6, 19] (by simp only [go_sem, getD_map, h0']; rfl) (by first | (simp [h0']; done) | (simp [h0', in64]; omega)) ?_
  refine oB (fun h1 => ?_) fun h1 => ?_
  ·
   refine vwp_reg tabOk [] [4, 5] (by simp only [go_sem, getD_map, h0']; rfl) (by first | (simp [h0']; done) | (simp [h0', in64]; omega)) ?_
   refine vwp_ret ?_
   try simp only [thenQ, blockQ, jumpQ, stayQ, go_sem]
   refine ⟨by simp, _, _, rfl, trivial, ?_⟩
   simp only [go_sem]
   have e := findP_take h0' hn (by simpa using h1)
   rw [pOr, gP, e]
   exact Wk.refl _
  ·
   refine vwp_skip ?_
   try simp only [thenQ, blockQ, jumpQ, stayQ]
   refine vwp_reg1 tabOk [] [0, 1, 4, 6] (by simp only [go_sem]; rfl) (by first | (simp [h0']; done) | (simp [h0', in64]; omega)) ?_
   try simp only [thenQ, blockQ, jumpQ, stayQ]
   exact ⟨i + 1, ⟨by omega, by intro p hp; rw [take_succ_mem h0'] at hp; rcases hp with hp | rfl; exact hn p hp; simpa using h1⟩, by omega, (wC (wC (wC (wC (Env.wk_nil _))))), (by first | rfl | trivial)⟩
 ·
  refine vwp_exit ?_
  simp only [thenQ, blockQ, jumpQ, stayQ, if_true, reduceIte, Nat.reduceEqDiff]
  refine oR [4, 5] ?_
  refine vwp_ret ?_
  try simp only [thenQ, blockQ, jumpQ, stayQ, go_sem]
  refine ⟨by simp, _, _, rfl, trivial, ?_⟩
  simp only [go_sem]
  have hi2 : i = s.length := by simp at h0; omega
  subst hi2; rw [List.take_length] at hn
  have e := findP_none hn
  rw [pOr, gP, e]
  exact Wk.tuple ⟨Wk.agg ⟨Wk.refl _, Wk.nils _, Wk.nils _, trivial⟩, Wk.refl _, trivial⟩
theorem b_ref14_rising : bodied Go.Proofs.Tryz.prog 113 = true := by rw [bodied, Tryz.func113]; rfl
theorem c_ref14_rising (s : List Patch) (o : List Str) (hs : s.length ≤ 1000000000) : VPure Go.Proofs.Tryz.prog G 113 [.list 3 (s.map cPatch), .list 1 (o.map cS)] (.list 1 (((pickP s o).map (·.name)).map cS)) := by
 refine vpure_know fun hk => ?_
 simp only [factsL, facts, maxB, List.length_map] at hk
 refine vpure_of (ts := [4]) Tryz.func113 rfl (by simp [Tryz.ntmps113]) rfl rfl ?_
 rw [Tryz.ntmps113]
 refine oR [0, 1] ?_
 refine oR [0, 1, 5] ?_
 refine vwp_seq ?_
 refine oR [0, 1, 5, 6] ?_
 refine vwp_block ?_
 refine vwp_own 5 9 1 rfl ?_
 refine vwp_keep [0, 1, 5, 6] ?_
 simp only [go_sem]
 refine vwp_loopW (fun i : Nat => [(0, .list 3 (s.map cPatch)), (1, .list 1 (o.map cS)), (5, .arr 0 (pickP (s.take i) o).length), (6, .int .i64 (i : Int))]) (fun i => [.arr 9 1 (((pickP (s.take i) o).map (·.name)).map cS)]) (fun i => i ≤ s.length) (fun i => s.length - i) 0 (Nat.zero_le _) (wC (wC (wC (wC (Env.wk_nil _))))) rfl ?_
 rintro i hi
 refine vwp_seq ?_
 refine oR [0, 1, 5, 6, 10] ?_
 refine oB (fun h0 => ?_) fun h0 => ?_
 ·
  have h0' : i < s.length := by simp at h0; omega
  have hpl := pickP_len (s.take i) o
  rw [List.length_take] at hpl
  refine vwp_skip ?_
  try simp only [thenQ, blockQ, jumpQ, stayQ]
  refine vwp_seq ?_
  refine vwp_block ?_
  refine vwp_seq (vwp_region ?_)
  refine vops_go tabOk [] (by simp only [go_sem, getD_map, h0']; rfl) (by first | (simp [h0']; done) | (simp [h0', in64]; omega)) ?_
  refine vops_call (hc := fun _ => c_ref14_Has o s[i].name) rfl (by simp only [go_sem, getD_map, h0']; rfl) rfl b_ref14_Has (by simp only [go_sem]; exact WkL.refl _) rfl (fun hg => by simp only [go_sem]; try (intros; first | assumption | trivial | simp_all)) ?_
  simp only [go_sem]
  refine vops_done [0, 1, 5, 6, 19] ?_
  simp only [go_sem, thenQ, blockQ, jumpQ, stayQ]
  refine oB (fun h1 => ?_) fun h1 => ?_
  ·
   refine vwp_reg1 tabOk [] [0, 1, 5, 6] (by simp only [go_sem, getD_map, h0']; rfl) (by first | trivial | (simp [h0']; done) | (simp [h0']; omega)) ?_
   try simp only [thenQ, blockQ, jumpQ, stayQ]
   refine vwp_reg1 tabOk [] [0, 1, 5, 6] (by simp only [go_sem]; rfl) (by first | (simp [h0']; done) | (simp [h0', in64]; omega)) ?_
   try simp only [thenQ, blockQ, jumpQ, stayQ]
   exact ⟨i + 1, by omega, by omega, Env.wk_cons (Wk.refl _) (Env.wk_cons (Wk.refl _) (Env.wk_cons (Wk.eq (by rw [pickP_take h0', if_pos (of_decide_eq_true h1)]; simp)) (Env.wk_cons (Wk.refl _) (Env.wk_nil _)))), by rw [pickP_take h0', if_pos (of_decide_eq_true h1)]; simp [cS]⟩
  ·
   refine vwp_skip ?_
   try simp only [thenQ, blockQ, jumpQ, stayQ]
   refine vwp_reg1 tabOk [] [0, 1, 5, 6] (by simp only [go_sem]; rfl) (by first | (simp [h0']; done) | (simp [h0', in64]; omega)) ?_
   try simp only [thenQ, blockQ, jumpQ, stayQ]
   exact ⟨i + 1, by omega, by omega, Env.wk_cons (Wk.refl _) (Env.wk_cons (Wk.refl _) (Env.wk_cons (Wk.eq (by rw [pickP_take h0', if_neg (of_decide_eq_false h1)]; simp)) (Env.wk_cons (Wk.refl _) (Env.wk_nil _)))), by rw [pickP_take h0', if_neg (of_decide_eq_false h1)]; simp [cS]⟩
 ·
  refine vwp_exit ?_
  simp only [thenQ, blockQ, jumpQ, stayQ, if_true, reduceIte, Nat.reduceEqDiff]
  refine vwp_freeze 0 9 1 _ rfl ?_
  simp only [go_sem]
  refine vwp_trim 0 (by simp) (by simp) ?_
  simp only [go_sem, mapE]
  refine oR [4] ?_
  refine vwp_ret ?_
  simp only [thenQ, blockQ, jumpQ, stayQ, RetQ, go_sem]
  refine ⟨by simp, Wk.eq ?_⟩
  have hi2 : i = s.length := by simp at h0; omega
  rw [List.take_of_length_le (by simp), hi2, List.take_length]
theorem b_ref14_Down : bodied Go.Proofs.Tryz.prog 83 = true := by rw [bodied, Tryz.func83]; rfl
set_option maxHeartbeats 4000000 in
theorem c_ref14_Down (ps : List Patch) (l : List Str) (hl : l.length ≤ 100000000) : VPure Go.Proofs.Tryz.prog G 83 [.list 3 (ps.map cPatch), .list 1 (l.map cS)] (.tuple [.list 1 ((downP ps l).1.map cS), .int .i64 (downP ps l).2]) := by
 refine vpure_know fun hk => ?_
 simp only [factsL, facts, maxB, List.length_map] at hk
 refine vpure_of (ts := [4, 5]) Tryz.func83 rfl (by simp [Tryz.ntmps83]) rfl rfl ?_
 rw [Tryz.ntmps83]
 refine vwp_reg tabOk [20] [0, 1] (by simp only [go_sem]; rfl) (by first | trivial | (simp; done) | (simp [in64]; omega)) ?_
 refine vwp_seq (vwp_region ?_)
 refine oG [20] ?_
 refine oC (fun _ => c_ref14_Sorted ps) b_ref14_Sorted ?_
 simp only [go_sem]
 refine oG [20] ?_
 refine vops_done [0, 1, 6] ?_
 simp only [go_sem, thenQ, blockQ, jumpQ, stayQ]
 refine vwp_seq ?_
 refine vwp_reg tabOk [20] [0, 1, 6, 18] (by simp only [go_sem]; rfl) (by first | trivial | (simp; done) | (simp [in64]; omega)) ?_
 refine oB (fun h0 => ?_) fun h0 => ?_
 ·
  refine vwp_reg tabOk [20] [4, 5] (by simp only [go_sem]; rfl) (by first | trivial | (simp; done) | (simp [in64]; omega)) ?_
  refine vwp_ret ?_
  simp only [thenQ, blockQ, jumpQ, stayQ, RetQ, go_sem]
  rw [show downP ps l = ([], 1) from by rw [downP, (sortP_bad (by simpa using h0)).2]]
  rw [(sortP_bad (by simpa using h0)).1]
  refine ⟨by simp, ?_⟩
  exact Wk.tuple ⟨Wk.nils _, Wk.refl _, trivial⟩
 ·
  have hs2 := sortP_ok (ps := ps) (by simpa using h0)
  obtain ⟨hpm, hup, hap, h256⟩ := sortedP_facts hs2
  have hapS := apart_perm hpm hap
  have hlenS := hpm.length_eq
  have hofb : ofB ps = true := by rw [← sortedP_isSome, hs2]; rfl
  refine vwp_skip ?_
  try simp only [thenQ, blockQ, jumpQ, stayQ]
  refine vwp_reg tabOk [20] [0, 7] (by simp only [go_sem]; rfl) (by first | trivial | (simp; done) | (simp [in64]; omega)) ?_
  refine vwp_reg tabOk [20] [0, 7, 8] (by simp only [go_sem]; rfl) (by first | trivial | (simp; done) | (simp [in64]; omega)) ?_
  refine vwp_seq ?_
  refine vwp_block ?_
  refine vwp_own 8 9 1 rfl ?_
  refine vwp_sub (i := 0) rfl ?_
  refine vwp_keep [0, 7, 8] ?_
  simp only [go_sem]
  refine vwp_loopW (fun y : List Str × List Str => [(0, .list 3 ((sortP ps).1.map cPatch)), (7, .arr 0 y.1.length), (8, .arr 1 y.2.length)]) (fun y => [.sub 9 1 (y.1.map cS), .arr 9 1 (y.2.map cS)]) (fun y => QInv (gP (sortP ps).1) l y.1 y.2 ∧ reachQ (sortP ps).1 l = queue (gP (sortP ps).1) (Q.load (KP (sortP ps).1) y.1 y.2 + 1) y.1 y.2 ∧ Q.load (KP (sortP ps).1) y.1 y.2 + y.2.length ≤ 200000000) (fun y => Q.load (KP (sortP ps).1) y.1 y.2) (l, []) ⟨QInv.start _ _, rfl, by have := load_of hpm hofb l; simp; omega⟩ (wC (wC (wC (Env.wk_nil _)))) rfl ?_
  rintro y ⟨hq, hr, hb⟩
  refine vwp_seq ?_
  refine vwp_reg tabOk [20] [0, 7, 8, 25] (by simp only [go_sem]; rfl) (by first | trivial | (simp; done) | (simp [in64]; omega)) ?_
  refine oB (fun h1 => ?_) fun h1 => ?_
  ·
   obtain ⟨td, out⟩ := y
   simp only at *
   obtain ⟨n, td, rfl⟩ : ∃ n r, td = n :: r := by
    cases td with
    | nil => simp at h1
    | cons n r => exact ⟨n, r, rfl⟩
   simp only [List.map_cons, cS]
   refine vwp_skip ?_
   try simp only [thenQ, blockQ, jumpQ, stayQ]
   refine vwp_block ?_
   refine vwp_seq (vwp_region ?_)
   refine oG [20] ?_
   refine vops_subHead (t := 23) (e := 9) (i := 0) (v := .str n) (xs := td.map cS) tabOk rfl rfl rfl rfl rfl rfl rfl rfl rfl (by simp only [go_sem]) (by simp only [go_sem]) (by simp only [go_sem]) ?_
   refine oG [20] ?_
   refine vops_done [0, 7, 8, 9] ?_
   simp only [go_sem, thenQ, blockQ, jumpQ, stayQ]
   refine vwp_seq (vwp_region ?_)
   refine oG [20] ?_
   refine vops_step1 (step_subCut (t := 23) (e := 9) (i := 0) (k := 1) (n := 1) (xs := (n :: td).map cS) rfl (by kernel_rfl) Tryz.sizeOf9 (by simp only [go_sem]) (by simp only [go_sem]) (by simp only [go_sem]; rfl) (by simp) (.inr (Nat.zero_le _))) rfl rfl ?_
   simp only [go_sem]
   refine oG [20] ?_
   refine vops_done [0, 7, 8, 9] ?_
   simp only [go_sem, thenQ, blockQ, jumpQ, stayQ]
   refine vwp_seq ?_
   refine vwp_seq (vwp_region ?_)
   refine oG [20] ?_
   refine vops_callS (hc := fun _ => c_ref14_Has out n) rfl rfl (by simp only [go_sem]; rfl) rfl b_ref14_Has (by simp only [go_sem, List.map, viewV, List.getElem?_cons_zero, List.getElem?_cons_succ]; rw [List.take_of_length_le (by simp)]; exact WkL.refl _) rfl (fun hg => by simp only [go_sem]; try (intros; first | assumption | trivial | simp_all)) ?_
   simp only [go_sem]
   refine vops_done [0, 7, 8, 9, 33] ?_
   simp only [go_sem, thenQ, blockQ, jumpQ, stayQ]
   refine oB (fun h2 => ?_) fun h2 => ?_
   ·
    refine vwp_exit ?_
    simp only [thenQ, blockQ, jumpQ, stayQ, if_true, reduceIte, Nat.reduceEqDiff]
    exact ⟨(td, out), ⟨hq.old (of_decide_eq_true h2), hr.trans (queue_old (KP_nodup hapS) (gP_mem hapS) (of_decide_eq_true h2)), by simp only [Q.load, List.length_cons] at hb ⊢; omega⟩, (by simp only [Q.load, List.length_cons]; omega), (wC (wC (wC (Env.wk_nil _)))), (by first | rfl | trivial)⟩
   ·
    have hno : n ∉ out := of_decide_eq_false h2
    refine vwp_skip ?_
    try simp only [thenQ, blockQ, jumpQ, stayQ]
    refine vwp_seq (vwp_region ?_)
    refine oG [20] ?_
    refine oC (fun _ => c_ref14_Find (sortP ps).1 n) b_ref14_Find ?_
    simp only [go_sem]
    refine oG [20] ?_
    refine vops_done [0, 7, 8, 9, 10, 11] ?_
    simp only [go_sem, thenQ, blockQ, jumpQ, stayQ]
    refine vwp_seq ?_
    refine vwp_reg tabOk [20] [0, 7, 8, 9, 10, 41] (by simp only [go_sem]; rfl) (by first | trivial | (simp; done) | (simp [in64]; omega)) ?_
    refine oB (fun h3 => ?_) fun h3 => ?_
    ·
     refine vwp_reg tabOk [20] [4, 5] (by simp only [go_sem]; rfl) (by first | trivial | (simp; done) | (simp [in64]; omega)) ?_
     refine vwp_ret ?_
     simp only [thenQ, blockQ, jumpQ, stayQ, RetQ, go_sem]
     rw [show downP ps l = ([], 12) from by
      simp only [downP, hs2]
      rw [hr, queue_none (of_decide_eq_false h2) (by simpa using h3)]]
     refine ⟨by simp, ?_⟩
     exact Wk.tuple ⟨Wk.nils _, Wk.refl _, trivial⟩
    ·
     have hgn := gP_pOr (ps := (sortP ps).1) (n := n) (by simpa using h3)
     have hdl : (pOr (sortP ps).1 n).deps.length ≤ 256 := deps_of hpm hofb hgn
     have htl : td.length ≤ 200000000 := by simp only [Q.load, List.length_cons] at hb; omega
     have hol : out.length ≤ 200000000 := by omega
     refine vwp_skip ?_
     try simp only [thenQ, blockQ, jumpQ, stayQ]
     refine vwp_reg tabOk [20] [0, 7, 8, 10] (by simp only [go_sem]; rfl) (by first | trivial | (simp; done) | (simp [in64]; omega)) ?_
     refine vwp_region ?_
     refine oG [20] ?_
     refine vops_step1 (step_subApp (t := 23) (i := 0) (xs := td.map cS) (ys := (pOr (sortP ps).1 n).deps.map cS) tabOk rfl rfl (by simp only [go_sem]; simp) (by simp only [go_sem]) (by simp only [go_sem]) (.inr (Nat.zero_le _)) (by simp; omega)) rfl rfl ?_
     simp only [go_sem]
     refine vops_trim 2 (by simp) (by simp) ?_
     simp only [go_sem, mapE]
     refine oG [20] ?_
     refine vops_done [0, 7, 8] ?_
     simp only [go_sem, thenQ, blockQ, jumpQ, stayQ]
     try simp only [thenQ, blockQ, jumpQ, stayQ]
     exact ⟨(td ++ (pOr (sortP ps).1 n).deps, out ++ [n]), ⟨hq.new hno hgn, hr.trans (queue_new (KP_nodup hapS) (gP_mem hapS) hno hgn).1, by have := (queue_new (KP_nodup hapS) (gP_mem hapS) (todo := td) hno hgn).2; simp only [List.length_append, List.length_cons, List.length_nil]; omega⟩, (by have := (queue_new (KP_nodup hapS) (gP_mem hapS) (todo := td) hno hgn).2; simp only []; omega), (wC (wC (wC (Env.wk_nil _)))), (by simp [cS])⟩
  ·
   refine vwp_exit ?_
   simp only [thenQ, blockQ, jumpQ, stayQ, if_true, reduceIte, Nat.reduceEqDiff]
   refine vwp_freeze 1 9 1 _ rfl ?_
   simp only [go_sem]
   refine vwp_trim 0 (by simp) (by simp) ?_
   simp only [go_sem, mapE]
   try rw [List.take_of_length_le (by simp)]
   refine vwp_seq (vwp_region ?_)
   refine oG [20] ?_
   refine oC (fun _ => c_ref14_rising (sortP ps).1 y.2 (by omega)) b_ref14_rising ?_
   simp only [go_sem]
   refine oG [20] ?_
   refine vops_done [4, 5] ?_
   simp only [go_sem, thenQ, blockQ, jumpQ, stayQ]
   refine vwp_ret ?_
   simp only [thenQ, blockQ, jumpQ, stayQ, RetQ, go_sem]
   refine ⟨by simp, Wk.eq ?_⟩
   have hy : y.1 = [] := by
    cases hy : y.1 with
    | nil => rfl
    | cons a b => rw [hy] at h1; simp at h1
   rw [show downP ps l = ((pickP (sortP ps).1 y.2).map (·.name), 0) from by
    simp only [downP, hs2]
    rw [hr, hy, queue]]
end Go.Proofs.YtnobnefabagbhaaGreatDoor.Q
end

section
/- The logic 'Q': the end of a slice of the call's own is cleared; its front is cut out. -/
namespace Go.Q
open Go
variable {T : Tab} {p : Par} {H : List Obj}
theorem relLL_zero {F : Nat → Prop} {w : World} {k : Nat} {zc : List V} {z : Array Value} (hk : zc.length = k) (hz : z.size = k) (hr : RelL F [] w zc z.toList) (h1 : ∀ u ∈ z.toList, u.oneCell' = true) : ∀ (m : Nat), RelLL F w k (List.replicate m zc) (Builtin.zeroCells z m).toList
 | 0 => by simp [RelLL, Builtin.zeroCells]
 | m + 1 => by
  have ih := relLL_zero hk hz hr h1 m
  simp only [Builtin.zeroCells, Array.toList_map, Array.toList_range, hz] at ih ⊢
  rw [show (m + 1) * k = k + m * k by rw [Nat.add_mul, Nat.one_mul, Nat.add_comm], List.range_add, List.map_append, List.replicate_succ]
  refine ⟨z.toList, _, ?_, hk, hr, h1, ih⟩
  congr 1
  ·apply List.ext_getElem
   ·simp [hz]
   ·intro i h2 h3
    simp only [List.length_map, List.length_range] at h2
    simp only [List.getElem_map, List.getElem_range, Array.getElem_toList]
    rw [Nat.mod_eq_of_lt h2, getElem!_pos z i (by omega)]
  ·rw [List.map_map]
   apply List.map_congr_left
   intro i _
   simp [Nat.add_mod_left]
theorem vops_sliceClear (hT : T.Ok p.P) {Q : Post} {ops : Array Oper} {env : Env} {o1 o2 : Oper} {rest : List Oper} {t e : TypeId} {x lo : Operand} {i d1 k n : Nat} {g : Bool} {z : Value} {zc : List V} {xs : List (List V)}
  (ho1 : o1.op = .slice t x (some lo) none none) (hd1 : o1.dst = some d1) (hg1 : o1.guard = none) (ho2 : o2.op = .call { callee := .builtin .clear, args := #[.tmp d1], argTypes := #[t] }) (hd2 : o2.dst = none) (hg2 : o2.guard = none) (hdn : dstOk p.n o1.dst = true)
  (he : T.es t = some (e, k, g)) (hx : ev env x = .arr i xs.length) (hi : H[i]? = some (.arr e k xs)) (hlo : ev env lo = .int .i64 (n : Int)) (hn : n < xs.length)
  (hz : ∀ w, (zeroValue e).run p.P w = .ok z w) (hzk : z.cells.size = k) (hzc : zc.length = k) (hzr : ∀ F w, RelL F [] w zc z.cells.toList) (hz1 : ∀ u ∈ z.cells.toList, u.oneCell' = true)
  (h : VOps p ops rest Q (putE o1.dst .undef env) (H.set i (.arr e k (xs.take n ++ List.replicate (xs.length - n) zc)))) : VOps p ops (o1 :: o2 :: rest) Q env H := by
 intro E F ρ a w st
 obtain ⟨hd, ⟨ie, hie, hsz, _⟩, hk, d, hed, hg⟩ := hT.es t _ _ _ he
 have hp := st.ev x
 rw [hx] at hp
 simp only [Rel] at hp
 obtain ⟨ad, m, c, h1, h2, h3⟩ := hp
 obtain ⟨us, c', ad', hh, hown, hll, hB⟩ := st.sim.obj i _ _ hi h1
 injection hh with e1 e2 e3
 subst e1; subst e2; subst e3
 have hl := st.ev lo
 rw [hlo] at hl
 simp only [Rel] at hl
 rcases hown.2 with ⟨_, hz0⟩ | ⟨b, cap, cur, hv, hb0, hgb, hnc, hcm, hcs, htk⟩
 ·omega
 ·simp only [Value.slice.injEq] at hv
  obtain ⟨rfl, _, rfl⟩ := hv
  have hrun1 : (execOp a.eval o1).run p.P w = .ok (.value (.slice (some ⟨b, n * k, none⟩) (xs.length - n) (c - n))) w := by
   have hb : (0 : Int) ≤ (n : Int) ∧ (n : Int) ≤ (xs.length : Int) := ⟨by omega, by omega⟩
   have hcn : c ≠ n := by omega
   have hn2 : n ≤ xs.length := by omega
   simp [execOp, ho1, h2, hl, Instr.sliceAt, Instr.slice, run_underlying hd, Instr.sliceBounds, Instr.sliceBound, asIntOf, hb, hn2, sizeOf_run hT hie, hsz, Result.andThen, hcn, add_spot]
  have hval : (a.put o1.dst (.slice (some ⟨b, n * k, none⟩) (xs.length - n) (c - n))).eval (.tmp d1) = .slice (some ⟨b, n * k, none⟩) (xs.length - n) (c - n) := by
   have : dstOk p.n (some d1) = true := by rw [← hd1]; exact hdn
   have hszs := st.size
   simp only [dstOk, decide_eq_true_eq] at this
   have hlt : d1 < a.tmps.size := by omega
   rw [hd1]
   simp [Act.put, Act.eval, Array.getD, hlt]
  have hzl : (Builtin.zeroCells z.cells (xs.length - n)).toList.length = (xs.length - n) * k := by
   rw [Array.length_toList, size_zeroCells, hzk]
  have hz3 : ∀ u ∈ (Builtin.zeroCells z.cells (xs.length - n)).toList, u.oneCell' = true := by
   intro u hu
   simp only [Builtin.zeroCells, Array.toList_map, Array.toList_range, List.mem_map, List.mem_range] at hu
   obtain ⟨j, hj, rfl⟩ := hu
   have hpos : 0 < z.cells.size := by rw [hzk]; exact hk
   have := Nat.mod_lt j hpos
   rw [getElem!_pos z.cells _ this]
   exact hz1 _ (by simp)
  have hsum : n * k + (xs.length - n) * k = xs.length * k := by rw [← Nat.add_mul]; congr 1; omega
  have hcap : xs.length * k ≤ cur.size := by rw [hcs]; exact Nat.mul_le_mul_right k hnc
  have hst := run_storeCells_at p.P b (n * k) e (Builtin.zeroCells z.cells (xs.length - n)).toList 0 cur w hgb (by rw [hzl, Nat.add_zero]; omega) hz3
  simp only [Nat.add_zero] at hst
  rw [hzl] at hst
  have hrun2 : (execOp (a.put o1.dst (.slice (some ⟨b, n * k, none⟩) (xs.length - n) (c - n))).eval o2).run p.P w = .ok (.value (.tuple #[])) (w.setRow b (cur.toList.take (n * k) ++ (Builtin.zeroCells z.cells (xs.length - n)).toList ++ cur.toList.drop (n * k + (xs.length - n) * k)).toArray) := by
   obtain ⟨m, hm⟩ : ∃ m, xs.length - n = m + 1 := ⟨xs.length - n - 1, by omega⟩
   simp only [execOp, ho2, resolve, Sem.run_bind, Sem.run_pure, Result.andThen_ok, List.map_toArray, List.map_cons, List.map_nil, hval]
   rw [hm] at hst ⊢
   simp [invoke, builtin, Builtin.clear_, run_underlying hd, hz, hst]
  simp only [wpList]
  rw [if_pos (by simp [Region.wanted, hg1])]
  left
  simp only [Oper.wp, hrun1, Oper.upon_value, wpList]
  rw [if_pos (by simp [Region.wanted, hg2])]
  left
  simp only [Oper.wp, hrun2, Oper.upon_value]
  have hA : (cur.toList.take (n * k)).length = n * k := by
   rw [List.length_take, Array.length_toList]
   have := Nat.mul_le_mul_right k (show n ≤ xs.length by omega)
   omega
  have st1 := st.putO (dst := o1.dst) (v := .undef) (mv := .slice (some ⟨b, n * k, none⟩) (xs.length - n) (c - n)) hdn (by simp [Rel])
  have st2 := st1.setObj (w' := w.setRow b (cur.toList.take (n * k) ++ (Builtin.zeroCells z.cells (xs.length - n)).toList ++ cur.toList.drop (n * k + (xs.length - n) * k)).toArray) (i := i) (o' := .arr e k (xs.take n ++ List.replicate (xs.length - n) zc)) hi rfl h1 rfl rfl rfl (by simp [World.setRow]) (fun b2 hb2 => setRow_other w b b2 _ (fun e => hb2 (by simp [blk, e]))) ?_
  ·have := h E F ρ _ _ st2
   simpa [Act.put, hd2] using this
  ·have hF : ∀ b2, F b2 → (w.setRow b (cur.toList.take (n * k) ++ (Builtin.zeroCells z.cells (xs.length - n)).toList ++ cur.toList.drop (n * k + (xs.length - n) * k)).toArray).heap[b2]? = w.heap[b2]? := fun b2 hb2 => setRow_other w b b2 _ (by rintro rfl; exact st.sim.apart i _ _ b2 hi rfl h1 rfl hb2)
   have hlen : (xs.take n ++ List.replicate (xs.length - n) zc).length = xs.length := by simp; omega
   have hul := RelLL.length hll
   have htake : us.take (n * k) = cur.toList.take (n * k) := by
    rw [← htk, List.take_take, Nat.min_eq_left (by omega)]
   refine ⟨us.take (n * k) ++ (Builtin.zeroCells z.cells (xs.length - n)).toList, c, some ⟨b, 0, none⟩, by rw [hlen], ?_, ?_, by rw [hlen]; exact hB⟩
   ·rw [hlen]
    refine ⟨?_, .inr ⟨b, c, _, rfl, Nat.zero_le _, setRow_heap w b _ _ e (0, 0) hgb, hnc, hcm, ?_, ?_⟩⟩
    ·rw [List.length_append, hzl, htake, hA, hsum]
    ·simp only [List.size_toArray, List.length_append, hA, hzl, List.length_drop, Array.length_toList]
     rw [← hcs]; omega
    ·simp only
     rw [htake, List.take_append_of_le_length (by rw [List.length_append, hA, hzl, hsum]; exact Nat.le_refl _), List.take_of_length_le (by rw [List.length_append, hA, hzl, hsum]; exact Nat.le_refl _)]
   ·exact RelLL.goes (F := F) (F' := F) (ρ := []) (ρ' := []) (w := w) ⟨fun _ h => h, hF, fun _ _ h => h⟩ k _ _ ((RelLL.take n hll).append (relLL_zero hzc hzk (hzr F w) hz1 _))
theorem step_sliceHi (hT : T.Ok p.P) {env : Env} {o : Oper} {t e : TypeId} {x hi_ : Operand} {i k n : Nat} {g : Bool} {xs : List (List V)} (ho : o.op = .slice t x none (some hi_) none) (he : T.es t = some (e, k, g)) (hx : ev env x = .arr i xs.length) (hi : H[i]? = some (.arr e k xs)) (hh : ev env hi_ = .int .i64 (n : Int)) (hn : n ≤ xs.length) :
  OpStep p o env H fun v env' H' => v = .arr i n ∧ env' = env ∧ H' = H := by
 intro E F ρ a w st
 obtain ⟨hd, ⟨ie, hie, hsz, _⟩, hk, d, hed, hg⟩ := hT.es t _ _ _ he
 have hp := st.ev x
 rw [hx] at hp
 simp only [Rel] at hp
 obtain ⟨ad, m, c, h1, h2, h3⟩ := hp
 obtain ⟨us, c', ad', hh2, hown, hll, hB⟩ := st.sim.obj i _ _ hi h1
 injection hh2 with e1 e2 e3
 subst e1; subst e2; subst e3
 have hl := st.ev hi_
 rw [hh] at hl
 simp only [Rel] at hl
 have hnc : xs.length ≤ c := by
  rcases hown.2 with ⟨hv, hz0⟩ | ⟨b, cap, cur, hv, hb0, hgb, hnc, hcm, hcs, htk⟩
  ·omega
  ·simp only [Value.slice.injEq] at hv
   obtain ⟨_, _, rfl⟩ := hv; exact hnc
 have had : (if c = 0 then ad else ad.map (·.add (0 * k))) = ad := by
  split
  ·rfl
  ·rcases hown.2 with ⟨hv, hz0⟩ | ⟨b, cap, cur, hv, hb0, hgb, hnc, hcm, hcs, htk⟩
   ·simp only [Value.slice.injEq] at hv
    obtain ⟨rfl, _, _⟩ := hv; rfl
   ·simp only [Value.slice.injEq] at hv
    obtain ⟨rfl, _, _⟩ := hv
    simp [add_spot]
 have hrun : (execOp a.eval o).run p.P w = .ok (.value (.slice ad n c)) w := by
  have hb : (0 : Int) ≤ (n : Int) ∧ (n : Int) ≤ (c : Int) := ⟨by omega, by omega⟩
  have hn2 : n ≤ c := by omega
  simp only [Nat.zero_mul] at had
  simp [execOp, ho, h2, hl, Instr.sliceAt, Instr.slice, run_underlying hd, Instr.sliceBounds, Instr.sliceBound, asIntOf, hb, hn2, sizeOf_run hT hie, hsz, Result.andThen, had]
 refine ⟨_, w, F, ρ, _, _, _, hrun, ⟨rfl, rfl, rfl⟩, st, .inl ⟨_, rfl, ?_⟩⟩
 simp only [Rel]
 exact ⟨ad, xs.length, c, h1, rfl, hn⟩
end Go.Q
end
