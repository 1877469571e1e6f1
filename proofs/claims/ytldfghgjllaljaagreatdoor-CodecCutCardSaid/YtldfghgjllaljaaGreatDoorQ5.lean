/- Part 5 of our proof: a logic over the model's code, contracts of the functions, and plain laws. -/
import Derived.Test.YtldfghgjllaljaaGreatDoorQ4
import Derived.Shelf.Strings.BuilderF
import Derived.Lib.IndexMore
import Derived.Test.YtldfghgjllaljaaGreatDoorQ2
import Derived.Lib.Bytealg
import Derived.Sort.Walk0
import Derived.Shelf.SlSortCmp.NoneTotal
import Derived.Ground.SlsfProg
import Derived.Test.YtldfghgjllaljaaGreatDoorProg
section
/- Walks of what is a right change, in the program's own words, in the logic 'Q'. -/
set_option linter.unusedVariables false
set_option linter.unusedSimpArgs false
set_option maxRecDepth 100000
namespace Go.Proofs.YtldfghgjllaljaaGreatDoor.Q
open Go Go.Q
open Go.RowKit (Below)

theorem or32 (c : UInt8) : (BitVec.ofInt 8 (c.toNat : Int) ||| BitVec.ofInt 8 32).toNat = (c ||| 32).toNat := by
  simp
theorem wrapu8 (c : UInt8) : IntKind.u8.wrap (c.toNat : Int) = (c.toNat : Int) := by
  have := c.toNat_lt
  simp [IntKind.wrap, IntKind.bits, IntKind.signed]; omega
theorem okT_byte (c : UInt8) : (bif bif decide ((c.toNat : Int) = 95) then true else bif decide (97 ≤ ((c ||| 32).toNat : Int)) then decide (((c ||| 32).toNat : Int) ≤ 122) else false then true
      else bif decide (48 ≤ (c.toNat : Int)) then decide ((c.toNat : Int) ≤ 57) else false) = okT c := by
  have h : ∀ n : Fin 256, (bif bif decide (((UInt8.ofNat n.val).toNat : Int) = 95) then true else bif decide (97 ≤ ((UInt8.ofNat n.val ||| 32).toNat : Int)) then decide (((UInt8.ofNat n.val ||| 32).toNat : Int) ≤ 122) else false then true
      else bif decide (48 ≤ ((UInt8.ofNat n.val).toNat : Int)) then decide (((UInt8.ofNat n.val).toNat : Int) ≤ 57) else false) = okT (UInt8.ofNat n.val) := by decide +kernel
  have := h ⟨c.toNat, c.toNat_lt⟩
  simpa using this

/-! counterpane/lines.in -/
theorem b_lines_in : bodied Go.Proofs.Tryz.prog 142 = true := by rw [bodied, Tryz.func142]; rfl
theorem c_lines_in (c : UInt8) : VPure Go.Proofs.Tryz.prog G 142 [.int .u8 (c.toNat : Int)] (.bool (okT c)) := by
  refine vpure_of (ts := [2]) Tryz.func142 rfl (by simp [Tryz.ntmps142]) rfl rfl ?_
  rw [Tryz.ntmps142]
  refine vwp_reg tabOk [] [0] (by simp only [go_sem]; rfl) (by first | trivial | (simp; done) | (simp [in64]; omega)) ?_
  refine vwp_reg tabOk [] [2] (by simp only [go_sem]; rfl) (by first | trivial | (simp; done) | (simp [in64]; omega)) ?_
  refine vwp_ret ?_
  -- result 0
  simp only [thenQ, blockQ, jumpQ, stayQ, RetQ, go_sem]
  refine ⟨by simp, Wk.eq ?_⟩
  have e : IntKind.u8.wrap (((BitVec.ofInt 8 (c.toNat : Int)) ||| BitVec.ofInt 8 32).toNat : Int) = ((c ||| 32).toNat : Int) := by rw [or32, wrapu8]
  refine (congrArg (fun m : Int => V.bool (bif bif decide ((c.toNat : Int) = 95) then true else bif decide (97 ≤ m) then decide (m ≤ 122) else false then true else bif decide (48 ≤ (c.toNat : Int)) then decide ((c.toNat : Int) ≤ 57) else false)) e).trans ?_
  rw [okT_byte]

/-! counterpane/lines.Token -/
theorem b_lines_Token : bodied Go.Proofs.Tryz.prog 116 = true := by rw [bodied, Tryz.func116]; rfl
theorem c_lines_Token (s : Str) : VPure Go.Proofs.Tryz.prog G 116 [.str s] (.bool (tokenB s)) := by
  refine vpure_know fun hk => ?_
  simp only [factsL, facts, maxB] at hk
  refine vpure_of (ts := [2]) Tryz.func116 rfl (by simp [Tryz.ntmps116]) rfl rfl ?_
  rw [Tryz.ntmps116]
  refine vwp_reg tabOk [] [0] (by simp only [go_sem]; rfl) (by first | trivial | (simp; done) | (simp [in64]; omega)) ?_
  refine vwp_seq ?_
  refine vwp_reg tabOk [] [0, 5, 6] (by simp only [go_sem]; rfl) (by first | trivial | (simp; done) | (simp [in64]; omega)) ?_
  refine vwp_block ?_
  -- loop 0
  refine vwp_loopW (fun i : Nat => [(0, .str s), (5, .int .i64 (s.length : Int)), (6, .int .i64 (i : Int))]) (fun i => []) (fun i => i ≤ s.length ∧ (s.take i).all okT = true) (fun i => s.length - i) 0 ⟨Nat.zero_le _, by rfl⟩ (Env.wk_cons (by first | exact Wk.refl _ | exact Wk.nils _ | (refine Wk.eq ?_; simp; done) | (refine Wk.eq ?_; congr 1 <;> omega)) (Env.wk_cons (by first | exact Wk.refl _ | exact Wk.nils _ | (refine Wk.eq ?_; simp; done) | (refine Wk.eq ?_; congr 1 <;> omega)) (Env.wk_cons (by first | exact Wk.refl _ | exact Wk.nils _ | (refine Wk.eq ?_; simp; done) | (refine Wk.eq ?_; congr 1 <;> omega)) (Env.wk_nil _)))) rfl ?_
  rintro i ⟨hi, hok⟩
  refine vwp_reg tabOk [] [0, 5, 6, 7] (by simp only [go_sem]; rfl) (by first | trivial | (simp; done) | (simp [in64]; omega)) ?_
  refine vwp_seq ?_
  refine vwp_cond (by simp only [go_sem]; rfl) (fun h0 => ?_) (fun h0 => ?_)
  · -- h0 then
    have h0' : i < s.length := by simp at h0; omega
    refine vwp_skip ?_
    try simp only [thenQ, blockQ, jumpQ, stayQ]
    refine vwp_seq ?_
    refine vwp_block ?_
    refine vwp_reg tabOk [] [0, 3, 5, 6] (by simp only [go_sem]; rfl) (by first | trivial | (simp; done) | (simp [in64]; omega)) ?_
    refine vwp_seq (vwp_region ?_)
    refine vops_go tabOk [] (by simp only [go_sem]; rfl) (by first | trivial | (simp; done) | (simp; omega)) ?_
    -- call 0: t12 = CALL 142(f142, t11)
    refine vops_call (hc := fun _ => c_lines_in (s.getD i 0)) rfl (by simp only [go_sem]; rfl) rfl b_lines_in (by simp only [go_sem]; exact WkL.refl _) rfl (fun hg => by simp only [go_sem]; try (intros; first | assumption | trivial | simp_all)) ?_
    simp only [go_sem]
    refine vops_go tabOk [] (by simp only [go_sem]; rfl) (by first | trivial | (simp; done) | (simp; omega)) ?_
    refine vops_done [0, 5, 6, 13] ?_
    simp only [go_sem, thenQ, blockQ, jumpQ, stayQ]
    refine vwp_cond (by simp only [go_sem]; rfl) (fun h1 => ?_) (fun h1 => ?_)
    · -- h1 then
      refine vwp_reg tabOk [] [2] (by simp only [go_sem]; rfl) (by first | trivial | (simp; done) | (simp [in64]; omega)) ?_
      refine vwp_ret ?_
      -- result 0
      simp only [thenQ, blockQ, jumpQ, stayQ, RetQ, go_sem]
      refine ⟨by simp, Wk.eq ?_⟩
      rw [tokenB, not_all okT s i h0' (by rw [← getD_lt s i 0 h0']; simpa using h1), Bool.false_and]
    · -- h1 else
      refine vwp_skip ?_
      try simp only [thenQ, blockQ, jumpQ, stayQ]
      refine vwp_reg1 tabOk [] [0, 5, 6] (by simp only [go_sem]; rfl) (by first | trivial | (simp; done) | (simp [in64]; omega)) ?_
      try simp only [thenQ, blockQ, jumpQ, stayQ]
      -- round 0
      exact ⟨i + 1, ⟨by omega, by rw [take_all okT s i h0', hok, ← getD_lt s i 0 h0']; simpa using h1⟩, by omega, (Env.wk_cons (by first | exact Wk.refl _ | exact Wk.nils _ | (refine Wk.eq ?_; simp; done) | (refine Wk.eq ?_; congr 1 <;> omega)) (Env.wk_cons (by first | exact Wk.refl _ | exact Wk.nils _ | (refine Wk.eq ?_; simp; done) | (refine Wk.eq ?_; congr 1 <;> omega)) (Env.wk_cons (by first | exact Wk.refl _ | exact Wk.nils _ | (refine Wk.eq ?_; simp; done) | (refine Wk.eq ?_; congr 1 <;> omega)) (Env.wk_nil _)))), (by first | rfl | trivial)⟩
  · -- h0 else
    refine vwp_exit ?_
    simp only [thenQ, blockQ, jumpQ, stayQ, if_true, reduceIte, Nat.reduceEqDiff]
    refine vwp_reg tabOk [] [2] (by simp only [go_sem]; rfl) (by first | trivial | (simp; done) | (simp [in64]; omega)) ?_
    refine vwp_ret ?_
    -- result 1
    simp only [thenQ, blockQ, jumpQ, stayQ, RetQ, go_sem]
    refine ⟨by simp, Wk.eq ?_⟩
    have : i = s.length := by simp at h0; omega
    subst this; rw [List.take_length] at hok; rw [tokenB, hok]; cases s <;> simp

/-! counterpane/lines.Right$1 -/
theorem b_lines_Right_1 : bodied Go.Proofs.Tryz.prog 145 = true := by rw [bodied, Tryz.func145]; rfl
theorem c_lines_Right_1 (s : Str) : VPure Go.Proofs.Tryz.prog G 145 [.str s] (.bool (s.contains 10)) := by
  refine vpure_of (ts := [2]) Tryz.func145 rfl (by simp [Tryz.ntmps145]) rfl rfl ?_
  rw [Tryz.ntmps145]
  refine vwp_reg tabOk [] [0] (by simp only [go_sem]; rfl) (by first | trivial | (simp; done) | (simp [in64]; omega)) ?_
  refine vwp_seq (vwp_region ?_)
  refine vops_go tabOk [] (by simp only [go_sem]; rfl) (by first | trivial | (simp; done) | (simp [in64]; omega)) ?_
  -- call 0: t4 = CALL 146(f146, t3, str[10])
  refine vops_call (hc := fun _ => c_Contains s 10) rfl (by simp only [go_sem]; rfl) rfl b_strings_Contains (by simp only [go_sem]; exact WkL.refl _) rfl (fun hg => by simp only [go_sem]; try (intros; first | assumption | trivial | simp_all)) ?_
  simp only [go_sem]
  refine vops_go tabOk [] (by simp only [go_sem]; rfl) (by first | trivial | (simp; done) | (simp [in64]; omega)) ?_
  refine vops_done [2] ?_
  simp only [go_sem, thenQ, blockQ, jumpQ, stayQ]
  refine vwp_ret ?_
  -- result 0
  simp only [thenQ, blockQ, jumpQ, stayQ, RetQ, go_sem]
  refine ⟨by simp, Wk.eq ?_⟩
  rfl

/-- The first element of which something is true. -/
def firstQ {α : Type} (p : α → Bool) (l : List α) : Int := match l.findIdx? p with | some i => (i : Int) | none => -1
theorem firstQ_at {α : Type} {p : α → Bool} {l : List α} {q : Nat} (hq : q < l.length) (ha : ∀ j (hj : j < q), p (l[j]'(by omega)) = false) (hp : p l[q] = true) : firstQ p l = q := by
  have : l.findIdx? p = some q := by
    rw [List.findIdx?_eq_some_iff_getElem]
    exact ⟨hq, hp, fun j hj => by rw [ha j hj]; simp⟩
  rw [firstQ, this]
theorem firstQ_none {α : Type} {p : α → Bool} {l : List α} (ha : ∀ j (hj : j < l.length), p l[j] = false) : firstQ p l = -1 := by
  have : l.findIdx? p = none := by
    rw [List.findIdx?_eq_none_iff]
    intro b hb
    obtain ⟨j, hj, rfl⟩ := List.getElem_of_mem hb
    exact ha j hj
  rw [firstQ, this]
theorem firstQ_nonneg {α : Type} (p : α → Bool) (l : List α) : decide (0 ≤ firstQ p l) = l.any p := by
  rw [firstQ]
  cases h : l.findIdx? p with
  | some i =>
    rw [List.findIdx?_eq_some_iff_getElem] at h
    obtain ⟨h1, h2, _⟩ := h
    have : l.any p = true := List.any_eq_true.2 ⟨l[i], List.getElem_mem h1, h2⟩
    rw [this]; simp
  | none =>
    rw [List.findIdx?_eq_none_iff] at h
    have : l.any p = false := by
      rw [List.any_eq_false]; intro b hb; simp [h b hb]
    rw [this]; rfl
/-- A predicate of elements that are handed over as 'enc' says. -/
structure ElemP (P : Program) (G : Glob) (g : FuncId) {α : Type} (enc : α → V) (p : α → Bool) : Prop where
  body : bodied P g = true
  pure : ∀ x, VPure P G g [enc x] (.bool (p x))

/-! slices.IndexFunc[[]string,string] -/
theorem b_slices_IndexFunc_string_string : bodied Go.Proofs.Tryz.prog 160 = true := by rw [bodied, Tryz.func160]; rfl
theorem c_slices_IndexFunc_string_string (g : FuncId) (p : Str → Bool) (hp : ElemP Go.Proofs.Tryz.prog G g (fun x : Str => (.str x)) p) (l : List Str) : VPure Go.Proofs.Tryz.prog G 160 [.list 1 (l.map cS), .func (.func g) [] []] (.int .i64 (firstQ p l)) := by
  refine vpure_know fun hk => ?_
  simp only [factsL, facts, maxB, List.length_map] at hk
  refine vpure_of (ts := [4]) Tryz.func160 rfl (by simp [Tryz.ntmps160]) rfl rfl ?_
  rw [Tryz.ntmps160]
  refine vwp_reg tabOk [] [0, 1] (by simp only [go_sem]; rfl) (by first | trivial | (simp; done) | (simp [in64]; omega)) ?_
  refine vwp_seq ?_
  refine vwp_reg tabOk [] [0, 1, 7, 8] (by simp only [go_sem]; rfl) (by first | trivial | (simp; done) | (simp [in64]; omega)) ?_
  refine vwp_block ?_
  -- loop 0
  refine vwp_loopW (fun i : Nat => [(0, .list 1 (l.map cS)), (1, .func (.func g) [] []), (7, .int .i64 (l.length : Int)), (8, .int .i64 (i : Int))]) (fun i => []) (fun i => i ≤ l.length ∧ ∀ j (hj : j < i) (hl : j < l.length), p l[j] = false) (fun i => l.length - i) 0 ⟨Nat.zero_le _, fun j hj => by omega⟩ (Env.wk_cons (by first | exact Wk.refl _ | exact Wk.nils _ | (refine Wk.eq ?_; simp; done) | (refine Wk.eq ?_; congr 1 <;> omega)) (Env.wk_cons (by first | exact Wk.refl _ | exact Wk.nils _ | (refine Wk.eq ?_; simp; done) | (refine Wk.eq ?_; congr 1 <;> omega)) (Env.wk_cons (by first | exact Wk.refl _ | exact Wk.nils _ | (refine Wk.eq ?_; simp; done) | (refine Wk.eq ?_; congr 1 <;> omega)) (Env.wk_cons (by first | exact Wk.refl _ | exact Wk.nils _ | (refine Wk.eq ?_; simp; done) | (refine Wk.eq ?_; congr 1 <;> omega)) (Env.wk_nil _))))) rfl ?_
  rintro i ⟨hi, ha⟩
  refine vwp_reg tabOk [] [0, 1, 7, 8, 9] (by simp only [go_sem]; rfl) (by first | trivial | (simp; done) | (simp [in64]; omega)) ?_
  refine vwp_seq ?_
  refine vwp_cond (by simp only [go_sem]; rfl) (fun h0 => ?_) (fun h0 => ?_)
  · -- h0 then
    have h0' : i < l.length := by simp at h0; omega
    refine vwp_skip ?_
    try simp only [thenQ, blockQ, jumpQ, stayQ]
    refine vwp_seq ?_
    refine vwp_block ?_
    refine vwp_reg tabOk [] [0, 1, 5, 7, 8] (by simp only [go_sem]; rfl) (by first | trivial | (simp; done) | (simp [in64]; omega)) ?_
    refine vwp_seq (vwp_region ?_)
    refine vops_go tabOk [] (by simp only [go_sem, getD_map, h0']; rfl) (by first | trivial | (simp [h0']; done) | (simp [h0']; omega)) ?_
    -- call 0: t16 = CALLV(t11, t15)
    refine vops_callVP (hc := (hp.pure l[i])) rfl (by simp only [go_sem]; rfl) rfl rfl hp.body (by simp only [go_sem]; exact WkL.refl _) rfl (by simp only [go_sem]) ?_
    simp only [go_sem]
    refine vops_done [0, 1, 5, 7, 8, 16] ?_
    simp only [go_sem, thenQ, blockQ, jumpQ, stayQ]
    refine vwp_cond (by simp only [go_sem]; rfl) (fun h1 => ?_) (fun h1 => ?_)
    · -- h1 then
      refine vwp_reg tabOk [] [4] (by simp only [go_sem]; rfl) (by first | trivial | (simp; done) | (simp [in64]; omega)) ?_
      refine vwp_ret ?_
      -- result 0
      simp only [thenQ, blockQ, jumpQ, stayQ, RetQ, go_sem]
      refine ⟨by simp, Wk.eq ?_⟩
      rw [firstQ_at h0' (fun j hj => ha j hj (by omega)) h1]
    · -- h1 else
      refine vwp_skip ?_
      try simp only [thenQ, blockQ, jumpQ, stayQ]
      refine vwp_reg1 tabOk [] [0, 1, 7, 8] (by simp only [go_sem]; rfl) (by first | trivial | (simp; done) | (simp [in64]; omega)) ?_
      try simp only [thenQ, blockQ, jumpQ, stayQ]
      -- round 0
      exact ⟨i + 1, ⟨by omega, fun j hj hl => by rcases Nat.lt_or_ge j i with h | h; exact ha j h hl; obtain rfl : j = i := (by omega); exact h1⟩, by omega, (Env.wk_cons (by first | exact Wk.refl _ | exact Wk.nils _ | (refine Wk.eq ?_; simp; done) | (refine Wk.eq ?_; congr 1 <;> omega)) (Env.wk_cons (by first | exact Wk.refl _ | exact Wk.nils _ | (refine Wk.eq ?_; simp; done) | (refine Wk.eq ?_; congr 1 <;> omega)) (Env.wk_cons (by first | exact Wk.refl _ | exact Wk.nils _ | (refine Wk.eq ?_; simp; done) | (refine Wk.eq ?_; congr 1 <;> omega)) (Env.wk_cons (by first | exact Wk.refl _ | exact Wk.nils _ | (refine Wk.eq ?_; simp; done) | (refine Wk.eq ?_; congr 1 <;> omega)) (Env.wk_nil _))))), (by first | rfl | trivial)⟩
  · -- h0 else
    refine vwp_exit ?_
    simp only [thenQ, blockQ, jumpQ, stayQ, if_true, reduceIte, Nat.reduceEqDiff]
    refine vwp_reg tabOk [] [4] (by simp only [go_sem]; rfl) (by first | trivial | (simp; done) | (simp [in64]; omega)) ?_
    refine vwp_ret ?_
    -- result 1
    simp only [thenQ, blockQ, jumpQ, stayQ, RetQ, go_sem]
    refine ⟨by simp, Wk.eq ?_⟩
    have : i = l.length := by simp at h0; omega
    rw [firstQ_none fun j hj => ha j (by omega) hj]

/-! slices.ContainsFunc[[]string,string] -/
theorem b_slices_ContainsFunc_string_string : bodied Go.Proofs.Tryz.prog 144 = true := by rw [bodied, Tryz.func144]; rfl
theorem c_slices_ContainsFunc_string_string (g : FuncId) (p : Str → Bool) (hp : ElemP Go.Proofs.Tryz.prog G g (fun x : Str => (.str x)) p) (l : List Str) : VPure Go.Proofs.Tryz.prog G 144 [.list 1 (l.map cS), .func (.func g) [] []] (.bool (l.any p)) := by
  refine vpure_of (ts := [4]) Tryz.func144 rfl (by simp [Tryz.ntmps144]) rfl rfl ?_
  rw [Tryz.ntmps144]
  refine vwp_reg tabOk [] [0, 1] (by simp only [go_sem]; rfl) (by first | trivial | (simp; done) | (simp [in64]; omega)) ?_
  refine vwp_seq (vwp_region ?_)
  refine vops_go tabOk [] (by simp only [go_sem]; rfl) (by first | trivial | (simp; done) | (simp [in64]; omega)) ?_
  -- call 0: t7 = CALL 160(f160, t5, t6)
  refine vops_call (hc := fun _ => c_slices_IndexFunc_string_string g p hp l) rfl (by simp only [go_sem]; rfl) rfl b_slices_IndexFunc_string_string (by simp only [go_sem]; exact WkL.refl _) rfl (fun hg => by simp only [go_sem]; try (intros; first | assumption | trivial | simp_all)) ?_
  simp only [go_sem]
  refine vops_go tabOk [] (by simp only [go_sem]; rfl) (by first | trivial | (simp; done) | (simp [in64]; omega)) ?_
  refine vops_done [4] ?_
  simp only [go_sem, thenQ, blockQ, jumpQ, stayQ]
  refine vwp_ret ?_
  -- result 0
  simp only [thenQ, blockQ, jumpQ, stayQ, RetQ, go_sem]
  refine ⟨by simp, Wk.eq ?_⟩
  rw [firstQ_nonneg]

/-! slices.IndexFunc[[]counterpane/api.Prim,counterpane/api.Prim] -/
theorem b_slices_IndexFunc_api_Prim_api_Prim : bodied Go.Proofs.Tryz.prog 114 = true := by rw [bodied, Tryz.func114]; rfl
theorem c_slices_IndexFunc_api_Prim_api_Prim (g : FuncId) (p : Prim → Bool) (hp : ElemP Go.Proofs.Tryz.prog G g (fun x : Prim => (.agg (cPrim x))) p) (l : List Prim) : VPure Go.Proofs.Tryz.prog G 114 [.list 7 (l.map cPrim), .func (.func g) [] []] (.int .i64 (firstQ p l)) := by
  refine vpure_know fun hk => ?_
  simp only [factsL, facts, maxB, List.length_map] at hk
  refine vpure_of (ts := [4]) Tryz.func114 rfl (by simp [Tryz.ntmps114]) rfl rfl ?_
  rw [Tryz.ntmps114]
  refine vwp_reg tabOk [] [0, 1] (by simp only [go_sem]; rfl) (by first | trivial | (simp; done) | (simp [in64]; omega)) ?_
  refine vwp_seq ?_
  refine vwp_reg tabOk [] [0, 1, 7, 8] (by simp only [go_sem]; rfl) (by first | trivial | (simp; done) | (simp [in64]; omega)) ?_
  refine vwp_block ?_
  -- loop 0
  refine vwp_loopW (fun i : Nat => [(0, .list 7 (l.map cPrim)), (1, .func (.func g) [] []), (7, .int .i64 (l.length : Int)), (8, .int .i64 (i : Int))]) (fun i => []) (fun i => i ≤ l.length ∧ ∀ j (hj : j < i) (hl : j < l.length), p l[j] = false) (fun i => l.length - i) 0 ⟨Nat.zero_le _, fun j hj => by omega⟩ (Env.wk_cons (by first | exact Wk.refl _ | exact Wk.nils _ | (refine Wk.eq ?_; simp; done) | (refine Wk.eq ?_; congr 1 <;> omega)) (Env.wk_cons (by first | exact Wk.refl _ | exact Wk.nils _ | (refine Wk.eq ?_; simp; done) | (refine Wk.eq ?_; congr 1 <;> omega)) (Env.wk_cons (by first | exact Wk.refl _ | exact Wk.nils _ | (refine Wk.eq ?_; simp; done) | (refine Wk.eq ?_; congr 1 <;> omega)) (Env.wk_cons (by first | exact Wk.refl _ | exact Wk.nils _ | (refine Wk.eq ?_; simp; done) | (refine Wk.eq ?_; congr 1 <;> omega)) (Env.wk_nil _))))) rfl ?_
  rintro i ⟨hi, ha⟩
  refine vwp_reg tabOk [] [0, 1, 7, 8, 9] (by simp only [go_sem]; rfl) (by first | trivial | (simp; done) | (simp [in64]; omega)) ?_
  refine vwp_seq ?_
  refine vwp_cond (by simp only [go_sem]; rfl) (fun h0 => ?_) (fun h0 => ?_)
  · -- h0 then
    have h0' : i < l.length := by simp at h0; omega
    refine vwp_skip ?_
    try simp only [thenQ, blockQ, jumpQ, stayQ]
    refine vwp_seq ?_
    refine vwp_block ?_
    refine vwp_reg tabOk [] [0, 1, 5, 7, 8] (by simp only [go_sem]; rfl) (by first | trivial | (simp; done) | (simp [in64]; omega)) ?_
    refine vwp_seq (vwp_region ?_)
    refine vops_go tabOk [] (by simp only [go_sem, getD_map, h0']; rfl) (by first | trivial | (simp [h0']; done) | (simp [h0']; omega)) ?_
    -- call 0: t16 = CALLV(t11, t15)
    refine vops_callVP (hc := (hp.pure l[i])) rfl (by simp only [go_sem]; rfl) rfl rfl hp.body (by simp only [go_sem]; exact WkL.refl _) rfl (by simp only [go_sem]) ?_
    simp only [go_sem]
    refine vops_done [0, 1, 5, 7, 8, 16] ?_
    simp only [go_sem, thenQ, blockQ, jumpQ, stayQ]
    refine vwp_cond (by simp only [go_sem]; rfl) (fun h1 => ?_) (fun h1 => ?_)
    · -- h1 then
      refine vwp_reg tabOk [] [4] (by simp only [go_sem]; rfl) (by first | trivial | (simp; done) | (simp [in64]; omega)) ?_
      refine vwp_ret ?_
      -- result 0
      simp only [thenQ, blockQ, jumpQ, stayQ, RetQ, go_sem]
      refine ⟨by simp, Wk.eq ?_⟩
      rw [firstQ_at h0' (fun j hj => ha j hj (by omega)) h1]
    · -- h1 else
      refine vwp_skip ?_
      try simp only [thenQ, blockQ, jumpQ, stayQ]
      refine vwp_reg1 tabOk [] [0, 1, 7, 8] (by simp only [go_sem]; rfl) (by first | trivial | (simp; done) | (simp [in64]; omega)) ?_
      try simp only [thenQ, blockQ, jumpQ, stayQ]
      -- round 0
      exact ⟨i + 1, ⟨by omega, fun j hj hl => by rcases Nat.lt_or_ge j i with h | h; exact ha j h hl; obtain rfl : j = i := (by omega); exact h1⟩, by omega, (Env.wk_cons (by first | exact Wk.refl _ | exact Wk.nils _ | (refine Wk.eq ?_; simp; done) | (refine Wk.eq ?_; congr 1 <;> omega)) (Env.wk_cons (by first | exact Wk.refl _ | exact Wk.nils _ | (refine Wk.eq ?_; simp; done) | (refine Wk.eq ?_; congr 1 <;> omega)) (Env.wk_cons (by first | exact Wk.refl _ | exact Wk.nils _ | (refine Wk.eq ?_; simp; done) | (refine Wk.eq ?_; congr 1 <;> omega)) (Env.wk_cons (by first | exact Wk.refl _ | exact Wk.nils _ | (refine Wk.eq ?_; simp; done) | (refine Wk.eq ?_; congr 1 <;> omega)) (Env.wk_nil _))))), (by first | rfl | trivial)⟩
  · -- h0 else
    refine vwp_exit ?_
    simp only [thenQ, blockQ, jumpQ, stayQ, if_true, reduceIte, Nat.reduceEqDiff]
    refine vwp_reg tabOk [] [4] (by simp only [go_sem]; rfl) (by first | trivial | (simp; done) | (simp [in64]; omega)) ?_
    refine vwp_ret ?_
    -- result 1
    simp only [thenQ, blockQ, jumpQ, stayQ, RetQ, go_sem]
    refine ⟨by simp, Wk.eq ?_⟩
    have : i = l.length := by simp at h0; omega
    rw [firstQ_none fun j hj => ha j (by omega) hj]

/-! slices.ContainsFunc[[]counterpane/api.Prim,counterpane/api.Prim] -/
theorem b_slices_ContainsFunc_api_Prim_api_Prim : bodied Go.Proofs.Tryz.prog 94 = true := by rw [bodied, Tryz.func94]; rfl
theorem c_slices_ContainsFunc_api_Prim_api_Prim (g : FuncId) (p : Prim → Bool) (hp : ElemP Go.Proofs.Tryz.prog G g (fun x : Prim => (.agg (cPrim x))) p) (l : List Prim) : VPure Go.Proofs.Tryz.prog G 94 [.list 7 (l.map cPrim), .func (.func g) [] []] (.bool (l.any p)) := by
  refine vpure_of (ts := [4]) Tryz.func94 rfl (by simp [Tryz.ntmps94]) rfl rfl ?_
  rw [Tryz.ntmps94]
  refine vwp_reg tabOk [] [0, 1] (by simp only [go_sem]; rfl) (by first | trivial | (simp; done) | (simp [in64]; omega)) ?_
  refine vwp_seq (vwp_region ?_)
  refine vops_go tabOk [] (by simp only [go_sem]; rfl) (by first | trivial | (simp; done) | (simp [in64]; omega)) ?_
  -- call 0: t7 = CALL 114(f114, t5, t6)
  refine vops_call (hc := fun _ => c_slices_IndexFunc_api_Prim_api_Prim g p hp l) rfl (by simp only [go_sem]; rfl) rfl b_slices_IndexFunc_api_Prim_api_Prim (by simp only [go_sem]; exact WkL.refl _) rfl (fun hg => by simp only [go_sem]; try (intros; first | assumption | trivial | simp_all)) ?_
  simp only [go_sem]
  refine vops_go tabOk [] (by simp only [go_sem]; rfl) (by first | trivial | (simp; done) | (simp [in64]; omega)) ?_
  refine vops_done [4] ?_
  simp only [go_sem, thenQ, blockQ, jumpQ, stayQ]
  refine vwp_ret ?_
  -- result 0
  simp only [thenQ, blockQ, jumpQ, stayQ, RetQ, go_sem]
  refine ⟨by simp, Wk.eq ?_⟩
  rw [firstQ_nonneg]

theorem elemP_line : ElemP Go.Proofs.Tryz.prog G 145 (fun x : Str => .str x) (fun s => s.contains 10) := ⟨b_lines_Right_1, c_lines_Right_1⟩
theorem lines_any (l : List Str) : (!l.any fun s => s.contains 10) = linesB l := by
  rw [linesB, List.any_eq_not_all_not, Bool.not_not]
  congr 1; funext s
  rw [lineB, Bool.eq_iff_iff]; simp; exact ⟨fun h c hc e => h (e ▸ hc), fun h hc => h 10 hc rfl⟩

/-! counterpane/lines.Right -/
theorem b_lines_Right : bodied Go.Proofs.Tryz.prog 118 = true := by rw [bodied, Tryz.func118]; rfl
theorem c_lines_Right (l : List Str) : VPure Go.Proofs.Tryz.prog G 118 [.list 1 (l.map cS)] (.bool (linesB l)) := by
  refine vpure_of (ts := [2]) Tryz.func118 rfl (by simp [Tryz.ntmps118]) rfl rfl ?_
  rw [Tryz.ntmps118]
  refine vwp_reg tabOk [] [0] (by simp only [go_sem]; rfl) (by first | trivial | (simp; done) | (simp [in64]; omega)) ?_
  refine vwp_seq (vwp_region ?_)
  refine vops_go tabOk [] (by simp only [go_sem]; rfl) (by first | trivial | (simp; done) | (simp [in64]; omega)) ?_
  -- call 0: t4 = CALL 144(f144, t3, f145)
  refine vops_call (hc := fun _ => c_slices_ContainsFunc_string_string _ _ elemP_line l) rfl (by simp only [go_sem]; rfl) rfl b_slices_ContainsFunc_string_string (by simp only [go_sem]; exact WkL.refl _) rfl (fun hg => by simp only [go_sem]; try (intros; first | assumption | trivial | simp_all)) ?_
  simp only [go_sem]
  refine vops_go tabOk [] (by simp only [go_sem]; rfl) (by first | trivial | (simp; done) | (simp [in64]; omega)) ?_
  refine vops_done [2] ?_
  simp only [go_sem, thenQ, blockQ, jumpQ, stayQ]
  refine vwp_ret ?_
  -- result 0
  simp only [thenQ, blockQ, jumpQ, stayQ, RetQ, go_sem]
  refine ⟨by simp, Wk.eq ?_⟩
  rw [lines_any]

theorem within_eq (p q : Str) : (bif Lib.hasPrefix p q then bif decide (Lib.trimPrefix p q = []) then true else decide (((Lib.trimPrefix p q).getD 0 0).toNat = (47 : Int)) else false) = withinB p q := by
  by_cases h : q <+: p
  · obtain ⟨r, rfl⟩ := h
    have h1 : Lib.hasPrefix (q ++ r) q = true := by simp [Lib.hasPrefix]
    have h2 : Lib.trimPrefix (q ++ r) q = r := by simp [Lib.trimPrefix, h1]
    rw [h1, h2, cond_true, withinB]
    cases r with
    | nil => simp
    | cons b r =>
      have h3 : ((b.toNat : Int) = 47) ↔ b = 47 := u8_47 b
      simp [h3]
  · have h1 : Lib.hasPrefix p q = false := by
      cases hh : Lib.hasPrefix p q with
      | false => rfl
      | true => exact absurd (by simpa [Lib.hasPrefix] using hh) h
    rw [h1, cond_false, withinB]
    have h2 : p ≠ q := fun e => h (e ▸ List.prefix_refl _)
    have h3 : p.take q.length ≠ q := fun e => h (e ▸ List.take_prefix _ _)
    simp [h2, h3]

/-! counterpane/path.Within -/
theorem b_path_Within : bodied Go.Proofs.Tryz.prog 143 = true := by rw [bodied, Tryz.func143]; rfl
theorem c_path_Within (p q : Str) : VPure Go.Proofs.Tryz.prog G 143 [.str p, .str q] (.bool (withinB p q)) := by
  refine vpure_of (ts := [4]) Tryz.func143 rfl (by simp [Tryz.ntmps143]) rfl rfl ?_
  rw [Tryz.ntmps143]
  refine vwp_reg tabOk [] [0, 1] (by simp only [go_sem]; rfl) (by first | trivial | (simp; done) | (simp [in64]; omega)) ?_
  refine vwp_seq (vwp_region ?_)
  refine vops_go tabOk [] (by simp only [go_sem]; rfl) (by first | trivial | (simp; done) | (simp [in64]; omega)) ?_
  -- call 0: t10 = CALL 159(f159, t8, t9)
  refine vops_call (hc := fun _ => c_CutPrefix p q) rfl (by simp only [go_sem]; rfl) rfl b_strings_CutPrefix (by simp only [go_sem]; exact WkL.refl _) rfl (fun hg => by simp only [go_sem]; try (intros; first | assumption | trivial | simp_all)) ?_
  simp only [go_sem]
  refine vops_go tabOk [] (by simp only [go_sem]; rfl) (by first | trivial | (simp; done) | (simp [in64]; omega)) ?_
  refine vops_done [5, 6] ?_
  simp only [go_sem, thenQ, blockQ, jumpQ, stayQ]
  refine vwp_reg tabOk [] [4] (by simp only [go_sem]; rfl) (by first | trivial | (simp; done) | (simp; intro _ h; exact List.length_pos_iff.2 h)) ?_
  refine vwp_ret ?_
  -- result 0
  simp only [thenQ, blockQ, jumpQ, stayQ, RetQ, go_sem]
  refine ⟨by simp, Wk.eq ?_⟩
  rw [← within_eq]

/-! counterpane/path.Apart -/
theorem b_path_Apart : bodied Go.Proofs.Tryz.prog 117 = true := by rw [bodied, Tryz.func117]; rfl
theorem c_path_Apart (p q : Str) : VPure Go.Proofs.Tryz.prog G 117 [.str p, .str q] (.bool (apartB p q)) := by
  refine vpure_of (ts := [4]) Tryz.func117 rfl (by simp [Tryz.ntmps117]) rfl rfl ?_
  rw [Tryz.ntmps117]
  refine vwp_reg tabOk [] [0, 1] (by simp only [go_sem]; rfl) (by first | trivial | (simp; done) | (simp [in64]; omega)) ?_
  refine vwp_seq (vwp_region ?_)
  refine vops_go tabOk [] (by simp only [go_sem]; rfl) (by first | trivial | (simp; done) | (simp [in64]; omega)) ?_
  -- call 0: t7 = CALL 143(f143, t5, t6)
  refine vops_call (hc := fun _ => c_path_Within p q) rfl (by simp only [go_sem]; rfl) rfl b_path_Within (by simp only [go_sem]; exact WkL.refl _) rfl (fun hg => by simp only [go_sem]; try (intros; first | assumption | trivial | simp_all)) ?_
  simp only [go_sem]
  refine vops_go tabOk [] (by simp only [go_sem]; rfl) (by first | trivial | (simp; done) | (simp [in64]; omega)) ?_
  -- call 1: t12 = CALL 143(f143, t10, t11)  if op4 
  refine vops_call (hc := fun _ => c_path_Within q p) rfl (by simp only [go_sem]; rfl) rfl b_path_Within (by simp only [go_sem]; exact WkL.refl _) rfl (fun hg => by simp only [go_sem]; try (intros; first | assumption | trivial | simp_all)) ?_
  simp only [go_sem]
  refine vops_go tabOk [] (by simp only [go_sem]; rfl) (by first | trivial | (simp; done) | (simp [in64]; omega)) ?_
  refine vops_done [4] ?_
  simp only [go_sem, thenQ, blockQ, jumpQ, stayQ]
  refine vwp_ret ?_
  -- result 0
  simp only [thenQ, blockQ, jumpQ, stayQ, RetQ, go_sem]
  refine ⟨by simp, Wk.eq ?_⟩
  rw [apartB]; cases withinB p q <;> rfl

theorem bare_eq (x : Prim) : (bif decide (0 < (x.old.length : Int) + (x.new.length : Int)) then true else !decide (x.at_ = 0)) = !bare x := by
  rw [bare, Bool.eq_iff_iff]
  simp only [Bool.cond_true_left, Bool.or_eq_true, decide_eq_true_eq, Bool.not_eq_true', decide_eq_false_iff_not, Bool.and_eq_false_iff]
  omega
theorem primB_eq (x : Prim) : primB x = bif (!pathB x.path || ((bif decide (0 < (x.old.length : Int) + (x.new.length : Int)) then true else !decide (x.at_ = 0)) && !decide (x.kind = 7))) then false else bif decide (x.kind = 8) then (bif bif tokenB x.frm then tokenB x.to else false then !decide (x.frm = x.to) else false) else
    bif decide (x.kind = 9) then !decide (x.frm = x.to) else bif !decide (x.frm = []) then false else bif decide (x.kind = 10) then (bif pathB x.to then apartB x.path x.to else false) else
    bif decide (x.kind = 7) then (bif bif bif bif bif decide (x.to = []) then decide (0 ≤ x.at_) else false then decide (x.at_ ≤ 1073741824) else false then linesB x.old else false then linesB x.new else false then decide (0 < (x.old.length : Int) + (x.new.length : Int)) else false) else (bif bif decide (x.to = []) then decide (1 ≤ x.kind) else false then decide (x.kind ≤ 6) else false) := by
  rw [bare_eq, primB]
  cases hp : pathB x.path with
  | false => rfl
  | true =>
    simp only [Bool.true_and, Bool.not_true, Bool.false_or]
    by_cases k7 : x.kind = 7
    · have h0 : decide (0 < (x.old.length : Int) + (x.new.length : Int)) = decide (0 < x.old.length + x.new.length) := decide_eq_decide.2 (by omega)
      rw [if_neg (by omega), if_pos k7, h0]
      simp only [k7, decide_true, Bool.not_true, Bool.and_false, cond_false, show (decide ((7 : Int) = 8)) = false from rfl, show (decide ((7 : Int) = 9)) = false from rfl, show (decide ((7 : Int) = 10)) = false from rfl, cond_true]
      cases decide (x.frm = []) <;> cases decide (x.to = []) <;> cases decide (0 ≤ x.at_) <;> cases decide (x.at_ ≤ 1073741824) <;> cases linesB x.old <;> cases linesB x.new <;> rfl
    · rw [if_neg k7]
      simp only [k7, decide_false, Bool.not_false, Bool.and_true]
      cases hb : bare x with
      | false =>
        simp only [Bool.not_false, cond_true, Bool.false_and]
        split <;> (try split) <;> (try split) <;> (try split) <;> rfl
      | true =>
        simp only [Bool.not_true, cond_false, Bool.true_and]
        by_cases k8 : x.kind = 8
        · rw [if_neg (by omega), if_pos k8]; simp only [k8, decide_true, cond_true, show (decide ((8 : Int) = 8)) = true from rfl]
          cases tokenB x.frm <;> cases tokenB x.to <;> rfl
        · by_cases k9 : x.kind = 9
          · rw [if_neg (by omega), if_neg k8, if_pos k9]; simp [k9]
          · by_cases k10 : x.kind = 10
            · rw [if_neg (by omega), if_neg k8, if_neg k9, if_pos k10]; simp only [k10, show (decide ((10 : Int) = 8)) = false from rfl, show (decide ((10 : Int) = 9)) = false from rfl, show (decide ((10 : Int) = 10)) = true from rfl, cond_true, cond_false]
              cases decide (x.frm = []) <;> cases pathB x.to <;> rfl
            · simp only [k8, k9, k10, decide_false, cond_false]
              by_cases k1 : 1 ≤ x.kind ∧ x.kind ≤ 6
              · rw [if_pos (by omega)]; simp only [k1.1, k1.2, decide_true]
                cases decide (x.frm = []) <;> cases decide (x.to = []) <;> rfl
              · rw [if_neg (by omega)]; simp only [if_false]
                have : (decide (1 ≤ x.kind) && decide (x.kind ≤ 6)) = false := by simp; omega
                revert this
                cases decide (x.frm = []) <;> cases decide (x.to = []) <;> cases decide (1 ≤ x.kind) <;> cases decide (x.kind ≤ 6) <;> simp

/-! counterpane/prim.Right -/
theorem b_prim_Right : bodied Go.Proofs.Tryz.prog 96 = true := by rw [bodied, Tryz.func96]; rfl
set_option maxHeartbeats 4000000 in
theorem c_prim_Right (x : Prim) : VPure Go.Proofs.Tryz.prog G 96 [.agg (cPrim x)] (.bool (primB x)) := by
  refine vpure_know fun hk => ?_
  simp only [factsL, facts, cPrim, maxB, List.length_map] at hk
  refine vpure_of (ts := [2]) Tryz.func96 rfl (by simp [Tryz.ntmps96]) rfl rfl ?_
  rw [Tryz.ntmps96]
  refine vwp_reg tabOk [] [1] (by simp only [go_sem]; rfl) (by first | trivial | (simp; done) | (simp [in64]; omega)) ?_
  refine vwp_reg tabOk [] [1, 3] (by simp only [go_sem]; rfl) (by first | trivial | (simp; done) | (simp [in64]; omega)) ?_
  refine vwp_seq ?_
  refine vwp_block ?_
  refine vwp_joinE (fun b : Bool => [(1, .ptr 0 0), (17, .bool b)]) (fun b => [.box (cPrim x)]) (fun b => b = (!pathB x.path || ((bif decide (0 < (x.old.length : Int) + (x.new.length : Int)) then true else !decide (x.at_ = 0)) && !decide (x.kind = 7)))) ?_ ?_
  · -- up to the join
    refine vwp_seq (vwp_region ?_)
    refine vops_go tabOk [] (by simp only [go_sem]; rfl) (by first | trivial | (simp; done) | (simp [in64]; omega)) ?_
    -- call 0: t20 = CALL 115(f115, t19)
    refine vops_call (hc := fun _ => c_path_Right x.path) rfl (by simp only [go_sem]; rfl) rfl b_path_Right (by simp only [go_sem]; exact WkL.refl _) rfl (fun hg => by simp only [go_sem]; try (intros; first | assumption | trivial | simp_all)) ?_
    simp only [go_sem]
    refine vops_go tabOk [] (by simp only [go_sem]; rfl) (by first | trivial | (simp; done) | (simp [in64]; omega)) ?_
    refine vops_done [1, 3, 17] ?_
    simp only [go_sem, thenQ, blockQ, jumpQ, stayQ]
    refine vwp_cond (by simp only [go_sem]; rfl) (fun h0 => ?_) (fun h0 => ?_)
    · -- h0 then
      refine vwp_skip ?_
      try simp only [thenQ, blockQ, jumpQ, stayQ]
      -- round 0
      exact ⟨!pathB x.path, by rw [h0]; rfl, (Env.wk_cons2 (by simp only [go_sem]; first | exact Wk.refl _ | exact Wk.nils _ | (refine Wk.eq ?_; simp; done) | (refine Wk.eq ?_; congr 1 <;> omega)) (Env.wk_cons2 (by simp only [go_sem]; first | exact Wk.refl _ | exact Wk.nils _ | (refine Wk.eq ?_; simp; done) | (refine Wk.eq ?_; congr 1 <;> omega)) (Env.wk_nil _))), (by first | rfl | trivial)⟩
    · -- h0 else
      refine vwp_reg1 tabOk [] [1, 17] (by simp only [go_sem]; rfl) (by first | trivial | (simp; done) | (simp [in64]; omega)) ?_
      try simp only [thenQ, blockQ, jumpQ, stayQ]
      -- round 1
      exact ⟨(bif (bif decide (0 < (x.old.length : Int) + (x.new.length : Int)) then true else !decide (x.at_ = 0)) then !decide (x.kind = 7) else false), by simp at h0; simp [h0], (Env.wk_cons2 (by simp only [go_sem]; first | exact Wk.refl _ | exact Wk.nils _ | (refine Wk.eq ?_; simp; done) | (refine Wk.eq ?_; congr 1 <;> omega)) (Env.wk_cons2 (by simp only [go_sem]; first | exact Wk.refl _ | exact Wk.nils _ | (refine Wk.eq ?_; simp; done) | (refine Wk.eq ?_; congr 1 <;> omega)) (Env.wk_nil _))), (by first | rfl | trivial)⟩
  · -- from the join on
    rintro b hb
    refine vwp_cond (by simp only [go_sem]; rfl) (fun h1 => ?_) (fun h1 => ?_)
    · -- h1 then
      refine vwp_reg tabOk [] [2] (by simp only [go_sem]; rfl) (by first | trivial | (simp; done) | (simp [in64]; omega)) ?_
      refine vwp_ret ?_
      -- result 0
      simp only [thenQ, blockQ, jumpQ, stayQ, RetQ, go_sem]
      refine ⟨by simp, Wk.eq ?_⟩
      rw [primB_eq, ← hb, h1, cond_true]
    · -- h1 else
      refine vwp_reg tabOk [] [1, 28] (by simp only [go_sem]; rfl) (by first | trivial | (simp; done) | (simp [in64]; omega)) ?_
      refine vwp_cond (by simp only [go_sem]; rfl) (fun h2 => ?_) (fun h2 => ?_)
      · -- h2 then
        refine vwp_seq (vwp_region ?_)
        refine vops_go tabOk [] (by simp only [go_sem]; rfl) (by first | trivial | (simp; done) | (simp [in64]; omega)) ?_
        -- call 1: t34 = CALL 116(f116, t33)
        refine vops_call (hc := fun _ => c_lines_Token x.frm) rfl (by simp only [go_sem]; rfl) rfl b_lines_Token (by simp only [go_sem]; exact WkL.refl _) rfl (fun hg => by simp only [go_sem]; try (intros; first | assumption | trivial | simp_all)) ?_
        simp only [go_sem]
        refine vops_go tabOk [] (by simp only [go_sem]; rfl) (by first | trivial | (simp; done) | (simp [in64]; omega)) ?_
        -- call 2: t38 = CALL 116(f116, t37)  if op3 
        refine vops_call (hc := fun _ => c_lines_Token x.to) rfl (by simp only [go_sem]; rfl) rfl b_lines_Token (by simp only [go_sem]; exact WkL.refl _) rfl (fun hg => by simp only [go_sem]; try (intros; first | assumption | trivial | simp_all)) ?_
        simp only [go_sem]
        refine vops_go tabOk [] (by simp only [go_sem]; rfl) (by first | trivial | (simp; done) | (simp [in64]; omega)) ?_
        refine vops_done [2] ?_
        simp only [go_sem, thenQ, blockQ, jumpQ, stayQ]
        refine vwp_ret ?_
        -- result 1
        simp only [thenQ, blockQ, jumpQ, stayQ, RetQ, go_sem]
        refine ⟨by simp, Wk.eq ?_⟩
        rw [primB_eq, ← hb, h1, cond_false, h2, cond_true]
      · -- h2 else
        refine vwp_reg tabOk [] [1, 47] (by simp only [go_sem]; rfl) (by first | trivial | (simp; done) | (simp [in64]; omega)) ?_
        refine vwp_cond (by simp only [go_sem]; rfl) (fun h3 => ?_) (fun h3 => ?_)
        · -- h3 then
          refine vwp_reg tabOk [] [2] (by simp only [go_sem]; rfl) (by first | trivial | (simp; done) | (simp [in64]; omega)) ?_
          refine vwp_ret ?_
          -- result 2
          simp only [thenQ, blockQ, jumpQ, stayQ, RetQ, go_sem]
          refine ⟨by simp, Wk.eq ?_⟩
          rw [primB_eq, ← hb, h1, cond_false, h2, cond_false, h3, cond_true]
        · -- h3 else
          refine vwp_reg tabOk [] [1, 56] (by simp only [go_sem]; rfl) (by first | trivial | (simp; done) | (simp [in64]; omega)) ?_
          refine vwp_cond (by simp only [go_sem]; rfl) (fun h4 => ?_) (fun h4 => ?_)
          · -- h4 then
            refine vwp_reg tabOk [] [2] (by simp only [go_sem]; rfl) (by first | trivial | (simp; done) | (simp [in64]; omega)) ?_
            refine vwp_ret ?_
            -- result 3
            simp only [thenQ, blockQ, jumpQ, stayQ, RetQ, go_sem]
            refine ⟨by simp, Wk.eq ?_⟩
            rw [primB_eq, ← hb, h1, cond_false, h2, cond_false, h3, cond_false, h4, cond_true]
          · -- h4 else
            refine vwp_reg tabOk [] [1, 60] (by simp only [go_sem]; rfl) (by first | trivial | (simp; done) | (simp [in64]; omega)) ?_
            refine vwp_cond (by simp only [go_sem]; rfl) (fun h5 => ?_) (fun h5 => ?_)
            · -- h5 then
              refine vwp_seq (vwp_region ?_)
              refine vops_go tabOk [] (by simp only [go_sem]; rfl) (by first | trivial | (simp; done) | (simp [in64]; omega)) ?_
              -- call 3: t66 = CALL 115(f115, t65)
              refine vops_call (hc := fun _ => c_path_Right x.to) rfl (by simp only [go_sem]; rfl) rfl b_path_Right (by simp only [go_sem]; exact WkL.refl _) rfl (fun hg => by simp only [go_sem]; try (intros; first | assumption | trivial | simp_all)) ?_
              simp only [go_sem]
              refine vops_go tabOk [] (by simp only [go_sem]; rfl) (by first | trivial | (simp; done) | (simp [in64]; omega)) ?_
              -- call 4: t72 = CALL 117(f117, t69, t71)  if op3 
              refine vops_call (hc := fun _ => c_path_Apart x.path x.to) rfl (by simp only [go_sem]; rfl) rfl b_path_Apart (by simp only [go_sem]; exact WkL.refl _) rfl (fun hg => by simp only [go_sem]; try (intros; first | assumption | trivial | simp_all)) ?_
              simp only [go_sem]
              refine vops_go tabOk [] (by simp only [go_sem]; rfl) (by first | trivial | (simp; done) | (simp [in64]; omega)) ?_
              refine vops_done [2] ?_
              simp only [go_sem, thenQ, blockQ, jumpQ, stayQ]
              refine vwp_ret ?_
              -- result 4
              simp only [thenQ, blockQ, jumpQ, stayQ, RetQ, go_sem]
              refine ⟨by simp, Wk.eq ?_⟩
              rw [primB_eq, ← hb, h1, cond_false, h2, cond_false, h3, cond_false, h4, cond_false, h5, cond_true]
            · -- h5 else
              refine vwp_reg tabOk [] [1, 74] (by simp only [go_sem]; rfl) (by first | trivial | (simp; done) | (simp [in64]; omega)) ?_
              refine vwp_cond (by simp only [go_sem]; rfl) (fun h6 => ?_) (fun h6 => ?_)
              · -- h6 then
                refine vwp_seq (vwp_region ?_)
                refine vops_go tabOk [] (by simp only [go_sem]; rfl) (by first | trivial | (simp; done) | (simp [in64]; omega)) ?_
                -- call 5: t94 = CALL 118(f118, t93)  if op13 
                refine vops_call (hc := fun _ => c_lines_Right x.old) rfl (by simp only [go_sem]; rfl) rfl b_lines_Right (by simp only [go_sem]; exact WkL.refl _) rfl (fun hg => by simp only [go_sem]; try (intros; first | assumption | trivial | simp_all)) ?_
                simp only [go_sem]
                refine vops_go tabOk [] (by simp only [go_sem]; rfl) (by first | trivial | (simp; done) | (simp [in64]; omega)) ?_
                -- call 6: t99 = CALL 118(f118, t98)  if op18 
                refine vops_call (hc := fun _ => c_lines_Right x.new) rfl (by simp only [go_sem]; rfl) rfl b_lines_Right (by simp only [go_sem]; exact WkL.refl _) rfl (fun hg => by simp only [go_sem]; try (intros; first | assumption | trivial | simp_all)) ?_
                simp only [go_sem]
                refine vops_go tabOk [] (by simp only [go_sem]; rfl) (by first | trivial | (simp; done) | (simp [in64]; omega)) ?_
                refine vops_done [2] ?_
                simp only [go_sem, thenQ, blockQ, jumpQ, stayQ]
                refine vwp_ret ?_
                -- result 5
                simp only [thenQ, blockQ, jumpQ, stayQ, RetQ, go_sem]
                refine ⟨by simp, Wk.eq ?_⟩
                rw [primB_eq, ← hb, h1, cond_false, h2, cond_false, h3, cond_false, h4, cond_false, h5, cond_false, h6, cond_true]
              · -- h6 else
                refine vwp_skip ?_
                try simp only [thenQ, blockQ, jumpQ, stayQ]
                refine vwp_reg tabOk [] [2] (by simp only [go_sem]; rfl) (by first | trivial | (simp; done) | (simp [in64]; omega)) ?_
                refine vwp_ret ?_
                -- result 6
                simp only [thenQ, blockQ, jumpQ, stayQ, RetQ, go_sem]
                refine ⟨by simp, Wk.eq ?_⟩
                rw [primB_eq, ← hb, h1, cond_false, h2, cond_false, h3, cond_false, h4, cond_false, h5, cond_false, h6, cond_false]

/-! counterpane/named.Right$1 -/
theorem b_named_Right_1 : bodied Go.Proofs.Tryz.prog 95 = true := by rw [bodied, Tryz.func95]; rfl
theorem c_named_Right_1 (x : Prim) : VPure Go.Proofs.Tryz.prog G 95 [.agg (cPrim x)] (.bool (!primB x)) := by
  refine vpure_of (ts := [2]) Tryz.func95 rfl (by simp [Tryz.ntmps95]) rfl rfl ?_
  rw [Tryz.ntmps95]
  refine vwp_reg tabOk [] [1] (by simp only [go_sem]; rfl) (by first | trivial | (simp; done) | (simp [in64]; omega)) ?_
  refine vwp_seq (vwp_region ?_)
  refine vops_go tabOk [] (by simp only [go_sem]; rfl) (by first | trivial | (simp; done) | (simp [in64]; omega)) ?_
  -- call 0: t4 = CALL 96(f96, t3)
  refine vops_call (hc := fun _ => c_prim_Right x) rfl (by simp only [go_sem]; rfl) rfl b_prim_Right (by simp only [go_sem]; exact WkL.refl _) rfl (fun hg => by simp only [go_sem]; try (intros; first | assumption | trivial | simp_all)) ?_
  simp only [go_sem]
  refine vops_go tabOk [] (by simp only [go_sem]; rfl) (by first | trivial | (simp; done) | (simp [in64]; omega)) ?_
  refine vops_done [2] ?_
  simp only [go_sem, thenQ, blockQ, jumpQ, stayQ]
  refine vwp_ret ?_
  -- result 0
  simp only [thenQ, blockQ, jumpQ, stayQ, RetQ, go_sem]
  refine ⟨by simp, Wk.eq ?_⟩
  rfl

theorem elemP_prim : ElemP Go.Proofs.Tryz.prog G 95 (fun x : Prim => .agg (cPrim x)) (fun x => !primB x) := ⟨b_named_Right_1, c_named_Right_1⟩
theorem prims_any (l : List Prim) : (!l.any fun x => !primB x) = l.all primB := by
  rw [List.any_eq_not_all_not, Bool.not_not]; simp

/-! counterpane/named.Right -/
theorem b_named_Right : bodied Go.Proofs.Tryz.prog 67 = true := by rw [bodied, Tryz.func67]; rfl
set_option maxHeartbeats 4000000 in
theorem c_named_Right (x : Patch) : VPure Go.Proofs.Tryz.prog G 67 [.agg (cPatch x)] (.bool (patchB x)) := by
  refine vpure_know fun hk => ?_
  simp only [factsL, facts, cPatch, maxB, List.length_map] at hk
  refine vpure_of (ts := [2]) Tryz.func67 rfl (by simp [Tryz.ntmps67]) rfl rfl ?_
  rw [Tryz.ntmps67]
  refine vwp_reg tabOk [] [1] (by simp only [go_sem]; rfl) (by first | trivial | (simp; done) | (simp [in64]; omega)) ?_
  refine vwp_seq ?_
  refine vwp_seq (vwp_region ?_)
  refine vops_go tabOk [] (by simp only [go_sem]; rfl) (by first | trivial | (simp; done) | (simp [in64]; omega)) ?_
  -- call 0: t7 = CALL 60(f60, t6)
  refine vops_call (hc := fun _ => c_named_Label x.name) rfl (by simp only [go_sem]; rfl) rfl b_named_Label (by simp only [go_sem]; exact WkL.refl _) rfl (fun hg => by simp only [go_sem]; try (intros; first | assumption | trivial | simp_all)) ?_
  simp only [go_sem]
  refine vops_go tabOk [] (by simp only [go_sem]; rfl) (by first | trivial | (simp; done) | (simp [in64]; omega)) ?_
  refine vops_done [1, 20] ?_
  simp only [go_sem, thenQ, blockQ, jumpQ, stayQ]
  refine vwp_cond (by simp only [go_sem]; rfl) (fun h0 => ?_) (fun h0 => ?_)
  · -- h0 then
    refine vwp_reg tabOk [] [2] (by simp only [go_sem]; rfl) (by first | trivial | (simp; done) | (simp [in64]; omega)) ?_
    refine vwp_ret ?_
    -- result 0
    simp only [thenQ, blockQ, jumpQ, stayQ, RetQ, go_sem]
    refine ⟨by simp, Wk.eq ?_⟩
    rw [patchB]; congr 1; symm; rw [Bool.and_eq_false_iff]; left; simp at h0 ⊢; intro h5 h6; rcases h0 with (h0 | h0) | h0 <;> first | omega | (rw [h5] at h0; cases h0)
  · -- h0 else
    refine vwp_skip ?_
    try simp only [thenQ, blockQ, jumpQ, stayQ]
    refine vwp_seq ?_
    refine vwp_reg tabOk [] [1, 22, 23, 24] (by simp only [go_sem]; rfl) (by first | trivial | (simp; done) | (simp [in64]; omega)) ?_
    refine vwp_block ?_
    -- loop 0
    refine vwp_loopW (fun i : Nat => [(1, .ptr 0 0), (22, .list 1 (x.deps.map cS)), (23, .int .i64 (x.deps.length : Int)), (24, .int .i64 (i : Int))]) (fun i => [.box (cPatch x)]) (fun i => i ≤ x.deps.length ∧ depsB (x.deps.take i) x.name = true) (fun i => x.deps.length - i) 0 ⟨Nat.zero_le _, by rfl⟩ (Env.wk_cons (by first | exact Wk.refl _ | exact Wk.nils _ | (refine Wk.eq ?_; simp; done) | (refine Wk.eq ?_; congr 1 <;> omega)) (Env.wk_cons (by first | exact Wk.refl _ | exact Wk.nils _ | (refine Wk.eq ?_; simp; done) | (refine Wk.eq ?_; congr 1 <;> omega)) (Env.wk_cons (by first | exact Wk.refl _ | exact Wk.nils _ | (refine Wk.eq ?_; simp; done) | (refine Wk.eq ?_; congr 1 <;> omega)) (Env.wk_cons (by first | exact Wk.refl _ | exact Wk.nils _ | (refine Wk.eq ?_; simp; done) | (refine Wk.eq ?_; congr 1 <;> omega)) (Env.wk_nil _))))) rfl ?_
    rintro i ⟨hi, hok⟩
    refine vwp_reg tabOk [] [1, 22, 23, 24, 25] (by simp only [go_sem]; rfl) (by first | trivial | (simp; done) | (simp [in64]; omega)) ?_
    refine vwp_seq ?_
    refine vwp_cond (by simp only [go_sem]; rfl) (fun h1 => ?_) (fun h1 => ?_)
    · -- h1 then
      have h1' : i < x.deps.length := by simp at h1; omega
      refine vwp_skip ?_
      try simp only [thenQ, blockQ, jumpQ, stayQ]
      refine vwp_seq ?_
      refine vwp_block ?_
      refine vwp_reg tabOk [] [1, 3, 4, 22, 23, 24] (by simp only [go_sem]; rfl) (by first | (simp [h1']; done) | (simp [h1']; omega)) ?_
      refine vwp_seq (vwp_region ?_)
      refine vops_go tabOk [] (by simp only [go_sem]; rfl) (by first | trivial | (simp [h1']; done) | (simp [h1', in64]; omega) | (simp [h1', in64]; repeat' (first | omega | intro _ | constructor))) ?_
      -- call 1: t30 = CALL 60(f60, t29)
      refine vops_call (hc := fun _ => c_named_Label (x.deps.getD i [])) rfl (by simp only [go_sem]; rfl) rfl b_named_Label (by simp only [go_sem]; exact WkL.refl _) rfl (fun hg => by simp only [go_sem]; try (intros; first | assumption | trivial | simp_all)) ?_
      simp only [go_sem]
      refine vops_go tabOk [] (by simp only [go_sem]; rfl) (by first | trivial | (simp [h1']; done) | (simp [h1', in64]; omega) | (simp [h1', in64]; repeat' (first | omega | intro _ | constructor))) ?_
      refine vops_done [1, 22, 23, 24, 51] ?_
      simp only [go_sem, thenQ, blockQ, jumpQ, stayQ]
      refine vwp_cond (by simp only [go_sem]; rfl) (fun h2 => ?_) (fun h2 => ?_)
      · -- h2 then
        refine vwp_reg tabOk [] [2] (by simp only [go_sem]; rfl) (by first | trivial | (simp; done) | (simp [in64]; omega)) ?_
        refine vwp_ret ?_
        -- result 1
        simp only [thenQ, blockQ, jumpQ, stayQ, RetQ, go_sem]
        refine ⟨by simp, Wk.eq ?_⟩
        rw [step_go] at h2; rw [patchB, depsB_false _ _ i h1' (by simpa using h2)]; simp
      · -- h2 else
        refine vwp_skip ?_
        try simp only [thenQ, blockQ, jumpQ, stayQ]
        refine vwp_reg1 tabOk [] [1, 22, 23, 24] (by simp only [go_sem]; rfl) (by first | trivial | (simp; done) | (simp [in64]; omega)) ?_
        try simp only [thenQ, blockQ, jumpQ, stayQ]
        -- round 0
        exact ⟨i + 1, ⟨by omega, by rw [depsB_take _ _ _ h1', hok]; rw [step_go] at h2; simpa using h2⟩, by omega, (Env.wk_cons (by first | exact Wk.refl _ | exact Wk.nils _ | (refine Wk.eq ?_; simp; done) | (refine Wk.eq ?_; congr 1 <;> omega)) (Env.wk_cons (by first | exact Wk.refl _ | exact Wk.nils _ | (refine Wk.eq ?_; simp; done) | (refine Wk.eq ?_; congr 1 <;> omega)) (Env.wk_cons (by first | exact Wk.refl _ | exact Wk.nils _ | (refine Wk.eq ?_; simp; done) | (refine Wk.eq ?_; congr 1 <;> omega)) (Env.wk_cons (by first | exact Wk.refl _ | exact Wk.nils _ | (refine Wk.eq ?_; simp; done) | (refine Wk.eq ?_; congr 1 <;> omega)) (Env.wk_nil _))))), (by first | rfl | trivial)⟩
    · -- h1 else
      refine vwp_exit ?_
      simp only [thenQ, blockQ, jumpQ, stayQ, if_true, reduceIte, Nat.reduceEqDiff]
      refine vwp_seq (vwp_region ?_)
      refine vops_go tabOk [] (by simp only [go_sem]; rfl) (by first | trivial | (simp; done) | (simp [in64]; omega)) ?_
      -- call 2: t55 = CALL 94(f94, t54, f95)
      refine vops_call (hc := fun _ => c_slices_ContainsFunc_api_Prim_api_Prim _ _ elemP_prim x.body) rfl (by simp only [go_sem]; rfl) rfl b_slices_ContainsFunc_api_Prim_api_Prim (by simp only [go_sem]; exact WkL.refl _) rfl (fun hg => by simp only [go_sem]; try (intros; first | assumption | trivial | simp_all)) ?_
      simp only [go_sem]
      refine vops_go tabOk [] (by simp only [go_sem]; rfl) (by first | trivial | (simp; done) | (simp [in64]; omega)) ?_
      refine vops_done [2] ?_
      simp only [go_sem, thenQ, blockQ, jumpQ, stayQ]
      refine vwp_ret ?_
      -- result 2
      simp only [thenQ, blockQ, jumpQ, stayQ, RetQ, go_sem]
      refine ⟨by simp, Wk.eq ?_⟩
      have e1 : i = x.deps.length := by simp at h1; omega
      subst e1; rw [List.take_length] at hok; rw [prims_any, patchB, hok]; cases x.body.all primB <;> simp <;> (simp at h0; simp [h0]; omega)
end Go.Proofs.YtldfghgjllaljaaGreatDoor.Q
end

section
/- Walks of what writes a patch's bytes, in the program's own words, in the logic 'Q'. -/
set_option linter.unusedVariables false
set_option linter.unusedSimpArgs false
set_option maxRecDepth 100000
namespace Go.Proofs.YtldfghgjllaljaaGreatDoor.Q
open Go Go.Q
open Go.RowKit (Below)
open Go.Shelf Go.RowKit

set_option maxHeartbeats 1000000 in
theorem copyCheck_used (b : Nat) (w : World) (h0 : w.cell? ⟨b, 0, none⟩ = some (.pointer (some ⟨b, 0, none⟩))) :
    Calls Go.Proofs.Tryz.prog 119 #[.pointer (some ⟨b, 0, none⟩)] w fun e w' => e = .returned (.tuple #[]) ∧ w' = w := by
  obtain ⟨j, hj, _⟩ := Option.map_eq_some_iff.1 Tryz.Builder_Extra_169.sizeBuilder
  go_enter Tryz.func119, Tryz.ntmps119
  go_wp2
  rw [Lib.run_neq_ptr_same w _ Tryz.underlying98 hj]
  go_wp2
  go_end0
  exact ⟨rfl, rfl⟩
set_option maxHeartbeats 1000000 in
theorem copyCheck_fresh (b : Nat) (w : World) (h0 : w.cell? ⟨b, 0, none⟩ = some (.pointer none)) (hsh : w.shape? b = some (102, 2)) (hfz : w.frozen? ⟨b, 0, none⟩ = false) :
    Calls Go.Proofs.Tryz.prog 119 #[.pointer (some ⟨b, 0, none⟩)] w fun e w' => e = .returned (.tuple #[]) ∧ w' = w.setCell ⟨b, 0, none⟩ (.pointer (some ⟨b, 0, none⟩)) := by
  obtain ⟨j, hj, hjs⟩ := Option.map_eq_some_iff.1 Tryz.Builder_Extra_169.sizeBuilder
  go_enter Tryz.func119, Tryz.ntmps119
  go_wp2
  rw [Lib.run_to_unsafe w ⟨b, 0, none⟩ Tryz.underlying98 Tryz.underlying165 hj (by rw [hjs]; decide) hsh (Nat.zero_lt_succ 1)]
  simp only [Result.andThen]
  rw [Oper.upon_value]
  go_wp2
  rw [run_callFunc_extern Tryz.func147 (by kernel_rfl) (by kernel_rfl) (by kernel_rfl) (e := Extern.AbiNoEscape.same) (by kernel_rfl)]
  rw [Lib.run_noEscape]
  simp only [Result.andThen]
  rw [Oper.upon_value]
  go_wp2
  rw [Lib.run_from_unsafe w ⟨b, 0, none⟩ Tryz.underlying165 Tryz.underlying98 hj hsh (by kernel_rfl)]
  simp only [Result.andThen]
  rw [Oper.upon_value]
  go_wp2
  go_end0
  exact ⟨rfl, rfl⟩

set_option maxHeartbeats 2000000 in
theorem string_raw (b g cap : Nat) (p : Value) (cur : Array Value) (s : List UInt8) (h0 : s ≠ []) (w : World) {ty : TypeId} (hbk : w.heap[b]? = some (.cells #[p, .slice (some ⟨g, 0, none⟩) s.length cap] ty (0, 0))) (hg : w.heap[g]? = some (.cells cur 5 (0, 0)))
    (hcell : ∀ j x, s[j]? = some x → w.cell? ⟨g, j, none⟩ = some (.int .u8 (x.toNat : Int))) (hn : s.length ≤ cap) (hcm : cap ≤ maxLen) (hcs : cur.size = cap) :
    Calls Go.Proofs.Tryz.prog 71 #[.pointer (some ⟨b, 0, none⟩)] w fun e w' => e = .returned (.string ⟨s.toArray⟩) ∧ w' = w.drew.freeze ⟨g, 0, none⟩ s.length := by
  have hl1 : 1 ≤ s.length := List.length_pos_iff.2 h0
  have mixed : Go.Proofs.Tryz.prog.follows .mixedOrders = true := by kernel_rfl
  have c1 : w.drew.cell? ⟨b, 1, none⟩ = some (.slice (some ⟨g, 0, none⟩) s.length cap) := by
    have : w.drew.heap[b]? = some (.cells #[p, .slice (some ⟨g, 0, none⟩) s.length cap] ty (0, 0)) := hbk
    rw [Lib.cell_of_heap this]; rfl
  have hSD : (Builtin.unsafeSliceData_ #[27] 127 #[.slice (some ⟨g, 0, none⟩) s.length cap]).run Go.Proofs.Tryz.prog w.drew = .ok (.pointer (some ⟨g, 0, none⟩)) w.drew :=
    Lib.run_unsafeSliceData_row _ _ _ _ _ _ (by omega)
  have hUS : (Builtin.unsafeString_ #[127, 3] 9 #[.pointer (some ⟨g, 0, none⟩), .int .i64 s.length]).run Go.Proofs.Tryz.prog w.drew = .ok (.string ⟨s.toArray⟩) (w.drew.freeze ⟨g, 0, none⟩ s.length) := by
    refine Lib.run_unsafeString_row w.drew 127 3 9 5 Tryz.underlying127 Tryz.Builder_Extra_169.cellsByte g cur.size (by have hg' : w.drew.heap[g]? = some (.cells cur 5 (0, 0)) := hg; simp [World.shape?, hg']) s h0 (by omega) (by unfold maxLen at hcm; omega) ?_
    intro j x hx
    have := hcell j x hx
    rw [add_spot rfl]; simpa using this
  go_enter Tryz.func71, Tryz.ntmps71
  go_wp2
  go_region_o
  all_goals (go_wp2; go_ret; exact ⟨rfl, rfl⟩)

/-- A builder that holds 's', within a box of the type 'writer': its box, and its bytes. -/
def bld (ad : V) (s : Str) : List Q.Obj := [.box [ad, .arr 1 s.length] (some 102), .arr 5 1 (s.map encB)]
attribute [go_sem] bld

theorem b_strings_Builder_copyCheck : bodied Go.Proofs.Tryz.prog 119 = true := by rw [bodied, Tryz.func119]; rfl
theorem b_strings_Builder_String : bodied Go.Proofs.Tryz.prog 71 = true := by rw [bodied, Tryz.func71]; rfl

theorem setCell_row {w : World} {b : Nat} {us : List Value} {t : TypeId} (h : w.heap[b]? = some (.cells us.toArray t (0, 0))) (v : Value) : (w.setCell ⟨b, 0, none⟩ v).heap[b]? = some (.cells (us.set 0 v).toArray t (0, 0)) := by
  obtain ⟨hlt, hk⟩ := Array.getElem?_eq_some_iff.1 h
  show (w.heap.modify b _)[b]? = _
  rw [Array.getElem?_eq_getElem (by rw [Array.size_modify]; exact hlt), Array.getElem_modify_self, hk]
  simp
theorem setCell_else {w : World} {b k : Nat} (v : Value) (h : b ≠ k) : (w.setCell ⟨b, 0, none⟩ v).heap[k]? = w.heap[k]? := by
  show (w.heap.modify b _)[k]? = _
  simp [Array.getElem?_modify, h]

theorem c_strings_Builder_copyCheck (ad : V) (ha : ad = .nilptr ∨ ad = .ptr 0 0) (s : Str) : VCalls Go.Proofs.Tryz.prog G 119 [.ptr 0 0] (bld ad s) [] (fun r H => r = .tuple [] ∧ H = bld (.ptr 0 0) s) := by
  intro F ρ w ms sim hr hG
  simp only [RelL, Rel] at hr
  obtain ⟨u, t, rfl, ⟨b, o, hρ, rfl⟩, rfl⟩ := hr
  obtain ⟨b', us, ty, hh, hheap, hrel, hone⟩ := sim.obj 0 _ _ rfl hρ
  simp only [Value.pointer.injEq, Option.some.injEq, Addr.mk.injEq, and_true] at hh
  obtain ⟨rfl, rfl⟩ := hh
  simp only [Option.getD_some] at hheap
  simp only [RelL] at hrel
  obtain ⟨u0, _, rfl, hu0, u1, _, rfl, hu1, rfl⟩ := hrel
  have hc0 : w.cell? ⟨b, 0, none⟩ = some u0 := by rw [Lib.cell_of_heap hheap]; rfl
  have fin : ∀ w', Sim F ρ (bld (.ptr 0 0) s) w' → Evol ⟨F, ρ, bld ad s, w⟩ [] F ρ (bld (.ptr 0 0) s) w' →
      ∃ F' ρ' H' r mr, (Ending.returned (.tuple #[]) : Ending) = .returned mr ∧ (r = .tuple [] ∧ H' = bld (.ptr 0 0) s) ∧ Rel F' ρ' w' r mr ∧ Sim F' ρ' H' w' ∧ Evol ⟨F, ρ, bld ad s, w⟩ [] F' ρ' H' w' :=
    fun w' h1 h2 => ⟨F, ρ, _, _, _, rfl, ⟨rfl, rfl⟩, by simp [Rel, RelL], h1, h2⟩
  rcases ha with rfl | rfl
  · simp only [Rel] at hu0
    subst hu0
    refine (copyCheck_fresh b w hc0 (by simp [World.shape?, hheap]) (by simp [World.frozen?, hheap])).mono ?_
    rintro e w' ⟨rfl, rfl⟩
    have st := st_of_sim Go.Proofs.Tryz.prog G [] sim hG
    have st' := st.setObj (w' := w.setCell ⟨b, 0, none⟩ (.pointer (some ⟨b, 0, none⟩))) (i := 0) (o' := .box [.ptr 0 0, .arr 1 s.length] (some 102)) rfl rfl hρ rfl rfl rfl (by show (w.heap.modify b _).size = _; simp)
      (fun b2 hb2 => setCell_else _ (fun e => hb2 (by rw [← e]; rfl)))
      ⟨b, [.pointer (some ⟨b, 0, none⟩), u1], ty, rfl, by simpa using setCell_row hheap _, by
        simp only [RelL]
        refine ⟨_, _, rfl, ⟨b, 0, hρ, rfl⟩, _, _, rfl, ?_, rfl⟩
        have hF : ∀ k, F k → (w.setCell ⟨b, 0, none⟩ (.pointer (some ⟨b, 0, none⟩))).heap[k]? = w.heap[k]? := fun k hk => setCell_else _ fun e => sim.apart 0 _ _ k rfl rfl hρ (by rw [← e]; rfl) hk
        exact Rel.goes ⟨fun _ h => h, hF, fun _ _ h => h⟩ _ _ hu1, by
        intro u hu
        simp only [List.mem_cons, List.not_mem_nil, or_false] at hu
        rcases hu with rfl | rfl
        · rfl
        · exact hone _ (by simp)⟩
    exact fin _ st'.sim st'.evol
  · have hu0' := hu0
    simp only [Rel] at hu0'
    obtain ⟨b2, o2, e1, rfl⟩ := hu0'
    rw [hρ] at e1
    simp only [Option.some.injEq, Value.pointer.injEq, Addr.mk.injEq, and_true] at e1
    obtain ⟨rfl, rfl⟩ := e1
    refine (copyCheck_used b w hc0).mono ?_
    rintro e w' ⟨rfl, rfl⟩
    exact fin _ sim (evol_refl _ _ _ _ _)

theorem freeze_else {w : World} {g k n : Nat} (h : g ≠ k) : (w.drew.freeze ⟨g, 0, none⟩ n).heap[k]? = w.heap[k]? := by
  unfold World.freeze
  split
  · rfl
  · show (w.heap.modify g _)[k]? = _
    simp [Array.getElem?_modify, h]
theorem freeze_same (w : World) (g n : Nat) : (w.drew.freeze ⟨g, 0, none⟩ n).os = w.os ∧ (w.drew.freeze ⟨g, 0, none⟩ n).tape = w.tape ∧ (w.drew.freeze ⟨g, 0, none⟩ n).output = w.output ∧ (w.drew.freeze ⟨g, 0, none⟩ n).heap.size = w.heap.size := by
  unfold World.freeze
  split
  · exact ⟨rfl, rfl, rfl, rfl⟩
  · refine ⟨rfl, rfl, rfl, ?_⟩
    show (w.heap.modify g _).size = _
    simp

theorem c_strings_Builder_String (ad : V) (s : Str) (h0 : s ≠ []) (hm : s.length ≤ maxB) : VCalls Go.Proofs.Tryz.prog G 71 [.ptr 0 0] (bld ad s) [] (fun r H => r = .str s ∧ H = [.box [ad, .arr 1 s.length] (some 102), .dead]) := by
  intro F ρ w ms sim hr hG
  simp only [RelL, Rel] at hr
  obtain ⟨u, t, rfl, ⟨b, o, hρ, rfl⟩, rfl⟩ := hr
  obtain ⟨b', us, ty, hh, hheap, hrel, hone⟩ := sim.obj 0 _ _ rfl hρ
  simp only [Value.pointer.injEq, Option.some.injEq, Addr.mk.injEq, and_true] at hh
  obtain ⟨rfl, rfl⟩ := hh
  simp only [Option.getD_some] at hheap
  simp only [RelL] at hrel
  obtain ⟨u0, _, rfl, hu0, u1, _, rfl, hu1, rfl⟩ := hrel
  simp only [Rel] at hu1
  obtain ⟨a, m, c, h1, rfl, hle⟩ := hu1
  obtain ⟨row, c', a', hh, hown, hll, hB⟩ := sim.obj 1 _ _ rfl h1
  injection hh with ha hm' hc; subst ha; subst hm'; subst hc
  rw [List.length_map] at hle hown
  have hl1 : 1 ≤ s.length := List.length_pos_iff.2 h0
  rcases hown.2 with ⟨_, hz⟩ | ⟨g, cap, cur, hv, _, hg, hnc, hcm, hcs, htk⟩
  · omega
  · simp only [Value.slice.injEq] at hv
    obtain ⟨rfl, _, rfl⟩ := hv
    have hrow : row = Lib.byteCells s := by
      have h2 := relLL_bytes (F := F) (w := w) s
      have h3 := hll
      clear hll hown htk
      revert h3
      have key : ∀ (s : Str) (row : List Value), RelLL F w 1 (s.map encB) row → row = Lib.byteCells s := by
        intro s
        induction s with
        | nil => intro row h; simpa [RelLL, Lib.byteCells] using h
        | cons x s ih =>
          intro row h
          simp only [List.map_cons, RelLL, encB, RelL, Rel] at h
          obtain ⟨u, t, rfl, _, ⟨_, _, rfl, rfl, rfl⟩, _, h5⟩ := h
          rw [ih _ h5]; rfl
      exact key s row
    have hcell : ∀ j x, s[j]? = some x → w.cell? ⟨g, j, none⟩ = some (.int .u8 (x.toNat : Int)) := by
      intro j x hx
      have h2 := hown.cells (g := g) rfl j (.int .u8 (x.toNat : Int)) (by rw [hrow]; simp [Lib.byteCells, hx])
      rw [add_spot rfl] at h2; simpa using h2
    refine (string_raw b g c u0 cur s h0 w (ty := _) hheap hg hcell hnc hcm (by simpa using hcs)).mono ?_
    rintro e w' ⟨rfl, rfl⟩
    have st := st_of_sim Go.Proofs.Tryz.prog G [] sim hG
    obtain ⟨f1, f2, f3, f4⟩ := freeze_same w g s.length
    have st' := st.setObj (w' := w.drew.freeze ⟨g, 0, none⟩ s.length) (i := 1) (o' := .dead) rfl rfl h1 f1 f2 f3 f4
      (fun b2 hb2 => freeze_else fun e => hb2 (by rw [← e]; rfl)) trivial
    exact ⟨F, ρ, _, .str s, _, rfl, ⟨rfl, rfl⟩, by simp only [Rel]; exact ⟨trivial, hm⟩, st'.sim, st'.evol⟩

/-! (*strings.Builder).WriteString -/
theorem b_strings_Builder_WriteString : bodied Go.Proofs.Tryz.prog 97 = true := by rw [bodied, Tryz.func97]; rfl
theorem c_strings_Builder_WriteString (s x : Str) (hs : s.length + x.length ≤ 137438953472) : VCalls Go.Proofs.Tryz.prog G 97 [.ptr 0 0, .str x] (bld (.ptr 0 0) s) [1] (fun r H => r = .tuple [.int .i64 (x.length : Int), .niliface] ∧ H = bld (.ptr 0 0) (s ++ x)) := by
  refine vcalls_of2 tabOk (rs := _) 2 Tryz.func97 rfl (by simp [Tryz.ntmps97]) rfl (by first | (simp; done) | exact Nat.le_refl _) ?_
  rw [Tryz.ntmps97]
  refine vwp_reg tabOk [] [0, 1] (by simp only [go_sem]; rfl) (by first | trivial | (simp; done) | (simp [in64]; omega)) ?_
  refine vwp_seq (vwp_region ?_)
  refine vops_go tabOk [] (by simp only [go_sem]; rfl) (by first | trivial | (simp; done) | (simp [in64]; omega)) ?_
  -- call 0: t7 = CALL 119(f119, t6)
  refine vops_callH (hc := c_strings_Builder_copyCheck (.ptr 0 0) (.inr rfl) s) rfl rfl rfl b_strings_Builder_copyCheck [0, 1] [] [] rfl rfl rfl (by simp only [go_sem]; exact WkL.refl _) (by simp only [go_sem]) ?_
  rintro r0 H0 ⟨rfl, rfl⟩
  simp only [go_sem]
  refine vops_done [0, 1] ?_
  simp only [go_sem, thenQ, blockQ, jumpQ, stayQ]
  refine vwp_reg tabOk [] [1] (by simp only [go_sem]; rfl) (by first | trivial | (simp; done) | (simp [in64]; omega)) ?_
  refine vwp_reg tabOk [] [4, 5] (by simp only [go_sem]; rfl) (by first | trivial | (simp; done) | (simp [in64]; omega)) ?_
  refine vwp_ret ?_
  -- result 0
  try simp only [thenQ, blockQ, jumpQ, stayQ, go_sem]
  refine ⟨by simp, _, _, rfl, by first | trivial | simp, ?_⟩
  exact ⟨by simp only [go_sem], by simp [bld]⟩

/-! (*strings.Builder).WriteByte -/
theorem b_strings_Builder_WriteByte : bodied Go.Proofs.Tryz.prog 98 = true := by rw [bodied, Tryz.func98]; rfl
theorem c_strings_Builder_WriteByte (s : Str) (x : UInt8) (hs : s.length + 1 ≤ 137438953472) : VCalls Go.Proofs.Tryz.prog G 98 [.ptr 0 0, .int .u8 (x.toNat : Int)] (bld (.ptr 0 0) s) [1] (fun r H => r = .niliface ∧ H = bld (.ptr 0 0) (s ++ [x])) := by
  refine vcalls_of2 tabOk (rs := _) 2 Tryz.func98 rfl (by simp [Tryz.ntmps98]) rfl (by first | (simp; done) | exact Nat.le_refl _) ?_
  rw [Tryz.ntmps98]
  refine vwp_reg tabOk [] [0, 1] (by simp only [go_sem]; rfl) (by first | trivial | (simp; done) | (simp [in64]; omega)) ?_
  refine vwp_seq (vwp_region ?_)
  refine vops_go tabOk [] (by simp only [go_sem]; rfl) (by first | trivial | (simp; done) | (simp [in64]; omega)) ?_
  -- call 0: t6 = CALL 119(f119, t5)
  refine vops_callH (hc := c_strings_Builder_copyCheck (.ptr 0 0) (.inr rfl) s) rfl rfl rfl b_strings_Builder_copyCheck [0, 1] [] [] rfl rfl rfl (by simp only [go_sem]; exact WkL.refl _) (by simp only [go_sem]) ?_
  rintro r0 H0 ⟨rfl, rfl⟩
  simp only [go_sem]
  refine vops_done [0, 1] ?_
  simp only [go_sem, thenQ, blockQ, jumpQ, stayQ]
  refine vwp_reg tabOk [] [] (by simp only [go_sem]; rfl) (by first | trivial | (simp; done) | (simp [in64]; omega)) ?_
  refine vwp_reg tabOk [] [4] (by simp only [go_sem]; rfl) (by first | trivial | (simp; done) | (simp [in64]; omega)) ?_
  refine vwp_ret ?_
  -- result 0
  try simp only [thenQ, blockQ, jumpQ, stayQ, go_sem]
  refine ⟨by simp, _, _, rfl, by first | trivial | simp, ?_⟩
  exact ⟨by simp only [go_sem], by simp [bld, encB]⟩

/-! (*counterpane/named.writer).number -/
theorem b_named_writer_number : bodied Go.Proofs.Tryz.prog 70 = true := by rw [bodied, Tryz.func70]; rfl
theorem c_named_writer_number (s : Str) (n : Int) (hn : in64 n) (hs : s.length ≤ 130000000000) : VCalls Go.Proofs.Tryz.prog G 70 [.ptr 0 0, .int .i64 n] (bld (.ptr 0 0) s) [1] (fun r H => r = .tuple [] ∧ H = bld (.ptr 0 0) (s ++ num n)) := by
  have hl := Lib.itoa_length_le n hn.1 hn.2
  refine vcalls_of2 tabOk (rs := _) 2 Tryz.func70 rfl (by simp [Tryz.ntmps70]) rfl (by first | (simp; done) | exact Nat.le_refl _) ?_
  rw [Tryz.ntmps70]
  -- r0 drawn, effects at [5]
  refine vwp_seq (vwp_drawE1 mixed (by kernel_rfl) 5 [0, 0, 0, 0, 0, 0] (by kernel_rfl) (f0 := ?f0_r0) (f1 := ?f1_r0) (H1 := ?H1_r0) (g1 := ?g1_r0) (v1 := ?v1_r0) (by simp only [go_sem]; rfl) ?hs0_r0 ?he1_r0 ?hg1_r0 ?hs1_r0 ?hk1_r0 ?hv1_r0 [0] rfl ?hq_r0)
  case hs0_r0 =>
    refine dstage_go tabOk (by simp only [go_sem]; rfl) (by first | trivial | (simp; done) | (simp [in64]; omega)) ?_
    -- call 0: t8 = CALL 29(f29, t7)
    refine dstage_call (hc := fun _ => c_Itoa n hn) rfl (by simp only [go_sem]; rfl) b_strconv_Itoa (by simp only [go_sem]; exact WkL.refl _) rfl (fun hg => by simp only [go_sem]) rfl (by decide) ?_
    refine dstage_go tabOk (by simp only [go_sem]; rfl) (by first | trivial | (simp; done) | (simp [in64]; omega)) ?_
    exact dstage_nil
  case he1_r0 =>
    -- t9 = CALL 97(f97, t6, t8)
    refine effOk_callH (f := ?f) (vs := ?vs) (H' := ?Hn) (r := ?r) (args := ?args) (ats := ?ats) [0, 1] [1] [1] ?yc ?y0 ?yb ?y1 ?y2 ?y3 ?y4 ?y5
    case y0 => rfl
    case yc => exact c_strings_Builder_WriteString s (Lib.itoa n) (by omega)
    case yb => exact b_strings_Builder_WriteString
    case y1 => rfl
    case y2 => rfl
    case y3 => rfl
    case y4 => simp only [go_sem]; exact WkL.refl _
    case y5 => simp only [go_sem]
  case hg1_r0 => rfl
  case hs1_r0 =>
    refine dstage_go tabOk (by simp only [go_sem]; rfl) (by first | trivial | (simp; done) | (simp [in64]; omega)) ?_
    -- call 0: t8 = CALL 29(f29, t7)
    refine dstage_call (hc := fun _ => c_Itoa n hn) rfl (by simp only [go_sem]; rfl) b_strconv_Itoa (by simp only [go_sem]; exact WkL.refl _) rfl (fun hg => by simp only [go_sem]) rfl (by decide) ?_
    refine dstage_go tabOk (by simp only [go_sem]; rfl) (by first | trivial | (simp; done) | (simp [in64]; omega)) ?_
    exact dstage_nil
  case hk1_r0 => simp [keptOk, inStage, mapE, go_sem]
  case hv1_r0 => simp [mapE, go_sem]
  simp only [go_sem, mapE, thenQ, blockQ, jumpQ, stayQ]
  refine vwp_region ?_
  refine vops_go tabOk [] (by simp only [go_sem]; rfl) (by first | trivial | (simp; done) | (simp [in64]; omega)) ?_
  -- call 1: t13 = CALL 98(f98, t12, 58)
  refine vops_callH (hc := c_strings_Builder_WriteByte (s ++ Lib.itoa n) 58 (by simp; omega)) rfl rfl rfl b_strings_Builder_WriteByte [0, 1] [1] [1] rfl rfl rfl (by simp only [go_sem]; exact WkL.refl _) (by simp only [go_sem]) ?_
  rintro r1 H1 ⟨rfl, rfl⟩
  simp only [go_sem]
  refine vops_done [] ?_
  simp only [go_sem, thenQ, blockQ, jumpQ, stayQ]
  try simp only [thenQ, blockQ, jumpQ, stayQ]
  -- result 0
  try simp only [thenQ, blockQ, jumpQ, stayQ, go_sem]
  refine ⟨by simp, _, _, rfl, by first | trivial | simp, ?_⟩
  exact ⟨by simp only [go_sem], by simp [bld, num, encB]⟩

/-! (*strings.Builder).WriteString -/
theorem c_strings_Builder_WriteString0 (s x : Str) (hs : s.length + x.length ≤ 137438953472) : VCalls Go.Proofs.Tryz.prog G 97 [.ptr 0 0, .str x] (bld (.nilptr) s) [1] (fun r H => r = .tuple [.int .i64 (x.length : Int), .niliface] ∧ H = bld (.ptr 0 0) (s ++ x)) := by
  refine vcalls_of2 tabOk (rs := _) 2 Tryz.func97 rfl (by simp [Tryz.ntmps97]) rfl (by first | (simp; done) | exact Nat.le_refl _) ?_
  rw [Tryz.ntmps97]
  refine vwp_reg tabOk [] [0, 1] (by simp only [go_sem]; rfl) (by first | trivial | (simp; done) | (simp [in64]; omega)) ?_
  refine vwp_seq (vwp_region ?_)
  refine vops_go tabOk [] (by simp only [go_sem]; rfl) (by first | trivial | (simp; done) | (simp [in64]; omega)) ?_
  -- call 0: t7 = CALL 119(f119, t6)
  refine vops_callH (hc := c_strings_Builder_copyCheck (.nilptr) (.inl rfl) s) rfl rfl rfl b_strings_Builder_copyCheck [0, 1] [] [] rfl rfl rfl (by simp only [go_sem]; exact WkL.refl _) (by simp only [go_sem]) ?_
  rintro r0 H0 ⟨rfl, rfl⟩
  simp only [go_sem]
  refine vops_done [0, 1] ?_
  simp only [go_sem, thenQ, blockQ, jumpQ, stayQ]
  refine vwp_reg tabOk [] [1] (by simp only [go_sem]; rfl) (by first | trivial | (simp; done) | (simp [in64]; omega)) ?_
  refine vwp_reg tabOk [] [4, 5] (by simp only [go_sem]; rfl) (by first | trivial | (simp; done) | (simp [in64]; omega)) ?_
  refine vwp_ret ?_
  -- result 0
  try simp only [thenQ, blockQ, jumpQ, stayQ, go_sem]
  refine ⟨by simp, _, _, rfl, by first | trivial | simp, ?_⟩
  exact ⟨by simp only [go_sem], by simp [bld]⟩

/-! (*counterpane/named.writer).number -/
theorem c_named_writer_number0 (s : Str) (n : Int) (hn : in64 n) (hs : s.length ≤ 130000000000) : VCalls Go.Proofs.Tryz.prog G 70 [.ptr 0 0, .int .i64 n] (bld (.nilptr) s) [1] (fun r H => r = .tuple [] ∧ H = bld (.ptr 0 0) (s ++ num n)) := by
  have hl := Lib.itoa_length_le n hn.1 hn.2
  refine vcalls_of2 tabOk (rs := _) 2 Tryz.func70 rfl (by simp [Tryz.ntmps70]) rfl (by first | (simp; done) | exact Nat.le_refl _) ?_
  rw [Tryz.ntmps70]
  -- r0 drawn, effects at [5]
  refine vwp_seq (vwp_drawE1 mixed (by kernel_rfl) 5 [0, 0, 0, 0, 0, 0] (by kernel_rfl) (f0 := ?f0_r0) (f1 := ?f1_r0) (H1 := ?H1_r0) (g1 := ?g1_r0) (v1 := ?v1_r0) (by simp only [go_sem]; rfl) ?hs0_r0 ?he1_r0 ?hg1_r0 ?hs1_r0 ?hk1_r0 ?hv1_r0 [0] rfl ?hq_r0)
  case hs0_r0 =>
    refine dstage_go tabOk (by simp only [go_sem]; rfl) (by first | trivial | (simp; done) | (simp [in64]; omega)) ?_
    -- call 0: t8 = CALL 29(f29, t7)
    refine dstage_call (hc := fun _ => c_Itoa n hn) rfl (by simp only [go_sem]; rfl) b_strconv_Itoa (by simp only [go_sem]; exact WkL.refl _) rfl (fun hg => by simp only [go_sem]) rfl (by decide) ?_
    refine dstage_go tabOk (by simp only [go_sem]; rfl) (by first | trivial | (simp; done) | (simp [in64]; omega)) ?_
    exact dstage_nil
  case he1_r0 =>
    -- t9 = CALL 97(f97, t6, t8)
    refine effOk_callH (f := ?f) (vs := ?vs) (H' := ?Hn) (r := ?r) (args := ?args) (ats := ?ats) [0, 1] [1] [1] ?yc ?y0 ?yb ?y1 ?y2 ?y3 ?y4 ?y5
    case y0 => rfl
    case yc => exact c_strings_Builder_WriteString0 s (Lib.itoa n) (by omega)
    case yb => exact b_strings_Builder_WriteString
    case y1 => rfl
    case y2 => rfl
    case y3 => rfl
    case y4 => simp only [go_sem]; exact WkL.refl _
    case y5 => simp only [go_sem]
  case hg1_r0 => rfl
  case hs1_r0 =>
    refine dstage_go tabOk (by simp only [go_sem]; rfl) (by first | trivial | (simp; done) | (simp [in64]; omega)) ?_
    -- call 0: t8 = CALL 29(f29, t7)
    refine dstage_call (hc := fun _ => c_Itoa n hn) rfl (by simp only [go_sem]; rfl) b_strconv_Itoa (by simp only [go_sem]; exact WkL.refl _) rfl (fun hg => by simp only [go_sem]) rfl (by decide) ?_
    refine dstage_go tabOk (by simp only [go_sem]; rfl) (by first | trivial | (simp; done) | (simp [in64]; omega)) ?_
    exact dstage_nil
  case hk1_r0 => simp [keptOk, inStage, mapE, go_sem]
  case hv1_r0 => simp [mapE, go_sem]
  simp only [go_sem, mapE, thenQ, blockQ, jumpQ, stayQ]
  refine vwp_region ?_
  refine vops_go tabOk [] (by simp only [go_sem]; rfl) (by first | trivial | (simp; done) | (simp [in64]; omega)) ?_
  -- call 1: t13 = CALL 98(f98, t12, 58)
  refine vops_callH (hc := c_strings_Builder_WriteByte (s ++ Lib.itoa n) 58 (by simp; omega)) rfl rfl rfl b_strings_Builder_WriteByte [0, 1] [1] [1] rfl rfl rfl (by simp only [go_sem]; exact WkL.refl _) (by simp only [go_sem]) ?_
  rintro r1 H1 ⟨rfl, rfl⟩
  simp only [go_sem]
  refine vops_done [] ?_
  simp only [go_sem, thenQ, blockQ, jumpQ, stayQ]
  try simp only [thenQ, blockQ, jumpQ, stayQ]
  -- result 0
  try simp only [thenQ, blockQ, jumpQ, stayQ, go_sem]
  refine ⟨by simp, _, _, rfl, by first | trivial | simp, ?_⟩
  exact ⟨by simp only [go_sem], by simp [bld, num, encB]⟩

/-! (*counterpane/named.writer).texts -/
theorem b_named_writer_texts : bodied Go.Proofs.Tryz.prog 68 = true := by rw [bodied, Tryz.func68]; rfl
set_option maxHeartbeats 4000000 in
theorem c_named_writer_texts (s : Str) (l : List Str) (hl : (txts l).length ≤ 1000000000) (hs : s.length ≤ 100000000000) : VCalls Go.Proofs.Tryz.prog G 68 [.ptr 0 0, .list 1 (l.map cS)] (bld (.ptr 0 0) s) [1] (fun r H => r = .tuple [] ∧ H = bld (.ptr 0 0) (s ++ txts l)) := by
  refine vcalls_know fun hk hK => ?_
  simp only [factsL, facts, maxB, List.length_map] at hk
  refine vcalls_of2 tabOk (rs := _) 2 Tryz.func68 rfl (by simp [Tryz.ntmps68]) rfl (by first | (simp; done) | exact Nat.le_refl _) ?_
  rw [Tryz.ntmps68]
  refine vwp_reg tabOk [] [0, 6, 7, 8] (by simp only [go_sem]; rfl) (by first | trivial | (simp; done) | (simp [in64]; omega)) ?_
  refine vwp_block ?_
  -- loop 0
  refine vwp_loopW (fun i : Nat => [(0, .ptr 0 0), (6, .list 1 (l.map cS)), (7, .int .i64 (l.length : Int)), (8, .int .i64 (i : Int))]) (fun i => bld (.ptr 0 0) (s ++ txts (l.take i))) (fun i => i ≤ l.length) (fun i => l.length - i) 0 (Nat.zero_le _) (Env.wk_cons (by first | exact Wk.refl _ | exact Wk.nils _ | (refine Wk.eq ?_; simp; done) | (refine Wk.eq ?_; congr 1 <;> omega)) (Env.wk_cons (by first | exact Wk.refl _ | exact Wk.nils _ | (refine Wk.eq ?_; simp; done) | (refine Wk.eq ?_; congr 1 <;> omega)) (Env.wk_cons (by first | exact Wk.refl _ | exact Wk.nils _ | (refine Wk.eq ?_; simp; done) | (refine Wk.eq ?_; congr 1 <;> omega)) (Env.wk_cons (by first | exact Wk.refl _ | exact Wk.nils _ | (refine Wk.eq ?_; simp; done) | (refine Wk.eq ?_; congr 1 <;> omega)) (Env.wk_nil _))))) (by simp [txts, bld]) ?_
  rintro i hi
  refine vwp_reg tabOk [] [0, 6, 7, 8, 9] (by simp only [go_sem]; rfl) (by first | trivial | (simp; done) | (simp [in64]; omega)) ?_
  refine vwp_seq ?_
  refine vwp_cond (by simp only [go_sem]; rfl) (fun h0 => ?_) (fun h0 => ?_)
  · -- h0 then
    have h0' : i < l.length := by simp at h0; omega
    have ht := txts_take l (i) h0'
    have hle := txts_le l (i + 1)
    rw [ht, List.length_append] at hle
    have hgl : l.getD (i) [] = l[i] := getD_lt l _ [] h0'
    have hli : l[i].length ≤ (txt l[i]).length := txt_ge _
    have hlx : (txt l[i]).length = (num l[i].length).length + l[i].length := by rw [txt, List.length_append]
    rw [← hgl] at hle hli hlx
    refine vwp_skip ?_
    try simp only [thenQ, blockQ, jumpQ, stayQ]
    refine vwp_seq ?_
    refine vwp_block ?_
    refine vwp_reg tabOk [] [0, 5, 6, 7, 8] (by simp only [go_sem]; rfl) (by first | trivial | (simp; done) | (simp [in64]; omega)) ?_
    refine vwp_seq (vwp_region ?_)
    refine vops_go tabOk [] (by simp only [go_sem]; rfl) (by first | trivial | (simp; done) | (simp [in64]; omega)) ?_
    -- call 0: t15 = CALL 70(f70, t12, t14)
    refine vops_callH (hc := c_named_writer_number (s ++ txts (l.take i)) ((l.getD i []).length : Int) (by unfold in64; omega) (by simp only [List.length_append]; omega)) rfl rfl rfl b_named_writer_number [0, 1] [1] [1] rfl rfl rfl (by simp only [go_sem]; exact WkL.refl _) (by simp only [go_sem]) ?_
    rintro r0 H0 ⟨rfl, rfl⟩
    simp only [go_sem]
    refine vops_done [0, 5, 6, 7, 8] ?_
    simp only [go_sem, thenQ, blockQ, jumpQ, stayQ]
    refine vwp_region ?_
    refine vops_go tabOk [] (by simp only [go_sem]; rfl) (by first | trivial | (simp; done) | (simp [in64]; omega)) ?_
    -- call 1: t20 = CALL 97(f97, t18, t19)
    refine vops_callH (hc := c_strings_Builder_WriteString ((s ++ txts (l.take i)) ++ num (l.getD i []).length) (l.getD i []) (by simp only [List.length_append]; omega)) rfl rfl rfl b_strings_Builder_WriteString [0, 1] [1] [1] rfl rfl rfl (by simp only [go_sem]; exact WkL.refl _) (by simp only [go_sem]) ?_
    rintro r1 H1 ⟨rfl, rfl⟩
    simp only [go_sem]
    refine vops_done [0, 6, 7, 8] ?_
    simp only [go_sem, thenQ, blockQ, jumpQ, stayQ]
    try simp only [thenQ, blockQ, jumpQ, stayQ]
    refine vwp_reg1 tabOk [] [0, 6, 7, 8] (by simp only [go_sem]; rfl) (by first | trivial | (simp; done) | (simp [in64]; omega)) ?_
    try simp only [thenQ, blockQ, jumpQ, stayQ]
    -- round 0
    exact ⟨i + 1, by omega, by omega, Env.wk_cons (Wk.refl _) (Env.wk_cons (Wk.refl _) (Env.wk_cons (Wk.refl _) (Env.wk_cons (Wk.refl _) (Env.wk_nil _)))), by show _ = bld (.ptr 0 0) (s ++ txts (l.take (i + 1))); rw [txts_take l (i) h0', hgl, txt]; simp [bld]⟩
  · -- h0 else
    refine vwp_exit ?_
    simp only [thenQ, blockQ, jumpQ, stayQ, if_true, reduceIte, Nat.reduceEqDiff]
    -- result 0
    try simp only [thenQ, blockQ, jumpQ, stayQ, go_sem]
    refine ⟨by simp, _, _, rfl, by first | trivial | simp, ?_⟩
    have : i = l.length := by simp at h0; omega
    subst this; rw [List.take_length]; exact ⟨by simp only [go_sem], by simp [bld]⟩

/-! (*counterpane/named.writer).texts -/
set_option maxHeartbeats 4000000 in
theorem c_named_writer_texts0 (s : Str) (l : List Str) (h00 : l ≠ []) (hl : (txts l).length ≤ 1000000000) (hs : s.length ≤ 100000000000) : VCalls Go.Proofs.Tryz.prog G 68 [.ptr 0 0, .list 1 (l.map cS)] (bld .nilptr s) [1] (fun r H => r = .tuple [] ∧ H = bld (.ptr 0 0) (s ++ txts l)) := by
  refine vcalls_know fun hk hK => ?_
  simp only [factsL, facts, maxB, List.length_map] at hk
  have hl1 : 1 ≤ l.length := List.length_pos_iff.2 h00
  refine vcalls_of2 tabOk (rs := _) 2 Tryz.func68 rfl (by simp [Tryz.ntmps68]) rfl (by first | (simp; done) | exact Nat.le_refl _) ?_
  rw [Tryz.ntmps68]
  refine vwp_reg tabOk [] [0, 6, 7, 8] (by simp only [go_sem]; rfl) (by first | trivial | (simp; done) | (simp [in64]; omega)) ?_
  refine vwp_block ?_
  -- loop 0
  refine vwp_loopW (fun i : Nat => [(0, .ptr 0 0), (6, .list 1 (l.map cS)), (7, .int .i64 (l.length : Int)), (8, .int .i64 (i : Int))]) (fun i => (match i with | 0 => bld .nilptr s | j + 1 => bld (.ptr 0 0) (s ++ txts (l.take (j + 1))))) (fun i => i ≤ l.length) (fun i => l.length - i) 0 (Nat.zero_le _) (Env.wk_cons (by first | exact Wk.refl _ | exact Wk.nils _ | (refine Wk.eq ?_; simp; done) | (refine Wk.eq ?_; congr 1 <;> omega)) (Env.wk_cons (by first | exact Wk.refl _ | exact Wk.nils _ | (refine Wk.eq ?_; simp; done) | (refine Wk.eq ?_; congr 1 <;> omega)) (Env.wk_cons (by first | exact Wk.refl _ | exact Wk.nils _ | (refine Wk.eq ?_; simp; done) | (refine Wk.eq ?_; congr 1 <;> omega)) (Env.wk_cons (by first | exact Wk.refl _ | exact Wk.nils _ | (refine Wk.eq ?_; simp; done) | (refine Wk.eq ?_; congr 1 <;> omega)) (Env.wk_nil _))))) (by simp [bld]) ?_
  rintro i hi
  rcases i with _ | i
  · -- case 0
    refine vwp_reg tabOk [] [0, 6, 7, 8, 9] (by simp only [go_sem]; rfl) (by first | trivial | (simp; done) | (simp [in64]; omega)) ?_
    refine vwp_seq ?_
    refine vwp_cond (by simp only [go_sem]; rfl) (fun h0 => ?_) (fun h0 => ?_)
    · -- h0 then
      have h0' : 0 < l.length := by simp at h0; omega
      have ht := txts_take l (0) h0'
      have hle := txts_le l (0 + 1)
      rw [ht, List.length_append] at hle
      have hgl : l.getD (0) [] = l[0] := getD_lt l _ [] h0'
      have hli : l[0].length ≤ (txt l[0]).length := txt_ge _
      have hlx : (txt l[0]).length = (num l[0].length).length + l[0].length := by rw [txt, List.length_append]
      rw [← hgl] at hle hli hlx
      refine vwp_skip ?_
      try simp only [thenQ, blockQ, jumpQ, stayQ]
      refine vwp_seq ?_
      refine vwp_block ?_
      refine vwp_reg tabOk [] [0, 5, 6, 7, 8] (by simp only [go_sem]; rfl) (by first | trivial | (simp; done) | (simp [in64]; omega)) ?_
      refine vwp_seq (vwp_region ?_)
      refine vops_go tabOk [] (by simp only [go_sem]; rfl) (by first | trivial | (simp; done) | (simp [in64]; omega)) ?_
      -- call 0: t15 = CALL 70(f70, t12, t14)
      refine vops_callH (hc := c_named_writer_number0 s ((l.getD 0 []).length : Int) (by unfold in64; omega) (by first | omega | (simp only [List.length_append]; omega))) rfl rfl rfl b_named_writer_number [0, 1] [1] [1] rfl rfl rfl (by simp only [go_sem]; exact WkL.refl _) (by simp only [go_sem]) ?_
      rintro r0 H0 ⟨rfl, rfl⟩
      simp only [go_sem]
      refine vops_done [0, 5, 6, 7, 8] ?_
      simp only [go_sem, thenQ, blockQ, jumpQ, stayQ]
      refine vwp_region ?_
      refine vops_go tabOk [] (by simp only [go_sem]; rfl) (by first | trivial | (simp; done) | (simp [in64]; omega)) ?_
      -- call 1: t20 = CALL 97(f97, t18, t19)
      refine vops_callH (hc := c_strings_Builder_WriteString (s ++ num (l.getD 0 []).length) (l.getD 0 []) (by simp only [List.length_append]; omega)) rfl rfl rfl b_strings_Builder_WriteString [0, 1] [1] [1] rfl rfl rfl (by simp only [go_sem]; exact WkL.refl _) (by simp only [go_sem]) ?_
      rintro r1 H1 ⟨rfl, rfl⟩
      simp only [go_sem]
      refine vops_done [0, 6, 7, 8] ?_
      simp only [go_sem, thenQ, blockQ, jumpQ, stayQ]
      try simp only [thenQ, blockQ, jumpQ, stayQ]
      refine vwp_reg1 tabOk [] [0, 6, 7, 8] (by simp only [go_sem]; rfl) (by first | trivial | (simp; done) | (simp [in64]; omega)) ?_
      try simp only [thenQ, blockQ, jumpQ, stayQ]
      -- round 0
      exact ⟨0 + 1, by omega, by omega, Env.wk_cons (Wk.refl _) (Env.wk_cons (Wk.refl _) (Env.wk_cons (Wk.refl _) (Env.wk_cons (Wk.refl _) (Env.wk_nil _)))), by show _ = bld (.ptr 0 0) (s ++ txts (l.take (0 + 1))); rw [txts_take l (0) h0', hgl, txt]; simp [bld, txts]⟩
    · -- h0 else
      refine vwp_exit ?_
      simp only [thenQ, blockQ, jumpQ, stayQ, if_true, reduceIte, Nat.reduceEqDiff]
      -- result 0
      try simp only [thenQ, blockQ, jumpQ, stayQ, go_sem]
      refine ⟨by simp, _, _, rfl, by first | trivial | simp, ?_⟩
      exact absurd h0 (by simp; omega)
  · -- case 1
    refine vwp_reg tabOk [] [0, 6, 7, 8, 9] (by simp only [go_sem]; rfl) (by first | trivial | (simp; done) | (simp [in64]; omega)) ?_
    refine vwp_seq ?_
    refine vwp_cond (by simp only [go_sem]; rfl) (fun h1 => ?_) (fun h1 => ?_)
    · -- h1 then
      have h0' : (i + 1) < l.length := by simp at h1; omega
      have ht := txts_take l ((i + 1)) h0'
      have hle := txts_le l ((i + 1) + 1)
      rw [ht, List.length_append] at hle
      have hgl : l.getD ((i + 1)) [] = l[(i + 1)] := getD_lt l _ [] h0'
      have hli : l[(i + 1)].length ≤ (txt l[(i + 1)]).length := txt_ge _
      have hlx : (txt l[(i + 1)]).length = (num l[(i + 1)].length).length + l[(i + 1)].length := by rw [txt, List.length_append]
      rw [← hgl] at hle hli hlx
      refine vwp_skip ?_
      try simp only [thenQ, blockQ, jumpQ, stayQ]
      refine vwp_seq ?_
      refine vwp_block ?_
      refine vwp_reg tabOk [] [0, 5, 6, 7, 8] (by simp only [go_sem]; rfl) (by first | trivial | (simp; done) | (simp [in64]; omega)) ?_
      refine vwp_seq (vwp_region ?_)
      refine vops_go tabOk [] (by simp only [go_sem]; rfl) (by first | trivial | (simp; done) | (simp [in64]; omega)) ?_
      -- call 2: t15 = CALL 70(f70, t12, t14)
      refine vops_callH (hc := c_named_writer_number (s ++ txts (l.take (i + 1))) ((l.getD (i + 1) []).length : Int) (by unfold in64; omega) (by first | omega | (simp only [List.length_append]; omega))) rfl rfl rfl b_named_writer_number [0, 1] [1] [1] rfl rfl rfl (by simp only [go_sem]; exact WkL.refl _) (by simp only [go_sem]) ?_
      rintro r2 H2 ⟨rfl, rfl⟩
      simp only [go_sem]
      refine vops_done [0, 5, 6, 7, 8] ?_
      simp only [go_sem, thenQ, blockQ, jumpQ, stayQ]
      refine vwp_region ?_
      refine vops_go tabOk [] (by simp only [go_sem]; rfl) (by first | trivial | (simp; done) | (simp [in64]; omega)) ?_
      -- call 3: t20 = CALL 97(f97, t18, t19)
      refine vops_callH (hc := c_strings_Builder_WriteString ((s ++ txts (l.take (i + 1))) ++ num (l.getD (i + 1) []).length) (l.getD (i + 1) []) (by simp only [List.length_append]; omega)) rfl rfl rfl b_strings_Builder_WriteString [0, 1] [1] [1] rfl rfl rfl (by simp only [go_sem]; exact WkL.refl _) (by simp only [go_sem]) ?_
      rintro r3 H3 ⟨rfl, rfl⟩
      simp only [go_sem]
      refine vops_done [0, 6, 7, 8] ?_
      simp only [go_sem, thenQ, blockQ, jumpQ, stayQ]
      try simp only [thenQ, blockQ, jumpQ, stayQ]
      refine vwp_reg1 tabOk [] [0, 6, 7, 8] (by simp only [go_sem]; rfl) (by first | trivial | (simp; done) | (simp [in64]; omega)) ?_
      try simp only [thenQ, blockQ, jumpQ, stayQ]
      -- round 1
      exact ⟨(i + 1) + 1, by omega, by omega, Env.wk_cons (Wk.refl _) (Env.wk_cons (Wk.refl _) (Env.wk_cons (Wk.refl _) (Env.wk_cons (Wk.refl _) (Env.wk_nil _)))), by show _ = bld (.ptr 0 0) (s ++ txts (l.take ((i + 1) + 1))); rw [txts_take l ((i + 1)) h0', hgl, txt]; simp [bld]⟩
    · -- h1 else
      refine vwp_exit ?_
      simp only [thenQ, blockQ, jumpQ, stayQ, if_true, reduceIte, Nat.reduceEqDiff]
      -- result 1
      try simp only [thenQ, blockQ, jumpQ, stayQ, go_sem]
      refine ⟨by simp, _, _, rfl, by first | trivial | simp, ?_⟩
      have : i + 1 = l.length := by simp at h1; omega
      rw [this, List.take_length]; exact ⟨by simp only [go_sem], by simp [bld]⟩
end Go.Proofs.YtldfghgjllaljaaGreatDoor.Q
end

section
/- Walks of the program's own writing and reading of patches (the package 'named'), in the logic 'Q'. -/
set_option linter.unusedVariables false
set_option linter.unusedSimpArgs false
set_option maxRecDepth 100000
namespace Go.Proofs.YtldfghgjllaljaaGreatDoor.Q
open Go Go.Q
/-- One quiet operation, by itself. -/
theorem vops_quiet1 {p : Par} {T : Tab} {env : Env} {H : List Q.Obj} {Q : Post} {ops : Array Oper} (hT : T.Ok p.P) {o : Oper} {rest : List Oper} {v : V} {O : Prop} (hg : vguard ops env o = some true) (hd : dstOk p.n o.dst = true) (hv : vop T H true env o.op = some (v, O)) (hO : O)
    (h : VOps p ops rest Q (putE o.dst (wrapg o true v) env) H) : VOps p ops (o :: rest) Q env H := by
  intro E F ρ a w st
  have hw := vguard_ok st hg
  simp only [wpList]
  rw [if_pos hw]
  left
  obtain ⟨mv, hr, hrel⟩ := vop_run hT st rfl hv hO
  simp only [Oper.wp, hr, Oper.upon_value]
  exact h E F ρ _ w (st.putO hd (wrapg_rel hrel))

theorem patchEnc_ne (x : Patch) : patchEnc x ≠ [] := by
  intro h
  have := congrArg List.length h
  rw [patchEnc, num] at this
  simp only [List.length_append, List.length_cons, List.length_nil] at this
  omega

/-! (*counterpane/named.writer).list -/
theorem b_named_writer_list : bodied Go.Proofs.Tryz.prog 69 = true := by rw [bodied, Tryz.func69]; rfl
theorem c_named_writer_list (s : Str) (l : List Str) (hl : (lst l).length ≤ 1000000000) (hs : s.length ≤ 90000000000) : VCalls Go.Proofs.Tryz.prog G 69 [.ptr 0 0, .list 1 (l.map cS)] (bld (.ptr 0 0) s) [1] (fun r H => r = .tuple [] ∧ H = bld (.ptr 0 0) (s ++ lst l)) := by
  refine vcalls_know fun hk hK => ?_
  simp only [factsL, facts, maxB, List.length_map] at hk
  rw [lst, List.length_append] at hl
  refine vcalls_of2 tabOk (rs := _) 2 Tryz.func69 rfl (by simp [Tryz.ntmps69]) rfl (by first | (simp; done) | exact Nat.le_refl _) ?_
  rw [Tryz.ntmps69]
  refine vwp_seq (vwp_region ?_)
  refine vops_go tabOk [] (by simp only [go_sem]; rfl) (by first | trivial | (simp; done) | (simp [in64]; omega)) ?_
  -- call 0: t7 = CALL 70(f70, t4, t6)
  refine vops_callH (hc := c_named_writer_number s (l.length : Int) (by unfold in64; omega) (by omega)) rfl rfl rfl b_named_writer_number [0, 1] [1] [1] rfl rfl rfl (by simp only [go_sem]; exact WkL.refl _) (by simp only [go_sem]) ?_
  rintro r0 H0 ⟨rfl, rfl⟩
  simp only [go_sem]
  refine vops_done [0, 1] ?_
  simp only [go_sem, thenQ, blockQ, jumpQ, stayQ]
  refine vwp_region ?_
  refine vops_go tabOk [] (by simp only [go_sem]; rfl) (by first | trivial | (simp; done) | (simp [in64]; omega)) ?_
  -- call 1: t10 = CALL 68(f68, t8, t9)
  refine vops_callH (hc := c_named_writer_texts (s ++ num l.length) l (by omega) (by simp only [List.length_append]; omega)) rfl rfl rfl b_named_writer_texts [0, 1] [1] [1] rfl rfl rfl (by simp only [go_sem]; exact WkL.refl _) (by simp only [go_sem]) ?_
  rintro r1 H1 ⟨rfl, rfl⟩
  simp only [go_sem]
  refine vops_done [] ?_
  simp only [go_sem, thenQ, blockQ, jumpQ, stayQ]
  try simp only [thenQ, blockQ, jumpQ, stayQ]
  -- result 0
  try simp only [thenQ, blockQ, jumpQ, stayQ, go_sem]
  refine ⟨by simp, _, _, rfl, by first | trivial | simp, ?_⟩
  exact ⟨by simp only [go_sem], by simp [bld, lst]⟩

/-! counterpane/named.Put -/
theorem b_named_Put : bodied Go.Proofs.Tryz.prog 46 = true := by rw [bodied, Tryz.func46]; rfl
set_option maxHeartbeats 40000000 in
theorem c_named_Put (x : Patch) (h : (patchEnc x).length ≤ 1000000000) : VPure Go.Proofs.Tryz.prog G 46 [.agg (cPatch x)] (.tuple [.list 1 ((putPatch x).1.map encB), .int .i64 (putPatch x).2]) := by
  refine vpure_know fun hk => ?_
  simp only [factsL, facts, cPatch, maxB, List.length_map] at hk
  have hB := h
  rw [patchEnc, List.length_append, List.length_append, List.length_append] at hB
  have hn := txt_ge x.name
  refine vpure_of (ts := [2, 3]) Tryz.func46 rfl (by simp [Tryz.ntmps46]) rfl rfl ?_
  rw [Tryz.ntmps46]
  refine vwp_reg tabOk [] [1] (by simp only [go_sem]; rfl) (by first | trivial | (simp; done) | (simp [in64]; omega)) ?_
  refine vwp_seq ?_
  refine vwp_seq (vwp_region ?_)
  refine vops_go tabOk [] (by simp only [go_sem]; rfl) (by first | trivial | (simp; done) | (simp [in64]; omega)) ?_
  -- call 0: t8 = CALL 67(f67, t7)
  refine vops_call (hc := fun _ => c_named_Right x) rfl (by simp only [go_sem]; rfl) rfl b_named_Right (by simp only [go_sem]; exact WkL.refl _) rfl (fun hg => by simp only [go_sem]; try (intros; first | assumption | trivial | simp_all)) ?_
  simp only [go_sem]
  refine vops_go tabOk [] (by simp only [go_sem]; rfl) (by first | trivial | (simp; done) | (simp [in64]; omega)) ?_
  refine vops_done [1, 9] ?_
  simp only [go_sem, thenQ, blockQ, jumpQ, stayQ]
  refine vwp_cond (by simp only [go_sem]; rfl) (fun h0 => ?_) (fun h0 => ?_)
  · -- h0 then
    refine vwp_reg tabOk [] [2, 3] (by simp only [go_sem]; rfl) (by first | trivial | (simp; done) | (simp [in64]; omega)) ?_
    refine vwp_ret ?_
    -- result 0
    simp only [thenQ, blockQ, jumpQ, stayQ, RetQ, go_sem]
    refine ⟨by simp, ?_⟩
    rw [show putPatch x = ([], 1) from by rw [putPatch, if_neg (by simpa using h0)]]
    exact Wk.tuple ⟨Wk.nils _, Wk.refl _, trivial⟩
  · -- h0 else
    refine vwp_skip ?_
    try simp only [thenQ, blockQ, jumpQ, stayQ]
    refine vwp_seq (vwp_region ?_)
    -- t10 = build() :102
    refine vops_quiet1 tabOk (by rfl) (by rfl) (by simp only [go_sem]; rfl) (by first | trivial | simp) ?_
    simp only [go_sem]
    -- t11 = box(t10) :102
    refine vops_step1 (step_boxT (cs := [.nilptr, .nils]) rfl (by simp only [go_sem])) rfl (by rfl) ?_
    simp only [go_sem]
    refine vops_go tabOk [] (by simp only [go_sem]; rfl) (by first | trivial | (simp; done) | (simp [in64]; omega)) ?_
    refine vops_done [1, 4] ?_
    simp only [go_sem, thenQ, blockQ, jumpQ, stayQ]
    refine vwp_ownCell 1 1 5 1 _ rfl rfl ?_
    simp only [go_sem]
    refine vwp_seq (vwp_region ?_)
    refine vops_go tabOk [] (by simp only [go_sem]; rfl) (by first | trivial | (simp; done) | (simp [in64]; omega)) ?_
    -- call 1: t16 = CALL 68(f68, t12, t15)
    refine vops_callH (hc := c_named_writer_texts0 [] [x.name] (by simp) (by simp [txts]; omega) (by simp)) rfl rfl rfl b_named_writer_texts [1, 2] [1] [2] rfl rfl rfl (by simp only [go_sem]; exact WkL.refl _) (by simp only [go_sem]) ?_
    rintro r1 H1 ⟨rfl, rfl⟩
    simp only [go_sem]
    refine vops_done [1, 4] ?_
    simp only [go_sem, thenQ, blockQ, jumpQ, stayQ]
    refine vwp_seq (vwp_region ?_)
    refine vops_go tabOk [] (by simp only [go_sem]; rfl) (by first | trivial | (simp; done) | (simp [in64]; omega)) ?_
    -- call 2: t20 = CALL 69(f69, t17, t19)
    refine vops_callH (hc := c_named_writer_list (txts [x.name]) x.deps (by omega) (by simp [txts]; omega)) rfl rfl rfl b_named_writer_list [1, 2] [1] [2] rfl rfl rfl (by simp only [go_sem]; exact WkL.refl _) (by simp only [go_sem]) ?_
    rintro r2 H2 ⟨rfl, rfl⟩
    simp only [go_sem]
    refine vops_done [1, 4] ?_
    simp only [go_sem, thenQ, blockQ, jumpQ, stayQ]
    refine vwp_seq (vwp_region ?_)
    refine vops_go tabOk [] (by simp only [go_sem]; rfl) (by first | trivial | (simp; done) | (simp [in64]; omega)) ?_
    -- call 3: t25 = CALL 70(f70, t21, t24)
    refine vops_callH (hc := c_named_writer_number (txts [x.name] ++ lst x.deps) x.body.length (by simp [in64]; omega) (by simp [txts]; omega)) rfl rfl rfl b_named_writer_number [1, 2] [1] [2] rfl rfl rfl (by simp only [go_sem]; exact WkL.refl _) (by simp only [go_sem]) ?_
    rintro r3 H3 ⟨rfl, rfl⟩
    simp only [go_sem]
    refine vops_done [1, 4] ?_
    simp only [go_sem, thenQ, blockQ, jumpQ, stayQ]
    refine vwp_seq ?_
    refine vwp_reg tabOk [] [4, 27, 28, 29] (by simp only [go_sem]; rfl) (by first | trivial | (simp; done) | (simp [in64]; omega)) ?_
    refine vwp_block ?_
    -- loop 0
    refine vwp_loopW (fun i : Nat => [(4, .ptr 1 0), (27, .list 7 (x.body.map cPrim)), (28, .int .i64 (x.body.length : Int)), (29, .int .i64 (i : Int))]) (fun i => [.box (cPatch x), .box [.ptr 1 0, .arr 2 (txt x.name ++ lst x.deps ++ num x.body.length ++ prims (x.body.take i)).length] (some 102), .arr 5 1 ((txt x.name ++ lst x.deps ++ num x.body.length ++ prims (x.body.take i)).map encB)]) (fun i => i ≤ x.body.length) (fun i => x.body.length - i) 0 (Nat.zero_le _) (Env.wk_cons (by first | exact Wk.refl _ | exact Wk.nils _ | (refine Wk.eq ?_; simp; done) | (refine Wk.eq ?_; congr 1 <;> omega)) (Env.wk_cons (by first | exact Wk.refl _ | exact Wk.nils _ | (refine Wk.eq ?_; simp; done) | (refine Wk.eq ?_; congr 1 <;> omega)) (Env.wk_cons (by first | exact Wk.refl _ | exact Wk.nils _ | (refine Wk.eq ?_; simp; done) | (refine Wk.eq ?_; congr 1 <;> omega)) (Env.wk_cons (by first | exact Wk.refl _ | exact Wk.nils _ | (refine Wk.eq ?_; simp; done) | (refine Wk.eq ?_; congr 1 <;> omega)) (Env.wk_nil _))))) (by simp [prims, cPatch, txts]) ?_
    rintro i hi
    refine vwp_reg tabOk [] [4, 27, 28, 29, 30] (by simp only [go_sem]; rfl) (by first | trivial | (simp; done) | (simp [in64]; omega)) ?_
    refine vwp_seq ?_
    refine vwp_cond (by simp only [go_sem]; rfl) (fun h1 => ?_) (fun h1 => ?_)
    · -- h1 then
      have h1' : i < x.body.length := by simp at h1; omega
      have hb := primB_bounds (patchB_prim (by simpa using h0) i h1')
      have hle := prims_le x.body (i + 1)
      rw [prims_take x.body i h1', List.length_append] at hle
      have he : (primEnc x.body[i]).length = (primEnc x.body[i]).length := rfl
      conv at he => rhs; rw [primEnc]
      simp only [List.length_append] at he
      have g1 := txt_ge x.body[i].path
      have g2 := txt_ge x.body[i].to
      have g3 := txt_ge x.body[i].frm
      have g4 : (txts [x.body[i].path, x.body[i].to, x.body[i].frm]).length = (txt x.body[i].path).length + (txt x.body[i].to).length + (txt x.body[i].frm).length := by simp [txts, Nat.add_assoc]
      refine vwp_skip ?_
      try simp only [thenQ, blockQ, jumpQ, stayQ]
      refine vwp_seq ?_
      refine vwp_block ?_
      refine vwp_reg tabOk [] [4, 6, 27, 28, 29] (by simp only [go_sem, getD_map, h1']; rfl) (by first | trivial | (simp [h1']; done) | (simp [h1']; omega)) ?_
      refine vwp_seq (vwp_region ?_)
      refine vops_go tabOk [] (by simp only [go_sem]; rfl) (by first | trivial | (simp; done) | (simp [in64]; omega)) ?_
      -- call 4: t36 = CALL 70(f70, t33, t35)
      refine vops_callH (hc := c_named_writer_number (txt x.name ++ lst x.deps ++ num x.body.length ++ prims (x.body.take i)) x.body[i].kind hb.1 (by simp only [List.length_append]; omega)) rfl rfl rfl b_named_writer_number [1, 2] [1] [2] rfl rfl rfl (by simp only [go_sem]; exact WkL.refl _) (by simp only [go_sem]) ?_
      rintro r4 H4 ⟨rfl, rfl⟩
      simp only [go_sem]
      refine vops_done [4, 6, 27, 28, 29] ?_
      simp only [go_sem, thenQ, blockQ, jumpQ, stayQ]
      refine vwp_seq (vwp_region ?_)
      refine vops_go tabOk [] (by simp only [go_sem]; rfl) (by first | trivial | (simp; done) | (simp [in64]; omega)) ?_
      -- call 5: t45 = CALL 68(f68, t37, t44)
      refine vops_callH (hc := c_named_writer_texts ((txt x.name ++ lst x.deps ++ num x.body.length ++ prims (x.body.take i)) ++ num x.body[i].kind) [x.body[i].path, x.body[i].to, x.body[i].frm] (by simp [txts]; omega) (by simp only [List.length_append]; omega)) rfl rfl rfl b_named_writer_texts [1, 2] [1] [2] rfl rfl rfl (by simp only [go_sem]; exact WkL.refl _) (by simp only [go_sem]) ?_
      rintro r5 H5 ⟨rfl, rfl⟩
      simp only [go_sem]
      refine vops_done [4, 6, 27, 28, 29] ?_
      simp only [go_sem, thenQ, blockQ, jumpQ, stayQ]
      refine vwp_seq (vwp_region ?_)
      refine vops_go tabOk [] (by simp only [go_sem]; rfl) (by first | trivial | (simp; done) | (simp [in64]; omega)) ?_
      -- call 6: t49 = CALL 70(f70, t46, t48)
      refine vops_callH (hc := c_named_writer_number (((txt x.name ++ lst x.deps ++ num x.body.length ++ prims (x.body.take i)) ++ num x.body[i].kind) ++ txts [x.body[i].path, x.body[i].to, x.body[i].frm]) x.body[i].at_ hb.2 (by simp only [List.length_append]; omega)) rfl rfl rfl b_named_writer_number [1, 2] [1] [2] rfl rfl rfl (by simp only [go_sem]; exact WkL.refl _) (by simp only [go_sem]) ?_
      rintro r6 H6 ⟨rfl, rfl⟩
      simp only [go_sem]
      refine vops_done [4, 6, 27, 28, 29] ?_
      simp only [go_sem, thenQ, blockQ, jumpQ, stayQ]
      refine vwp_seq (vwp_region ?_)
      refine vops_go tabOk [] (by simp only [go_sem]; rfl) (by first | trivial | (simp; done) | (simp [in64]; omega)) ?_
      -- call 7: t53 = CALL 69(f69, t50, t52)
      refine vops_callH (hc := c_named_writer_list ((((txt x.name ++ lst x.deps ++ num x.body.length ++ prims (x.body.take i)) ++ num x.body[i].kind) ++ txts [x.body[i].path, x.body[i].to, x.body[i].frm]) ++ num x.body[i].at_) x.body[i].old (by omega) (by simp only [List.length_append]; omega)) rfl rfl rfl b_named_writer_list [1, 2] [1] [2] rfl rfl rfl (by simp only [go_sem]; exact WkL.refl _) (by simp only [go_sem]) ?_
      rintro r7 H7 ⟨rfl, rfl⟩
      simp only [go_sem]
      refine vops_done [4, 6, 27, 28, 29] ?_
      simp only [go_sem, thenQ, blockQ, jumpQ, stayQ]
      refine vwp_region ?_
      refine vops_go tabOk [] (by simp only [go_sem]; rfl) (by first | trivial | (simp; done) | (simp [in64]; omega)) ?_
      -- call 8: t57 = CALL 69(f69, t54, t56)
      refine vops_callH (hc := c_named_writer_list (((((txt x.name ++ lst x.deps ++ num x.body.length ++ prims (x.body.take i)) ++ num x.body[i].kind) ++ txts [x.body[i].path, x.body[i].to, x.body[i].frm]) ++ num x.body[i].at_) ++ lst x.body[i].old) x.body[i].new (by omega) (by simp only [List.length_append]; omega)) rfl rfl rfl b_named_writer_list [1, 2] [1] [2] rfl rfl rfl (by simp only [go_sem]; exact WkL.refl _) (by simp only [go_sem]) ?_
      rintro r8 H8 ⟨rfl, rfl⟩
      simp only [go_sem]
      refine vops_done [4, 27, 28, 29] ?_
      simp only [go_sem, thenQ, blockQ, jumpQ, stayQ]
      try simp only [thenQ, blockQ, jumpQ, stayQ]
      refine vwp_trim 3 (by simp) (by simp) ?_
      simp only [go_sem]
      refine vwp_reg1 tabOk [] [4, 27, 28, 29] (by simp only [go_sem]; rfl) (by first | trivial | (simp; done) | (simp [in64]; omega)) ?_
      try simp only [thenQ, blockQ, jumpQ, stayQ]
      -- round 0
      exact ⟨i + 1, by omega, by omega, Env.wk_cons (Wk.refl _) (Env.wk_cons (Wk.refl _) (Env.wk_cons (Wk.refl _) (Env.wk_cons (Wk.refl _) (Env.wk_nil _)))), by rw [prims_take x.body i h1', primEnc]; simp [cPatch, txts]⟩
    · -- h1 else
      refine vwp_exit ?_
      simp only [thenQ, blockQ, jumpQ, stayQ, if_true, reduceIte, Nat.reduceEqDiff]
      have e1 : i = x.body.length := by simp at h1; omega
      rw [show (txt x.name ++ lst x.deps ++ num x.body.length ++ prims (x.body.take i)) = patchEnc x from by rw [e1, List.take_length, patchEnc]]
      refine vwp_seq (vwp_region ?_)
      refine vops_go tabOk [] (by simp only [go_sem]; rfl) (by first | trivial | (simp; done) | (simp [in64]; omega)) ?_
      -- call 9: t62 = CALL 71(f71, t61)
      refine vops_callH (hc := c_strings_Builder_String (.ptr 0 0) (patchEnc x) (patchEnc_ne x) (by unfold maxB; omega)) rfl rfl rfl b_strings_Builder_String [1, 2] [] [2] rfl rfl rfl (by simp only [go_sem]; exact WkL.refl _) (by simp only [go_sem]) ?_
      rintro r9 H9 ⟨rfl, rfl⟩
      simp only [go_sem]
      refine vops_go tabOk [] (by simp only [go_sem]; rfl) (by first | trivial | (simp; done) | (simp [in64]; omega)) ?_
      refine vops_done [2, 3] ?_
      simp only [go_sem, thenQ, blockQ, jumpQ, stayQ]
      refine vwp_ret ?_
      -- result 1
      simp only [thenQ, blockQ, jumpQ, stayQ, RetQ, go_sem]
      refine ⟨by simp, ?_⟩
      rw [show putPatch x = (patchEnc x, 0) from by rw [putPatch, if_pos (by simpa using h0)]]
      exact Wk.refl _
end Go.Proofs.YtldfghgjllaljaaGreatDoor.Q
end

section
/- Plain laws of reading numbers by a cut at the colon. -/
set_option linter.unusedVariables false
set_option linter.unusedSimpArgs false
namespace Go.Proofs.YtldfghgjllaljaaGreatDoor.Q
open Go Go.Q

/-- The place of the first colon. -/
def posC (b : Str) : Nat := (b.takeWhile (· != 58)).length
theorem posC_le (b : Str) : posC b ≤ b.length := (List.takeWhile_sublist _).length_le
theorem posC_cons (c : UInt8) (b : Str) : posC (c :: b) = if c = 58 then 0 else posC b + 1 := by
  unfold posC; rw [List.takeWhile_cons]
  by_cases h : c = 58 <;> simp [h]
theorem index_colon : ∀ (b : Str), Lib.index b [58] = if posC b < b.length then (posC b : Int) else -1
  | [] => by simp [Lib.index, posC]
  | c :: b => by
    have ih := index_colon b
    rw [Lib.index, posC_cons, ih]
    by_cases h : c = 58
    · subst h; simp [List.isPrefixOf]
    · have : ([58] : Str).isPrefixOf (c :: b) = false := by simp [List.isPrefixOf]; exact fun e => h e.symm
      rw [this, if_neg h]
      by_cases h2 : posC b < b.length
      · have h3 : ((posC b : Int) == -1) = false := by rw [beq_eq_false_iff_ne]; omega
        simp [h2, h3]
      · simp [h2]
theorem cut_colon (b : Str) : Lib.cut b [58] = if posC b < b.length then (b.take (posC b), b.drop (posC b + 1), true) else (b, [], false) := by
  unfold Lib.cut
  rw [index_colon]
  by_cases h : posC b < b.length
  · simp [h]
  · simp [h]
theorem lead_posC : ∀ (b : Str), lead b ≤ posC b
  | [] => Nat.le_refl _
  | c :: b => by
    have := lead_posC b
    rw [posC_cons]
    unfold lead at this ⊢
    rw [List.takeWhile_cons]
    cases hd : isD c with
    | false => simp
    | true =>
      have : c ≠ 58 := by rintro rfl; simp [isD] at hd
      simp [this]; omega
theorem posC_at : ∀ (b : Str), posC b < b.length → b.getD (posC b) 0 = 58
  | [], h => by simp at h
  | c :: b, h => by
    rw [posC_cons] at h ⊢
    by_cases hc : c = 58
    · simp [hc]
    · rw [if_neg hc] at h ⊢
      have := posC_at b (by simpa using h)
      simpa using this
theorem posC_min : ∀ (b : Str) (i : Nat), i < b.length → b.getD i 0 = 58 → posC b ≤ i
  | [], i, h, _ => by simp at h
  | c :: b, 0, h, h58 => by simp at h58; rw [posC_cons, if_pos h58]; exact Nat.le_refl _
  | c :: b, i + 1, h, h58 => by
    rw [posC_cons]
    split
    · omega
    · have := posC_min b i (by simpa using h) (by simpa using h58); omega
theorem numOk_cut (b : Str) (bad : Bool) : numOk b bad = true ↔ bad = false ∧ (Lib.cut b [58]).2.2 = true ∧ 1 ≤ (Lib.cut b [58]).1.length ∧ (Lib.cut b [58]).1.length ≤ 11 ∧ (Lib.cut b [58]).1.all isD = true ∧ ¬ (1 < (Lib.cut b [58]).1.length ∧ (Lib.cut b [58]).1.getD 0 0 = 48) := by
  rw [cut_colon]
  have h1 := lead_posC b
  have h2 := posC_le b
  constructor
  · intro h
    simp only [numOk, Bool.and_eq_true, Bool.not_eq_true', decide_eq_true_eq] at h
    obtain ⟨hb, h3, h4, h5, h6, h7⟩ := h
    have h8 : posC b = lead b := Nat.le_antisymm (posC_min b _ h5 h6) h1
    rw [if_pos (by omega)]
    refine ⟨hb, rfl, ?_, ?_, ?_, ?_⟩
    · simp only [List.length_take]; omega
    · simp only [List.length_take]; omega
    · simp only []; rw [h8]; exact lead_all b
    · simp only [List.length_take]
      intro h9
      refine h7 ⟨by omega, ?_⟩
      have := h9.2
      rw [List.getD_eq_getElem?_getD, List.getElem?_take, if_pos (by omega)] at this
      rw [List.getD_eq_getElem?_getD]; exact this
  · rintro ⟨hb, h3, h4, h5, h6, h7⟩
    by_cases hp : posC b < b.length
    · rw [if_pos hp] at h3 h4 h5 h6 h7
      simp only [List.length_take] at h4 h5 h6 h7
      have h8 : lead b = posC b := Nat.le_antisymm h1 (lead_ge b _ h2 h6)
      simp only [numOk, Bool.and_eq_true, Bool.not_eq_true', decide_eq_true_eq]
      refine ⟨hb, by omega, by omega, by omega, by rw [h8]; exact posC_at b hp, fun h9 => h7 ⟨by omega, ?_⟩⟩
      rw [List.getD_eq_getElem?_getD, List.getElem?_take, if_pos (by omega), ← List.getD_eq_getElem?_getD]; exact h9.2
    · rw [if_neg hp] at h3; exact absurd h3 (by simp)
theorem rdNum_cut (x : Rd) (h : numOk x.b x.bad = true) : rdNum x = (numOf (Lib.cut x.b [58]).1, ⟨(Lib.cut x.b [58]).2.1, false⟩) := by
  rw [rdNum, h, cut_colon]
  simp only [numOk, Bool.and_eq_true, Bool.not_eq_true', decide_eq_true_eq] at h
  obtain ⟨hb, h3, h4, h5, h6, h7⟩ := h
  have h8 : posC x.b = lead x.b := Nat.le_antisymm (posC_min x.b _ h5 h6) (lead_posC x.b)
  rw [h8, if_pos h5]; rfl
theorem rdNum_no (x : Rd) (h : numOk x.b x.bad = false) : rdNum x = (0, ⟨x.b, true⟩) := by rw [rdNum, h]; rfl
theorem rdLst_le (r : Rd) (hb : r.b.length ≤ 1000000000) : (rdLst r).2.b.length ≤ r.b.length := (rdLst_len r hb).2
end Go.Proofs.YtldfghgjllaljaaGreatDoor.Q
end

section
/- Walks of the program's own reading of patches (the package 'named'), in the logic 'Q'. -/
set_option linter.unusedVariables false
set_option linter.unusedSimpArgs false
set_option maxRecDepth 100000
namespace Go.Proofs.YtldfghgjllaljaaGreatDoor.Q
open Go Go.Q
theorem cut_cond (f : Bool) (h : Str) : (bif bif bif !f then true else decide (h = []) then true else decide ((11 : Int) < (h.length : Int)) then true else bif decide ((1 : Int) < (h.length : Int)) then decide (((h.getD 0 0).toNat : Int) = 48) else false) = false ↔ f = true ∧ 1 ≤ h.length ∧ h.length ≤ 11 ∧ ¬ (1 < h.length ∧ h.getD 0 0 = 48) := by
  cases f with
  | false => simp
  | true =>
    cases h with
    | nil => simp
    | cons c h =>
      simp [u8_48]
      have e1 : ((h.length : Int) + 1 ≤ 11) ↔ h.length ≤ 10 := by omega
      have e2 : ((1 : Int) < (h.length : Int) + 1) ↔ 0 < h.length := by omega
      rw [e1, e2]
theorem num_no (x : Rd) (h : numOk x.b x.bad = true → False) : numOk x.b x.bad = false := by
  cases hn : numOk x.b x.bad with
  | false => rfl
  | true => exact (h hn).elim

/-! (*counterpane/named.reader).number -/
theorem b_named_reader_number : bodied Go.Proofs.Tryz.prog 103 = true := by rw [bodied, Tryz.func103]; rfl
theorem c_named_reader_number (x : Rd) (hx : x.b.length ≤ 1000000000) : VCalls Go.Proofs.Tryz.prog G 103 [.ptr 0 0] [.box (cRd x)] [] (fun r H => r = .int .i64 ((rdNum x).1 : Int) ∧ H = [.box (cRd (rdNum x).2)]) := by
  refine vcalls_know fun hk hK => ?_
  simp only [List.mem_singleton, forall_eq, factsO, cRd, factsL, facts, maxB] at hK
  have hcl := cut_len x.b [58]
  refine vcalls_of2 tabOk (rs := _) 1 Tryz.func103 rfl (by simp [Tryz.ntmps103]) rfl (by first | (simp; done) | exact Nat.le_refl _) ?_
  rw [Tryz.ntmps103]
  refine vwp_reg tabOk [] [0] (by simp only [go_sem]; rfl) (by first | trivial | (simp; done) | (simp [in64]; omega)) ?_
  refine vwp_scope1 0 (fun env H => Env.wk [(0, .ptr 0 0)] env ∧ H = [.box (cRd x)] ∧ numOk x.b x.bad = false) rfl ?_ ?_
  · -- up to the label
    refine vwp_seq (vwp_region ?_)
    refine vops_go tabOk [] (by simp only [go_sem]; rfl) (by first | trivial | (simp; done) | (simp [in64]; omega)) ?_
    -- call 0: t14 = CALL 125(f125, t13, str[58])
    refine vops_call (hc := fun _ => c_Cut x.b [58] (by omega)) rfl (by simp only [go_sem]; rfl) rfl b_strings_Cut (by simp only [go_sem]; exact WkL.refl _) rfl (fun hg => by simp only [go_sem]; try (intros; first | assumption | trivial | simp_all)) ?_
    simp only [go_sem]
    refine vops_go tabOk [] (by simp only [go_sem]; rfl) (by first | trivial | (simp; done) | (simp [in64]; omega)) ?_
    refine vops_done [0, 3, 4, 5] ?_
    simp only [go_sem, thenQ, blockQ, jumpQ, stayQ]
    refine vwp_reg tabOk [] [0, 3, 4, 5, 6] (by simp only [go_sem]; rfl) (by first | trivial | (simp; done) | (simp [in64]; omega)) ?_
    refine vwp_seq ?_
    refine vwp_reg tabOk [] [0, 3, 4, 6, 38] (by simp only [go_sem]; rfl) (by first | trivial | (simp; done) | (simp [in64]; omega)) ?_
    refine vwp_cond (by simp only [go_sem]; rfl) (fun h0 => ?_) (fun h0 => ?_)
    · -- h0 then
      have hno : numOk x.b x.bad = false := num_no x fun hn => by
        obtain ⟨hb, e1, e2, e3, e4, e5⟩ := (numOk_cut x.b x.bad).1 hn
        rw [(cut_cond _ _).2 ⟨e1, e2, e3, e5⟩] at h0
        exact absurd h0 (by decide)
      refine vwp_goto ?_
      simp only [thenQ, blockQ, jumpQ, true_and]
      exact ⟨Env.wk_cons2 (by simp only [go_sem]; exact Wk.refl _) (Env.wk_nil _), hno⟩
    · -- h0 else
      have h0q := (cut_cond _ _).1 h0
      refine vwp_skip ?_
      try simp only [thenQ, blockQ, jumpQ, stayQ]
      refine vwp_seq ?_
      refine vwp_reg tabOk [] [0, 4, 6, 40, 41, 42] (by simp only [go_sem]; rfl) (by first | trivial | (simp; done) | (simp [in64]; omega)) ?_
      refine vwp_block ?_
      -- loop 0
      refine vwp_loopW (fun i : Nat => [(0, .ptr 0 0), (4, .str (Lib.cut x.b [58]).2.1), (6, .int .i64 (numOf ((Lib.cut x.b [58]).1.take i) : Int)), (40, .list 1 ((Lib.cut x.b [58]).1.map encB)), (41, .int .i64 ((Lib.cut x.b [58]).1.length : Int)), (42, .int .i64 (i : Int))]) (fun i => [.box (cRd x)]) (fun i => i ≤ (Lib.cut x.b [58]).1.length ∧ ((Lib.cut x.b [58]).1.take i).all isD = true) (fun i => (Lib.cut x.b [58]).1.length - i) 0 ⟨Nat.zero_le _, by rfl⟩ (Env.wk_cons (by first | exact Wk.refl _ | exact Wk.nils _ | (refine Wk.eq ?_; simp; done) | (refine Wk.eq ?_; congr 1 <;> omega)) (Env.wk_cons (by first | exact Wk.refl _ | exact Wk.nils _ | (refine Wk.eq ?_; simp; done) | (refine Wk.eq ?_; congr 1 <;> omega)) (Env.wk_cons (by first | exact Wk.refl _ | exact Wk.nils _ | (refine Wk.eq ?_; simp; done) | (refine Wk.eq ?_; congr 1 <;> omega)) (Env.wk_cons (by first | exact Wk.refl _ | exact Wk.nils _ | (refine Wk.eq ?_; simp; done) | (refine Wk.eq ?_; congr 1 <;> omega)) (Env.wk_cons (by first | exact Wk.refl _ | exact Wk.nils _ | (refine Wk.eq ?_; simp; done) | (refine Wk.eq ?_; congr 1 <;> omega)) (Env.wk_cons (by first | exact Wk.refl _ | exact Wk.nils _ | (refine Wk.eq ?_; simp; done) | (refine Wk.eq ?_; congr 1 <;> omega)) (Env.wk_nil _))))))) rfl ?_
      rintro i ⟨hi, hok⟩
      refine vwp_reg tabOk [] [0, 4, 6, 40, 41, 42, 43] (by simp only [go_sem]; rfl) (by first | trivial | (simp; done) | (simp [in64]; omega)) ?_
      refine vwp_seq ?_
      refine vwp_cond (by simp only [go_sem]; rfl) (fun h1 => ?_) (fun h1 => ?_)
      · -- h1 then
        have h1' : i < (Lib.cut x.b [58]).1.length := by simp at h1; omega
        refine vwp_skip ?_
        try simp only [thenQ, blockQ, jumpQ, stayQ]
        refine vwp_seq ?_
        refine vwp_block ?_
        refine vwp_reg tabOk [] [0, 4, 6, 8, 40, 41, 42] (by simp only [go_sem, getD_map, h1', encB]; rfl) (by first | trivial | (simp; done) | (simp [in64]; omega)) ?_
        refine vwp_seq ?_
        refine vwp_reg tabOk [] [0, 4, 6, 8, 40, 41, 42, 51] (by simp only [go_sem]; rfl) (by first | trivial | (simp; done) | (simp [in64]; omega)) ?_
        refine vwp_cond (by simp only [go_sem]; rfl) (fun h2 => ?_) (fun h2 => ?_)
        · -- h2 then
          have hno : numOk x.b x.bad = false := num_no x fun hn => by
            obtain ⟨hb, e1, e2, e3, e4, e5⟩ := (numOk_cut x.b x.bad).1 hn
            have e6 := List.all_eq_true.1 e4 _ (List.getElem_mem h1')
            simp only [isD, decide_eq_true_eq] at e6
            simp at h2; omega
          refine vwp_goto ?_
          simp only [thenQ, blockQ, jumpQ, true_and]
          exact ⟨Env.wk_cons2 (by simp only [go_sem]; exact Wk.refl _) (Env.wk_nil _), hno⟩
        · -- h2 else
          have hd : isD (Lib.cut x.b [58]).1[i] = true := by simp at h2; simp only [isD, decide_eq_true_eq]; omega
          have hw := wrap_dig _ hd
          have hn := numOf_big (Lib.cut x.b [58]).1 i hi (by omega) hok
          have h9 : ((Lib.cut x.b [58]).1[i]).toNat - 48 ≤ 9 := by simp only [isD, decide_eq_true_eq] at hd; omega
          refine vwp_skip ?_
          try simp only [thenQ, blockQ, jumpQ, stayQ]
          refine vwp_reg1 tabOk [] [0, 4, 6, 40, 41, 42] (by simp only [go_sem]; rfl) (by first | trivial | (simp [hw, in64, h1', -List.getD_eq_getElem?_getD]; omega)) ?_
          try simp only [thenQ, blockQ, jumpQ, stayQ]
          refine vwp_reg1 tabOk [] [0, 4, 6, 40, 41, 42] (by simp only [go_sem]; rfl) (by first | trivial | (simp; done) | (simp [in64]; omega)) ?_
          try simp only [thenQ, blockQ, jumpQ, stayQ]
          -- round 0
          exact ⟨i + 1, ⟨by omega, by rw [take_all isD _ i h1', hok, hd]; rfl⟩, by omega, Env.wk_cons (Wk.refl _) (Env.wk_cons (Wk.refl _) (Env.wk_cons (Wk.eq (by rw [numOf_take _ i h1', hw]; congr 1)) (Env.wk_cons (Wk.refl _) (Env.wk_cons (Wk.refl _) (Env.wk_cons (Wk.refl _) (Env.wk_nil _)))))), by trivial⟩
      · -- h1 else
        refine vwp_exit ?_
        simp only [thenQ, blockQ, jumpQ, stayQ, if_true, reduceIte, Nat.reduceEqDiff]
        refine vwp_seq ?_
        refine vwp_reg tabOk [] [0, 4, 6, 62] (by simp only [go_sem]; rfl) (by first | trivial | (simp; done) | (simp [in64]; omega)) ?_
        refine vwp_cond (by simp only [go_sem]; rfl) (fun h3 => ?_) (fun h3 => ?_)
        · -- h3 then
          have hno : numOk x.b x.bad = false := num_no x fun hn => by
            have hb := ((numOk_cut x.b x.bad).1 hn).1
            rw [hb] at h3; exact absurd h3 (by decide)
          refine vwp_goto ?_
          simp only [thenQ, blockQ, jumpQ, true_and]
          exact ⟨Env.wk_cons2 (by simp only [go_sem]; exact Wk.refl _) (Env.wk_nil _), hno⟩
        · -- h3 else
          have hi2 : i = (Lib.cut x.b [58]).1.length := by simp at h1; omega
          rw [hi2, List.take_length] at hok ⊢
          have hn := (numOk_cut x.b x.bad).2 ⟨h3, h0q.1, h0q.2.1, h0q.2.2.1, hok, h0q.2.2.2⟩
          refine vwp_skip ?_
          try simp only [thenQ, blockQ, jumpQ, stayQ]
          refine vwp_reg tabOk [] [6] (by simp only [go_sem]; rfl) (by first | trivial | (simp; done) | (simp [in64]; omega)) ?_
          refine vwp_seq ?_
          refine vwp_reg tabOk [] [2] (by simp only [go_sem]; rfl) (by first | trivial | (simp; done) | (simp [in64]; omega)) ?_
          refine vwp_ret ?_
          -- result 0
          try simp only [thenQ, blockQ, jumpQ, stayQ, go_sem]
          refine ⟨by simp, _, _, rfl, by first | trivial | simp, ?_⟩
          rw [rdNum_cut x hn, h3]; exact ⟨rfl, rfl⟩
  · -- from the label on
    rintro env H ⟨hw, rfl, hno⟩
    refine vwp_weakenW hw ?_
    refine vwp_seq ?_
    refine vwp_skip ?_
    try simp only [thenQ, blockQ, jumpQ, stayQ]
    refine vwp_reg tabOk [] [] (by simp only [go_sem]; rfl) (by first | trivial | (simp; done) | (simp [in64]; omega)) ?_
    refine vwp_reg tabOk [] [2] (by simp only [go_sem]; rfl) (by first | trivial | (simp; done) | (simp [in64]; omega)) ?_
    refine vwp_ret ?_
    -- result 1
    try simp only [thenQ, blockQ, jumpQ, stayQ, go_sem]
    refine ⟨by simp, _, _, rfl, by first | trivial | simp, ?_⟩
    rw [rdNum_no x hno]; exact ⟨rfl, rfl⟩

/-! (*counterpane/named.reader).text -/
theorem b_named_reader_text : bodied Go.Proofs.Tryz.prog 77 = true := by rw [bodied, Tryz.func77]; rfl
theorem c_named_reader_text (x : Rd) (hx : x.b.length ≤ 1000000000) : VCalls Go.Proofs.Tryz.prog G 77 [.ptr 0 0] [.box (cRd x)] [] (fun r H => r = .str (rdTxt x).1 ∧ H = [.box (cRd (rdTxt x).2)]) := by
  refine vcalls_know fun hk hK => ?_
  simp only [List.mem_singleton, forall_eq, factsO, cRd, factsL, facts, maxB] at hK
  refine vcalls_of2 tabOk (rs := _) 1 Tryz.func77 rfl (by simp [Tryz.ntmps77]) rfl (by first | (simp; done) | exact Nat.le_refl _) ?_
  rw [Tryz.ntmps77]
  refine vwp_reg tabOk [] [0] (by simp only [go_sem]; rfl) (by first | trivial | (simp; done) | (simp [in64]; omega)) ?_
  refine vwp_seq (vwp_region ?_)
  refine vops_go tabOk [] (by simp only [go_sem]; rfl) (by first | trivial | (simp; done) | (simp [in64]; omega)) ?_
  -- call 0: t6 = CALL 103(f103, t5)
  refine vops_callH (hc := c_named_reader_number x hx) rfl rfl rfl b_named_reader_number [0] [] [] rfl rfl rfl (by simp only [go_sem]; exact WkL.refl _) (by simp only [go_sem]) ?_
  rintro r0 H0 ⟨rfl, rfl⟩
  simp only [go_sem]
  refine vops_go tabOk [] (by simp only [go_sem]; rfl) (by first | trivial | (simp; done) | (simp [in64]; omega)) ?_
  refine vops_done [0, 3] ?_
  simp only [go_sem, thenQ, blockQ, jumpQ, stayQ]
  refine vwp_seq ?_
  refine vwp_reg tabOk [] [0, 3, 19] (by simp only [go_sem]; rfl) (by first | trivial | (simp; done) | (simp [in64]; omega)) ?_
  refine vwp_cond (by simp only [go_sem]; rfl) (fun h0 => ?_) (fun h0 => ?_)
  · -- h0 then
    have h2 : (rdNum x).2.bad = true ∨ (rdNum x).2.b.length < (rdNum x).1 := by
      rw [Bool.cond_true_left, Bool.or_eq_true, decide_eq_true_eq] at h0; exact h0.imp id fun h => by omega
    refine vwp_reg tabOk [] [] (by simp only [go_sem]; rfl) (by first | trivial | (simp; done) | (simp [in64]; omega)) ?_
    refine vwp_reg tabOk [] [2] (by simp only [go_sem]; rfl) (by first | trivial | (simp; done) | (simp [in64]; omega)) ?_
    refine vwp_ret ?_
    -- result 0
    try simp only [thenQ, blockQ, jumpQ, stayQ, go_sem]
    refine ⟨by simp, _, _, rfl, by first | trivial | simp, ?_⟩
    rw [show rdTxt x = ([], ⟨(rdNum x).2.b, true⟩) from by rw [rdTxt, if_pos h2]]; exact ⟨rfl, rfl⟩
  · -- h0 else
    have h2 : (rdNum x).2.bad = false ∧ (rdNum x).1 ≤ (rdNum x).2.b.length := by
      rw [Bool.cond_true_left, Bool.or_eq_false_iff, decide_eq_false_iff_not] at h0; exact ⟨h0.1, by omega⟩
    refine vwp_skip ?_
    try simp only [thenQ, blockQ, jumpQ, stayQ]
    refine vwp_reg tabOk [] [0, 3, 4] (by simp only [go_sem]; rfl) (by simp; omega) ?_
    refine vwp_reg tabOk [] [4] (by simp only [go_sem]; rfl) (by simp; omega) ?_
    refine vwp_reg tabOk [] [2] (by simp only [go_sem]; rfl) (by first | trivial | (simp; done) | (simp [in64]; omega)) ?_
    refine vwp_ret ?_
    -- result 1
    try simp only [thenQ, blockQ, jumpQ, stayQ, go_sem]
    refine ⟨by simp, _, _, rfl, by first | trivial | simp, ?_⟩
    rw [show rdTxt x = ((rdNum x).2.b.take (rdNum x).1, ⟨(rdNum x).2.b.drop (rdNum x).1, false⟩) from by rw [rdTxt, if_neg (by rw [h2.1]; simp; omega)], h2.1]; exact ⟨rfl, rfl⟩

/-! counterpane/named.some[string] -/
theorem b_named_some_string : bodied Go.Proofs.Tryz.prog 104 = true := by rw [bodied, Tryz.func104]; rfl
set_option maxHeartbeats 4000000 in
theorem c_named_some_string (x : Rd) (hx : x.b.length ≤ 1000000000) : VCalls Go.Proofs.Tryz.prog G 104 [.ptr 0 0, .func (.func 77) [.ptr 0 0] []] [.box (cRd x)] [] (fun r H => r = .list 1 ((rdLst x).1.map cS) ∧ H = [.box (cRd (rdLst x).2)]) := by
  refine vcalls_know fun hk hK => ?_
  simp only [List.mem_singleton, forall_eq, factsO, cRd, factsL, facts, maxB] at hK
  have hlt := rdNum_lt x
  have hle := rdNum_le x
  refine vcalls_of2 tabOk (rs := _) 1 Tryz.func104 rfl (by simp [Tryz.ntmps104]) rfl (by first | (simp; done) | exact Nat.le_refl _) ?_
  rw [Tryz.ntmps104]
  refine vwp_reg tabOk [] [0, 1] (by simp only [go_sem]; rfl) (by first | trivial | (simp; done) | (simp [in64]; omega)) ?_
  refine vwp_reg tabOk [] [0, 1, 5] (by simp only [go_sem]; rfl) (by first | trivial | (simp; done) | (simp [in64]; omega)) ?_
  refine vwp_seq ?_
  refine vwp_seq (vwp_region ?_)
  refine vops_go tabOk [] (by simp only [go_sem]; rfl) (by first | trivial | (simp; done) | (simp [in64]; omega)) ?_
  -- call 0: t8 = CALL 103(f103, t7)
  refine vops_callH (hc := c_named_reader_number x (by omega)) rfl rfl rfl b_named_reader_number [0] [] [] rfl rfl rfl (by simp only [go_sem]; exact WkL.refl _) (by simp only [go_sem]) ?_
  rintro r0 H0 ⟨rfl, rfl⟩
  simp only [go_sem]
  refine vops_go tabOk [] (by simp only [go_sem]; rfl) (by first | trivial | (simp; done) | (simp [in64]; omega)) ?_
  refine vops_done [0, 1, 5, 6] ?_
  simp only [go_sem, thenQ, blockQ, jumpQ, stayQ]
  refine vwp_block ?_
  refine vwp_own 5 9 1 rfl ?_
  refine vwp_keep [0, 1, 5, 6] ?_
  simp only [go_sem]
  -- loop 0
  refine vwp_loopW (fun y : Nat × List Str × Rd => [(0, .ptr 0 0), (1, .func (.func 77) [.ptr 0 0] []), (5, .arr 1 y.2.1.length), (6, .int .i64 (((rdNum x).1 : Int) - (y.1 : Int)))]) (fun y => [.box (cRd y.2.2), .arr 9 1 (y.2.1.map cS)]) (fun y => reading rdTxt (rdNum x).1 (rdNum x).2 y.1 y.2.1 y.2.2 ∧ y.2.2.b.length ≤ x.b.length) (fun y => (rdNum x).1 - y.1) (0, [], (rdNum x).2) ⟨reading_start _ _ _, hle⟩ (Env.wk_cons (by first | exact Wk.refl _ | exact Wk.nils _ | (refine Wk.eq ?_; simp; done) | (refine Wk.eq ?_; congr 1 <;> omega)) (Env.wk_cons (by first | exact Wk.refl _ | exact Wk.nils _ | (refine Wk.eq ?_; simp; done) | (refine Wk.eq ?_; congr 1 <;> omega)) (Env.wk_cons (by first | exact Wk.refl _ | exact Wk.nils _ | (refine Wk.eq ?_; simp; done) | (refine Wk.eq ?_; congr 1 <;> omega)) (Env.wk_cons (by first | exact Wk.refl _ | exact Wk.nils _ | (refine Wk.eq ?_; simp; done) | (refine Wk.eq ?_; congr 1 <;> omega)) (Env.wk_nil _))))) rfl ?_
  rintro y ⟨hr, hb⟩
  refine vwp_seq ?_
  refine vwp_reg tabOk [] [0, 1, 5, 6, 17] (by simp only [go_sem]; rfl) (by first | trivial | (simp; done) | (simp [in64]; omega)) ?_
  refine vwp_cond (by simp only [go_sem]; rfl) (fun h0 => ?_) (fun h0 => ?_)
  · -- h0 then
    have h0' : y.1 < (rdNum x).1 ∧ y.2.2.bad = false := by simp at h0; exact ⟨by omega, h0.2⟩
    have h5 := hr.2.1
    have h6 := hr.1
    refine vwp_skip ?_
    try simp only [thenQ, blockQ, jumpQ, stayQ]
    refine vwp_seq ?_
    refine vwp_block ?_
    refine vwp_region ?_
    refine vops_go tabOk [] (by simp only [go_sem]; rfl) (by first | trivial | (simp; done) | (simp [in64]; omega)) ?_
    -- call 1: t22 = CALLV(t21)
    refine vops_callVH (hc := c_named_reader_text y.2.2 (by omega)) rfl (by simp only [go_sem]; rfl) rfl rfl b_named_reader_text [0] [] [] rfl rfl rfl (by simp only [go_sem]; exact WkL.refl _) (by simp only [go_sem]) ?_
    rintro r1 H1 ⟨rfl, rfl⟩
    simp only [go_sem]
    refine vops_go tabOk [] (by simp only [go_sem]; rfl) (by first | trivial | (simp; done) | (simp [in64]; omega)) ?_
    refine vops_done [0, 1, 5, 6] ?_
    simp only [go_sem, thenQ, blockQ, jumpQ, stayQ]
    try simp only [thenQ, blockQ, jumpQ, stayQ]
    refine vwp_reg1 tabOk [] [0, 1, 5, 6] (by simp only [go_sem]; rfl) (by first | trivial | (simp; done) | (simp [in64]; omega)) ?_
    try simp only [thenQ, blockQ, jumpQ, stayQ]
    -- round 0
    
    exact ⟨(y.1 + 1, y.2.1 ++ [(rdTxt y.2.2).1], (rdTxt y.2.2).2), ⟨reading_step hr h0'.1 h0'.2, Nat.le_trans (rdTxt_le _) hb⟩, by simp; omega, (Env.wk_cons (by first | exact Wk.refl _ | exact Wk.nils _ | (refine Wk.eq ?_; simp; done) | (refine Wk.eq ?_; congr 1 <;> omega)) (Env.wk_cons (by first | exact Wk.refl _ | exact Wk.nils _ | (refine Wk.eq ?_; simp; done) | (refine Wk.eq ?_; congr 1 <;> omega)) (Env.wk_cons (by first | exact Wk.refl _ | exact Wk.nils _ | (refine Wk.eq ?_; simp; done) | (refine Wk.eq ?_; congr 1 <;> omega)) (Env.wk_cons (by first | exact Wk.refl _ | exact Wk.nils _ | (refine Wk.eq ?_; simp; done) | (refine Wk.eq ?_; congr 1 <;> omega)) (Env.wk_nil _))))), by simp [cS, cRd]⟩
  · -- h0 else
    refine vwp_exit ?_
    simp only [thenQ, blockQ, jumpQ, stayQ, if_true, reduceIte, Nat.reduceEqDiff]
    refine vwp_freeze 1 9 1 (y.2.1.map cS) rfl ?_
    simp only [go_sem]
    refine vwp_reg tabOk [] [4] (by simp only [go_sem]; rfl) (by first | trivial | (simp; done) | (simp [in64]; omega)) ?_
    refine vwp_ret ?_
    -- result 0
    try simp only [thenQ, blockQ, jumpQ, stayQ, go_sem]
    refine ⟨by simp, _, _, rfl, by first | trivial | simp, ?_⟩
    have h2 : rdLst x = (y.2.1, y.2.2) := reading_end hr (by have h6 := hr.1; by_cases h7 : y.1 = (rdNum x).1; exact .inl h7; refine .inr ?_; cases hb : y.2.2.bad with | true => rfl | false => exfalso; rw [hb] at h0; simp at h0; omega)
    rw [h2]; refine ⟨?_, rfl⟩; simp only [go_sem]; rw [List.take_of_length_le (by simp)]

/-! (*counterpane/named.reader).list -/
theorem b_named_reader_list : bodied Go.Proofs.Tryz.prog 78 = true := by rw [bodied, Tryz.func78]; rfl
theorem c_named_reader_list (x : Rd) (hx : x.b.length ≤ 1000000000) : VCalls Go.Proofs.Tryz.prog G 78 [.ptr 0 0] [.box (cRd x)] [] (fun r H => r = .list 1 ((rdLst x).1.map cS) ∧ H = [.box (cRd (rdLst x).2)]) := by
  refine vcalls_of2 tabOk (rs := _) 1 Tryz.func78 rfl (by simp [Tryz.ntmps78]) rfl (by first | (simp; done) | exact Nat.le_refl _) ?_
  rw [Tryz.ntmps78]
  refine vwp_reg tabOk [] [0] (by simp only [go_sem]; rfl) (by first | trivial | (simp; done) | (simp [in64]; omega)) ?_
  refine vwp_seq (vwp_region ?_)
  refine vops_go tabOk [] (by simp only [go_sem]; rfl) (by first | trivial | (simp; done) | (simp [in64]; omega)) ?_
  -- call 0: t6 = CALL 104(f104, t3, t5)
  refine vops_callH (hc := c_named_some_string x hx) rfl rfl rfl b_named_some_string [0] [] [] rfl rfl rfl (by simp only [go_sem]; exact WkL.refl _) (by simp only [go_sem]) ?_
  rintro r0 H0 ⟨rfl, rfl⟩
  simp only [go_sem]
  refine vops_go tabOk [] (by simp only [go_sem]; rfl) (by first | trivial | (simp; done) | (simp [in64]; omega)) ?_
  refine vops_done [2] ?_
  simp only [go_sem, thenQ, blockQ, jumpQ, stayQ]
  refine vwp_ret ?_
  -- result 0
  try simp only [thenQ, blockQ, jumpQ, stayQ, go_sem]
  refine ⟨by simp, _, _, rfl, by first | trivial | simp, ?_⟩
  first | exact ⟨rfl, rfl⟩ | rfl

/-! (*counterpane/named.reader).prim -/
theorem b_named_reader_prim : bodied Go.Proofs.Tryz.prog 80 = true := by rw [bodied, Tryz.func80]; rfl
set_option maxHeartbeats 4000000 in
theorem c_named_reader_prim (x : Rd) (hx : x.b.length ≤ 1000000000) : VCalls Go.Proofs.Tryz.prog G 80 [.ptr 0 0] [.box (cRd x)] [] (fun r H => r = .agg (cPrim (rdPrim x).1) ∧ H = [.box (cRd (rdPrim x).2)]) := by
  refine vcalls_know fun hk hK => ?_
  simp only [List.mem_singleton, forall_eq, factsO, cRd, factsL, facts, maxB] at hK
  have l0 := rdNum_le x
  have l1 := rdTxt_le (rdNum x).2
  have l2 := rdTxt_le (rdTxt (rdNum x).2).2
  have l3 := rdTxt_le (rdTxt (rdTxt (rdNum x).2).2).2
  have l4 := rdNum_le (rdTxt (rdTxt (rdTxt (rdNum x).2).2).2).2
  have l5 := rdLst_le (rdNum (rdTxt (rdTxt (rdTxt (rdNum x).2).2).2).2).2 (by omega)
  refine vcalls_of2 tabOk (rs := _) 1 Tryz.func80 rfl (by simp [Tryz.ntmps80]) rfl (by first | (simp; done) | exact Nat.le_refl _) ?_
  rw [Tryz.ntmps80]
  refine vwp_reg tabOk [] [0, 2] (by simp only [go_sem]; rfl) (by first | trivial | (simp; done) | (simp [in64]; omega)) ?_
  refine vwp_seq (vwp_region ?_)
  refine vops_go tabOk [] (by simp only [go_sem]; rfl) (by first | trivial | (simp; done) | (simp [in64]; omega)) ?_
  -- call 0: t5 = CALL 103(f103, t4)
  refine vops_callH (hc := c_named_reader_number x (by omega)) rfl rfl rfl b_named_reader_number [0] [] [] rfl rfl rfl (by simp only [go_sem]; exact WkL.refl _) (by simp only [go_sem]) ?_
  rintro r0 H0 ⟨rfl, rfl⟩
  simp only [go_sem]
  refine vops_go tabOk [] (by simp only [go_sem]; rfl) (by first | trivial | (simp; done) | (simp [in64]; omega)) ?_
  refine vops_done [0, 2, 3] ?_
  simp only [go_sem, thenQ, blockQ, jumpQ, stayQ]
  refine vwp_seq (vwp_region ?_)
  refine vops_go tabOk [] (by simp only [go_sem]; rfl) (by first | trivial | (simp; done) | (simp [in64]; omega)) ?_
  -- call 1: t8 = CALL 77(f77, t7)
  refine vops_callH (hc := c_named_reader_text (rdNum x).2 (by omega)) rfl rfl rfl b_named_reader_text [0] [] [] rfl rfl rfl (by simp only [go_sem]; exact WkL.refl _) (by simp only [go_sem]) ?_
  rintro r1 H1 ⟨rfl, rfl⟩
  simp only [go_sem]
  refine vops_go tabOk [] (by simp only [go_sem]; rfl) (by first | trivial | (simp; done) | (simp [in64]; omega)) ?_
  refine vops_done [0, 2, 3] ?_
  simp only [go_sem, thenQ, blockQ, jumpQ, stayQ]
  refine vwp_seq (vwp_region ?_)
  refine vops_go tabOk [] (by simp only [go_sem]; rfl) (by first | trivial | (simp; done) | (simp [in64]; omega)) ?_
  -- call 2: t11 = CALL 77(f77, t10)
  refine vops_callH (hc := c_named_reader_text (rdTxt (rdNum x).2).2 (by omega)) rfl rfl rfl b_named_reader_text [0] [] [] rfl rfl rfl (by simp only [go_sem]; exact WkL.refl _) (by simp only [go_sem]) ?_
  rintro r2 H2 ⟨rfl, rfl⟩
  simp only [go_sem]
  refine vops_go tabOk [] (by simp only [go_sem]; rfl) (by first | trivial | (simp; done) | (simp [in64]; omega)) ?_
  refine vops_done [0, 2, 3] ?_
  simp only [go_sem, thenQ, blockQ, jumpQ, stayQ]
  refine vwp_seq (vwp_region ?_)
  refine vops_go tabOk [] (by simp only [go_sem]; rfl) (by first | trivial | (simp; done) | (simp [in64]; omega)) ?_
  -- call 3: t14 = CALL 77(f77, t13)
  refine vops_callH (hc := c_named_reader_text (rdTxt (rdTxt (rdNum x).2).2).2 (by omega)) rfl rfl rfl b_named_reader_text [0] [] [] rfl rfl rfl (by simp only [go_sem]; exact WkL.refl _) (by simp only [go_sem]) ?_
  rintro r3 H3 ⟨rfl, rfl⟩
  simp only [go_sem]
  refine vops_go tabOk [] (by simp only [go_sem]; rfl) (by first | trivial | (simp; done) | (simp [in64]; omega)) ?_
  refine vops_done [0, 2, 3] ?_
  simp only [go_sem, thenQ, blockQ, jumpQ, stayQ]
  refine vwp_seq (vwp_region ?_)
  refine vops_go tabOk [] (by simp only [go_sem]; rfl) (by first | trivial | (simp; done) | (simp [in64]; omega)) ?_
  -- call 4: t17 = CALL 103(f103, t16)
  refine vops_callH (hc := c_named_reader_number (rdTxt (rdTxt (rdTxt (rdNum x).2).2).2).2 (by omega)) rfl rfl rfl b_named_reader_number [0] [] [] rfl rfl rfl (by simp only [go_sem]; exact WkL.refl _) (by simp only [go_sem]) ?_
  rintro r4 H4 ⟨rfl, rfl⟩
  simp only [go_sem]
  refine vops_go tabOk [] (by simp only [go_sem]; rfl) (by first | trivial | (simp; done) | (simp [in64]; omega)) ?_
  refine vops_done [0, 2, 3] ?_
  simp only [go_sem, thenQ, blockQ, jumpQ, stayQ]
  refine vwp_seq (vwp_region ?_)
  refine vops_go tabOk [] (by simp only [go_sem]; rfl) (by first | trivial | (simp; done) | (simp [in64]; omega)) ?_
  -- call 5: t20 = CALL 78(f78, t19)
  refine vops_callH (hc := c_named_reader_list (rdNum (rdTxt (rdTxt (rdTxt (rdNum x).2).2).2).2).2 (by omega)) rfl rfl rfl b_named_reader_list [0] [] [] rfl rfl rfl (by simp only [go_sem]; exact WkL.refl _) (by simp only [go_sem]) ?_
  rintro r5 H5 ⟨rfl, rfl⟩
  simp only [go_sem]
  refine vops_go tabOk [] (by simp only [go_sem]; rfl) (by first | trivial | (simp; done) | (simp [in64]; omega)) ?_
  refine vops_done [0, 2, 3] ?_
  simp only [go_sem, thenQ, blockQ, jumpQ, stayQ]
  refine vwp_seq (vwp_region ?_)
  refine vops_go tabOk [] (by simp only [go_sem]; rfl) (by first | trivial | (simp; done) | (simp [in64]; omega)) ?_
  -- call 6: t23 = CALL 78(f78, t22)
  refine vops_callH (hc := c_named_reader_list (rdLst (rdNum (rdTxt (rdTxt (rdTxt (rdNum x).2).2).2).2).2).2 (by omega)) rfl rfl rfl b_named_reader_list [0] [] [] rfl rfl rfl (by simp only [go_sem]; exact WkL.refl _) (by simp only [go_sem]) ?_
  rintro r6 H6 ⟨rfl, rfl⟩
  simp only [go_sem]
  refine vops_go tabOk [] (by simp only [go_sem]; rfl) (by first | trivial | (simp; done) | (simp [in64]; omega)) ?_
  refine vops_done [2, 3] ?_
  simp only [go_sem, thenQ, blockQ, jumpQ, stayQ]
  refine vwp_reg tabOk [] [2] (by simp only [go_sem]; rfl) (by first | trivial | (simp; done) | (simp [in64]; omega)) ?_
  refine vwp_ret ?_
  -- result 0
  try simp only [thenQ, blockQ, jumpQ, stayQ, go_sem]
  refine ⟨by simp, _, _, rfl, by first | trivial | simp, ?_⟩
  exact ⟨rfl, rfl⟩

/-! counterpane/named.some[counterpane/api.Prim] -/
theorem b_named_some_api_Prim : bodied Go.Proofs.Tryz.prog 79 = true := by rw [bodied, Tryz.func79]; rfl
set_option maxHeartbeats 4000000 in
theorem c_named_some_api_Prim (x : Rd) (hx : x.b.length ≤ 1000000000) : VCalls Go.Proofs.Tryz.prog G 79 [.ptr 0 0, .func (.func 80) [.ptr 0 0] []] [.box (cRd x)] [] (fun r H => r = .list 7 (((rdList rdPrim) x).1.map cPrim) ∧ H = [.box (cRd ((rdList rdPrim) x).2)]) := by
  refine vcalls_know fun hk hK => ?_
  simp only [List.mem_singleton, forall_eq, factsO, cRd, factsL, facts, maxB] at hK
  have hlt := rdNum_lt x
  have hle := rdNum_le x
  refine vcalls_of2 tabOk (rs := _) 1 Tryz.func79 rfl (by simp [Tryz.ntmps79]) rfl (by first | (simp; done) | exact Nat.le_refl _) ?_
  rw [Tryz.ntmps79]
  refine vwp_reg tabOk [] [0, 1] (by simp only [go_sem]; rfl) (by first | trivial | (simp; done) | (simp [in64]; omega)) ?_
  refine vwp_reg tabOk [] [0, 1, 5] (by simp only [go_sem]; rfl) (by first | trivial | (simp; done) | (simp [in64]; omega)) ?_
  refine vwp_seq ?_
  refine vwp_seq (vwp_region ?_)
  refine vops_go tabOk [] (by simp only [go_sem]; rfl) (by first | trivial | (simp; done) | (simp [in64]; omega)) ?_
  -- call 0: t8 = CALL 103(f103, t7)
  refine vops_callH (hc := c_named_reader_number x (by omega)) rfl rfl rfl b_named_reader_number [0] [] [] rfl rfl rfl (by simp only [go_sem]; exact WkL.refl _) (by simp only [go_sem]) ?_
  rintro r0 H0 ⟨rfl, rfl⟩
  simp only [go_sem]
  refine vops_go tabOk [] (by simp only [go_sem]; rfl) (by first | trivial | (simp; done) | (simp [in64]; omega)) ?_
  refine vops_done [0, 1, 5, 6] ?_
  simp only [go_sem, thenQ, blockQ, jumpQ, stayQ]
  refine vwp_block ?_
  refine vwp_own 5 86 7 rfl ?_
  refine vwp_keep [0, 1, 5, 6] ?_
  simp only [go_sem]
  -- loop 0
  refine vwp_loopW (fun y : Nat × List Prim × Rd => [(0, .ptr 0 0), (1, .func (.func 80) [.ptr 0 0] []), (5, .arr 1 y.2.1.length), (6, .int .i64 (((rdNum x).1 : Int) - (y.1 : Int)))]) (fun y => [.box (cRd y.2.2), .arr 86 7 (y.2.1.map cPrim)]) (fun y => reading rdPrim (rdNum x).1 (rdNum x).2 y.1 y.2.1 y.2.2 ∧ y.2.2.b.length ≤ x.b.length) (fun y => (rdNum x).1 - y.1) (0, [], (rdNum x).2) ⟨reading_start _ _ _, hle⟩ (Env.wk_cons (by first | exact Wk.refl _ | exact Wk.nils _ | (refine Wk.eq ?_; simp; done) | (refine Wk.eq ?_; congr 1 <;> omega)) (Env.wk_cons (by first | exact Wk.refl _ | exact Wk.nils _ | (refine Wk.eq ?_; simp; done) | (refine Wk.eq ?_; congr 1 <;> omega)) (Env.wk_cons (by first | exact Wk.refl _ | exact Wk.nils _ | (refine Wk.eq ?_; simp; done) | (refine Wk.eq ?_; congr 1 <;> omega)) (Env.wk_cons (by first | exact Wk.refl _ | exact Wk.nils _ | (refine Wk.eq ?_; simp; done) | (refine Wk.eq ?_; congr 1 <;> omega)) (Env.wk_nil _))))) rfl ?_
  rintro y ⟨hr, hb⟩
  refine vwp_seq ?_
  refine vwp_reg tabOk [] [0, 1, 5, 6, 17] (by simp only [go_sem]; rfl) (by first | trivial | (simp; done) | (simp [in64]; omega)) ?_
  refine vwp_cond (by simp only [go_sem]; rfl) (fun h0 => ?_) (fun h0 => ?_)
  · -- h0 then
    have h0' : y.1 < (rdNum x).1 ∧ y.2.2.bad = false := by simp at h0; exact ⟨by omega, h0.2⟩
    have h5 := hr.2.1
    have h6 := hr.1
    refine vwp_skip ?_
    try simp only [thenQ, blockQ, jumpQ, stayQ]
    refine vwp_seq ?_
    refine vwp_block ?_
    refine vwp_region ?_
    refine vops_go tabOk [] (by simp only [go_sem]; rfl) (by first | trivial | (simp; done) | (simp [in64]; omega)) ?_
    -- call 1: t22 = CALLV(t21)
    refine vops_callVH (hc := c_named_reader_prim y.2.2 (by omega)) rfl (by simp only [go_sem]; rfl) rfl rfl b_named_reader_prim [0] [] [] rfl rfl rfl (by simp only [go_sem]; exact WkL.refl _) (by simp only [go_sem]) ?_
    rintro r1 H1 ⟨rfl, rfl⟩
    simp only [go_sem]
    refine vops_go tabOk [] (by simp only [go_sem]; rfl) (by first | trivial | (simp; done) | (simp [in64]; omega)) ?_
    refine vops_done [0, 1, 5, 6] ?_
    simp only [go_sem, thenQ, blockQ, jumpQ, stayQ]
    try simp only [thenQ, blockQ, jumpQ, stayQ]
    refine vwp_reg1 tabOk [] [0, 1, 5, 6] (by simp only [go_sem]; rfl) (by first | trivial | (simp; done) | (simp [in64]; omega)) ?_
    try simp only [thenQ, blockQ, jumpQ, stayQ]
    -- round 0
    
    exact ⟨(y.1 + 1, y.2.1 ++ [(rdPrim y.2.2).1], (rdPrim y.2.2).2), ⟨reading_step hr h0'.1 h0'.2, Nat.le_trans (rdPrim_rest _ (by omega)).2 hb⟩, by simp; omega, (Env.wk_cons (by first | exact Wk.refl _ | exact Wk.nils _ | (refine Wk.eq ?_; simp; done) | (refine Wk.eq ?_; congr 1 <;> omega)) (Env.wk_cons (by first | exact Wk.refl _ | exact Wk.nils _ | (refine Wk.eq ?_; simp; done) | (refine Wk.eq ?_; congr 1 <;> omega)) (Env.wk_cons (by first | exact Wk.refl _ | exact Wk.nils _ | (refine Wk.eq ?_; simp; done) | (refine Wk.eq ?_; congr 1 <;> omega)) (Env.wk_cons (by first | exact Wk.refl _ | exact Wk.nils _ | (refine Wk.eq ?_; simp; done) | (refine Wk.eq ?_; congr 1 <;> omega)) (Env.wk_nil _))))), by simp [cPrim, cRd]⟩
  · -- h0 else
    refine vwp_exit ?_
    simp only [thenQ, blockQ, jumpQ, stayQ, if_true, reduceIte, Nat.reduceEqDiff]
    refine vwp_freeze 1 86 7 (y.2.1.map cPrim) rfl ?_
    simp only [go_sem]
    refine vwp_reg tabOk [] [4] (by simp only [go_sem]; rfl) (by first | trivial | (simp; done) | (simp [in64]; omega)) ?_
    refine vwp_ret ?_
    -- result 0
    try simp only [thenQ, blockQ, jumpQ, stayQ, go_sem]
    refine ⟨by simp, _, _, rfl, by first | trivial | simp, ?_⟩
    have h2 : (rdList rdPrim) x = (y.2.1, y.2.2) := reading_end hr (by have h6 := hr.1; by_cases h7 : y.1 = (rdNum x).1; exact .inl h7; refine .inr ?_; cases hb : y.2.2.bad with | true => rfl | false => exfalso; rw [hb] at h0; simp at h0; omega)
    rw [h2]; refine ⟨?_, rfl⟩; simp only [go_sem]; rw [List.take_of_length_le (by simp)]

/-! counterpane/named.Get -/
theorem b_named_Get : bodied Go.Proofs.Tryz.prog 53 = true := by rw [bodied, Tryz.func53]; rfl
set_option maxHeartbeats 4000000 in
theorem c_named_Get (s : Str) (hs : s.length ≤ 1000000000) : VPure Go.Proofs.Tryz.prog G 53 [.list 1 (s.map encB)] (.tuple [.agg (cPatch (getPatch s).1), .int .i64 (getPatch s).2]) := by
  have l1 : (rdTxt (⟨s, false⟩ : Rd)).2.b.length ≤ s.length := rdTxt_le (⟨s, false⟩ : Rd)
  have l2 : (rdLst (rdTxt (⟨s, false⟩ : Rd)).2).2.b.length ≤ (rdTxt (⟨s, false⟩ : Rd)).2.b.length := rdLst_le (rdTxt (⟨s, false⟩ : Rd)).2 (by omega)
  refine vpure_of2 tabOk (rs := _) Tryz.func53 rfl (by simp [Tryz.ntmps53]) rfl rfl ?_
  rw [Tryz.ntmps53]
  refine vwp_reg tabOk [] [0, 2] (by simp only [go_sem]; rfl) (by first | trivial | (simp; done) | (simp [in64]; omega)) ?_
  refine vwp_reg tabOk [] [2, 4] (by simp only [go_sem]; rfl) (by first | trivial | (simp; done) | (simp [in64]; omega)) ?_
  refine vwp_seq (vwp_region ?_)
  refine vops_go tabOk [] (by simp only [go_sem]; rfl) (by first | trivial | (simp; done) | (simp [in64]; omega)) ?_
  -- call 0: t11 = CALL 77(f77, t10)
  refine vops_callH (hc := c_named_reader_text (⟨s, false⟩ : Rd) (by simpa using hs)) rfl rfl rfl b_named_reader_text [1] [] [] rfl rfl rfl (by simp only [go_sem]; exact WkL.refl _) (by simp only [go_sem]) ?_
  rintro r0 H0 ⟨rfl, rfl⟩
  simp only [go_sem]
  refine vops_go tabOk [] (by simp only [go_sem]; rfl) (by first | trivial | (simp; done) | (simp [in64]; omega)) ?_
  refine vops_done [2, 4, 5] ?_
  simp only [go_sem, thenQ, blockQ, jumpQ, stayQ]
  refine vwp_seq (vwp_region ?_)
  refine vops_go tabOk [] (by simp only [go_sem]; rfl) (by first | trivial | (simp; done) | (simp [in64]; omega)) ?_
  -- call 1: t14 = CALL 78(f78, t13)
  refine vops_callH (hc := c_named_reader_list (rdTxt (⟨s, false⟩ : Rd)).2 (by omega)) rfl rfl rfl b_named_reader_list [1] [] [] rfl rfl rfl (by simp only [go_sem]; exact WkL.refl _) (by simp only [go_sem]) ?_
  rintro r1 H1 ⟨rfl, rfl⟩
  simp only [go_sem]
  refine vops_go tabOk [] (by simp only [go_sem]; rfl) (by first | trivial | (simp; done) | (simp [in64]; omega)) ?_
  refine vops_done [2, 4, 5] ?_
  simp only [go_sem, thenQ, blockQ, jumpQ, stayQ]
  refine vwp_seq (vwp_region ?_)
  refine vops_go tabOk [] (by simp only [go_sem]; rfl) (by first | trivial | (simp; done) | (simp [in64]; omega)) ?_
  -- call 2: t19 = CALL 79(f79, t16, t18)
  refine vops_callH (hc := c_named_some_api_Prim (rdLst (rdTxt (⟨s, false⟩ : Rd)).2).2 (by omega)) rfl rfl rfl b_named_some_api_Prim [1] [] [] rfl rfl rfl (by simp only [go_sem]; exact WkL.refl _) (by simp only [go_sem]) ?_
  rintro r2 H2 ⟨rfl, rfl⟩
  simp only [go_sem]
  refine vops_go tabOk [] (by simp only [go_sem]; rfl) (by first | trivial | (simp; done) | (simp [in64]; omega)) ?_
  refine vops_done [2, 4, 5] ?_
  simp only [go_sem, thenQ, blockQ, jumpQ, stayQ]
  refine vwp_seq ?_
  refine vwp_seq (vwp_region ?_)
  refine vops_go tabOk [] (by simp only [go_sem]; rfl) (by first | trivial | (simp; done) | (simp [in64]; omega)) ?_
  -- call 3: t34 = CALL 67(f67, t33)  if op11 not
  refine vops_call (hc := fun _ => c_named_Right (⟨(rdTxt (⟨s, false⟩ : Rd)).1, (rdLst (rdTxt (⟨s, false⟩ : Rd)).2).1, (rdList rdPrim (rdLst (rdTxt (⟨s, false⟩ : Rd)).2).2).1⟩ : Patch)) rfl (by simp only [go_sem]; rfl) rfl b_named_Right (by simp only [go_sem]; exact WkL.refl _) rfl (fun hg => by simp only [go_sem]; try (intros; first | assumption | trivial | simp_all)) ?_
  simp only [go_sem]
  refine vops_go tabOk [] (by simp only [go_sem]; rfl) (by first | trivial | (simp; done) | (simp [in64]; omega)) ?_
  refine vops_done [2, 5, 36] ?_
  simp only [go_sem, thenQ, blockQ, jumpQ, stayQ]
  refine vwp_cond (by simp only [go_sem]; rfl) (fun h0 => ?_) (fun h0 => ?_)
  · -- h0 then
    refine vwp_reg tabOk [] [2, 3] (by simp only [go_sem]; rfl) (by first | trivial | (simp; done) | (simp [in64]; omega)) ?_
    refine vwp_ret ?_
    -- result 0
    try simp only [thenQ, blockQ, jumpQ, stayQ, go_sem]
    refine ⟨by simp, _, _, rfl, trivial, ?_⟩
    simp only [go_sem]
    have he : rdPatch ⟨s, false⟩ = ((⟨(rdTxt (⟨s, false⟩ : Rd)).1, (rdLst (rdTxt (⟨s, false⟩ : Rd)).2).1, (rdList rdPrim (rdLst (rdTxt (⟨s, false⟩ : Rd)).2).2).1⟩ : Patch), (rdList rdPrim (rdLst (rdTxt (⟨s, false⟩ : Rd)).2).2).2) := rfl
    have h2 : getPatch s = (⟨[], [], []⟩, 3) := by
      rw [getPatch, if_pos (by rw [he]; simpa [or_assoc, and_assoc] using h0)]
    rw [h2]; exact Wk.tuple ⟨Wk.agg ⟨Wk.refl _, Wk.nils _, Wk.nils _, trivial⟩, Wk.refl _, trivial⟩
  · -- h0 else
    refine vwp_skip ?_
    try simp only [thenQ, blockQ, jumpQ, stayQ]
    refine vwp_reg tabOk [] [2, 3] (by simp only [go_sem]; rfl) (by first | trivial | (simp; done) | (simp [in64]; omega)) ?_
    refine vwp_ret ?_
    -- result 1
    try simp only [thenQ, blockQ, jumpQ, stayQ, go_sem]
    refine ⟨by simp, _, _, rfl, trivial, ?_⟩
    simp only [go_sem]
    have he : rdPatch ⟨s, false⟩ = ((⟨(rdTxt (⟨s, false⟩ : Rd)).1, (rdLst (rdTxt (⟨s, false⟩ : Rd)).2).1, (rdList rdPrim (rdLst (rdTxt (⟨s, false⟩ : Rd)).2).2).1⟩ : Patch), (rdList rdPrim (rdLst (rdTxt (⟨s, false⟩ : Rd)).2).2).2) := rfl
    have h2 : getPatch s = ((⟨(rdTxt (⟨s, false⟩ : Rd)).1, (rdLst (rdTxt (⟨s, false⟩ : Rd)).2).1, (rdList rdPrim (rdLst (rdTxt (⟨s, false⟩ : Rd)).2).2).1⟩ : Patch), 0) := by
      rw [getPatch, if_neg (by rw [he]; simpa [or_assoc, and_assoc] using h0), he]
    rw [h2]; exact Wk.refl _
end Go.Proofs.YtldfghgjllaljaaGreatDoor.Q
end

section
/- Plain laws of a map of patches, and of the sorted list. -/
set_option linter.unusedVariables false
set_option linter.unusedSimpArgs false
namespace Go.Proofs.YtldfghgjllaljaaGreatDoor.Q
open Go Go.Q

def setAll (es : MapV) (l : List Patch) : MapV := l.foldl (fun es p => mapSet es p.name (.agg (cPatch p))) es
def mapOf (l : List Patch) : MapV := setAll [] l
theorem setAll_take (es : MapV) (l : List Patch) (i : Nat) (h : i < l.length) : setAll es (l.take (i + 1)) = mapSet (setAll es (l.take i)) l[i].name (.agg (cPatch l[i])) := by
  rw [setAll, List.take_succ_eq_append_getElem h, List.foldl_append]; rfl
/-- Is the map's second word true? -/
def ofB (l : List Patch) : Bool := l.all patchB && (decide ((mapOf l).length = l.length) && decide (l.length ≤ 256))

theorem mapSet_len (x : Str) (v : V) : ∀ (es : MapV), (mapSet es x v).length = if (mapIdx es x).isSome then es.length else es.length + 1
  | [] => rfl
  | (k, u) :: r => by
    have := mapSet_len x v r
    simp only [mapSet, mapIdx]
    by_cases h : k = x
    · simp [h]
    · simp only [h, if_false, List.length_cons, this, Option.isSome_map]
      split <;> rfl
theorem mapIdx_set (x y : Str) (v : V) : ∀ (es : MapV), (mapIdx (mapSet es x v) y).isSome = ((mapIdx es y).isSome || decide (x = y))
  | [] => by
    by_cases h : x = y <;> simp [mapSet, mapIdx, h]
  | (k, u) :: r => by
    have := mapIdx_set x y v r
    simp only [mapSet]
    by_cases h : k = x
    · subst h
      rw [if_pos rfl]
      simp only [mapIdx]
      by_cases h2 : k = y <;> simp [h2]
    · rw [if_neg h]
      simp only [mapIdx]
      by_cases h2 : k = y
      · simp [h2]
      · simp [h2, this]
theorem setAll_len : ∀ (l : List Patch) (es : MapV), (setAll es l).length ≤ es.length + l.length
  | [], es => by simp [setAll]
  | p :: r, es => by
    have h1 := setAll_len r (mapSet es p.name (.agg (cPatch p)))
    have h2 := mapSet_len p.name (.agg (cPatch p)) es
    have h3 : setAll es (p :: r) = setAll (mapSet es p.name (.agg (cPatch p))) r := rfl
    rw [h3, List.length_cons]
    split at h2 <;> omega
theorem hasN_ins (x : Patch) (n : Str) : ∀ (l : List Patch), hasN (insP x l) n = (hasN l n || decide (x.name = n))
  | [] => by simp [insP, hasN]
  | y :: r => by
    have := hasN_ins x n r
    unfold hasN at this ⊢
    simp only [insP]
    split
    · simp only [List.any_cons]
      cases decide (x.name = n) <;> cases decide (y.name = n) <;> simp
    · simp only [List.any_cons, this, Bool.or_assoc]
theorem sortGo_isSome : ∀ (l acc : List Patch) (es : MapV), (∀ n, hasN acc n = (mapIdx es n).isSome) → (sortGo acc l).isSome = (l.all patchB && decide ((setAll es l).length = es.length + l.length))
  | [], acc, es, _ => by simp [sortGo, setAll]
  | x :: r, acc, es, h => by
    have h3 : setAll es (x :: r) = setAll (mapSet es x.name (.agg (cPatch x))) r := rfl
    have h2 := mapSet_len x.name (.agg (cPatch x)) es
    have hle := setAll_len r (mapSet es x.name (.agg (cPatch x)))
    rw [sortGo, h x.name, h3, List.all_cons, List.length_cons]
    cases hp : patchB x with
    | false => simp
    | true =>
      cases hi : (mapIdx es x.name).isSome with
      | true =>
        rw [hi, if_pos rfl] at h2
        simp
        intro _
        omega
      | false =>
        rw [hi] at h2
        simp only [Bool.not_false, Bool.and_self, if_true, Bool.true_and]
        rw [sortGo_isSome r (insP x acc) (mapSet es x.name (.agg (cPatch x))) fun n => by rw [hasN_ins, mapIdx_set, h n], h2]
        simp only [Bool.false_eq_true, if_false]
        rw [show es.length + 1 + r.length = es.length + (r.length + 1) from by omega]
theorem sortedP_isSome (l : List Patch) : (sortedP l).isSome = ofB l := by
  unfold sortedP ofB
  by_cases h : 256 < l.length
  · rw [if_pos h]; simp; intro _ _; omega
  · rw [if_neg h, sortGo_isSome l [] [] fun n => rfl]
    have : decide (l.length ≤ 256) = true := by simpa using Nat.not_lt.1 h
    rw [this, Bool.and_true]; simp [mapOf]; rfl
end Go.Proofs.YtldfghgjllaljaaGreatDoor.Q
end

section
/- Walks of the closure's map of patches, and of the sorting by names, in the logic 'Q'. -/
set_option linter.unusedVariables false
set_option linter.unusedSimpArgs false
set_option maxRecDepth 100000
namespace Go.Proofs.YtldfghgjllaljaaGreatDoor.Q
open Go Go.Q
theorem relM_len {F : Nat → Prop} {w : World} : ∀ {es : MapV} {ms : List MapEntry}, RelM F w es ms → ms.length = es.length
  | [], ms, h => by simp only [RelM] at h; subst h; rfl
  | (k, v) :: r, ms, h => by
    simp only [RelM] at h
    obtain ⟨m, t, rfl, _, _, h2⟩ := h
    simp [relM_len h2]
/-- The length of a map. -/
theorem step_lenMap {p : Par} {env : Env} {H : List Q.Obj} {o : Oper} {t k e : TypeId} {x : Operand} {i : Nat} {es : MapV} (ho : o.op = .call { callee := .builtin .len, args := #[x], argTypes := #[t] }) (ht : mapTyB p.P t k e = true) (hx : ev env x = .map i) (hi : H[i]? = some (.map es)) :
    OpStep p o env H fun v env' H' => v = .int .i64 (es.length : Int) ∧ env' = env ∧ H' = H := by
  obtain ⟨ht1, ht2⟩ := mapTyB_ok ht
  intro E F ρ a w st
  have hrx := st.ev x
  rw [hx] at hrx
  simp only [Rel] at hrx
  obtain ⟨r, hρ, hme⟩ := hrx
  obtain ⟨r', ms, clk, hh, hheap, hrel, hpw, hlt⟩ := st.sim.obj i _ _ hi hρ
  injection hh with hh; injection hh with hh; subst hh
  refine ⟨_, w, F, ρ, _, _, _, ?_, ⟨rfl, rfl, rfl⟩, st, .inl ⟨.int .i64 es.length, rfl, by simp [Rel]⟩⟩
  have := relM_len hrel
  simp only [execOp, ho, resolve, Sem.run_bind, Sem.run_pure, Result.andThen_ok]
  simp [invoke, builtin, Builtin.len_, run_underlying ht1, runQ_getMap hheap, goInt, hme, ← this]

/-! counterpane/closure.of -/
theorem b_closure_of : bodied Go.Proofs.Tryz.prog 62 = true := by rw [bodied, Tryz.func62]; rfl
set_option maxHeartbeats 4000000 in
theorem c_closure_of (l : List Patch) : VCalls Go.Proofs.Tryz.prog G 62 [.list 3 (l.map cPatch)] [] [] (fun r H => ∃ m es, r = .tuple [m, .bool (ofB l)] ∧ H = [.map es] ∧ (ofB l = true → m = .map 0 ∧ es = mapOf l)) := by
  refine vcalls_know fun hk hK => ?_
  simp only [factsL, facts, maxB, List.length_map] at hk
  refine vcalls_of2 tabOk (rs := _) 1 Tryz.func62 rfl (by simp [Tryz.ntmps62]) rfl (by first | (simp; done) | exact Nat.le_refl _) ?_
  rw [Tryz.ntmps62]
  refine vwp_reg tabOk [] [0] (by simp only [go_sem]; rfl) (by first | trivial | (simp; done) | (simp [in64]; omega)) ?_
  refine vwp_seq (vwp_region ?_)
  -- t7 = makeMap() :88
  refine vops_step1 (step_makeMap (r := none) rfl) rfl rfl ?_
  simp only [go_sem]
  refine vops_go tabOk [] (by simp only [go_sem]; rfl) (by first | trivial | (simp; done) | (simp [in64]; omega)) ?_
  refine vops_done [0, 4] ?_
  simp only [go_sem, thenQ, blockQ, jumpQ, stayQ]
  refine vwp_seq ?_
  refine vwp_reg tabOk [] [0, 4, 8, 9, 10] (by simp only [go_sem]; rfl) (by first | trivial | (simp; done) | (simp [in64]; omega)) ?_
  refine vwp_block ?_
  -- loop 0
  refine vwp_loopW (fun i : Nat => [(0, .list 3 (l.map cPatch)), (4, .map 0), (8, .list 3 (l.map cPatch)), (9, .int .i64 (l.length : Int)), (10, .int .i64 (i : Int))]) (fun i => [.map (setAll [] (l.take i))]) (fun i => i ≤ l.length ∧ (l.take i).all patchB = true) (fun i => l.length - i) 0 ⟨Nat.zero_le _, by rfl⟩ (Env.wk_cons (by first | exact Wk.refl _ | exact Wk.nils _ | (refine Wk.eq ?_; simp; done) | (refine Wk.eq ?_; congr 1 <;> omega)) (Env.wk_cons (by first | exact Wk.refl _ | exact Wk.nils _ | (refine Wk.eq ?_; simp; done) | (refine Wk.eq ?_; congr 1 <;> omega)) (Env.wk_cons (by first | exact Wk.refl _ | exact Wk.nils _ | (refine Wk.eq ?_; simp; done) | (refine Wk.eq ?_; congr 1 <;> omega)) (Env.wk_cons (by first | exact Wk.refl _ | exact Wk.nils _ | (refine Wk.eq ?_; simp; done) | (refine Wk.eq ?_; congr 1 <;> omega)) (Env.wk_cons (by first | exact Wk.refl _ | exact Wk.nils _ | (refine Wk.eq ?_; simp; done) | (refine Wk.eq ?_; congr 1 <;> omega)) (Env.wk_nil _)))))) (by simp [setAll]) ?_
  rintro i ⟨hi, hok⟩
  refine vwp_reg tabOk [] [0, 4, 8, 9, 10, 11] (by simp only [go_sem]; rfl) (by first | trivial | (simp; done) | (simp [in64]; omega)) ?_
  refine vwp_seq ?_
  refine vwp_cond (by simp only [go_sem]; rfl) (fun h0 => ?_) (fun h0 => ?_)
  · -- h0 then
    have h0' : i < l.length := by simp at h0; omega
    refine vwp_skip ?_
    try simp only [thenQ, blockQ, jumpQ, stayQ]
    refine vwp_seq ?_
    refine vwp_block ?_
    refine vwp_reg tabOk [] [0, 4, 6, 8, 9, 10] (by simp only [go_sem, getD_map, h0']; rfl) (by first | trivial | (simp; done) | (simp [in64]; omega)) ?_
    refine vwp_seq ?_
    refine vwp_seq (vwp_region ?_)
    refine vops_go tabOk [] (by simp only [go_sem]; rfl) (by first | trivial | (simp; done) | (simp [in64]; omega)) ?_
    -- call 0: t15 = CALL 67(f67, t14)
    refine vops_call (hc := fun _ => c_named_Right l[i]) rfl (by simp only [go_sem]; rfl) rfl b_named_Right (by simp only [go_sem]; exact WkL.refl _) rfl (fun hg => by simp only [go_sem]; try (intros; first | assumption | trivial | simp_all)) ?_
    simp only [go_sem]
    refine vops_go tabOk [] (by simp only [go_sem]; rfl) (by first | trivial | (simp; done) | (simp [in64]; omega)) ?_
    refine vops_done [0, 4, 6, 8, 9, 10, 16] ?_
    simp only [go_sem, thenQ, blockQ, jumpQ, stayQ]
    refine vwp_cond (by simp only [go_sem]; rfl) (fun h1 => ?_) (fun h1 => ?_)
    · -- h1 then
      refine vwp_reg tabOk [] [2, 3] (by simp only [go_sem]; rfl) (by first | trivial | (simp; done) | (simp [in64]; omega)) ?_
      refine vwp_ret ?_
      -- result 0
      try simp only [thenQ, blockQ, jumpQ, stayQ, go_sem]
      refine ⟨by simp, _, _, rfl, by first | trivial | simp, ?_⟩
      have hno : ofB l = false := by
        rw [ofB, show l.all patchB = false from ?_]; rfl
        rw [List.all_eq_false]; exact ⟨l[i], List.getElem_mem h0', by simpa using h1⟩
      exact ⟨.nilmap, _, by rw [hno]; simp only [go_sem], rfl, by rw [hno]; intro h; exact absurd h (by decide)⟩
    · -- h1 else
      refine vwp_skip ?_
      try simp only [thenQ, blockQ, jumpQ, stayQ]
      refine vwp_region ?_
      refine vops_go tabOk [] (by simp only [go_sem]; rfl) (by first | trivial | (simp; done) | (simp [in64]; omega)) ?_
      -- mapUpdate(t17, t19, t20)
      refine vops_step1 (step_mapUpdate (t := 88) (k := 9) (e := 48) (i := 0) (s := l[i].name) rfl (by kernel_rfl) (by simp only [go_sem]) rfl (by simp only [go_sem]) (by simp only [go_sem])) rfl rfl ?_
      simp only [go_sem]
      refine vops_done [0, 4, 8, 9, 10] ?_
      simp only [go_sem, thenQ, blockQ, jumpQ, stayQ]
      try simp only [thenQ, blockQ, jumpQ, stayQ]
      refine vwp_trim 1 (by simp) (by simp) ?_
      simp only [go_sem]
      refine vwp_reg1 tabOk [] [0, 4, 8, 9, 10] (by simp only [go_sem]; rfl) (by first | trivial | (simp; done) | (simp [in64]; omega)) ?_
      try simp only [thenQ, blockQ, jumpQ, stayQ]
      -- round 0
      
      exact ⟨i + 1, ⟨by omega, by rw [take_all patchB l i h0', hok]; simpa using h1⟩, by omega, (Env.wk_cons (by first | exact Wk.refl _ | exact Wk.nils _ | (refine Wk.eq ?_; simp; done) | (refine Wk.eq ?_; congr 1 <;> omega)) (Env.wk_cons (by first | exact Wk.refl _ | exact Wk.nils _ | (refine Wk.eq ?_; simp; done) | (refine Wk.eq ?_; congr 1 <;> omega)) (Env.wk_cons (by first | exact Wk.refl _ | exact Wk.nils _ | (refine Wk.eq ?_; simp; done) | (refine Wk.eq ?_; congr 1 <;> omega)) (Env.wk_cons (by first | exact Wk.refl _ | exact Wk.nils _ | (refine Wk.eq ?_; simp; done) | (refine Wk.eq ?_; congr 1 <;> omega)) (Env.wk_cons (by first | exact Wk.refl _ | exact Wk.nils _ | (refine Wk.eq ?_; simp; done) | (refine Wk.eq ?_; congr 1 <;> omega)) (Env.wk_nil _)))))), by rw [setAll_take _ l i h0']; rfl⟩
  · -- h0 else
    refine vwp_exit ?_
    simp only [thenQ, blockQ, jumpQ, stayQ, if_true, reduceIte, Nat.reduceEqDiff]
    refine vwp_seq (vwp_region ?_)
    refine vops_go tabOk [] (by simp only [go_sem]; rfl) (by first | trivial | (simp; done) | (simp [in64]; omega)) ?_
    -- t24 = len(t23)
    refine vops_step1 (step_lenMap (t := 88) (k := 9) (e := 48) (i := 0) rfl (by kernel_rfl) (by simp only [go_sem]) rfl) rfl rfl ?_
    simp only [go_sem]
    refine vops_go tabOk [] (by simp only [go_sem]; rfl) (by first | trivial | (simp; done) | (simp [in64]; omega)) ?_
    refine vops_done [2, 3] ?_
    simp only [go_sem, thenQ, blockQ, jumpQ, stayQ]
    refine vwp_ret ?_
    -- result 1
    try simp only [thenQ, blockQ, jumpQ, stayQ, go_sem]
    refine ⟨by simp, _, _, rfl, by first | trivial | simp, ?_⟩
    have hi2 : i = l.length := by simp at h0; omega
    subst hi2
    rw [List.take_length] at hok ⊢
    refine ⟨.map 0, _, ?_, rfl, fun _ => ⟨rfl, rfl⟩⟩
    have e1 : decide (((setAll [] l).length : Int) = (l.length : Int)) = decide ((mapOf l).length = l.length) := by simp only [mapOf]; exact decide_eq_decide.2 (by omega)
    have e2 : decide ((l.length : Int) ≤ 256) = decide (l.length ≤ 256) := decide_eq_decide.2 (by omega)
    simp only [go_sem, e1, e2]
    rw [ofB, hok, Bool.true_and]; cases decide ((mapOf l).length = l.length) <;> rfl

/-! counterpane/closure.Sorted$1 -/
theorem b_closure_Sorted_1 : bodied Go.Proofs.Tryz.prog 65 = true := by rw [bodied, Tryz.func65]; rfl
theorem c_closure_Sorted_1 (x y : Patch) : VPure Go.Proofs.Tryz.prog G 65 [.agg (cPatch x), .agg (cPatch y)] (.int .i64 (Lib.compareBytes x.name y.name)) := by
  refine vpure_of (ts := [4]) Tryz.func65 rfl (by simp [Tryz.ntmps65]) rfl rfl ?_
  rw [Tryz.ntmps65]
  refine vwp_reg tabOk [] [2, 3] (by simp only [go_sem]; rfl) (by first | trivial | (simp; done) | (simp [in64]; omega)) ?_
  refine vwp_seq (vwp_region ?_)
  refine vops_go tabOk [] (by simp only [go_sem]; rfl) (by first | trivial | (simp; done) | (simp [in64]; omega)) ?_
  -- call 0: t9 = CALL 66(f66, t6, t8)
  refine vops_call (hc := fun _ => c_Compare x.name y.name) rfl (by simp only [go_sem]; rfl) rfl b_strings_Compare (by simp only [go_sem]; exact WkL.refl _) rfl (fun hg => by simp only [go_sem]; try (intros; first | assumption | trivial | simp_all)) ?_
  simp only [go_sem]
  refine vops_go tabOk [] (by simp only [go_sem]; rfl) (by first | trivial | (simp; done) | (simp [in64]; omega)) ?_
  refine vops_done [4] ?_
  simp only [go_sem, thenQ, blockQ, jumpQ, stayQ]
  refine vwp_ret ?_
  -- result 0
  simp only [thenQ, blockQ, jumpQ, stayQ, RetQ, go_sem]
  refine ⟨by simp, Wk.eq ?_⟩
  rfl
end Go.Proofs.YtldfghgjllaljaaGreatDoor.Q
end

section
/- Plain laws of the package 'codec': its own reading, which bears more than the document's. -/
set_option linter.unusedVariables false
set_option linter.unusedSimpArgs false
namespace Go.Proofs.YtldfghgjllaljaaGreatDoor.Q
open Go Go.Q

theorem indexByte_colon : ∀ (b : Str), Lib.indexByte b 58 = if posC b < b.length then (posC b : Int) else -1
  | [] => by simp [Lib.indexByte, posC]
  | c :: b => by
    have ih := indexByte_colon b
    rw [Lib.indexByte, posC_cons, ih]
    by_cases h : c = 58
    · subst h; simp
    · have : (c == 58) = false := by simpa using h
      rw [this, if_neg h]
      by_cases h2 : posC b < b.length
      · have h3 : ((posC b : Int) == -1) = false := by rw [beq_eq_false_iff_ne]; omega
        simp [h2, h3]
      · simp [h2]

/-- What is still to be read. -/
def lnR (b : Str) : Rd := ⟨b, b.isEmpty⟩
def lnOk (b : Str) : Bool := decide (1 ≤ posC b ∧ posC b ≤ 9 ∧ posC b < b.length) && (b.take (posC b)).all isD
def lnNum (r : Rd) : Nat × Rd := if lnOk r.b then (numOf (r.b.take (posC r.b)), lnR (r.b.drop (posC r.b + 1))) else (0, lnR [])
def lnTxt (r : Rd) : Str × Rd := ((lnNum r).2.b.take (lnNum r).1, lnR ((lnNum r).2.b.drop (lnNum r).1))
def lnList {α : Type} (one : Rd → α × Rd) (r : Rd) : List α × Rd := rdMany one (lnNum r).1 (lnNum r).2
def lnLst (r : Rd) : List Str × Rd := lnList lnTxt r
def lnPat (r : Rd) : Patch × Rd := ((getPatch (lnTxt r).1).1, (lnTxt r).2)
def lnPats (r : Rd) : List Patch × Rd := lnList lnPat r
def lnMsg (r : Rd) : Msg × Rd :=
  let k := lnNum r
  let n := lnLst k.2
  let h := lnLst n.2
  let e := lnNum h.2
  let p := lnPats e.2
  (⟨(k.1 : Int), n.1, h.1, (e.1 : Int), p.1⟩, p.2)
def cLn (r : Rd) : List V := [.list 1 (r.b.map encB)]
attribute [go_sem] cLn

theorem lnR_ok (b : Str) : (lnR b).bad = (lnR b).b.isEmpty := rfl
theorem lnNum_ok (r : Rd) : (lnNum r).2.bad = (lnNum r).2.b.isEmpty := by unfold lnNum; split <;> rfl
theorem lnTxt_ok (r : Rd) : (lnTxt r).2.bad = (lnTxt r).2.b.isEmpty := rfl
theorem lnNum_le (r : Rd) : (lnNum r).2.b.length ≤ r.b.length := by
  unfold lnNum; split
  · simp [lnR]
  · simp [lnR]
theorem lnNum_lt (r : Rd) : (lnNum r).1 < 1000000000 := by
  unfold lnNum; split
  · rename_i h
    simp only [lnOk, Bool.and_eq_true, decide_eq_true_eq] at h
    exact Nat.lt_of_lt_of_le (numOf_lt r.b _ (posC_le r.b) h.2) (Nat.pow_le_pow_right (by omega) h.1.2.1)
  · simp
theorem lnTxt_le (r : Rd) : (lnTxt r).2.b.length ≤ r.b.length := by
  have := lnNum_le r
  simp only [lnTxt, lnR, List.length_drop]; omega
theorem lnTxt_len (r : Rd) : (lnTxt r).1.length ≤ r.b.length := by
  have := lnNum_le r
  simp only [lnTxt, List.length_take]; omega
end Go.Proofs.YtldfghgjllaljaaGreatDoor.Q
end

section
/- Walks of the package 'codec': its reader, in the logic 'Q'. -/
set_option linter.unusedVariables false
set_option linter.unusedSimpArgs false
set_option maxRecDepth 100000
namespace Go.Proofs.YtldfghgjllaljaaGreatDoor.Q
open Go Go.Q Go.Proofs Go.Shelf

set_option maxHeartbeats 1000000 in
theorem bytes_IndexByte_none {P : Program} {ρ : Ren} (L : Lays.n187 P ρ) (c : Nat) (cv : Int) (w : World) :
    Calls P (ρ.f 187) #[.slice none 0 c, .int .u8 cv] w fun e w' => e = .returned (.int .i64 (-1)) ∧ w' = w := by
  have t3 := L.t3; have t5 := L.t5; have t37 := L.t37
  have a3 := L.a3; have a5 := L.a5; have a37 := L.a37
  have mixed := L.mixed; have z3 := L.z3; have v3 := L.v3; have z5 := L.z5; have v5 := L.v5; have z37 := L.z37; have v37 := L.v37
  go_enter L.f187, Body.n187_ntmps ρ
  go_wp2
  rw [run_callFunc_extern L.f255 (by kernel_rfl) (by kernel_rfl) (by kernel_rfl) (e := Extern.BytealgIndexByte.indexByte) (by kernel_rfl), Lib.run_indexByteNil w 0 c cv]
  simp only [Result.andThen]
  rw [Oper.upon_value]
  go_wp2
  go_ret
  exact ⟨rfl, rfl⟩

theorem b_bytes_IndexByte : bodied Go.Proofs.Tryz.prog 51 = true := by rw [bodied, Tryz.func51]; rfl
theorem c_bytes_IndexByte (s : Str) : VPure Go.Proofs.Tryz.prog G 51 [.list 1 (s.map encB), .int .u8 58] (.int .i64 (Lib.indexByte s 58)) := by
  refine vpure_same fun F w ms hr hG => ⟨.int .i64 (Lib.indexByte s 58), by simp only [Rel], ?_⟩
  simp only [RelL, Rel] at hr
  obtain ⟨u, _, rfl, ⟨a, c, us, rfl, hc, hB, hrel, hat⟩, u2, _, rfl, rfl, rfl⟩ := hr
  have hus := Go.Q.relLL_bytes hrel
  rw [List.length_map] at hc hB ⊢
  cases a with
  | none =>
    have hnil : us = [] := by
      rcases hat with h | ⟨b, o, h, _⟩
      · exact h
      · exact absurd h (by simp)
    have hs : s = [] := by rw [hnil] at hus; simpa using hus.symm
    subst hs
    exact (bytes_IndexByte_none Tryz.lays187 c 58 w).mono fun e w1 h => ⟨h.1, h.2 ▸ RowKit.Below.refl _ _⟩
  | some a =>
    refine (Tryz.bytes_IndexByte_at a s.length c (s.map fun b => (b.toNat : Int)) 58 w (by simp) fun i hi => ?_).mono ?_
    · rcases hat with h | ⟨b, o, h, hF, hcell⟩
      · rw [h] at hus
        have : s = [] := by simpa using hus.symm
        subst this; simp at hi
      · simp only [Option.some.injEq] at h
        subst h
        have h2 := hcell i (.int .u8 ((s[i]).toNat : Int)) (by rw [hus]; simp [hi])
        have h3 : (s.map fun b => (b.toNat : Int)).getD i 0 = ((s[i]).toNat : Int) := by simp [List.getD, hi]
        rw [h3, ← h2, add_spot rfl]
    · rintro e w' ⟨rfl, rfl⟩
      have : Lib.bytesOf (s.map fun b => (b.toNat : Int)) = s := by
        rw [Lib.bytesOf, List.map_map]
        conv => rhs; rw [← List.map_id s]
        exact List.map_congr_left fun b _ => by simp
      rw [this]
      exact ⟨rfl, RowKit.Below.refl _ _⟩


/-- A box's cells, read less well. -/
theorem vwp_wkO {p : Par} {c : Code} {R : Post} {env : Env} {H : List Go.Q.Obj} {ty : Option TypeId} (i : Nat) (cs cs' : List V) (hi : H[i]? = some (.box cs ty)) (h : WkL cs cs') (hc : VWp p c R env (H.set i (.box cs' ty))) : VWp p c R env H := by
  intro E F ρ a w st
  obtain ⟨h0, hr⟩ : ∃ h0, ρ[i]? = some h0 := by
    have : i < ρ.length := by rw [st.sim.len]; exact (List.getElem?_eq_some_iff.1 hi).1
    exact ⟨_, List.getElem?_eq_getElem this⟩
  obtain ⟨b, us, t, hh, hheap, hrel, hone⟩ := st.sim.obj i _ _ hi hr
  subst hh
  refine hc E F ρ a w (st.setObj (w' := w) (i := i) (o' := .box cs' ty) hi rfl hr rfl rfl rfl rfl (fun _ _ => rfl) ⟨b, us, t, rfl, hheap, ?_, hone⟩)
  exact h.rel hrel
theorem map_take_enc (s d : Str) (n : Nat) (h : d = s.take n) : (s.map encB).take n = d.map encB := by rw [h, List.map_take]

/-! (*counterpane/codec.reader).number -/
theorem b_codec_reader_number : bodied Go.Proofs.Tryz.prog 31 = true := by rw [bodied, Tryz.func31]; rfl
theorem c_codec_reader_number (x : Rd) : VCalls Go.Proofs.Tryz.prog G 31 [.ptr 0 0] [.box (cLn x)] [] (fun r H => r = .int .i64 ((lnNum x).1 : Int) ∧ H = [.box (cLn (lnNum x).2)]) := by
  refine vcalls_know fun hk hK => ?_
  simp only [List.mem_singleton, forall_eq, factsO, cLn, factsL, facts, maxB, List.length_map] at hK
  have hpl := posC_le x.b
  obtain ⟨d, hd0⟩ : ∃ d, d = x.b.take (posC x.b) := ⟨_, rfl⟩
  have hdl : d.length = posC x.b := by rw [hd0, List.length_take]; omega
  have hok0 : lnOk x.b = (decide (1 ≤ posC x.b ∧ posC x.b ≤ 9 ∧ posC x.b < x.b.length) && d.all isD) := by rw [lnOk, hd0]
  refine vcalls_of2 tabOk (rs := _) 1 Tryz.func31 rfl (by simp [Tryz.ntmps31]) rfl (by first | (simp; done) | exact Nat.le_refl _) ?_
  rw [Tryz.ntmps31]
  refine vwp_reg tabOk [] [0] (by simp only [go_sem]; rfl) (by first | trivial | (simp; done) | (simp [in64]; omega)) ?_
  refine vwp_scope1 0 (fun env H => Env.wk [(0, .ptr 0 0)] env ∧ H = [.box (cLn x)] ∧ lnOk x.b = false) rfl ?_ ?_
  · -- up to the label
    refine vwp_seq (vwp_region ?_)
    refine vops_go tabOk [] (by simp only [go_sem]; rfl) (by first | trivial | (simp; done) | (simp [in64]; omega)) ?_
    -- call 0: t11 = CALL 51(f51, t10, 58)
    refine vops_call (hc := fun _ => c_bytes_IndexByte x.b) rfl (by simp only [go_sem]; rfl) rfl b_bytes_IndexByte (by simp only [go_sem]; exact WkL.refl _) rfl (fun hg => by simp only [go_sem]; try (intros; first | assumption | trivial | simp_all)) ?_
    simp only [go_sem]
    refine vops_go tabOk [] (by simp only [go_sem]; rfl) (by first | trivial | (simp; done) | (simp [in64]; omega)) ?_
    refine vops_done [0, 3] ?_
    simp only [go_sem, thenQ, blockQ, jumpQ, stayQ]
    refine vwp_reg tabOk [] [0, 3, 4] (by simp only [go_sem]; rfl) (by first | trivial | (simp; done) | (simp [in64]; omega)) ?_
    refine vwp_seq ?_
    refine vwp_reg tabOk [] [0, 3, 4, 17] (by simp only [go_sem]; rfl) (by first | trivial | (simp; done) | (simp [in64]; omega)) ?_
    refine vwp_cond (by simp only [go_sem]; rfl) (fun h0 => ?_) (fun h0 => ?_)
    · -- h0 then
      have hno : lnOk x.b = false := by
        rw [indexByte_colon] at h0
        rw [lnOk, Bool.and_eq_false_iff]; left
        rw [decide_eq_false_iff_not]
        intro h9
        rw [if_pos h9.2.2] at h0
        simp at h0; omega
      refine vwp_goto ?_
      simp only [thenQ, blockQ, jumpQ, true_and]
      exact ⟨Env.wk_cons2 (by simp only [go_sem]; exact Wk.refl _) (Env.wk_nil _), hno⟩
    · -- h0 else
      have hi0 : posC x.b < x.b.length ∧ Lib.indexByte x.b 58 = (posC x.b : Int) ∧ 1 ≤ posC x.b ∧ posC x.b ≤ 9 := by
        have h9 := indexByte_colon x.b
        split at h9
        · rw [h9] at h0; simp at h0; exact ⟨by assumption, h9, by omega, by omega⟩
        · rw [h9] at h0; simp at h0
      rw [hi0.2.1]
      refine vwp_skip ?_
      try simp only [thenQ, blockQ, jumpQ, stayQ]
      refine vwp_seq ?_
      refine vwp_reg tabOk [] [0, 3, 4, 23, 24, 25] (by simp only [go_sem]; rfl) (by first | trivial | (simp; done) | (simp [in64]; omega)) ?_
      refine vwp_block ?_
      rw [map_take_enc x.b d _ hd0]
      -- loop 0
      refine vwp_loopW (fun i : Nat => [(0, .ptr 0 0), (3, .int .i64 (posC x.b : Int)), (4, .int .i64 (numOf (d.take i) : Int)), (23, .list 1 (d.map encB)), (24, .int .i64 (d.length : Int)), (25, .int .i64 (i : Int))]) (fun i => [.box (cLn x)]) (fun i => i ≤ d.length ∧ (d.take i).all isD = true) (fun i => d.length - i) 0 ⟨Nat.zero_le _, by rfl⟩ (Env.wk_cons (by first | exact Wk.refl _ | exact Wk.nils _ | (refine Wk.eq ?_; simp; done) | (refine Wk.eq ?_; congr 1 <;> omega)) (Env.wk_cons (by first | exact Wk.refl _ | exact Wk.nils _ | (refine Wk.eq ?_; simp; done) | (refine Wk.eq ?_; congr 1 <;> omega)) (Env.wk_cons (by first | exact Wk.refl _ | exact Wk.nils _ | (refine Wk.eq ?_; simp; done) | (refine Wk.eq ?_; congr 1 <;> omega)) (Env.wk_cons (by first | exact Wk.refl _ | exact Wk.nils _ | (refine Wk.eq ?_; simp; done) | (refine Wk.eq ?_; congr 1 <;> omega)) (Env.wk_cons (by first | exact Wk.refl _ | exact Wk.nils _ | (refine Wk.eq ?_; simp; done) | (refine Wk.eq ?_; congr 1 <;> omega)) (Env.wk_cons (by first | exact Wk.refl _ | exact Wk.nils _ | (refine Wk.eq ?_; simp; done) | (refine Wk.eq ?_; congr 1 <;> omega)) (Env.wk_nil _))))))) rfl ?_
      rintro i ⟨hi, hok⟩
      refine vwp_reg tabOk [] [0, 3, 4, 23, 24, 25, 26] (by simp only [go_sem]; rfl) (by first | trivial | (simp; done) | (simp [in64]; omega)) ?_
      refine vwp_seq ?_
      refine vwp_cond (by simp only [go_sem]; rfl) (fun h1 => ?_) (fun h1 => ?_)
      · -- h1 then
        have h1' : i < d.length := by simp at h1; omega
        refine vwp_skip ?_
        try simp only [thenQ, blockQ, jumpQ, stayQ]
        refine vwp_seq ?_
        refine vwp_block ?_
        refine vwp_reg tabOk [] [0, 3, 4, 6, 23, 24, 25] (by simp only [go_sem, getD_map, h1', encB]; rfl) (by first | trivial | (simp; omega)) ?_
        refine vwp_seq ?_
        refine vwp_reg tabOk [] [0, 3, 4, 6, 23, 24, 25, 34] (by simp only [go_sem]; rfl) (by first | trivial | (simp; done) | (simp [in64]; omega)) ?_
        refine vwp_cond (by simp only [go_sem]; rfl) (fun h2 => ?_) (fun h2 => ?_)
        · -- h2 then
          have hno : lnOk x.b = false := by
            rw [hok0, Bool.and_eq_false_iff]; right
            rw [List.all_eq_false]; refine ⟨_, List.getElem_mem h1', ?_⟩
            simp only [isD, decide_eq_true_eq]
            simp at h2; omega
          refine vwp_goto ?_
          simp only [thenQ, blockQ, jumpQ, true_and]
          exact ⟨Env.wk_cons2 (by simp only [go_sem]; exact Wk.refl _) (Env.wk_nil _), hno⟩
        · -- h2 else
          have hd : isD d[i] = true := by simp at h2; simp only [isD, decide_eq_true_eq]; omega
          have hw := wrap_dig _ hd
          have hn := numOf_big d i hi (by omega) hok
          have h9 : (d[i]).toNat - 48 ≤ 9 := by simp only [isD, decide_eq_true_eq] at hd; omega
          refine vwp_skip ?_
          try simp only [thenQ, blockQ, jumpQ, stayQ]
          refine vwp_reg1 tabOk [] [0, 3, 4, 23, 24, 25] (by simp only [go_sem]; rfl) (by first | trivial | (simp [hw, in64, h1', -List.getD_eq_getElem?_getD]; omega)) ?_
          try simp only [thenQ, blockQ, jumpQ, stayQ]
          refine vwp_reg1 tabOk [] [0, 3, 4, 23, 24, 25] (by simp only [go_sem]; rfl) (by first | trivial | (simp; done) | (simp [in64]; omega)) ?_
          try simp only [thenQ, blockQ, jumpQ, stayQ]
          -- round 0
          exact ⟨i + 1, ⟨by omega, by rw [take_all isD _ i h1', hok, hd]; rfl⟩, by omega, Env.wk_cons (Wk.refl _) (Env.wk_cons (Wk.refl _) (Env.wk_cons (Wk.eq (by rw [numOf_take _ i h1', hw]; congr 1)) (Env.wk_cons (Wk.refl _) (Env.wk_cons (Wk.refl _) (Env.wk_cons (Wk.refl _) (Env.wk_nil _)))))), by trivial⟩
      · -- h1 else
        refine vwp_exit ?_
        simp only [thenQ, blockQ, jumpQ, stayQ, if_true, reduceIte, Nat.reduceEqDiff]
        refine vwp_reg tabOk [] [4] (by simp only [go_sem]; rfl) (by first | trivial | (simp; done) | (simp [in64]; omega)) ?_
        refine vwp_seq ?_
        refine vwp_reg tabOk [] [2] (by simp only [go_sem]; rfl) (by first | trivial | (simp; done) | (simp [in64]; omega)) ?_
        refine vwp_ret ?_
        -- result 0
        try simp only [thenQ, blockQ, jumpQ, stayQ, go_sem]
        refine ⟨by simp, _, _, rfl, by first | trivial | simp, ?_⟩
        have hi2 : i = d.length := by simp at h1; omega
        rw [hi2, List.take_length] at hok ⊢
        have h5 : lnOk x.b = true := by rw [hok0, hok, Bool.and_true, decide_eq_true_eq]; omega
        rw [show lnNum x = (numOf d, lnR (x.b.drop (posC x.b + 1))) from by rw [lnNum, if_pos h5, hd0]]
        exact ⟨rfl, by rw [lnR, List.map_drop]⟩
  · -- from the label on
    rintro env H ⟨hw, rfl, hno⟩
    refine vwp_weakenW hw ?_
    refine vwp_seq ?_
    refine vwp_skip ?_
    try simp only [thenQ, blockQ, jumpQ, stayQ]
    refine vwp_reg tabOk [] [] (by simp only [go_sem]; rfl) (by first | trivial | (simp; done) | (simp [in64]; omega)) ?_
    refine vwp_wkO 0 [.nils] [.list 1 []] rfl ⟨Wk.nils _, trivial⟩ ?_
    simp only [go_sem]
    refine vwp_reg tabOk [] [2] (by simp only [go_sem]; rfl) (by first | trivial | (simp; done) | (simp [in64]; omega)) ?_
    refine vwp_ret ?_
    -- result 1
    try simp only [thenQ, blockQ, jumpQ, stayQ, go_sem]
    refine ⟨by simp, _, _, rfl, by first | trivial | simp, ?_⟩
    rw [show lnNum x = (0, lnR []) from by rw [lnNum, if_neg (by simp [hno])]]; exact ⟨rfl, rfl⟩

/-! (*counterpane/codec.reader).text -/
theorem b_codec_reader_text : bodied Go.Proofs.Tryz.prog 52 = true := by rw [bodied, Tryz.func52]; rfl
theorem c_codec_reader_text (x : Rd) : VCalls Go.Proofs.Tryz.prog G 52 [.ptr 0 0] [.box (cLn x)] [] (fun r H => r = .list 1 ((lnTxt x).1.map encB) ∧ H = [.box (cLn (lnTxt x).2)]) := by
  refine vcalls_know fun hk hK => ?_
  simp only [List.mem_singleton, forall_eq, factsO, cLn, factsL, facts, maxB, List.length_map] at hK
  have hlt := lnNum_lt x
  have hle := lnNum_le x
  have e1 : (lnNum x).2.b.take (min (lnNum x).1 (lnNum x).2.b.length) = (lnNum x).2.b.take (lnNum x).1 := by rw [← List.take_take, List.take_length]
  have e2 : (lnNum x).2.b.drop (min (lnNum x).1 (lnNum x).2.b.length) = (lnNum x).2.b.drop (lnNum x).1 := by
    rcases Nat.le_total (lnNum x).1 (lnNum x).2.b.length with h | h
    · rw [Nat.min_eq_left h]
    · rw [Nat.min_eq_right h, List.drop_length, List.drop_of_length_le h]
  refine vcalls_of2 tabOk (rs := _) 1 Tryz.func52 rfl (by simp [Tryz.ntmps52]) rfl (by first | (simp; done) | exact Nat.le_refl _) ?_
  rw [Tryz.ntmps52]
  refine vwp_reg tabOk [] [0] (by simp only [go_sem]; rfl) (by first | trivial | (simp; done) | (simp [in64]; omega)) ?_
  refine vwp_seq (vwp_region ?_)
  refine vops_go tabOk [] (by simp only [go_sem]; rfl) (by first | trivial | (simp; done) | (simp [in64]; omega)) ?_
  -- call 0: t7 = CALL 31(f31, t6)
  refine vops_callH (hc := c_codec_reader_number x) rfl rfl rfl b_codec_reader_number [0] [] [] rfl rfl rfl (by simp only [go_sem]; exact WkL.refl _) (by simp only [go_sem]) ?_
  rintro r0 H0 ⟨rfl, rfl⟩
  simp only [go_sem]
  refine vops_go tabOk [] (by simp only [go_sem]; rfl) (by first | trivial | (simp; done) | (simp [in64]; omega)) ?_
  refine vops_done [0, 3] ?_
  simp only [go_sem, thenQ, blockQ, jumpQ, stayQ]
  refine vwp_reg tabOk [] [0, 4] (by simp only [go_sem]; rfl) (by first | trivial | (simp; done) | (simp [in64]; omega)) ?_
  refine vwp_reg tabOk [] [0, 4, 5] (by simp only [go_sem]; rfl) (by first | trivial | (simp; done) | (simp [in64]; omega)) ?_
  refine vwp_reg tabOk [] [5] (by simp only [go_sem]; rfl) (by first | trivial | (simp; done) | (simp [in64]; omega)) ?_
  refine vwp_reg tabOk [] [2] (by simp only [go_sem]; rfl) (by first | trivial | (simp; done) | (simp [in64]; omega)) ?_
  refine vwp_ret ?_
  -- result 0
  try simp only [thenQ, blockQ, jumpQ, stayQ, go_sem]
  refine ⟨by simp, _, _, rfl, by first | trivial | simp, ?_⟩
  have e3 : (if ((lnNum x).2.b.length : Int) < ((lnNum x).1 : Int) then ((lnNum x).2.b.length : Int) else ((lnNum x).1 : Int)).toNat = min (lnNum x).1 (lnNum x).2.b.length := by split <;> omega
  rw [e3, ← List.map_take, ← List.map_drop, e1, e2]; exact ⟨rfl, rfl⟩

/-! (*counterpane/codec.reader).list -/
theorem b_codec_reader_list : bodied Go.Proofs.Tryz.prog 32 = true := by rw [bodied, Tryz.func32]; rfl
set_option maxHeartbeats 4000000 in
theorem c_codec_reader_list (x : Rd) : VCalls Go.Proofs.Tryz.prog G 32 [.ptr 0 0] [.box (cLn x)] [] (fun r H => r = .list 1 ((lnLst x).1.map cS) ∧ H = [.box (cLn (lnLst x).2)]) := by
  refine vcalls_know fun hk hK => ?_
  simp only [List.mem_singleton, forall_eq, factsO, cLn, factsL, facts, maxB, List.length_map] at hK
  have hlt := lnNum_lt x
  have hle := lnNum_le x
  refine vcalls_of2 tabOk (rs := _) 1 Tryz.func32 rfl (by simp [Tryz.ntmps32]) rfl (by first | (simp; done) | exact Nat.le_refl _) ?_
  rw [Tryz.ntmps32]
  refine vwp_reg tabOk [] [0] (by simp only [go_sem]; rfl) (by first | trivial | (simp; done) | (simp [in64]; omega)) ?_
  refine vwp_reg tabOk [] [0, 3] (by simp only [go_sem]; rfl) (by first | trivial | (simp; done) | (simp [in64]; omega)) ?_
  refine vwp_seq ?_
  refine vwp_seq (vwp_region ?_)
  refine vops_go tabOk [] (by simp only [go_sem]; rfl) (by first | trivial | (simp; done) | (simp [in64]; omega)) ?_
  -- call 0: t6 = CALL 31(f31, t5)
  refine vops_callH (hc := c_codec_reader_number x) rfl rfl rfl b_codec_reader_number [0] [] [] rfl rfl rfl (by simp only [go_sem]; exact WkL.refl _) (by simp only [go_sem]) ?_
  rintro r0 H0 ⟨rfl, rfl⟩
  simp only [go_sem]
  refine vops_go tabOk [] (by simp only [go_sem]; rfl) (by first | trivial | (simp; done) | (simp [in64]; omega)) ?_
  refine vops_done [0, 3, 4] ?_
  simp only [go_sem, thenQ, blockQ, jumpQ, stayQ]
  refine vwp_block ?_
  refine vwp_own 3 9 1 rfl ?_
  refine vwp_keep [0, 3, 4] ?_
  simp only [go_sem]
  -- loop 0
  refine vwp_loopW (fun y : Nat × List Str × Rd => [(0, .ptr 0 0), (3, .arr 1 y.2.1.length), (4, .int .i64 (((lnNum x).1 : Int) - (y.1 : Int)))]) (fun y => [.box (cLn y.2.2), .arr 9 1 (y.2.1.map cS)]) (fun y => reading lnTxt (lnNum x).1 (lnNum x).2 y.1 y.2.1 y.2.2 ∧ y.2.2.bad = y.2.2.b.isEmpty ∧ y.2.2.b.length ≤ x.b.length) (fun y => (lnNum x).1 - y.1) (0, [], (lnNum x).2) ⟨reading_start _ _ _, lnNum_ok x, hle⟩ (Env.wk_cons (by first | exact Wk.refl _ | exact Wk.nils _ | (refine Wk.eq ?_; simp; done) | (refine Wk.eq ?_; congr 1 <;> omega)) (Env.wk_cons (by first | exact Wk.refl _ | exact Wk.nils _ | (refine Wk.eq ?_; simp; done) | (refine Wk.eq ?_; congr 1 <;> omega)) (Env.wk_cons (by first | exact Wk.refl _ | exact Wk.nils _ | (refine Wk.eq ?_; simp; done) | (refine Wk.eq ?_; congr 1 <;> omega)) (Env.wk_nil _)))) rfl ?_
  rintro y ⟨hr, hb, hyl⟩
  refine vwp_seq ?_
  refine vwp_reg tabOk [] [0, 3, 4, 16] (by simp only [go_sem]; rfl) (by first | trivial | (simp; done) | (simp [in64]; omega)) ?_
  refine vwp_cond (by simp only [go_sem]; rfl) (fun h0 => ?_) (fun h0 => ?_)
  · -- h0 then
    have h0' : y.1 < (lnNum x).1 ∧ y.2.2.bad = false := by
      rw [hb]; cases hq : y.2.2.b with
      | nil => rw [hq] at h0; simp at h0
      | cons c q => rw [hq] at h0; simp at h0; exact ⟨by omega, rfl⟩
    have h5 := hr.2.1
    have h6 := hr.1
    refine vwp_skip ?_
    try simp only [thenQ, blockQ, jumpQ, stayQ]
    refine vwp_seq ?_
    refine vwp_block ?_
    refine vwp_region ?_
    refine vops_go tabOk [] (by simp only [go_sem]; rfl) (by first | trivial | (simp; done) | (simp [in64]; omega)) ?_
    -- call 1: t21 = CALL 52(f52, t20)
    refine vops_callH (hc := c_codec_reader_text y.2.2) rfl rfl rfl b_codec_reader_text [0] [] [] rfl rfl rfl (by simp only [go_sem]; exact WkL.refl _) (by simp only [go_sem]) ?_
    rintro r1 H1 ⟨rfl, rfl⟩
    simp only [go_sem]
    refine vops_go tabOk [] (by simp only [go_sem]; rfl) (by first | trivial | (simp; done) | (simp [in64]; omega)) ?_
    refine vops_done [0, 3, 4] ?_
    simp only [go_sem, thenQ, blockQ, jumpQ, stayQ]
    try simp only [thenQ, blockQ, jumpQ, stayQ]
    refine vwp_reg1 tabOk [] [0, 3, 4] (by simp only [go_sem]; rfl) (by first | trivial | (simp; done) | (simp [in64]; omega)) ?_
    try simp only [thenQ, blockQ, jumpQ, stayQ]
    -- round 0
    
    exact ⟨(y.1 + 1, y.2.1 ++ [(lnTxt y.2.2).1], (lnTxt y.2.2).2), ⟨reading_step hr h0'.1 h0'.2, lnTxt_ok _, Nat.le_trans (lnTxt_le _) hyl⟩, by simp; omega, (Env.wk_cons (by first | exact Wk.refl _ | exact Wk.nils _ | (refine Wk.eq ?_; simp; done) | (refine Wk.eq ?_; congr 1 <;> omega)) (Env.wk_cons (by first | exact Wk.refl _ | exact Wk.nils _ | (refine Wk.eq ?_; simp; done) | (refine Wk.eq ?_; congr 1 <;> omega)) (Env.wk_cons (by first | exact Wk.refl _ | exact Wk.nils _ | (refine Wk.eq ?_; simp; done) | (refine Wk.eq ?_; congr 1 <;> omega)) (Env.wk_nil _)))), by simp [cS, cLn]⟩
  · -- h0 else
    refine vwp_exit ?_
    simp only [thenQ, blockQ, jumpQ, stayQ, if_true, reduceIte, Nat.reduceEqDiff]
    refine vwp_freeze 1 9 1 (y.2.1.map cS) rfl ?_
    simp only [go_sem]
    refine vwp_reg tabOk [] [2] (by simp only [go_sem]; rfl) (by first | trivial | (simp; done) | (simp [in64]; omega)) ?_
    refine vwp_ret ?_
    -- result 0
    try simp only [thenQ, blockQ, jumpQ, stayQ, go_sem]
    refine ⟨by simp, _, _, rfl, by first | trivial | simp, ?_⟩
    have h2 : lnLst x = (y.2.1, y.2.2) := reading_end hr (by have h6 := hr.1; by_cases h7 : y.1 = (lnNum x).1; exact .inl h7; refine .inr ?_; rw [hb, List.isEmpty_iff]; cases hq : y.2.2.b with | nil => rfl | cons c q => exfalso; rw [hq] at h0; simp at h0; omega)
    rw [h2]; refine ⟨?_, rfl⟩; simp only [go_sem]; rw [List.take_of_length_le (by simp)]

/-! (*counterpane/codec.reader).patches -/
theorem b_codec_reader_patches : bodied Go.Proofs.Tryz.prog 33 = true := by rw [bodied, Tryz.func33]; rfl
set_option maxHeartbeats 4000000 in
theorem c_codec_reader_patches (x : Rd) (hx : x.b.length ≤ 1000000000) : VCalls Go.Proofs.Tryz.prog G 33 [.ptr 0 0] [.box (cLn x)] [] (fun r H => r = .list 3 ((lnPats x).1.map cPatch) ∧ H = [.box (cLn (lnPats x).2)]) := by
  refine vcalls_know fun hk hK => ?_
  simp only [List.mem_singleton, forall_eq, factsO, cLn, factsL, facts, maxB, List.length_map] at hK
  have hlt := lnNum_lt x
  have hle := lnNum_le x
  refine vcalls_of2 tabOk (rs := _) 1 Tryz.func33 rfl (by simp [Tryz.ntmps33]) rfl (by first | (simp; done) | exact Nat.le_refl _) ?_
  rw [Tryz.ntmps33]
  refine vwp_reg tabOk [] [0] (by simp only [go_sem]; rfl) (by first | trivial | (simp; done) | (simp [in64]; omega)) ?_
  refine vwp_reg tabOk [] [0, 3] (by simp only [go_sem]; rfl) (by first | trivial | (simp; done) | (simp [in64]; omega)) ?_
  refine vwp_seq ?_
  refine vwp_seq (vwp_region ?_)
  refine vops_go tabOk [] (by simp only [go_sem]; rfl) (by first | trivial | (simp; done) | (simp [in64]; omega)) ?_
  -- call 0: t8 = CALL 31(f31, t7)
  refine vops_callH (hc := c_codec_reader_number x) rfl rfl rfl b_codec_reader_number [0] [] [] rfl rfl rfl (by simp only [go_sem]; exact WkL.refl _) (by simp only [go_sem]) ?_
  rintro r0 H0 ⟨rfl, rfl⟩
  simp only [go_sem]
  refine vops_go tabOk [] (by simp only [go_sem]; rfl) (by first | trivial | (simp; done) | (simp [in64]; omega)) ?_
  refine vops_done [0, 3, 4] ?_
  simp only [go_sem, thenQ, blockQ, jumpQ, stayQ]
  refine vwp_block ?_
  refine vwp_own 3 48 3 rfl ?_
  refine vwp_keep [0, 3, 4] ?_
  simp only [go_sem]
  -- loop 0
  refine vwp_loopW (fun y : Nat × List Patch × Rd => [(0, .ptr 0 0), (3, .arr 1 y.2.1.length), (4, .int .i64 (((lnNum x).1 : Int) - (y.1 : Int)))]) (fun y => [.box (cLn y.2.2), .arr 48 3 (y.2.1.map cPatch)]) (fun y => reading lnPat (lnNum x).1 (lnNum x).2 y.1 y.2.1 y.2.2 ∧ y.2.2.bad = y.2.2.b.isEmpty ∧ y.2.2.b.length ≤ x.b.length) (fun y => (lnNum x).1 - y.1) (0, [], (lnNum x).2) ⟨reading_start _ _ _, lnNum_ok x, hle⟩ (Env.wk_cons (by first | exact Wk.refl _ | exact Wk.nils _ | (refine Wk.eq ?_; simp; done) | (refine Wk.eq ?_; congr 1 <;> omega)) (Env.wk_cons (by first | exact Wk.refl _ | exact Wk.nils _ | (refine Wk.eq ?_; simp; done) | (refine Wk.eq ?_; congr 1 <;> omega)) (Env.wk_cons (by first | exact Wk.refl _ | exact Wk.nils _ | (refine Wk.eq ?_; simp; done) | (refine Wk.eq ?_; congr 1 <;> omega)) (Env.wk_nil _)))) rfl ?_
  rintro y ⟨hr, hb, hyl⟩
  refine vwp_seq ?_
  refine vwp_reg tabOk [] [0, 3, 4, 18] (by simp only [go_sem]; rfl) (by first | trivial | (simp; done) | (simp [in64]; omega)) ?_
  refine vwp_cond (by simp only [go_sem]; rfl) (fun h0 => ?_) (fun h0 => ?_)
  · -- h0 then
    have h0' : y.1 < (lnNum x).1 ∧ y.2.2.bad = false := by
      rw [hb]; cases hq : y.2.2.b with
      | nil => rw [hq] at h0; simp at h0
      | cons c q => rw [hq] at h0; simp at h0; exact ⟨by omega, rfl⟩
    have h5 := hr.2.1
    have h6 := hr.1
    refine vwp_skip ?_
    try simp only [thenQ, blockQ, jumpQ, stayQ]
    refine vwp_seq ?_
    refine vwp_block ?_
    refine vwp_seq (vwp_region ?_)
    refine vops_go tabOk [] (by simp only [go_sem]; rfl) (by first | trivial | (simp; done) | (simp [in64]; omega)) ?_
    -- call 1: t23 = CALL 52(f52, t22)
    refine vops_callH (hc := c_codec_reader_text y.2.2) rfl rfl rfl b_codec_reader_text [0] [] [] rfl rfl rfl (by simp only [go_sem]; exact WkL.refl _) (by simp only [go_sem]) ?_
    rintro r1 H1 ⟨rfl, rfl⟩
    simp only [go_sem]
    -- call 2: t24 = CALL 53(f53, t23)
    refine vops_call (hc := fun _ => c_named_Get (lnTxt y.2.2).1 (Nat.le_trans (lnTxt_len _) (by omega))) rfl (by simp only [go_sem]; rfl) rfl b_named_Get (by simp only [go_sem]; exact WkL.refl _) rfl (fun hg => by simp only [go_sem]; try (intros; first | assumption | trivial | simp_all)) ?_
    simp only [go_sem]
    refine vops_go tabOk [] (by simp only [go_sem]; rfl) (by first | trivial | (simp; done) | (simp [in64]; omega)) ?_
    refine vops_done [0, 3, 4, 5] ?_
    simp only [go_sem, thenQ, blockQ, jumpQ, stayQ]
    refine vwp_reg1 tabOk [] [0, 3, 4] (by simp only [go_sem]; rfl) (by first | trivial | (simp; done) | (simp [in64]; omega)) ?_
    try simp only [thenQ, blockQ, jumpQ, stayQ]
    refine vwp_trim 2 (by simp) (by simp) ?_
    simp only [go_sem]
    refine vwp_reg1 tabOk [] [0, 3, 4] (by simp only [go_sem]; rfl) (by first | trivial | (simp; done) | (simp [in64]; omega)) ?_
    try simp only [thenQ, blockQ, jumpQ, stayQ]
    -- round 0
    
    exact ⟨(y.1 + 1, y.2.1 ++ [(lnPat y.2.2).1], (lnPat y.2.2).2), ⟨reading_step hr h0'.1 h0'.2, lnTxt_ok _, Nat.le_trans (lnTxt_le _) hyl⟩, by simp; omega, (Env.wk_cons (by first | exact Wk.refl _ | exact Wk.nils _ | (refine Wk.eq ?_; simp; done) | (refine Wk.eq ?_; congr 1 <;> omega)) (Env.wk_cons (by first | exact Wk.refl _ | exact Wk.nils _ | (refine Wk.eq ?_; simp; done) | (refine Wk.eq ?_; congr 1 <;> omega)) (Env.wk_cons (by first | exact Wk.refl _ | exact Wk.nils _ | (refine Wk.eq ?_; simp; done) | (refine Wk.eq ?_; congr 1 <;> omega)) (Env.wk_nil _)))), by simp [cPatch, cLn, lnPat]⟩
  · -- h0 else
    refine vwp_exit ?_
    simp only [thenQ, blockQ, jumpQ, stayQ, if_true, reduceIte, Nat.reduceEqDiff]
    refine vwp_freeze 1 48 3 (y.2.1.map cPatch) rfl ?_
    simp only [go_sem]
    refine vwp_reg tabOk [] [2] (by simp only [go_sem]; rfl) (by first | trivial | (simp; done) | (simp [in64]; omega)) ?_
    refine vwp_ret ?_
    -- result 0
    try simp only [thenQ, blockQ, jumpQ, stayQ, go_sem]
    refine ⟨by simp, _, _, rfl, by first | trivial | simp, ?_⟩
    have h2 : lnPats x = (y.2.1, y.2.2) := reading_end hr (by have h6 := hr.1; by_cases h7 : y.1 = (lnNum x).1; exact .inl h7; refine .inr ?_; rw [hb, List.isEmpty_iff]; cases hq : y.2.2.b with | nil => rfl | cons c q => exfalso; rw [hq] at h0; simp at h0; omega)
    rw [h2]; refine ⟨?_, rfl⟩; simp only [go_sem]; rw [List.take_of_length_le (by simp)]
end Go.Proofs.YtldfghgjllaljaaGreatDoor.Q
end

section
/- Plain laws of sorting: one sorted list. -/
set_option linter.unusedVariables false
set_option linter.unusedSimpArgs false
namespace Go.Proofs.YtldfghgjllaljaaGreatDoor.Q
open Go Go.Q

/-- Names do not fall. -/
def upP (l : List Patch) : Prop := l.Pairwise fun a b => strGt a.name b.name = false
theorem ofB_len {l : List Patch} (h : ofB l = true) : l.length ≤ 256 := by
  simp only [ofB, Bool.and_eq_true, decide_eq_true_eq] at h; exact h.2.2

theorem insP_perm (x : Patch) : ∀ (l : List Patch), (insP x l).Perm (x :: l)
  | [] => .refl _
  | y :: r => by
    simp only [insP]; split
    · exact .refl _
    · exact ((insP_perm x r).cons y).trans (.swap x y r)
theorem sortGo_perm : ∀ {l acc s : List Patch}, sortGo acc l = some s → s.Perm (acc ++ l)
  | [], acc, s, h => by simp only [sortGo, Option.some.injEq] at h; subst h; simp
  | x :: r, acc, s, h => by
    rw [sortGo] at h
    split at h
    · have h1 := sortGo_perm h
      exact h1.trans (((insP_perm x acc).append_right r).trans (by
        have : (x :: acc ++ r).Perm (acc ++ x :: r) := List.perm_middle.symm
        exact this))
    · exact absurd h (by simp)

theorem strGt_false (a b : Str) : strGt a b = false ↔ a < b ∨ a = b := by
  unfold strGt
  rw [bytesLess_eq, Bool.not_eq_false', Bool.or_eq_true, decide_eq_true_eq, decide_eq_true_eq]
theorem str_tri (a b : Str) : a < b ∨ a = b ∨ b < a := by
  rcases Decidable.em (a < b) with h | h
  · exact .inl h
  · rcases Decidable.em (b < a) with h2 | h2
    · exact .inr (.inr h2)
    · exact .inr (.inl (List.le_antisymm (List.not_lt.1 h2) (List.not_lt.1 h)))
theorem strGt_true (a b : Str) : strGt a b = true ↔ b < a := by
  rw [← Bool.not_eq_false, strGt_false]
  constructor
  · intro h
    rcases str_tri a b with h1 | h1 | h1
    · exact absurd (.inl h1) h
    · exact absurd (.inr h1) h
    · exact h1
  · rintro h (h1 | rfl)
    · exact absurd (List.lt_trans h h1) (List.lt_irrefl _)
    · exact absurd h (List.lt_irrefl _)
theorem strGt_antisymm {a b : Str} (h1 : strGt a b = false) (h2 : strGt b a = false) : a = b := by
  rw [strGt_false] at h1 h2
  rcases h1 with h1 | h1
  · rcases h2 with h2 | h2
    · exact absurd (List.lt_trans h1 h2) (List.lt_irrefl _)
    · exact h2.symm
  · exact h1
theorem insP_up (x : Patch) : ∀ {l : List Patch}, upP l → upP (insP x l)
  | [], _ => by simp [insP, upP]
  | y :: r, h => by
    have h' := List.pairwise_cons.1 h
    simp only [insP]
    split
    · rename_i hy
      rw [strGt_true] at hy
      refine List.pairwise_cons.2 ⟨fun z hz => ?_, h⟩
      rw [strGt_false]
      rcases List.mem_cons.1 hz with rfl | hz
      · exact .inl hy
      · have := h'.1 z hz
        rw [strGt_false] at this
        rcases this with h3 | h3
        · exact .inl (List.lt_trans hy h3)
        · rw [← h3]; exact .inl hy
    · rename_i hy
      refine List.pairwise_cons.2 ⟨fun z hz => ?_, insP_up x h'.2⟩
      rcases List.mem_cons.1 ((insP_perm x r).mem_iff.1 hz) with rfl | hz
      · simpa using hy
      · exact h'.1 z hz
theorem sortGo_up : ∀ {l acc s : List Patch}, sortGo acc l = some s → upP acc → upP s
  | [], acc, s, h, hu => by simp only [sortGo, Option.some.injEq] at h; subst h; exact hu
  | x :: r, acc, s, h, hu => by
    rw [sortGo] at h
    split at h
    · exact sortGo_up h (insP_up x hu)
    · exact absurd h (by simp)
/-- No two names are one. -/
def apartP (l : List Patch) : Prop := l.Pairwise fun a b => a.name ≠ b.name
theorem apartP_perm {l l' : List Patch} (h : l.Perm l') : apartP l ↔ apartP l' := h.pairwise_iff fun {a b} h e => h e.symm
theorem sortGo_apart : ∀ {l acc s : List Patch}, sortGo acc l = some s → apartP acc → apartP (acc ++ l)
  | [], acc, s, h, hu => by simpa using hu
  | x :: r, acc, s, h, hu => by
    rw [sortGo] at h
    split at h
    · rename_i hc
      simp only [Bool.and_eq_true, Bool.not_eq_true'] at hc
      have h1 : apartP (x :: acc) := List.pairwise_cons.2 ⟨fun z hz e => by
        have := hc.2
        simp only [hasN, List.any_eq_false] at this
        exact this z hz (by simpa using e.symm), hu⟩
      have h2 := sortGo_apart h ((apartP_perm (insP_perm x acc)).2 h1)
      exact (apartP_perm (((insP_perm x acc).append_right r).trans List.perm_middle.symm)).1 h2
    · exact absurd h (by simp)
theorem apartP_eq {l : List Patch} (h : apartP l) {a b : Patch} (ha : a ∈ l) (hb : b ∈ l) (e : a.name = b.name) : a = b := by
  induction l with
  | nil => simp at ha
  | cons x r ih =>
    have h' := List.pairwise_cons.1 h
    rcases List.mem_cons.1 ha with ha | ha <;> rcases List.mem_cons.1 hb with hb | hb
    · rw [ha, hb]
    · rw [ha] at e; exact absurd e (h'.1 b hb)
    · rw [hb] at e; exact absurd e.symm (h'.1 a ha)
    · exact ih h'.2 ha hb
theorem up_uniq {l l' s : List Patch} (ha : apartP l) (h1 : l'.Perm l) (h2 : s.Perm l) (u1 : upP l') (u2 : upP s) : l' = s :=
  List.Perm.eq_of_pairwise (fun a b ha' hb' e1 e2 => apartP_eq ha (h1.mem_iff.1 ha') (h2.mem_iff.1 hb') (strGt_antisymm e1 e2)) u1 u2 (h1.trans h2.symm)
theorem sortedP_facts {l s : List Patch} (h : sortedP l = some s) : s.Perm l ∧ upP s ∧ apartP l ∧ l.length ≤ 256 := by
  unfold sortedP at h
  split at h
  · exact absurd h (by simp)
  · have h1 := sortGo_perm h
    have h2 := sortGo_apart h (by simp [apartP])
    exact ⟨by simpa using h1, sortGo_up h (by simp [upP]), by simpa using h2, by omega⟩
theorem sortP_uniq {l l' : List Patch} (h : ofB l = true) (hp : l'.Perm l) (hu : upP l') : sortP l = (l', 0) := by
  rw [← sortedP_isSome] at h
  obtain ⟨s, hs⟩ := Option.isSome_iff_exists.1 h
  obtain ⟨f1, f2, f3, _⟩ := sortedP_facts hs
  rw [sortP, hs, up_uniq f3 hp f1 hu f2]
theorem sortP_no {l : List Patch} (h : ofB l = false) : sortP l = ([], 1) := by
  rw [← sortedP_isSome] at h
  rw [sortP, Option.isSome_eq_false_iff.1 h |> Option.isNone_iff_eq_none.1]

def errC (x : Msg) : Bool := bif bif !decide (x.kind = 3) then decide (x.err = 0) else false then true else (bif bif decide (x.kind = 3) then decide (0 < x.err) else false then decide (x.err ≤ 1000) else false)
def rightC (m : Msg) : Bool := !rmA m && (!rmB m && errC m)
theorem rightM_C (m : Msg) : rightM m = (rightC m && decide ((sortP m.patches).2 = 0)) := by
  have h : rmC m = (errC m && decide ((sortP m.patches).2 = 0)) := by
    unfold rmC errC
    by_cases h1 : (sortP m.patches).2 = 0
    · by_cases h2 : m.kind = 3
      · have e : decide (1 ≤ m.err) = decide (0 < m.err) := decide_eq_decide.2 (by omega)
        simp only [h1, h2, decide_true, cond_true, cond_false, Bool.not_true, Bool.and_true, e]
        cases decide (0 < m.err) <;> cases decide (m.err ≤ 1000) <;> rfl
      · simp only [h1, h2, decide_true, decide_false, cond_true, cond_false, Bool.not_false, Bool.and_true]
        cases decide (m.err = 0) <;> rfl
    · simp [h1]
  unfold rightM rightC
  rw [h]
  cases rmA m <;> cases rmB m <;> rfl
end Go.Proofs.YtldfghgjllaljaaGreatDoor.Q
end

section
/- Plain laws of the program's bundles. -/
set_option linter.unusedVariables false
set_option linter.unusedSimpArgs false
namespace Go.Proofs.YtldfghgjllaljaaGreatDoor.Q
open Go Go.Q

def txtP (l : List Patch) : Str := (l.map fun p => txt (putPatch p).1).flatten
theorem txtP_take (l : List Patch) (i : Nat) (h : i < l.length) : txtP (l.take (i + 1)) = txtP (l.take i) ++ txt (putPatch l[i]).1 := by
  rw [txtP, txtP, List.take_succ_eq_append_getElem h, List.map_append, List.flatten_append]; simp
theorem txtP_len (l : List Patch) (k : Nat) (hk : k ≤ 1000000000) (h : ∀ p ∈ l, (patchEnc p).length ≤ k) : (txtP l).length ≤ l.length * (k + 22) := by
  induction l with
  | nil => simp [txtP]
  | cons p r ih =>
    have h1 := putPatch_len (h p (by simp))
    have h2 := txt_len (putPatch p).1 (by omega)
    have h3 := ih fun q hq => h q (by simp [hq])
    have : txtP (p :: r) = txt (putPatch p).1 ++ txtP r := by simp [txtP]
    rw [this, List.length_append, List.length_cons, Nat.add_mul, Nat.one_mul]; omega
def bunF (l : List Patch) : Str := num (sortP l).1.length ++ txtP (sortP l).1
def bunC (s : Str) (l : List Patch) : Str × Int := if (sortP l).2 ≠ 0 then ([], 1) else if 32768 < (s ++ bunF l).length then ([], 2) else (s ++ bunF l, 0)
/-- What the buffer holds behind it. -/
def bunH (s : Str) (l : List Patch) : Str := if (sortP l).2 ≠ 0 then s else s ++ bunF l
theorem bunC_err {s : Str} {l : List Patch} (h : (bunC s l).2 ≠ 0) : (bunC s l).1 = [] := by
  unfold bunC at h ⊢
  split
  · rfl
  · rename_i h1
    rw [if_neg h1] at h
    split
    · rfl
    · rename_i h2; rw [if_neg h2] at h; exact absurd rfl h
theorem bunC_ok {s : Str} {l : List Patch} (h : (bunC s l).2 = 0) : (sortP l).2 = 0 ∧ (s ++ bunF l).length ≤ 32768 ∧ bunC s l = (s ++ bunF l, 0) := by
  unfold bunC at h ⊢
  split at h
  · exact absurd h (by decide)
  · rename_i h1
    split at h
    · exact absurd h (by decide)
    · rename_i h2
      rw [if_neg h1, if_neg h2]
      exact ⟨by simpa using h1, by omega, rfl⟩
theorem bunGo_full : ∀ (l : List Patch) (out : Str), (out ++ txtP l).length ≤ 32768 → bunGo out l = out ++ txtP l
  | [], out, _ => by simp [bunGo, txtP]
  | p :: r, out, h => by
    have e : txtP (p :: r) = txt (putPatch p).1 ++ txtP r := by simp [txtP]
    rw [e] at h ⊢
    rw [bunGo, if_pos (by simp only [List.length_append] at h; omega), bunGo_full r _ (by rw [List.append_assoc]; exact h), List.append_assoc]
theorem bunGo_big : ∀ (l : List Patch) (out : Str), 32768 < (out ++ txtP l).length → 32768 < (bunGo out l).length
  | [], out, h => by simpa [bunGo, txtP] using h
  | p :: r, out, h => by
    have e : txtP (p :: r) = txt (putPatch p).1 ++ txtP r := by simp [txtP]
    rw [e] at h
    rw [bunGo]
    split
    · exact bunGo_big r _ (by rw [List.append_assoc]; exact h)
    · omega
theorem bunR_ok {l : List Patch} (e : sortedP l = some (sortP l).1) : bunR l = (bunGo (num (sortP l).1.length) (sortP l).1, 0) := by rw [bunR, e]
theorem bunR_no {l : List Patch} (e : sortedP l = none) : bunR l = ([], 1) := by rw [bunR, e]
theorem bunGo_F {l : List Patch} (h : (bunF l).length ≤ 32768) : bunGo (num (sortP l).1.length) (sortP l).1 = bunF l := bunGo_full _ _ h
theorem bunGo_G {l : List Patch} (h : 32768 < (bunF l).length) : 32768 < (bunGo (num (sortP l).1.length) (sortP l).1).length := bunGo_big _ _ h
theorem putBun_C (l : List Patch) : putBunR l = bunC [] l := by
  unfold putBunR bunC
  rcases sortP_err (l := l) with ⟨e1, e2⟩ | ⟨e1, e2, e3⟩
  · rw [bunR_ok e2, e1]
    simp only [ne_eq, not_true_eq_false, if_false, List.nil_append]
    by_cases h : 32768 < (bunF l).length
    · rw [if_pos (bunGo_G h), if_pos h]
    · rw [bunGo_F (by omega)]
  · rw [bunR_no e2, e1]; rfl
def headC (x : Msg) : Str := num x.kind ++ lst x.names ++ lst x.have_ ++ num x.err
theorem putMsg_C (x : Msg) : putMsgR x = if rightC x then bunC (headC x) x.patches else ([], 1) := by
  unfold putMsgR
  rw [rightM_C]
  cases hr : rightC x with
  | false => simp
  | true =>
    simp only [Bool.true_and, decide_eq_true_eq, if_true]
    rcases sortP_err (l := x.patches) with ⟨e1, e2⟩ | ⟨e1, e2, e3⟩
    · have hm : msgR x = headC x ++ bunGo (num (sortP x.patches).1.length) (sortP x.patches).1 := by rw [msgR, bunR_ok e2]; rfl
      unfold bunC
      rw [if_pos e1, if_neg (c := (sortP x.patches).2 ≠ 0) (fun h => h e1), hm]
      by_cases h : 32768 < (headC x ++ bunF x.patches).length
      · rw [if_pos h]
        by_cases h2 : 32768 < (bunF x.patches).length
        · have := bunGo_G h2
          rw [if_pos (show 32768 < (headC x ++ bunGo (num (sortP x.patches).1.length) (sortP x.patches).1).length from by rw [List.length_append]; omega)]
        · rw [bunGo_F (by omega), if_pos h]
      · have h2 : (bunF x.patches).length ≤ 32768 := by rw [List.length_append] at h; omega
        rw [bunGo_F h2]
    · rw [if_neg (by rw [e1]; decide)]
      unfold bunC
      rw [if_pos (by rw [e1]; decide)]
theorem rightC_bounds {x : Msg} (h : rightC x = true) : (1 ≤ x.kind ∧ x.kind ≤ 3) ∧ 0 ≤ x.err ∧ x.err ≤ 1000 := by
  simp only [rightC, Bool.and_eq_true, Bool.not_eq_true'] at h
  obtain ⟨ha, hb, he⟩ := h
  constructor
  · unfold rmA at ha
    by_cases h1 : x.kind < 1
    · simp [h1] at ha
    · by_cases h2 : 3 < x.kind
      · simp [h1, h2] at ha
      · omega
  · unfold errC at he
    by_cases h1 : x.kind = 3
    · simp [h1] at he; omega
    · simp [h1] at he; omega
end Go.Proofs.YtldfghgjllaljaaGreatDoor.Q
end

section
/- Plain laws: how long what the package 'codec' reads is, and its answers. -/
set_option linter.unusedVariables false
set_option linter.unusedSimpArgs false
namespace Go.Proofs.YtldfghgjllaljaaGreatDoor.Q
open Go Go.Q

theorem getPatch_enc4 (s : Str) (hs : s.length ≤ 40000) : (patchEnc (getPatch s).1).length ≤ 500000000 := by
  rw [getPatch]
  split
  · have h1 := txt_len [] (by simp)
    have h2 := num_nat 0 (by omega)
    simp only [patchEnc, lst, txts, prims, List.length_append, List.map_nil, List.flatten_nil, List.length_nil] at h1 ⊢
    have h3 : ((0 : Nat) : Int) = 0 := rfl
    have h4 : (num ((([] : List Str).length : Nat) : Int)) = num 0 := rfl
    have h5 : (num ((([] : List Prim).length : Nat) : Int)) = num 0 := rfl
    omega
  · rename_i h
    have hp : patchB (rdPatch ⟨s, false⟩).1 = true := by
      cases h1 : patchB (rdPatch ⟨s, false⟩).1 with
      | true => rfl
      | false => exact absurd (.inr (.inr h1)) h
    have h256 : (rdPatch ⟨s, false⟩).1.body.length ≤ 256 := by
      simp only [patchB, Bool.and_eq_true, decide_eq_true_eq] at hp
      exact hp.1.2
    have e1 : (rdPatch ⟨s, false⟩).1 = ⟨(rdTxt ⟨s, false⟩).1, (rdLst (rdTxt ⟨s, false⟩).2).1, (rdList rdPrim (rdLst (rdTxt ⟨s, false⟩).2).2).1⟩ := rfl
    have a1 : (rdTxt ⟨s, false⟩).2.b.length ≤ s.length := rdTxt_le ⟨s, false⟩
    have a2 : (rdTxt ⟨s, false⟩).1.length ≤ s.length := rdTxt_len ⟨s, false⟩
    obtain ⟨a3, a4⟩ := rdLst_len (rdTxt ⟨s, false⟩).2 (by omega)
    have a5 := rdNum_le (rdLst (rdTxt ⟨s, false⟩).2).2
    have a6 := rdPrims_enc (rdNum (rdLst (rdTxt ⟨s, false⟩).2).2).1 (rdNum (rdLst (rdTxt ⟨s, false⟩).2).2).2 (by omega)
    have a7 := prims_len _ (48 * (rdNum (rdLst (rdTxt ⟨s, false⟩).2).2).2.b.length + 400) a6
    have a8 := txt_len (rdTxt ⟨s, false⟩).1 (by omega)
    rw [e1]
    have h256 : (rdList rdPrim (rdLst (rdTxt ⟨s, false⟩).2).2).1.length ≤ 256 := h256
    have a9 := num_nat (rdList rdPrim (rdLst (rdTxt ⟨s, false⟩).2).2).1.length (by omega)
    rw [patchEnc]
    simp only [List.length_append]
    have b1 : (rdMany rdPrim (rdNum (rdLst (rdTxt ⟨s, false⟩).2).2).1 (rdNum (rdLst (rdTxt ⟨s, false⟩).2).2).2).1 = (rdList rdPrim (rdLst (rdTxt ⟨s, false⟩).2).2).1 := rfl
    rw [b1] at a7
    have b2 : (rdList rdPrim (rdLst (rdTxt ⟨s, false⟩).2).2).1.length * (48 * (rdNum (rdLst (rdTxt ⟨s, false⟩).2).2).2.b.length + 400) ≤ 256 * (48 * 40000 + 400) := Nat.mul_le_mul h256 (by omega)
    omega


theorem rdMany_bad {α : Type} (one : Rd → α × Rd) (n : Nat) (r : Rd) (h : r.bad = true) : rdMany one n r = ([], r) := by
  cases n with
  | zero => rfl
  | succ n => rw [rdMany, if_pos h]
theorem lnMany_txts : ∀ (n : Nat) (r : Rd), r.b.length ≤ 1000000000 → r.bad = r.b.isEmpty → (txts (rdMany lnTxt n r).1).length + 22 * (rdMany lnTxt n r).2.b.length ≤ 22 * r.b.length + (if r.bad then 0 else 22) ∧ (rdMany lnTxt n r).2.b.length ≤ r.b.length ∧ (rdMany lnTxt n r).2.bad = (rdMany lnTxt n r).2.b.isEmpty
  | 0, r, _, hbd => by simp [rdMany, txts, hbd]
  | n + 1, r, hb, hbd => by
    rw [rdMany]
    cases hr : r.bad with
    | true => rw [hr] at hbd; simp [txts, hr, hbd]
    | false =>
      simp only [Bool.false_eq_true, if_false]
      have h2 := lnTxt_le r
      have h5 := txt_len (lnTxt r).1 (by have := lnTxt_len r; omega)
      obtain ⟨h3, h4, h4b⟩ := lnMany_txts n (lnTxt r).2 (by omega) (lnTxt_ok r)
      rw [txts_cons, List.length_append]
      refine ⟨?_, by omega, h4b⟩
      cases hok : lnOk r.b with
      | true =>
        have h6 : (lnTxt r).1.length + (lnTxt r).2.b.length + 2 ≤ r.b.length := by
          have e : lnNum r = (numOf (r.b.take (posC r.b)), lnR (r.b.drop (posC r.b + 1))) := by rw [lnNum, if_pos hok]
          simp only [lnOk, Bool.and_eq_true, decide_eq_true_eq] at hok
          simp only [lnTxt, e, lnR, List.length_take, List.length_drop]
          omega
        have : (if (lnTxt r).2.bad = true then 0 else 22) ≤ 22 := by split <;> omega
        omega
      | false =>
        have e : lnNum r = (0, lnR []) := by rw [lnNum, if_neg (by rw [hok]; decide)]
        have e1 : (lnTxt r).1 = [] := by simp only [lnTxt, e]; simp [lnR]
        have e2 : (lnTxt r).2 = lnR [] := by simp only [lnTxt, e]; simp [lnR]
        rw [e2] at h3 h4 h4b ⊢
        rw [rdMany_bad lnTxt n (lnR []) rfl] at h3 ⊢
        rw [e1] at h5 ⊢
        simp only [List.length_nil] at h5
        show (txt []).length + 0 + 22 * 0 ≤ _
        omega
theorem lnLst_len (r : Rd) (hb : r.b.length ≤ 1000000000) : (lst (lnLst r).1).length ≤ 22 * r.b.length + 44 ∧ (lnLst r).2.b.length ≤ r.b.length := by
  have h1 := lnNum_le r
  obtain ⟨h2, h3, _⟩ := lnMany_txts (lnNum r).1 (lnNum r).2 (by omega) (lnNum_ok r)
  have h4 : (lnLst r).1 = (rdMany lnTxt (lnNum r).1 (lnNum r).2).1 := rfl
  have h5 : (lnLst r).2 = (rdMany lnTxt (lnNum r).1 (lnNum r).2).2 := rfl
  rw [← h4, ← h5] at h2
  rw [← h5] at h3
  have hn : (lnLst r).1.length ≤ 1000000000 := by
    rw [h4]
    have := rdMany_len lnTxt (lnNum r).1 (lnNum r).2
    have := lnNum_lt r
    omega
  have h7 := num_nat (lnLst r).1.length (by omega)
  refine ⟨?_, by omega⟩
  rw [lst, List.length_append]
  split at h2 <;> omega
theorem lnPats_enc : ∀ (n : Nat) (r : Rd), r.b.length ≤ 40000 → ∀ p ∈ (rdMany lnPat n r).1, (patchEnc p).length ≤ 500000000
  | 0, r, _, p, hp => by simp [rdMany] at hp
  | n + 1, r, hb, p, hp => by
    rw [rdMany] at hp
    cases hr : r.bad with
    | true => simp [hr] at hp
    | false =>
      simp only [hr, Bool.false_eq_true, if_false, List.mem_cons] at hp
      rcases hp with rfl | hp
      · exact getPatch_enc4 _ (by have := lnTxt_len r; omega)
      · exact lnPats_enc n (lnPat r).2 (by show (lnTxt r).2.b.length ≤ _; have := lnTxt_le r; omega) p hp
theorem lnMsg_bounds (s : Str) (hs : s.length ≤ 40000) : (lst (lnMsg (lnR s)).1.names).length ≤ 100000000 ∧ (lst (lnMsg (lnR s)).1.have_).length ≤ 100000000 ∧ ∀ p ∈ (lnMsg (lnR s)).1.patches, (patchEnc p).length ≤ 500000000 := by
  have h0 : (lnR s).b.length = s.length := rfl
  have h1 := lnNum_le (lnR s)
  obtain ⟨h2, h3⟩ := lnLst_len (lnNum (lnR s)).2 (by omega)
  obtain ⟨h4, h5⟩ := lnLst_len (lnLst (lnNum (lnR s)).2).2 (by omega)
  have h6 := lnNum_le (lnLst (lnLst (lnNum (lnR s)).2).2).2
  have h7 := lnNum_le (lnNum (lnLst (lnLst (lnNum (lnR s)).2).2).2).2
  refine ⟨?_, ?_, ?_⟩
  · show (lst (lnLst (lnNum (lnR s)).2).1).length ≤ _; omega
  · show (lst (lnLst (lnLst (lnNum (lnR s)).2).2).1).length ≤ _; omega
  · have e : (lnMsg (lnR s)).1.patches = (lnPats (lnNum (lnLst (lnLst (lnNum (lnR s)).2).2).2).2).1 := by simp only [lnMsg]
    rw [e]
    generalize (lnNum (lnLst (lnLst (lnNum (lnR s)).2).2).2).2 = r at h6 h7 ⊢
    have e2 : (lnPats r).1 = (rdMany lnPat (lnNum r).1 (lnNum r).2).1 := rfl
    rw [e2]
    intro p hp
    exact lnPats_enc _ _ (by omega) p hp
def getBunP (s : Str) : List Patch × Int := if (putBunR (lnPats (lnR s)).1).2 ≠ 0 ∨ (putBunR (lnPats (lnR s)).1).1 ≠ s then ([], 3) else ((lnPats (lnR s)).1, 0)
def getMsgP (s : Str) : Msg × Int := if (putMsgR (lnMsg (lnR s)).1).2 ≠ 0 ∨ (putMsgR (lnMsg (lnR s)).1).1 ≠ s then (msg0, 3) else ((lnMsg (lnR s)).1, 0)
theorem lnMsg_1 (r : Rd) : (lnMsg r).1 = ⟨((lnNum r).1 : Int), (lnLst (lnNum r).2).1, (lnLst (lnLst (lnNum r).2).2).1, ((lnNum (lnLst (lnLst (lnNum r).2).2).2).1 : Int), (lnPats (lnNum (lnLst (lnLst (lnNum r).2).2).2).2).1⟩ := by simp only [lnMsg]
end Go.Proofs.YtldfghgjllaljaaGreatDoor.Q
end

section
/-
  DERIVED: THE SHELF's CONTRACTS AT THIS DUMP, IN PLAIN WORDS (tools/lay-plain.mjs out of 'TryzMini.lean', which tools/lay-shelf.mjs wrote): THE SAME DECLARATIONS UNDER THE SAME NAMES: 'import', 'namespace', 'open', 'def', 'theorem' AND NOTHING ELSE: no command of the shelf's: FOR A HAND-IN. Each laying: the table of numbers ('.._ren') and one theorem, a field a fact of the dump's own or the kernel's comparison; each contract: ONE APPLICATION.
-/
namespace Go.Proofs
open Go.Shelf
def Tryz.sortPatchL_ren : Go.Shelf.Ren := ⟨fun | 6 => 91 | 15 => 112 | 14 => 111 | 28 => 139 | 29 => 121 | 20 => 131 | 21 => 132 | 22 => 133 | 23 => 134 | 24 => 135 | 25 => 136 | 26 => 137 | 27 => 138 | 46 => 152 | 47 => 153 | 48 => 154 | 49 => 155 | 50 => 156 | 57 => 164 | n => n, fun | 22 => 24 | 24 => 48 | 25 => 96 | 3 => 3 | 39 => 140 | 0 => 0 | 53 => 145 | 55 => 117 | 4 => 4 | 46 => 154 | 45 => 153 | 50 => 158 | 5 => 5 | 9 => 9 | 66 => 167 | 70 => 171 | 76 => 179 | 77 => 180 | n => n, fun | n => n⟩
theorem Tryz.sortPatchL : Go.Proofs.SlLaysF0.n6 Tryz.prog Tryz.sortPatchL_ren := {
  mixed := by kernel_rfl
  f6 := ⟨Tryz.f91.name, by decide, Tryz.func91.trans (congrArg some (by kernel_rfl))⟩
  f14 := ⟨Tryz.f111.name, by decide, Tryz.func111.trans (congrArg some (by kernel_rfl))⟩
  f15 := Tryz.func112.trans (congrArg some (by kernel_rfl))
  f20 := ⟨Tryz.f131.name, by decide, Tryz.func131.trans (congrArg some (by kernel_rfl))⟩
  f21 := ⟨Tryz.f132.name, by decide, Tryz.func132.trans (congrArg some (by kernel_rfl))⟩
  f22 := ⟨Tryz.f133.name, by decide, Tryz.func133.trans (congrArg some (by kernel_rfl))⟩
  f23 := ⟨Tryz.f134.name, by decide, Tryz.func134.trans (congrArg some (by kernel_rfl))⟩
  f24 := ⟨Tryz.f135.name, by decide, Tryz.func135.trans (congrArg some (by kernel_rfl))⟩
  f25 := ⟨Tryz.f136.name, by decide, Tryz.func136.trans (congrArg some (by kernel_rfl))⟩
  f26 := ⟨Tryz.f137.name, by decide, Tryz.func137.trans (congrArg some (by kernel_rfl))⟩
  f27 := ⟨Tryz.f138.name, by decide, Tryz.func138.trans (congrArg some (by kernel_rfl))⟩
  f28 := Tryz.func139.trans (congrArg some (by kernel_rfl))
  f29 := Tryz.func121.trans (congrArg some (by kernel_rfl))
  f46 := ⟨Tryz.f152.name, by decide, Tryz.func152.trans (congrArg some (by kernel_rfl))⟩
  f47 := Tryz.func153.trans (congrArg some (by kernel_rfl))
  f48 := Tryz.func154.trans (congrArg some (by kernel_rfl))
  f49 := ⟨Tryz.f155.name, by decide, Tryz.func155.trans (congrArg some (by kernel_rfl))⟩
  f50 := ⟨Tryz.f156.name, by decide, Tryz.func156.trans (congrArg some (by kernel_rfl))⟩
  f57 := ⟨Tryz.f164.name, by decide, Tryz.func164.trans (congrArg some (by kernel_rfl))⟩
  t0 := Tryz.underlying0
  a0 := Tryz.isAgg0
  z0 := Tryz.sizeOf0
  v0 := Tryz.zeroValue0
  t3 := Tryz.underlying3
  a3 := Tryz.isAgg3
  z3 := Tryz.sizeOf3
  v3 := Tryz.zeroValue3
  t4 := Tryz.underlying4
  a4 := Tryz.isAgg4
  z4 := Tryz.sizeOf4
  v4 := Tryz.zeroValue4
  t5 := Tryz.underlying5
  a5 := Tryz.isAgg5
  z5 := Tryz.sizeOf5
  v5 := Tryz.zeroValue5
  t9 := Tryz.underlying9
  a9 := Tryz.isAgg9
  z9 := Tryz.sizeOf9
  v9 := Tryz.zeroValue9
  t22 := Tryz.underlying24
  a22 := Tryz.isAgg24
  z22 := Tryz.sizeOf24
  v22 := Tryz.zeroValue24
  t25 := Tryz.underlying96
  a25 := Tryz.isAgg96
  z25 := Tryz.sizeOf96
  v25 := Tryz.zeroValue96
  t39 := Tryz.underlying140
  a39 := Tryz.isAgg140
  z39 := Tryz.sizeOf140
  v39 := Tryz.zeroValue140
  t45 := Tryz.underlying153
  a45 := Tryz.isAgg153
  z45 := Tryz.sizeOf153
  v45 := Tryz.zeroValue153
  t46 := Tryz.underlying154
  a46 := Tryz.isAgg154
  z46 := Tryz.sizeOf154
  v46 := Tryz.zeroValue154
  t50 := Tryz.underlying158
  a50 := Tryz.isAgg158
  z50 := Tryz.sizeOf158
  v50 := Tryz.zeroValue158
  t53 := Tryz.underlying145
  a53 := Tryz.isAgg145
  z53 := Tryz.sizeOf145
  v53 := Tryz.zeroValue145
  t55 := Tryz.underlying117
  a55 := Tryz.isAgg117
  z55 := Tryz.sizeOf117
  v55 := Tryz.zeroValue117
  t66 := Tryz.underlying167
  a66 := Tryz.isAgg167
  z66 := Tryz.sizeOf167
  v66 := Tryz.zeroValue167
  t70 := Tryz.underlying171
  a70 := Tryz.isAgg171
  z70 := Tryz.sizeOf171
  v70 := Tryz.zeroValue171
  t76 := Tryz.underlying179
  a76 := Tryz.isAgg179
  z76 := Tryz.sizeOf179
  v76 := Tryz.zeroValue179
  t77 := Tryz.underlying180
  a77 := Tryz.isAgg180
  z77 := Tryz.sizeOf180
  v77 := Tryz.zeroValue180 }
end Go.Proofs
end

section
/- The sorting of patches by names: the kit's law of slices.SortFunc, laid and read. -/
set_option linter.unusedVariables false
set_option linter.unusedSimpArgs false
set_option maxRecDepth 100000
namespace Go.Proofs
open Go.Shelf Go.RowKit Go.Lib Go.Sort
set_option maxHeartbeats 1000000 in
theorem Tryz.closure_sorted (s t : List UInt8) (u1 u2 v1 v2 : Value) (W : World) : Calls Tryz.prog 65 #[.agg #[.string ⟨s.toArray⟩, u1, u2], .agg #[.string ⟨t.toArray⟩, v1, v2]] W fun e w' => e = .returned (.int .i64 (Lib.compareBytes s t)) ∧ ∃ q os', w' = grow (W.drewN q) os' := by
  have hcon := fun W' => Tryz.strings_Compare ⟨s.toArray⟩ ⟨t.toArray⟩ W'
  have mixed : Go.Proofs.Tryz.prog.follows .mixedOrders = true := by kernel_rfl
  go_enter Tryz.func65, Tryz.ntmps65
  go_wp2_with (go_at_call 66; refine (hcon _).mono ?_; rintro e w' ⟨rfl, rfl⟩)
  go_ret
  exact ⟨rfl, 0, _, by rw [alloc_eq_grow, alloc_eq_grow, grow_grow]; rfl⟩
end Go.Proofs
namespace Go.Proofs.YtldfghgjllaljaaGreatDoor.Q
open Go Go.Q Go.Sort Go.Proofs
open Go.Lib (compareBytes)

/-- An element of the row: a patch, and its two further cells. -/
structure SElt where
  p : Patch
  u : Value
  v : Value
  hu : u.oneCell' = true
  hv : v.oneCell' = true
instance : Inhabited SElt := ⟨⟨⟨[], [], []⟩, .bool true, .bool true, rfl, rfl⟩⟩
def encS (x : SElt) : List Value := [.string ⟨x.p.name.toArray⟩, x.u, x.v]
def cfS (x y : SElt) : Int := compareBytes x.p.name y.p.name
theorem encS_len (x : SElt) : (encS x).length = 3 := rfl
theorem encS_one (x : SElt) : ∀ v ∈ encS x, v.oneCell' = true := by
  intro v hv
  simp only [encS, List.mem_cons, List.not_mem_nil, or_false] at hv
  rcases hv with rfl | rfl | rfl
  · rfl
  · exact x.hu
  · exact x.hv
theorem elts {F : Nat → Prop} {w : World} : ∀ {l : List Patch} {us : List Value}, RelLL F w 3 (l.map cPatch) us → ∃ d : List SElt, d.map (·.p) = l ∧ us = (d.map encS).flatten ∧ ∀ x ∈ d, RelL F [] w (cPatch x.p) (encS x)
  | [], us, h => by simp only [List.map_nil, RelLL] at h; subst h; exact ⟨[], rfl, rfl, by simp⟩
  | p :: r, us, h => by
    simp only [List.map_cons, RelLL] at h
    obtain ⟨c, t, rfl, _, h3, h4, h5⟩ := h
    obtain ⟨d, rfl, rfl, h6⟩ := elts h5
    have h3' := h3
    simp only [cPatch, RelL] at h3
    obtain ⟨u0, _, rfl, hu0, u1, _, rfl, _, u2, _, rfl, _, rfl⟩ := h3
    have hs := hu0
    simp only [Rel] at hs
    obtain ⟨rfl, _⟩ := hs
    refine ⟨⟨p, u1, u2, h4 _ (by simp), h4 _ (by simp)⟩ :: d, rfl, by simp [encS], fun x hx => ?_⟩
    rcases List.mem_cons.1 hx with rfl | hx
    · exact h3'
    · exact h6 x hx
theorem elts_back {F : Nat → Prop} {w : World} : ∀ {d : List SElt}, (∀ x ∈ d, RelL F [] w (cPatch x.p) (encS x)) → RelLL F w 3 ((d.map (·.p)).map cPatch) (d.map encS).flatten
  | [], _ => by simp [RelLL]
  | x :: d, h => by
    simp only [List.map_cons, RelLL, List.flatten_cons]
    exact ⟨encS x, _, rfl, rfl, h x (by simp), encS_one x, elts_back fun y hy => h y (by simp [hy])⟩
theorem flat_get : ∀ (d : List SElt) (j : Nat), j < d.length * 3 → (d.map encS).flatten[j]? = (encS (d.getD (j / 3) default))[j % 3]?
  | [], j, h => by simp at h
  | x :: d, j, h => by
    simp only [List.map_cons, List.flatten_cons]
    by_cases hj : j < 3
    · rw [List.getElem?_append_left (by rw [encS_len]; exact hj), Nat.div_eq_of_lt hj, Nat.mod_eq_of_lt hj]; rfl
    · rw [List.getElem?_append_right (by rw [encS_len]; omega), encS_len]
      have := flat_get d (j - 3) (by simp at h; omega)
      have e1 : j / 3 = (j - 3) / 3 + 1 := by omega
      have e2 : j % 3 = (j - 3) % 3 := by omega
      rw [this, e1, e2]; rfl
theorem flatten_len : ∀ (d : List SElt), (d.map encS).flatten.length = d.length * 3
  | [] => rfl
  | x :: d => by
    simp only [List.map_cons, List.flatten_cons, List.length_append, encS_len, List.length_cons, flatten_len d]; omega
theorem flatK_toList (d : List SElt) : (flatK encS 3 d.toArray).toList = (d.map encS).flatten := by
  apply List.ext_getElem?
  intro j
  by_cases h : j < d.length * 3
  · rw [flat_get d j h]
    have h2 : j < (flatK encS 3 d.toArray).size := by rw [size_flatK]; simpa using h
    rw [Array.getElem?_toList, Array.getElem?_eq_getElem h2, ← getElem!_pos (flatK encS 3 d.toArray) j h2, get_flatK _ _ _ _ (by simpa using h)]
    have h3 : j % 3 < (encS (d.getD (j / 3) default)).length := by rw [encS_len]; omega
    rw [List.getElem?_eq_getElem h3]
    have e : d.toArray[j / 3]! = d.getD (j / 3) default := by
      have : j / 3 < d.length := by omega
      rw [getElem!_pos d.toArray (j / 3) (by simpa using this)]; simp [List.getD, this]
    rw [e, getElem!_pos (encS (d.getD (j / 3) default)) (j % 3) h3]
  · rw [List.getElem?_eq_none (by rw [Array.length_toList, size_flatK]; simpa using Nat.not_lt.1 h), List.getElem?_eq_none (by rw [flatten_len]; omega)]
theorem cmpB_lt : ∀ (a b : Str), compareBytes a b < 0 ↔ a < b
  | [], [] => by simp [compareBytes]
  | [], b :: bs => by simp [compareBytes]
  | a :: q, [] => by simp [compareBytes]
  | a :: q, b :: bs => by
    have ih := cmpB_lt q bs
    rw [compareBytes, List.cons_lt_cons_iff]
    by_cases h1 : a < b
    · simp [h1]
    · rw [if_neg h1]
      by_cases h2 : b < a
      · rw [if_pos h2]
        have hne : a ≠ b := by rintro rfl; exact h1 h2
        simp [h1, hne]
      · rw [if_neg h2, ih]
        have he : a = b := UInt8.le_antisymm (UInt8.not_lt.1 h2) (UInt8.not_lt.1 h1)
        simp [he]
theorem ltS (x y : SElt) : ltOf cfS x y = decide (x.p.name < y.p.name) := by
  unfold ltOf cfS
  exact decide_eq_decide.2 (cmpB_lt _ _)
theorem swoS : SWO (ltOf cfS) := {
  irrefl x := by rw [ltS]; simp
  trans x y z h1 h2 := by rw [ltS] at *; simp only [decide_eq_true_eq] at *; exact List.lt_trans h1 h2
  ntrans x y z h1 h2 := by
    rw [ltS] at *
    simp only [decide_eq_false_iff_not, List.not_lt] at *
    exact List.le_trans h2 h1 }

theorem grow_at {w : World} {n : Nat} {os : Array Go.Obj} {k : Nat} (h : k < w.heap.size) : (Go.Sort.grow (Go.Sort.ahead w n) os).heap[k]? = w.heap[k]? := by
  show (w.heap ++ os)[k]? = _
  rw [Array.getElem?_append_left h]
theorem sw_other {w : World} {g n : Nat} {d : Array SElt} {os : Array Go.Obj} {k : Nat} (h : g ≠ k) : (sortWorldK encS 3 w g 0 n d os).heap[k]? = (Go.Sort.grow (Go.Sort.ahead w n) os).heap[k]? := by
  show (w.heap.modify g _ ++ os)[k]? = (w.heap ++ os)[k]?
  by_cases hk : k < w.heap.size
  · rw [Array.getElem?_append_left (by simpa using hk), Array.getElem?_append_left hk]
    simp [Array.getElem?_modify, h]
  · rw [Array.getElem?_append_right (by simpa using Nat.not_lt.1 hk), Array.getElem?_append_right (Nat.not_lt.1 hk)]
    simp
theorem sw_at {w : World} {g n : Nat} {d : Array SElt} {os : Array Go.Obj} {cur : Array Value} {e : TypeId} (hg : w.heap[g]? = some (.cells cur e (0, 0))) : (sortWorldK encS 3 w g 0 n d os).heap[g]? = some (.cells (putCells id 0 (flatK encS 3 d) cur) e (0, 0)) := by
  have hlt : g < w.heap.size := (Array.getElem?_eq_some_iff.1 hg).1
  show (w.heap.modify g _ ++ os)[g]? = _
  rw [Array.getElem?_append_left (by simpa using hlt)]
  simp [Array.getElem?_modify, hg, onCells]
theorem put_take (F cur : Array Value) (h : F.size ≤ cur.size) : (putCells id 0 F cur).toList.take F.size = F.toList := by
  apply List.ext_getElem?
  intro j
  by_cases hj : j < F.size
  · rw [List.getElem?_take, if_pos hj, Array.getElem?_toList, Array.getElem?_toList]
    unfold putCells
    rw [Array.getElem?_mapIdx, Array.getElem?_eq_getElem (show j < cur.size by omega), Array.getElem?_eq_getElem hj]
    simp [hj]
  · rw [List.getElem?_eq_none (by simp; omega), List.getElem?_eq_none (by simp; omega)]

theorem b_slices_SortFunc_api_Patch_api_Patch : bodied Go.Proofs.Tryz.prog 91 = true := by rw [bodied, Tryz.func91]; rfl
theorem c_slices_SortFunc_api_Patch_api_Patch (l : List Patch) (hl : l.length ≤ 1000000000) : VCalls Go.Proofs.Tryz.prog G 91 [.arr 0 l.length, .func (.func 65) [] []] [.arr 48 3 (l.map cPatch)] [] (fun r H => ∃ l' : List Patch, l'.Perm l ∧ upP l' ∧ r = .tuple [] ∧ H = [.arr 48 3 (l'.map cPatch)]) := by
  intro F ρ w ms sim hr hG
  simp only [RelL, Rel] at hr
  obtain ⟨u, t, rfl, ⟨a, m, c, hρ, rfl, hle⟩, u2, t2, rfl, ⟨us1, vs1, rfl, rfl, rfl⟩, rfl⟩ := hr
  obtain ⟨us, c', a', hh, hown, hll, hB⟩ := sim.obj 0 _ _ rfl hρ
  injection hh with ha hm hc; subst ha; subst hm; subst hc
  rw [List.length_map] at hown hle
  rcases hown.2 with ⟨hn, hz⟩ | ⟨g, cap, cur, hv, _, hg, hnc, hcm, hcs, htk⟩
  · have hl0 : l = [] := List.length_eq_zero_iff.1 hz
    subst hl0
    refine (AnyF.slices_SortFunc_none Tryz.sortPatchL a c _ w).mono ?_
    rintro e w' ⟨rfl, rfl⟩
    exact ⟨F, ρ, _, .tuple [], _, rfl, ⟨[], .refl _, by simp [upP], rfl, rfl⟩, by simp [Rel, RelL], sim, evol_refl _ _ _ _ _⟩
  · simp only [Value.slice.injEq] at hv
    obtain ⟨rfl, _, rfl⟩ := hv
    obtain ⟨d, hd, hus, hdr⟩ := elts hll
    have hdl : d.length = l.length := by rw [← hd, List.length_map]
    have hgl : g < w.heap.size := (Array.getElem?_eq_some_iff.1 hg).1
    have hH : HoldsK encS 3 w g 0 d.toArray := by
      intro j hj
      have hj3 : j < d.length * 3 := by rw [size_flatK] at hj; simpa using hj
      constructor
      · have h1 : us[j]? = some (flatK encS 3 d.toArray)[j]! := by
          rw [hus, ← flatK_toList, Array.getElem?_toList, Array.getElem?_eq_getElem hj, getElem!_pos (flatK encS 3 d.toArray) j hj]
        have h2 := hown.cells (g := g) rfl j _ h1
        rw [add_spot rfl] at h2
        exact h2
      · simp [World.frozen?, hg]
    have eg : ∀ args w, (callFunc 65 args).run Go.Proofs.Tryz.prog w = .ok (.enter 65 args) w := enters_of Tryz.func65 (by kernel_rfl) rfl
    have hcmp : CmpLays Go.Proofs.Tryz.prog 65 #[] encS 3 cfS g 0 d.toArray.size w := fun m os dk _ x y => Tryz.closure_sorted x.p.name y.p.name x.u x.v y.u y.v _
    have hcon := AnyQ.slices_SortFunc Tryz.sortPatchL 3 Tryz.isAgg48 Tryz.sizeOf48 encS encS_len encS_one cfS swoS 65 #[] g 0 c d.toArray w eg hcmp hH hgl (by simp; omega)
    have e1 : d.toArray.size = l.length := by simpa using hdl
    rw [e1] at hcon
    refine Calls.mono hcon ?_
    rintro e w' ⟨rfl, d', n, os, hp, hs, rfl⟩
    have hsz : d'.size = l.length := by rw [hp.1]; simpa using hdl
    have hpd : d'.toList.Perm d := by
      have := hp.2.2
      rw [← hsz, Array.extract_size] at this
      have e2 : d.toArray.extract 0 d'.size = d.toArray := by rw [hsz, ← e1, Array.extract_size]
      rw [e2] at this
      simpa using this
    have hpl : (d'.toList.map (·.p)).Perm l := by rw [← hd]; exact hpd.map _
    have hup : upP (d'.toList.map (·.p)) := by
      unfold upP
      rw [List.pairwise_map, List.pairwise_iff_getElem]
      intro i j hi hj hij
      have h1 := hs i j (Nat.zero_le _) hij (by simpa [hsz] using hj)
      rw [ltS, getElem!_pos d' j (by simpa using hj), getElem!_pos d' i (by simpa using hi)] at h1
      have h2 := of_decide_eq_false h1
      rw [strGt_false]
      simp only [Array.getElem_toList]
      rcases str_tri d'[i].p.name d'[j].p.name with h3 | h3 | h3
      · exact .inl h3
      · exact .inr h3
      · exact absurd h3 h2
    have st := st_of_sim Go.Proofs.Tryz.prog G [] sim hG
    have hbelow : RowKit.Below w.heap.size w (Go.Sort.grow (Go.Sort.ahead w n) os) := ⟨rfl, rfl, rfl, by show w.heap.size ≤ (w.heap ++ os).size; simp, fun k hk => grow_at hk⟩
    have st1 := st.grow (F' := F) hbelow (fun _ h => h) (fun _ h => .inl h) (fun b hb => Nat.lt_of_lt_of_le (sim.alloc b hb) hbelow.size)
    have hl3 : l.length * 3 ≤ cur.size := by rw [hcs]; exact Nat.mul_le_mul_right 3 hnc
    have hF : ∀ k, F k → (sortWorldK encS 3 w g 0 n d' os).heap[k]? = w.heap[k]? := fun k hk => (sw_other (by rintro rfl; exact sim.apart 0 _ _ g rfl rfl hρ rfl hk)).trans (grow_at (sim.alloc k hk))
    have st2 := st1.setObj (w' := sortWorldK encS 3 w g 0 n d' os) (i := 0) (o' := .arr 48 3 ((d'.toList.map (·.p)).map cPatch)) rfl rfl hρ rfl rfl rfl
      (by show (w.heap.modify g _ ++ os).size = (w.heap ++ os).size; simp) (fun b2 hb2 => sw_other fun e => hb2 (by rw [← e]; rfl))
      ⟨(d'.toList.map encS).flatten, c, some ⟨g, 0, none⟩, by simp [hsz], ⟨by rw [flatten_len]; simp, .inr ⟨g, c, _, by simp [hsz], Nat.zero_le _, sw_at hg, by simpa [hsz] using hnc, hcm, by rw [← hcs]; simp [putCells], by
        have h1 := put_take (flatK encS 3 d') cur (by rw [size_flatK, hsz]; exact hl3)
        rw [size_flatK] at h1
        have h2 := flatK_toList d'.toList
        simp only [Array.toArray_toList] at h2
        simp only [List.length_map, Array.length_toList]
        rw [h1, h2]⟩⟩, elts_back fun x hx => RelL.goes (F := F) (F' := F) (ρ := []) (ρ' := []) (w := w) ⟨fun _ h => h, hF, fun _ _ h => h⟩ _ _ (hdr x (hpd.mem_iff.1 hx)), by simpa [hsz] using hB⟩
    exact ⟨F, ρ, _, .tuple [], _, rfl, ⟨_, hpl, hup, rfl, rfl⟩, by simp [Rel, RelL], st2.sim, st2.evol⟩
end Go.Proofs.YtldfghgjllaljaaGreatDoor.Q
end

section
/- slices.Values at patches: its iterator, in the logic 'Q'. -/
set_option linter.unusedVariables false
set_option linter.unusedSimpArgs false
set_option maxRecDepth 100000
namespace Go.Proofs.YtldfghgjllaljaaGreatDoor.Q
open Go Go.Q

theorem iter_values (l : List Patch) (hl : l.length ≤ 140737488355328) (J : CInv Nat) (hY : ∀ i (h : i < l.length), RoundJ Go.Proofs.Tryz.prog G J i (.agg (cPatch l[i])) fun b s' => b = true ∧ s' = i + 1)
    {F B : Nat → Prop} {w : World} {bx : Value} (sim : Sim F [.func (.yield J.l) #[] #[], bx] [.dead, .box [.list 3 (l.map cPatch)]] w) {ms : List Value} (hr : RelL F [.func (.yield J.l) #[] #[], bx] w [.ptr 1 0] ms) (hG : G.G F w) (hJ : J.J 0 F B w)
    (hF : ∀ b, B b → ¬ F b) (hL : ∀ b, B b → ¬ liveBlock [.dead, .box [.list 3 (l.map cPatch)]] [.func (.yield J.l) #[] #[], bx] b) :
    CallsIn Fence.wide 0 Go.Proofs.Tryz.prog 92 (.func (.yield J.l) #[] #[] :: ms).toArray w fun e w' => ∃ s B' F' v, e = .returned v ∧ s = l.length ∧ J.J s F' B' w' ∧ (∀ b, B' b → ¬ F' b) ∧ (∀ b, F b → F' b) ∧ G.G F' w' ∧ (∀ b, F' b → b < w'.heap.size) ∧
      (∀ b, F' b ∨ B' b → F b ∨ B b ∨ liveBlock [.dead, .box [.list 3 (l.map cPatch)]] [.func (.yield J.l) #[] #[], bx] b ∨ w.heap.size ≤ b) ∧ Upd (fun b => B b ∨ liveBlock [.dead, .box [.list 3 (l.map cPatch)]] [.func (.yield J.l) #[] #[], bx] b) w w' := by
  refine iter_of (args := [.ptr 1 0]) (φ := fun s => s = l.length) Tryz.func92 rfl (by simp [Tryz.ntmps92]) rfl ?_ sim hr hG hJ hF hL
  rw [Tryz.ntmps92]
  refine vwpJ_reg tabOk [] [0, 5, 6, 7] (by simp only [go_sem]; rfl) (by first | trivial | (simp; done) | (simp [in64]; omega)) ?_
  refine vwpJ_block ?_
  refine vwpJ_loop (fun i : Nat => [(0, .obj 0), (5, .list 3 (l.map cPatch)), (6, .int .i64 (l.length : Int)), (7, .int .i64 (i : Int))]) (fun _ => [.dead, .box [.list 3 (l.map cPatch)]]) (fun i s => s = i ∧ i ≤ l.length) (fun i => l.length - i) 0 ⟨rfl, Nat.zero_le _⟩ (Env.wk_cons (Wk.refl _) (Env.wk_cons (Wk.refl _) (Env.wk_cons (Wk.refl _) (Env.wk_cons (Wk.refl _) (Env.wk_nil _))))) rfl ?_
  rintro i s ⟨rfl, hi⟩
  refine vwpJ_reg tabOk [] [0, 5, 6, 7, 8] (by simp only [go_sem]; rfl) (by first | trivial | (simp; done) | (simp [in64]; omega)) ?_
  refine vwpJ_seq (vwpJ_cond (by simp only [go_sem]; rfl) (fun h0 => ?_) (fun h0 => ?_))
  · refine vwpJ_skip ?_
    have h0' : s < l.length := by simp at h0; omega
    simp only [thenQ]
    refine vwpJ_seq (vwpJ_block ?_)
    refine vwpJ_reg tabOk [] [0, 4, 5, 6, 7] (by simp only [go_sem, getD_map, h0']; rfl) (by first | trivial | (simp [h0']; done) | (simp [h0']; omega)) ?_
    refine vwpJ_seq (vwpJ_region ?_)
    refine vopsJ_quiet tabOk rfl (by intro c hc; cases hc) rfl (by simp only [go_sem]; rfl) (by first | trivial | simp) ?_
    simp only [go_sem]
    refine vopsJ_quiet tabOk rfl (by intro c hc; cases hc) rfl (by simp only [go_sem]; rfl) (by first | trivial | simp) ?_
    simp only [go_sem]
    refine vopsJ_yield (v := .agg (cPatch l[s])) (φ := fun b s' => b = true ∧ s' = s + 1) rfl rfl rfl (by simp only [go_sem]) (by simp only [go_sem]) (by simp [clean, cleanL, cPatch]) (hY s h0') ?_
    rintro b s' ⟨rfl, rfl⟩
    simp only [go_sem]
    refine vopsJ_quiet tabOk rfl (by intro c hc; cases hc) rfl (by simp only [go_sem]; rfl) (by first | trivial | simp) ?_
    simp only [go_sem]
    refine vopsJ_done ?_
    simp only [thenQ]
    refine vwpJ_cond (by simp only [go_sem]; rfl) (fun h1 => ?_) (fun h1 => ?_)
    · exact absurd h1 (by decide)
    · refine vwpJ_skip ?_
      simp only [thenQ, blockQ]
      refine vwpJ_trim 2 (by omega) ?_
      simp only [go_sem]
      refine vwpJ_reg1 tabOk [] [0, 5, 6, 7] (by simp only [go_sem]; rfl) (by first | trivial | (simp; done) | (simp [in64]; omega)) ?_
      simp only [thenQ]
      exact ⟨s + 1, ⟨rfl, by omega⟩, by omega, Env.wk_cons (Wk.refl _) (Env.wk_cons (Wk.refl _) (Env.wk_cons (Wk.refl _) (Env.wk_cons (Wk.refl _) (Env.wk_nil _)))), by first | trivial | rfl⟩
  · refine vwpJ_exit ?_
    simp only [thenQ, blockQ, if_true]
    exact ⟨.inl (by first | trivial | rfl), by simp at h0; omega⟩
end Go.Proofs.YtldfghgjllaljaaGreatDoor.Q
end

section
/- slices.AppendSeq at patches, over slices.Values: in the logic 'Q'. -/
set_option linter.unusedVariables false
set_option linter.unusedSimpArgs false
set_option maxRecDepth 100000
namespace Go.Proofs.YtldfghgjllaljaaGreatDoor.Q
open Go Go.Q

theorem c_slices_AppendSeq (l : List Patch) (hl : l.length ≤ 256) : VCalls Go.Proofs.Tryz.prog G 110 [.nils, .func (.func 92) [] [.ptr 0 0]] [.box [.list 3 (l.map cPatch)]] []
    (fun r H => r = .arr 2 l.length ∧ H = [.dead, .box [.arr 2 l.length], .arr 48 3 (l.map cPatch)]) := by
  refine vcalls_ofT Tryz.func110 rfl (by simp [Tryz.ntmps110]) ?_
  rw [Tryz.ntmps110]
  refine vwpT_seq ?_
  refine vwp_reg1 tabOk [] [1, 2, 4] (by simp only [go_sem]; rfl) (by first | trivial | (simp; done)) ?_
  refine ⟨rfl, ?_⟩
  refine vwpT_then ?_
  refine vwpT_seq ?_
  refine vwp_ownCell 1 0 48 3 _ rfl rfl ?_
  simp only [go_sem]
  refine vwp_reg1 tabOk [] [2, 6] (by simp only [go_sem]; rfl) (by first | trivial | (simp; done)) ?_
  refine ⟨rfl, ?_⟩
  refine vwpT_range (γ := Nat) tabOk (rs := [.tmp 4]) rfl (fun s => [.box [.arr 1 s], .arr 48 3 ((l.take s).map cPatch)]) 0 [(2, .ptr 0 0)] (fun _ => .ready) (fun _ => none) (fI := 92)
    (cs := [.ptr 0 0]) (csI := [.ptr 1 0]) (HI := [.box [.list 3 (l.map cPatch)]]) (φ := fun s => s = l.length) [0] [1, 2]
    (by simp only [go_sem]) (by rw [bodied, Tryz.func92]; rfl) rfl rfl (by simp) (by simp) (by decide) (by simp) (by simp) rfl rfl ?_ ?_ ?_ rfl (by intro s _; simp) (by intro s _; exact .inl rfl) ?_ (by intro s _ h; cases h)
  · exact ⟨Wk.refl _, trivial⟩
  · intro t
    simp only [Q.get]
    cases h : ((2 : Nat) == t) with
    | true => exact Wk.refl _
    | false => exact Wk.undef _
  · intro c hcK hcE hcS hcP hps has hbd hsz
    obtain ⟨cl, cD, cfn, ctmps, cps, cas, cbd, cenv, cK, cst, cpd, cne⟩ := c
    simp only at hcK hcE hcS hcP hps has hbd hsz
    subst hcK; subst hcE; subst hcS; subst hcP; subst hps; subst has; subst hbd
    intro F B ρ w ms sim hr hG hJ hBF hBL
    have hlen := sim.len
    simp only [List.length_cons, List.length_nil] at hlen
    obtain ⟨bx, rfl⟩ : ∃ bx, ρ = [bx] := by
      match ρ, hlen with
      | [bx], _ => exact ⟨bx, rfl⟩
    refine iter_values l (by omega) _ ?_ sim hr hG hJ hBF hBL
    intro i hi
    refine round_of (M := [1]) _ 7 rfl rfl rfl (by show 7 < ctmps.size; omega) ?_ ?_ ?_
    · intro t
      simp only [Q.get]
      cases h : ((2 : Nat) == t) <;> rfl
    · intro t
      simp only [Q.get]
      cases h : ((2 : Nat) == t) <;> rfl
    · clear hJ sim hr hBL
      show VWpR cl ⟨_, G, [1], 2, ctmps.size⟩ _ _ [(7, .agg (cPatch l[i])), (2, .ptr 0 0)] [.box [.arr 1 i], .arr 48 3 ((l.take i).map cPatch)]
      rw [hsz]
      have hli : (l.take i).length = i := by rw [List.length_take]; omega
      refine vwpR_reg1 tabOk [] [2, 5] rfl (fun _ _ h => by cases h.1) (by simp only [go_sem]; rfl) (by first | trivial | (simp; done)) ?_
      refine ⟨rfl, by simp, ?_⟩
      refine vwpR_block ?_
      refine vwpR_reg1 tabOk [] [] rfl (fun _ _ h => by simp [blockQ, endQ] at h) (by simp only [go_sem, hli]; rfl) (by first | trivial | (simp; done) | exact ⟨by omega, by omega, .inl (by simp)⟩) ?_
      refine ⟨i + 1, ⟨rfl, rfl⟩, ?_, rfl, by simp, rfl, rfl⟩
      simp only [trimH, go_sem]
      rw [show (l.take (i + 1)).map cPatch = (l.take i).map cPatch ++ [cPatch l[i]] by rw [List.take_succ_eq_append_getElem hi, List.map_append]; rfl]
      rfl
  · intro s hs _
    have hs : s = l.length := hs
    subst hs
    refine vops_all tabOk [] [4] (by simp only [go_sem]; rfl) (by first | trivial | (simp; done)) ?_
    refine ⟨rfl, _, _, rfl, ⟨trivial, trivial⟩, rfl, ?_⟩
    have e : (l.take l.length).map cPatch = l.map cPatch := by rw [List.take_length]
    rw [e]; rfl
end Go.Proofs.YtldfghgjllaljaaGreatDoor.Q
end

section
/- Walks of slices.Collect and slices.SortedFunc at patches, in the logic 'Q'. -/
set_option linter.unusedVariables false
set_option linter.unusedSimpArgs false
set_option maxRecDepth 100000
namespace Go.Proofs.YtldfghgjllaljaaGreatDoor.Q
open Go Go.Q
theorem b_slices_AppendSeq_api_Patch_api_Patch : bodied Go.Proofs.Tryz.prog 110 = true := by rw [bodied, Tryz.func110]; rfl

/-! slices.Collect[counterpane/api.Patch] -/
theorem b_slices_Collect_api_Patch : bodied Go.Proofs.Tryz.prog 90 = true := by rw [bodied, Tryz.func90]; rfl
theorem c_slices_Collect_api_Patch (l : List Patch) (hl : l.length ≤ 256) : VCalls Go.Proofs.Tryz.prog G 90 [.func (.func 92) [] [.ptr 0 0]] [.box [.list 3 (l.map cPatch)]] [] (fun r H => r = .arr 2 l.length ∧ H = [.dead, .box [.arr 2 l.length], .arr 48 3 (l.map cPatch)]) := by
  refine vcalls_of2 tabOk (rs := _) 3 Tryz.func90 rfl (by simp [Tryz.ntmps90]) rfl (by first | (simp; done) | exact Nat.le_refl _) ?_
  rw [Tryz.ntmps90]
  refine vwp_reg tabOk [] [0] (by simp only [go_sem, List.getElem?_nil]; rfl) (by first | trivial | (simp; done) | (simp [in64]; omega)) ?_
  refine vwp_seq (vwp_region ?_)
  refine vops_go tabOk [] (by simp only [go_sem, List.getElem?_nil]; rfl) (by first | trivial | (simp; done) | (simp [in64]; omega)) ?_
  -- call 0: t4 = CALL 110(f110, nils, t3)
  refine vops_callH (hc := c_slices_AppendSeq l hl) rfl rfl rfl b_slices_AppendSeq_api_Patch_api_Patch [0] [] [] rfl rfl rfl (by simp only [go_sem]; exact WkL.refl _) (by simp only [go_sem]) ?_
  rintro r0 H0 ⟨rfl, rfl⟩
  simp only [go_sem, List.getElem?_nil]
  refine vops_go tabOk [] (by simp only [go_sem, List.getElem?_nil]; rfl) (by first | trivial | (simp; done) | (simp [in64]; omega)) ?_
  refine vops_done [2] ?_
  simp only [go_sem, thenQ, blockQ, jumpQ, stayQ]
  refine vwp_ret ?_
  -- result 0
  try simp only [thenQ, blockQ, jumpQ, stayQ, go_sem]
  refine ⟨by simp, _, _, rfl, by first | trivial | simp, ?_⟩
  exact ⟨rfl, rfl⟩

/-! slices.SortedFunc[counterpane/api.Patch] -/
theorem b_slices_SortedFunc_api_Patch : bodied Go.Proofs.Tryz.prog 63 = true := by rw [bodied, Tryz.func63]; rfl
theorem c_slices_SortedFunc_api_Patch (l : List Patch) (hl : l.length ≤ 256) : VCalls Go.Proofs.Tryz.prog G 63 [.func (.func 92) [] [.ptr 0 0], .func (.func 65) [] []] [.box [.list 3 (l.map cPatch)]] [] (fun r H => ∃ l' : List Patch, l'.Perm l ∧ upP l' ∧ r = .arr 2 l'.length ∧ H = [.dead, .box [.arr 2 l'.length], .arr 48 3 (l'.map cPatch)]) := by
  refine vcalls_of2 tabOk (rs := _) 3 Tryz.func63 rfl (by simp [Tryz.ntmps63]) rfl (by first | (simp; done) | exact Nat.le_refl _) ?_
  rw [Tryz.ntmps63]
  refine vwp_reg tabOk [] [0, 1] (by simp only [go_sem, List.getElem?_nil]; rfl) (by first | trivial | (simp; done) | (simp [in64]; omega)) ?_
  refine vwp_seq (vwp_region ?_)
  refine vops_go tabOk [] (by simp only [go_sem, List.getElem?_nil]; rfl) (by first | trivial | (simp; done) | (simp [in64]; omega)) ?_
  -- call 0: t7 = CALL 90(f90, t6)
  refine vops_callH (hc := c_slices_Collect_api_Patch l hl) rfl rfl rfl b_slices_Collect_api_Patch [0] [] [] rfl rfl rfl (by simp only [go_sem]; exact WkL.refl _) (by simp only [go_sem]) ?_
  rintro r0 H0 ⟨rfl, rfl⟩
  simp only [go_sem, List.getElem?_nil]
  refine vops_go tabOk [] (by simp only [go_sem, List.getElem?_nil]; rfl) (by first | trivial | (simp; done) | (simp [in64]; omega)) ?_
  refine vops_done [1, 5] ?_
  simp only [go_sem, thenQ, blockQ, jumpQ, stayQ]
  refine vwp_seq (vwp_region ?_)
  refine vops_go tabOk [] (by simp only [go_sem, List.getElem?_nil]; rfl) (by first | trivial | (simp; done) | (simp [in64]; omega)) ?_
  -- call 1: t10 = CALL 91(f91, t8, t9)
  refine vops_callH (hc := c_slices_SortFunc_api_Patch_api_Patch l (by omega)) rfl rfl rfl b_slices_SortFunc_api_Patch_api_Patch [2] [] [] rfl rfl rfl (by simp only [go_sem]; exact WkL.refl _) (by simp only [go_sem]) ?_
  rintro r1 H1 ⟨l', hp, hup, rfl, rfl⟩
  simp only [go_sem, List.getElem?_nil]
  refine vops_done [5] ?_
  simp only [go_sem, thenQ, blockQ, jumpQ, stayQ]
  refine vwp_reg tabOk [] [4] (by simp only [go_sem, List.getElem?_nil]; rfl) (by first | trivial | (simp; done) | (simp [in64]; omega)) ?_
  refine vwp_ret ?_
  -- result 0
  try simp only [thenQ, blockQ, jumpQ, stayQ, go_sem]
  refine ⟨by simp, _, _, rfl, by first | trivial | simp, ?_⟩
  exact ⟨l', hp, hup, by rw [hp.length_eq]; rfl, by rw [hp.length_eq]; rfl⟩
end Go.Proofs.YtldfghgjllaljaaGreatDoor.Q
end
