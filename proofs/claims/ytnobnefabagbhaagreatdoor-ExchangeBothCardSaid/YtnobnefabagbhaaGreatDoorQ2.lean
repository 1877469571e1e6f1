/- Part 2 of our proof: a logic over the model's code, contracts of the functions, and plain laws. -/
import Derived.Test.YtnobnefabagbhaaGreatDoorQ1
import Derived.Laws.RangeAny
import Derived.MapKept
import Derived.Laws.Runes
import Derived.Laws.Cover4
import Derived.Lib.Bytealg
import Derived.Sort.Walk0
import Derived.RangeFuncNested
import Derived.RangeFuncBound
import Derived.RangeFuncCalls
import Derived.RangeFuncLeaves
import Derived.OwnWalkIn
import Derived.Sort.LoopGhostIn
import Derived.Shelf.Strings.Builder1
import Derived.Shelf.Small.Utf8
import Derived.Shelf.Small.Bits
import Derived.Shelf.Small.Strs
import Derived.Shelf.Small.Wraps
import Derived.Shelf.Strings.BuilderF
import Derived.Shelf.Strings.BuilderK
import Derived.Shelf.Strconv.Itoa0
import Derived.Shelf.Strconv.Itoa1
import Derived.Shelf.LaysM
import Derived.Shelf.Strconv.Itoa2
import Derived.Shelf.Strconv.Itoa3
import Derived.Shelf.Strings.Search1
import Derived.Shelf.Strings.Search2
import Derived.Shelf.Strings.Search3
import Derived.Shelf.Strings.Shaped
import Derived.Shelf.Sort.Plain
import Derived.Shelf.Strconv.AppendUint10
import Derived.Shelf.Strconv.AppendInt10
import Derived.Shelf.Strconv.AppendIntPublic10
import Derived.Shelf.GgClosure.StringsIndexFunc
import Derived.Ground.GgwProg
import Derived.Shelf.GgClosure.StringsIndexFuncTop
import Derived.Shelf.GgClosure.StringsRunes
import Derived.Shelf.Strings.Prefix
import Derived.Shelf.Unicode.Decode
import Derived.Shelf.Strings.Runes
import Derived.Shelf.Unicode.DecodeSlow
import Derived.Shelf.Unicode.DecodeAny
import Derived.Shelf.Strings.FuncGrows
import Derived.Shelf.Strings.BuilderCap
import Derived.Shelf.Slices.Turned
import Derived.Shelf.Slices.CompactS
import Derived.Shelf.Slices.Cells
import Derived.Shelf.Slices.In.SortNone
import Derived.Shelf.Bytes.SlSearch0
import Derived.Shelf.Bytes.SlEqualAll
import Derived.Shelf.Bytes.Small
import Derived.Test.YtnobnefabagbhaaGreatDoorProg
set_option linter.unusedVariables false
set_option linter.unusedSimpArgs false
set_option linter.unusedSectionVars false
set_option maxRecDepth 100000
section
/- The logic 'Q': a region whose order the model leaves open, run once in its listed order. -/
namespace Go.Q
open Go.RowKit (Below intOf Hid)
def DAll (p : Par) (ops : Array Oper) (H : List Obj) : List Oper → Env → Env → Prop
 | [], e, eF => e = eF
 | o :: r, e, eF => ∃ v, OpOk p ops H o (keepE (tms ops o) e) v ∧ DAll p ops H r (putE o.dst v e) eF
def vdgo (T : Tab) (ops : Array Oper) (H : List Obj) : List Oper → Env → Env × Prop × List Oper
 | [], e => (e, True, [])
 | o :: r, e => match vguard ops (keepE (tms ops o) e) o with
  | some g => match vop T H g (keepE (tms ops o) e) o.op with
   | some (v, O) => match vdgo T ops H r (putE o.dst (wrapg o g v) e) with
    | (e', O', rest) => (e', (g = true → O) ∧ O', rest)
   | none => (e, True, o :: r)
  | none => (e, True, o :: r)
section
variable {p : Par} {T : Tab} {Q : Post} {env : Env} {H : List Obj} {ops : Array Oper}
theorem dall_go (hT : T.Ok p.P) : ∀ {l : List Oper} {e e' eF : Env} {O : Prop} {rest : List Oper}, vdgo T ops H l e = (e', O, rest) → O → DAll p ops H rest e' eF → DAll p ops H l e eF
 | [], e, e', eF, O, rest, h, hO, hr => by
  simp only [vdgo, Prod.mk.injEq] at h
  obtain ⟨rfl, rfl, rfl⟩ := h
  exact hr
 | o :: r, e, e', eF, O, rest, h, hO, hr => by
  simp only [vdgo] at h
  split at h
  ·rename_i g hg
   split at h
   ·rename_i v O1 hv
    simp only [Prod.mk.injEq] at h
    obtain ⟨rfl, rfl, rfl⟩ := h
    exact ⟨_, opOk_quiet hT hg hv hO.1, dall_go hT rfl hO.2 hr⟩
   ·simp only [Prod.mk.injEq] at h
    obtain ⟨rfl, rfl, rfl⟩ := h
    exact hr
  ·simp only [Prod.mk.injEq] at h
   obtain ⟨rfl, rfl, rfl⟩ := h
   exact hr
theorem dall_call {o : Oper} {rest : List Oper} {e eF : Env} {f : FuncId} {args : Array Operand} {ats : Array TypeId} {g : Bool} {r : V} {vs : List V} (hc : g = true → VPure p.P p.glob f vs r)
  (ho : o.op = .call { callee := .value (.func f), args, argTypes := ats })
  (hg : vguard ops (keepE (tms ops o) e) o = some g) (hb : bodied p.P f = true) (hvs : WkL (argsOf g (keepE (tms ops o) e) args.toList) vs) (hcl : cleanL vs = true) (how : g = true → owed g (keepE (tms ops o) e) args.toList)
  (hr : DAll p ops H rest (putE o.dst (wrapg o g r) e) eF) : DAll p ops H (o :: rest) e eF :=
 ⟨_, opOk_call ho hg hb hvs hcl how hc, hr⟩
theorem dall_nil {e : Env} : DAll p ops H [] e e := rfl
theorem dall_get : ∀ {l : List Oper} {e eF : Env} {t : Nat}, DAll p ops H l e eF → (∀ o ∈ l, o.dst ≠ some t) → get eF t = get e t
 | [], e, eF, t, h, _ => by rw [show e = eF from h]
 | o :: r, e, eF, t, h, hn => by
  obtain ⟨v, _, h2⟩ := h
  rw [dall_get h2 fun o' ho' => hn o' (List.mem_cons_of_mem _ ho')]
  cases hd : o.dst with
  | none => rfl
  | some d =>
   simp only [putE, get]
   have : d ≠ t := fun e => hn o (by simp) (by rw [hd, e])
   have hb : (d == t) = false := by simpa using this
   rw [hb]; rfl
theorem dall_split : ∀ {pre : List Oper} {o : Oper} {post : List Oper} {e eF : Env}, DAll p ops H (pre ++ o :: post) e eF →
  ∃ e1 v, DAll p ops H pre e e1 ∧ OpOk p ops H o (keepE (tms ops o) e1) v ∧ DAll p ops H post (putE o.dst v e1) eF
 | [], o, post, e, eF, h => by
  obtain ⟨v, h1, h2⟩ := h
  exact ⟨e, v, rfl, h1, h2⟩
 | x :: pre, o, post, e, eF, h => by
  obtain ⟨v, h1, h2⟩ := h
  obtain ⟨e1, v1, h3, h4, h5⟩ := dall_split h2
  exact ⟨e1, v1, ⟨v, h1, h3⟩, h4, h5⟩
theorem vwp_drawD (hm : p.P.follows .mixedOrders = true) (hd : drawOk p.n ops = true) {eF : Env} (hall : DAll p ops H ops.toList env eF)
  (K : List Nat) (hK : K.all (fun t => decide (t < p.n)) = true) (hq : Q .normal (keepE K eF) H) {id : Nat} : VWp p (.region id ops true) Q env H := by
 have hat : ∀ {i : Nat} {o : Oper}, ops[i]? = some o → ∃ pre post, ops.toList = pre ++ o :: post ∧ pre.length = i := by
  intro i o ho
  have hlt := (Array.getElem?_eq_some_iff.1 ho).1
  refine ⟨ops.toList.take i, ops.toList.drop (i + 1), ?_, by simp; omega⟩
  have h1 : ops.toList[i]? = some o := by simpa using ho
  obtain ⟨h2, h3⟩ := List.getElem?_eq_some_iff.1 h1
  rw [← h3, List.getElem_cons_drop, List.take_append_drop]
 have idx : ∀ {pre post : List Oper} {o o' : Oper}, ops.toList = pre ++ o :: post → o' ∈ post → ∃ j, ops[j]? = some o' ∧ pre.length < j := by
  intro pre post o o' h ho'
  obtain ⟨k, hk⟩ := List.getElem?_of_mem ho'
  refine ⟨pre.length + 1 + k, ?_, by omega⟩
  have : ops.toList[pre.length + 1 + k]? = some o' := by
   rw [h, List.getElem?_append_right (by omega)]
   rw [show pre.length + 1 + k - pre.length = k + 1 by omega, List.getElem?_cons_succ]; exact hk
  simpa using this
 refine vwp_draw hm hd ?_ ?_ K hK hq
 ·intro t ht
  right
  refine dall_get hall fun o ho => ?_
  obtain ⟨j, hj⟩ := List.getElem?_of_mem ho
  exact ht j o (by simpa using hj)
 ·intro i o ho
  obtain ⟨pre, post, hsp, hlen⟩ := hat ho
  rw [hsp] at hall
  obtain ⟨e1, v, h1, h2, h3⟩ := dall_split hall
  have hc := all_range hd (Array.getElem?_eq_some_iff.1 ho).1
  simp only [ho, Bool.and_eq_true] at hc
  obtain ⟨⟨hback, htms⟩, hdst⟩ := hc
  refine ⟨keepE (tms ops o) e1, v, h2, fun t => ?_, fun d hod => ?_⟩
  ·by_cases ht : t ∈ tms ops o
   ·right
    rw [get_keep_mem ht]
    refine ⟨ht, ?_, ?_⟩
    ·rintro ⟨j, o', hji, ho', hd'⟩
     have once : ∀ x ∈ o :: post, x.dst ≠ some t := by
      intro x hx hdx
      obtain ⟨j', hj', hij'⟩ : ∃ j', ops[j']? = some x ∧ i ≤ j' := by
       rcases List.mem_cons.1 hx with rfl | hx
       ·exact ⟨i, ho, Nat.le_refl _⟩
       ·obtain ⟨j', h5, h6⟩ := idx hsp hx
        exact ⟨j', h5, by omega⟩
      have hcj := all_range hd (Array.getElem?_eq_some_iff.1 ho').1
      simp only [ho', hd', Bool.and_eq_true] at hcj
      have h7 := all_range hcj.2.2 (Array.getElem?_eq_some_iff.1 hj').1
      simp only [hj', hdx, beq_self_eq_true, Bool.not_true, Bool.false_or, beq_iff_eq] at h7
      omega
     rw [dall_get h3 fun x hx => once x (List.mem_cons_of_mem _ hx)]
     have hne := once o (by simp)
     cases hod : o.dst with
     | none => rfl
     | some d =>
      simp only [putE, get]
      have : d ≠ t := fun e => hne (by rw [hod, e])
      have hb : (d == t) = false := by simpa using this
      rw [hb]; rfl
    ·intro hno
     rw [dall_get h1]
     intro x hx hdx
     obtain ⟨j, hj⟩ := List.getElem?_of_mem hx
     have hjl : j < pre.length := (List.getElem?_eq_some_iff.1 hj).1
     refine hno ⟨j, x, by omega, ?_, hdx⟩
     have : ops.toList[j]? = some x := by rw [hsp, List.getElem?_append_left hjl]; exact hj
     simpa using this
   ·left; exact get_keep_not ht
  ·right
   rw [dall_get h3]
   ·simp only [hod, putE, get, beq_self_eq_true, cond_true]
   ·intro o' ho' hd'
    obtain ⟨j, h5, h6⟩ := idx hsp ho'
    rw [hod] at hdst
    simp only [Bool.and_eq_true] at hdst
    have h7 := all_range hdst.2 (Array.getElem?_eq_some_iff.1 h5).1
    simp only [h5, hd', beq_self_eq_true, Bool.not_true, Bool.false_or, beq_iff_eq] at h7
    omega
end
end Go.Q
end

section
/- The logic 'Q': a region whose order the model leaves open, some of whose operations have an effect; these stand in a row, and part the run into stages. -/
namespace Go.Q
open Go.RowKit (Below intOf Hid)
def effAt : List Nat → Nat → Nat
 | [], _ => 0
 | x :: l, i => bif x == i then 1 else match effAt l i with
  | 0 => 0
  | n + 1 => n + 2
def avOf (es av : List Nat) : List Edge → Nat
 | [] => 0
 | e :: r => bif Region.binds .any e then max (max (av.getD e.on 0) (effAt es e.on)) (avOf es av r) else avOf es av r
def avOk (ops : Array Oper) (es av : List Nat) : Bool :=
 (List.range ops.size).all fun i => match ops[i]? with
  | none => true
  | some o => decide (av.getD i 0 = avOf es av o.after.toList) && (match effAt es i with
   | 0 => true
   | s + 1 => decide (av.getD i 0 = s) && o.guard.isNone)
theorem avOf_le {es av : List Nat} {k : Nat} : ∀ {l : List Edge}, (∀ e ∈ l, Region.binds .any e = true → av.getD e.on 0 ≤ k ∧ effAt es e.on ≤ k) → avOf es av l ≤ k
 | [], _ => Nat.zero_le _
 | e :: l, h => by
  have ih := avOf_le (l := l) fun x hx => h x (List.mem_cons_of_mem _ hx)
  simp only [avOf]
  cases hb : Region.binds .any e with
  | true =>
   have := h e (by simp) hb
   simp only [cond_true]; omega
  | false => simpa using ih
theorem avOf_ge {es av : List Nat} {e : Edge} : ∀ {l : List Edge}, e ∈ l → Region.binds .any e = true → effAt es e.on ≤ avOf es av l
 | [], h, _ => by simp at h
 | x :: l, h, hb => by
  simp only [avOf]
  rcases List.mem_cons.1 h with rfl | h
  ·rw [hb]; simp only [cond_true]; omega
  ·have := avOf_ge (es := es) (av := av) h hb
   cases Region.binds .any x with
   | true => simp only [cond_true]; omega
   | false => simpa using this
theorem effAt_inj {es : List Nat} : ∀ {i j s : Nat}, effAt es i = s + 1 → effAt es j = s + 1 → i = j := by
 induction es with
 | nil => intro i j s h; simp [effAt] at h
 | cons x l ih =>
  intro i j s hi hj
  simp only [effAt] at hi hj
  cases h1 : (x == i) with
  | true =>
   rw [h1] at hi
   simp only [cond_true] at hi
   cases h2 : (x == j) with
   | true => rw [← eq_of_beq h1, ← eq_of_beq h2]
   | false =>
    rw [h2] at hj
    simp only [cond_false] at hj
    split at hj <;> omega
  | false =>
   rw [h1] at hi
   simp only [cond_false] at hi
   cases h2 : (x == j) with
   | true =>
    rw [h2] at hj
    simp only [cond_true] at hj
    split at hi <;> omega
   | false =>
    rw [h2] at hj
    simp only [cond_false] at hj
    cases hn : effAt l i with
    | zero => rw [hn] at hi; simp at hi
    | succ n =>
     cases hm : effAt l j with
     | zero => rw [hm] at hj; simp at hj
     | succ q =>
      rw [hn] at hi; rw [hm] at hj
      simp only at hi hj
      exact ih (s := n) hn (by rw [hm]; omega)
def mapE (f : V → V) (env : Env) : Env := env.map fun x => (x.1, f x.2)
theorem get_mapE {f : V → V} (hf : f .undef = .undef) : ∀ (env : Env) (t : Nat), get (mapE f env) t = f (get env t)
 | [], t => by simp [mapE, get, hf]
 | y :: r, t => by
  simp only [mapE, List.map_cons, get]
  cases hb : (y.1 == t) with
  | true => rfl
  | false => exact get_mapE hf r t
def EffOk (p : Par) (H H' : List Obj) (o : Oper) (e : Env) (f : V → V) (val : V) : Prop :=
 ∀ E F ρ a w envX, St p E F ρ envX H a w → Env.le e envX → ∀ (K : Act → World → Prop) (Q' : Exit → Act → World → Prop),
  (∀ F' ρ' w' mv, St p E F' ρ' (mapE f envX) H' a w' → Rel F' ρ' w' val mv → K (a.put o.dst mv) w') → o.wp p.P a w K Q'
def DStage (p : Par) (ops : Array Oper) (H : List Obj) (es av : List Nat) (k : Nat) (gs : List V) : Nat → List Oper → Env → Env → Prop
 | _, [], e, eF => e = eF
 | i, o :: r, e, eF => match effAt es i with
  | 0 => if av.getD i 0 ≤ k then ∃ v, OpOk p ops H o (keepE (tms ops o) e) v ∧ DStage p ops H es av k gs (i + 1) r (putE o.dst v e) eF
   else DStage p ops H es av k gs (i + 1) r e eF
  | s + 1 => if s + 1 ≤ k then DStage p ops H es av k gs (i + 1) r (putE o.dst (gs.getD s .undef) e) eF
   else DStage p ops H es av k gs (i + 1) r e eF
def inStage (es av : List Nat) (k i : Nat) : Bool := match effAt es i with
 | 0 => decide (av.getD i 0 ≤ k)
 | s + 1 => decide (s + 1 ≤ k)
section
variable {p : Par} {T : Tab} {Q : Post} {env : Env} {H : List Obj} {ops : Array Oper} {es av : List Nat} {k : Nat} {gs : List V}
theorem dstage_get : ∀ {i : Nat} {l : List Oper} {e eF : Env} {t : Nat}, DStage p ops H es av k gs i l e eF → (∀ (j : Nat) (o : Oper), l[j]? = some o → inStage es av k (i + j) = true → o.dst ≠ some t) → get eF t = get e t
 | i, [], e, eF, t, h, _ => by rw [show e = eF from h]
 | i, o :: r, e, eF, t, h, hn => by
  have hr : ∀ (j : Nat) (o : Oper), r[j]? = some o → inStage es av k (i + 1 + j) = true → o.dst ≠ some t := fun j o' ho' hs => hn (j + 1) o' (by simpa using ho') (by rw [← Nat.add_assoc]; rw [Nat.add_right_comm] at hs; exact hs)
  have hput : ∀ v, inStage es av k i = true → get (putE o.dst v e) t = get e t := by
   intro v hs
   cases hd : o.dst with
   | none => rfl
   | some d =>
    simp only [putE, get]
    have : d ≠ t := fun e => hn 0 o rfl (by simpa using hs) (by rw [hd, e])
    have hb : (d == t) = false := by simpa using this
    rw [hb]; rfl
  simp only [DStage] at h
  split at h
  ·rename_i h0
   split at h
   ·rename_i hle
    obtain ⟨v, _, h2⟩ := h
    rw [dstage_get h2 hr, hput v (by simp [inStage, h0]; exact hle)]
   ·exact dstage_get h hr
  ·rename_i s h0
   split at h
   ·rename_i hle
    rw [dstage_get h hr, hput _ (by simp [inStage, h0]; exact hle)]
   ·exact dstage_get h hr
theorem dstage_split : ∀ {pre : List Oper} {o : Oper} {post : List Oper} {i : Nat} {e eF : Env}, DStage p ops H es av k gs i (pre ++ o :: post) e eF →
  ∃ e1, DStage p ops H es av k gs i pre e e1 ∧ DStage p ops H es av k gs (i + pre.length) (o :: post) e1 eF
 | [], o, post, i, e, eF, h => ⟨e, rfl, h⟩
 | x :: pre, o, post, i, e, eF, h => by
  simp only [List.cons_append, DStage] at h
  simp only [DStage, List.length_cons]
  rw [show i + (pre.length + 1) = i + 1 + pre.length by omega]
  split at h
  ·rename_i h0
   split at h
   ·rename_i hle
    obtain ⟨v, h1, h2⟩ := h
    obtain ⟨e1, h3, h4⟩ := dstage_split h2
    refine ⟨e1, ?_, h4⟩
    simp only [h0, hle, if_true]; exact ⟨v, h1, h3⟩
   ·rename_i hle
    obtain ⟨e1, h3, h4⟩ := dstage_split h
    refine ⟨e1, ?_, h4⟩
    simp only [h0, hle, if_false]; exact h3
  ·rename_i s h0
   split at h
   ·rename_i hle
    obtain ⟨e1, h3, h4⟩ := dstage_split h
    refine ⟨e1, ?_, h4⟩
    simp only [h0, hle, if_true]; exact h3
   ·rename_i hle
    obtain ⟨e1, h3, h4⟩ := dstage_split h
    refine ⟨e1, ?_, h4⟩
    simp only [h0, hle, if_false]; exact h3
theorem split_at {i : Nat} {o : Oper} (ho : ops[i]? = some o) : ∃ pre post, ops.toList = pre ++ o :: post ∧ pre.length = i := by
 have hlt := (Array.getElem?_eq_some_iff.1 ho).1
 refine ⟨ops.toList.take i, ops.toList.drop (i + 1), ?_, by simp; omega⟩
 have h1 : ops.toList[i]? = some o := by simpa using ho
 obtain ⟨h2, h3⟩ := List.getElem?_eq_some_iff.1 h1
 rw [← h3, List.getElem_cons_drop, List.take_append_drop]
set_option maxHeartbeats 2000000 in
theorem vwp_drawE (hm : p.P.follows .mixedOrders = true) (hd : drawOk p.n ops = true) (hav : avOk ops es av = true) (m : Nat) (bs fs : Nat → Env) (Hs : Nat → List Obj) (gsf : Nat → List V)
  (hb0 : bs 0 = env) (hH0 : Hs 0 = H) (hstage : ∀ k, k ≤ m → DStage p ops (Hs k) es av k (gsf k) 0 ops.toList (bs k) (fs k))
  (hmany : ∀ i, effAt es i ≤ m)
  (heff : ∀ k, k < m → ∃ i o f val, effAt es i = k + 1 ∧ ops[i]? = some o ∧ EffOk p (Hs k) (Hs (k + 1)) o (keepE (tms ops o) (fs k)) f val ∧ f .undef = .undef ∧
   (∀ t, get (bs (k + 1)) t = .undef ∨ get (bs (k + 1)) t = f (get (bs k) t)) ∧
   (∀ (j : Nat) (o' : Oper), ops[j]? = some o' → inStage es av k j = true → ∀ d, o'.dst = some d → get (fs (k + 1)) d = .undef ∨ get (fs (k + 1)) d = f (get (fs k) d)) ∧
   (∀ d, o.dst = some d → get (fs (k + 1)) d = .undef ∨ get (fs (k + 1)) d = val))
  (K : List Nat) (hK : K.all (fun t => decide (t < p.n)) = true) (hq : Q .normal (keepE K (fs m)) (Hs m)) {id : Nat} : VWp p (.region id ops true) Q env H := by
 intro E F ρ a w st
 subst hb0 hH0
 refine wp_region_any hm ?_
 have st0 : St p E F ρ (bs 0) (Hs 0) a { w with drawn := w.drawn + 1 } :=
  st.grow (w' := { w with drawn := w.drawn + 1 }) ⟨rfl, rfl, rfl, Nat.le_refl _, fun _ _ => rfl⟩ (fun _ h => h) (fun _ h => .inl h) st.sim.alloc
 have avat : ∀ {i : Nat} {o : Oper}, ops[i]? = some o → av.getD i 0 = avOf es av o.after.toList ∧ ∀ s, effAt es i = s + 1 → av.getD i 0 = s ∧ o.guard = none := by
  intro i o ho
  have := all_range hav (Array.getElem?_eq_some_iff.1 ho).1
  simp only [ho, Bool.and_eq_true, decide_eq_true_eq] at this
  refine ⟨this.1, fun s hs => ?_⟩
  have h2 := this.2
  rw [hs] at h2
  simp only [Bool.and_eq_true, decide_eq_true_eq, Option.isNone_iff_eq_none] at h2
  exact h2
 have done : ∀ (listed : Array Bool) (k : Nat) (F : Nat → Prop) (ρ : List Value) (a : Act) (w : World), (∀ i, i < ops.size → listed.getD i false = true) → k ≤ m →
   (∀ i s, effAt es i = s + 1 → (listed.getD i false = true ↔ s + 1 ≤ k)) → St p E F ρ (stE p.n ops listed (bs k) (fs k)) (Hs k) a w → Lift p E Q .normal a w := by
  intro listed k F ρ a w hfull hk hC2 st
  have hkm : k = m := by
   rcases Nat.lt_or_ge k m with h | h
   ·obtain ⟨i, o, f, val, h1, h2, _⟩ := heff k h
    have := (hC2 i k h1).1 (hfull i (Array.getElem?_eq_some_iff.1 h2).1)
    omega
   ·omega
  subst hkm
  refine ⟨F, ρ, keepE K (fs k), Hs k, hq, st.weaken fun t => ?_⟩
  by_cases hKt : t ∈ K
  ·have ht : t < p.n := by simpa using List.all_eq_true.1 hK t hKt
   rw [get_keep_mem hKt]
   by_cases hw : wr ops listed t
   ·right; rw [stE_wr ht hw]
   ·rw [stE_not ht hw]
    right
    refine dstage_get (hstage k (Nat.le_refl _)) fun j o ho _ hdj => hw ⟨j, o, by simpa using ho, hdj, hfull j ?_⟩
    have : ops[j]? = some o := by simpa using ho
    exact (Array.getElem?_eq_some_iff.1 this).1
  ·left; exact get_keep_not hKt
 have key : ∀ (fuel : Nat) (listed : Array Bool) (k : Nat) (F : Nat → Prop) (ρ : List Value) (a : Act) (w : World), listed.size = ops.size → k ≤ m →
   (∀ (j : Nat) (o : Oper), ops[j]? = some o → listed.getD j false = true → ∀ e ∈ o.after, Region.binds .any e = true → listed.getD e.on false = true) →
   (∀ i s, effAt es i = s + 1 → (listed.getD i false = true ↔ s + 1 ≤ k)) → (∀ i, listed.getD i false = true → av.getD i 0 ≤ k) →
   St p E F ρ (stE p.n ops listed (bs k) (fs k)) (Hs k) a w →
   (List.range ops.size).countP (fun i => !listed.getD i false) ≤ fuel → wpAny p.P .any ops (Lift p E Q) fuel listed a w := by
  intro fuel
  induction fuel with
  | zero =>
   intro listed k F ρ a w hsz hk hclosed hC2 hC3 st hc
   have hfull : ∀ i, i < ops.size → listed.getD i false = true := by
    intro i hi
    have := (List.countP_eq_zero.1 (Nat.le_zero.1 hc)) i (List.mem_range.2 hi)
    simpa using this
   refine ⟨?_, done listed k F ρ a w hfull hk hC2 st⟩
   apply List.eq_nil_iff_forall_not_mem.2
   intro i hi
   rw [mem_ready] at hi
   obtain ⟨hi, o, ho, _⟩ := hi
   have hlt := (Array.getElem?_eq_some_iff.1 ho).1
   have := hfull i hlt
   simp only [Array.getD_eq_getD_getElem?, Array.getElem?_eq_getElem (show i < listed.size by omega), Option.getD_some] at hi this
   rw [hi] at this; cases this
  | succ fuel ih =>
   intro listed k F ρ a w hsz hk hclosed hC2 hC3 st hc
   refine ⟨fun hr => done listed k F ρ a w (ready_full hd hsz hr) hk hC2 st, fun i hi => ?_⟩
   rw [mem_ready] at hi
   obtain ⟨hun, o, ho, hedges⟩ := hi
   have hlt := (Array.getElem?_eq_some_iff.1 ho).1
   have hunl : listed.getD i false = false := by
    simp only [Array.getD_eq_getD_getElem?, Array.getElem?_eq_getElem (show i < listed.size by omega), Option.getD_some] at hun ⊢
    exact hun
   have hchk := all_range hd hlt
   simp only [ho, Bool.and_eq_true] at hchk
   obtain ⟨⟨hback, htms⟩, hdst⟩ := hchk
   have havk : av.getD i 0 ≤ k := by
    rw [(avat ho).1]
    refine avOf_le fun e he hb => ?_
    have hl := hedges e (by simpa using he) hb
    refine ⟨hC3 _ hl, ?_⟩
    cases hs : effAt es e.on with
    | zero => exact Nat.zero_le _
    | succ s => exact (hC2 _ s hs).1 hl
   have each : ∀ t, t ∈ tms ops o → t < p.n ∧ ∀ (j : Nat) (o' : Oper), ops[j]? = some o' → o'.dst = some t → (listed.getD j false = true ∧ j < i) ∨ (i < j ∧ listed.getD j false = false ∧ inStage es av k j = (inStage es av k j && (effAt es i == 0))) := by
    intro t ht
    have h3 := List.all_eq_true.1 htms t ht
    simp only [Bool.and_eq_true, decide_eq_true_eq] at h3
    obtain ⟨htn, h3⟩ := h3
    refine ⟨htn, fun j o' ho' hd' => ?_⟩
    have h4 := all_range h3 (Array.getElem?_eq_some_iff.1 ho').1
    simp only [ho', hd', beq_self_eq_true, Bool.not_true, Bool.false_or, Bool.or_eq_true, List.any_eq_true, Bool.and_eq_true, beq_iff_eq, decide_eq_true_eq] at h4
    rcases h4 with ⟨x, hx, hb, hon⟩ | ⟨hij, x, hx, hb, hon⟩
    ·left
     have h6 := List.all_eq_true.1 hback x hx
     simp only [hb, Bool.not_true, Bool.false_or, decide_eq_true_eq] at h6
     exact ⟨by rw [← hon]; exact hedges x (by simpa using hx) hb, by omega⟩
    ·right
     refine ⟨hij, ?_, ?_⟩
     ·cases hl : listed.getD j false with
      | false => rfl
      | true =>
       have := hclosed j o' ho' hl x (by simpa using hx) hb
       rw [hon, hunl] at this; cases this
     ·cases hs : effAt es i with
      | zero => simp
      | succ s =>
       have hge := avOf_ge (es := es) (av := av) hx hb
       rw [hon, hs, ← (avat ho').1] at hge
       have hsk : k ≤ s := by
        rcases Nat.lt_or_ge s k with h | h
        ·have := (hC2 i s hs).2 h
         rw [hunl] at this; cases this
        ·exact h
       have hnot : inStage es av k j = false := by
        unfold inStage
        cases hj : effAt es j with
        | zero => exact decide_eq_false (by omega)
        | succ s' =>
         have := ((avat ho').2 s' hj).1
         exact decide_eq_false (by omega)
       rw [hnot]; rfl
   have inst : ∀ j, listed.getD j false = true → inStage es av k j = true := by
    intro j hl
    unfold inStage
    cases hj : effAt es j with
    | zero => simp; exact hC3 j hl
    | succ s => simp; exact (hC2 j s hj).1 hl
   have uniq : ∀ {j j' : Nat} {o1 o2 : Oper} {t : Nat}, ops[j]? = some o1 → o1.dst = some t → ops[j']? = some o2 → o2.dst = some t → j' = j := by
    intro j j' o1 o2 t h1 h2 h3 h4
    have hcj := all_range hd (Array.getElem?_eq_some_iff.1 h1).1
    simp only [h1, h2, Bool.and_eq_true] at hcj
    have h7 := all_range hcj.2.2 (Array.getElem?_eq_some_iff.1 h3).1
    simpa only [h3, h4, beq_self_eq_true, Bool.not_true, Bool.false_or, beq_iff_eq] using h7
   have hset : ∀ j, (listed.setIfInBounds i true).getD j false = if j = i then true else listed.getD j false := by
    intro j
    by_cases hj : j = i
    ·subst hj; simp [Array.getD_eq_getD_getElem?, Array.getElem?_setIfInBounds, show j < listed.size by omega]
    ·rw [if_neg hj, Array.getD_eq_getD_getElem?, Array.getD_eq_getD_getElem?, Array.getElem?_setIfInBounds_ne (fun e => hj e.symm)]
   have hcount : (List.range ops.size).countP (fun j => !(listed.setIfInBounds i true).getD j false) ≤ fuel := by
    have := count_lt (p := fun j => !listed.getD j false) (q := fun j => !(listed.setIfInBounds i true).getD j false) (i := i) (by simp [hunl]) (by rw [hset]; simp) (fun j hj => by
     rw [hset] at hj
     split at hj <;> simp_all) (List.range ops.size) (List.mem_range.2 hlt)
    omega
   have hclosed' : ∀ (j : Nat) (o : Oper), ops[j]? = some o → (listed.setIfInBounds i true).getD j false = true → ∀ e ∈ o.after, Region.binds .any e = true → (listed.setIfInBounds i true).getD e.on false = true := by
    intro j o' ho' hl x hx hb
    rw [hset] at hl ⊢
    split
    ·rfl
    ·split at hl
     ·rename_i hji
      subst hji
      rw [ho] at ho'; cases ho'
      exact hedges x hx hb
     ·exact hclosed j o' ho' hl x hx hb
   have hd2 : dstOk p.n o.dst = true := by
    cases hod : o.dst with
    | none => rfl
    | some d => rw [hod] at hdst; simp only [Bool.and_eq_true] at hdst; exact hdst.1
   have up : ∀ t, wr ops listed t → wr ops (listed.setIfInBounds i true) t := by
    rintro t ⟨j, o', ho', hd', hl⟩
    refine ⟨j, o', ho', hd', ?_⟩
    rw [hset]; split
    ·rfl
    ·exact hl
   have down : ∀ t, o.dst ≠ some t → wr ops (listed.setIfInBounds i true) t → wr ops listed t := by
    rintro t hne ⟨j, o', ho', hd', hl⟩
    rw [hset] at hl
    split at hl
    ·rename_i hji
     subst hji
     rw [ho] at ho'; cases ho'
     exact absurd hd' hne
    ·exact ⟨j, o', ho', hd', hl⟩
   simp only [wpOp, ho]
   cases hs : effAt es i with
   | zero =>
    obtain ⟨pre, post, hsp, hlen⟩ := split_at ho
    have hst := hstage k hk
    rw [hsp] at hst
    obtain ⟨e1, h1, h2⟩ := dstage_split hst
    rw [Nat.zero_add, hlen] at h2
    have h2' := h2
    simp only [DStage, hs, havk, if_true] at h2
    obtain ⟨val, hok, h3⟩ := h2
    have hpost : ∀ (j : Nat) (x : Oper), post[j]? = some x → ops[i + 1 + j]? = some x := by
     intro j x hx
     have : ops.toList[i + 1 + j]? = some x := by
      rw [hsp, List.getElem?_append_right (by omega), show i + 1 + j - pre.length = j + 1 by omega, List.getElem?_cons_succ]; exact hx
     simpa using this
    have hpre : ∀ (j : Nat) (x : Oper), pre[j]? = some x → ops[j]? = some x ∧ j < i := by
     intro j x hx
     have hj : j < pre.length := (List.getElem?_eq_some_iff.1 hx).1
     have : ops.toList[j]? = some x := by rw [hsp, List.getElem?_append_left hj]; exact hx
     exact ⟨by simpa using this, by omega⟩
    have hle : Env.le (keepE (tms ops o) e1) (stE p.n ops listed (bs k) (fs k)) := by
     intro t
     by_cases ht : t ∈ tms ops o
     ·right
      obtain ⟨htn, hea⟩ := each t ht
      rw [get_keep_mem ht]
      by_cases hw : wr ops listed t
      ·rw [stE_wr htn hw]
       obtain ⟨j, o', ho', hd', hl⟩ := hw
       have hji : j < i := by
        rcases hea j o' ho' hd' with h | h
        ·exact h.2
        ·rw [hl] at h; exact absurd h.2.1 (by simp)
       rw [dstage_get h2']
       intro q x hx _ hdx
       cases q with
       | zero =>
        simp only [List.getElem?_cons_zero, Option.some.injEq] at hx
        subst hx
        have := uniq ho' hd' ho hdx
        omega
       | succ q =>
        have := uniq ho' hd' (hpost q x (by simpa using hx)) hdx
        omega
      ·rw [stE_not htn hw, dstage_get h1]
       intro q x hx _ hdx
       obtain ⟨h5, h6⟩ := hpre q x hx
       rcases hea q x h5 hdx with h | h
       ·exact hw ⟨q, x, h5, hdx, h.1⟩
       ·omega
     ·left; exact get_keep_not ht
    have hval : ∀ d, o.dst = some d → get (fs k) d = val := by
     intro d hod
     rw [dstage_get h3]
     ·simp only [hod, putE, get, beq_self_eq_true, cond_true]
     ·intro q x hx _ hdx
      have := uniq ho hod (hpost q x hx) hdx
      omega
    refine hok E F ρ a w (st.weaken hle) _ _ fun F' w' mv hbel g1 g2 g3 hrel => ?_
    refine ih _ k F' ρ _ w' (by simpa using hsz) hk hclosed' ?_ ?_ ?_ hcount
    ·intro j s hj
     rw [hset]
     split
     ·rename_i hji; subst hji; rw [hs] at hj; cases hj
     ·exact hC2 j s hj
    ·intro j hl
     rw [hset] at hl
     split at hl
     ·rename_i hji; subst hji; exact havk
     ·exact hC3 j hl
    ·refine ((st.grow hbel g1 g2 g3).putO hd2 hrel).weaken fun t => ?_
     by_cases htn : t < p.n
     ·have other : o.dst ≠ some t → get (stE p.n ops (listed.setIfInBounds i true) (bs k) (fs k)) t = get (stE p.n ops listed (bs k) (fs k)) t := by
       intro hne
       by_cases hw : wr ops listed t
       ·rw [stE_wr htn hw, stE_wr htn (up t hw)]
       ·rw [stE_not htn hw, stE_not htn fun h => hw (down t hne h)]
      cases hod : o.dst with
      | none => right; simp only [putE]; exact other (by simp [hod])
      | some d =>
       simp only [putE, get]
       cases hb : (d == t) with
       | true =>
        rw [eq_of_beq hb] at hod
        simp only [cond_true]
        rw [stE_wr htn ⟨i, o, ho, hod, by rw [hset, if_pos rfl]⟩]
        exact .inr (hval t hod)
       | false =>
        right
        simp only [cond_false]
        exact other (by rw [hod]; intro e; cases e; simp at hb)
     ·left; exact stE_out htn
   | succ s =>
    have hks : k = s := by
     have h5 := ((avat ho).2 s hs).1
     rcases Nat.lt_or_ge s k with h | h
     ·have := (hC2 i s hs).2 h
      rw [hunl] at this; cases this
     ·omega
    subst hks
    have hkm : k < m := by have := hmany i; omega
    obtain ⟨i', o', f, val, g1, g2, hok, hf, hR1, hR2, hR3⟩ := heff k hkm
    have hii : i' = i := effAt_inj g1 hs
    subst hii
    rw [ho] at g2; cases g2
    have hgd := ((avat ho).2 k hs).2
    rw [if_pos (by simp [Region.wanted, hgd])]
    left
    have hle : Env.le (keepE (tms ops o) (fs k)) (stE p.n ops listed (bs k) (fs k)) := by
     intro t
     by_cases ht : t ∈ tms ops o
     ·right
      obtain ⟨htn, hea⟩ := each t ht
      rw [get_keep_mem ht]
      by_cases hw : wr ops listed t
      ·rw [stE_wr htn hw]
      ·rw [stE_not htn hw]
       refine dstage_get (hstage k hk) fun q x hx hq2 hdx => ?_
       rw [Nat.zero_add] at hq2
       have hx' : ops[q]? = some x := by simpa using hx
       rcases hea q x hx' hdx with h | ⟨h6, h7, h8⟩
       ·exact hw ⟨q, x, hx', hdx, h.1⟩
       ·rw [hq2, hs] at h8; simp at h8
     ·left; exact get_keep_not ht
    refine hok E F ρ a w _ st hle _ _ fun F' ρ' w' mv st' hrel => ?_
    refine ih _ (k + 1) F' ρ' _ w' (by simpa using hsz) hkm hclosed' ?_ ?_ ?_ hcount
    ·intro j s' hj
     rw [hset]
     split
     ·rename_i hji; subst hji; rw [hs] at hj; simp; omega
     ·rename_i hji
      rw [hC2 j s' hj]
      constructor
      ·intro h; omega
      ·intro h
       rcases Nat.lt_or_ge s' k with h' | h'
       ·exact h'
       ·exact absurd (effAt_inj (s := k) (by rw [hj]; omega) hs) hji
    ·intro j hl
     rw [hset] at hl
     split at hl
     ·rename_i hji; subst hji; omega
     ·exact Nat.le_succ_of_le (hC3 j hl)
    ·refine (st'.putO hd2 hrel).weaken fun t => ?_
     by_cases htn : t < p.n
     ·have other : o.dst ≠ some t → get (stE p.n ops (listed.setIfInBounds i' true) (bs (k + 1)) (fs (k + 1))) t = .undef ∨ get (stE p.n ops (listed.setIfInBounds i' true) (bs (k + 1)) (fs (k + 1))) t = get (mapE f (stE p.n ops listed (bs k) (fs k))) t := by
       intro hne
       rw [get_mapE hf]
       by_cases hw : wr ops listed t
       ·rw [stE_wr htn hw, stE_wr htn (up t hw)]
        obtain ⟨j, o2, ho2, hd2', hl⟩ := hw
        exact hR2 j o2 ho2 (inst j hl) t hd2'
       ·rw [stE_not htn hw, stE_not htn fun h => hw (down t hne h)]
        exact hR1 t
      cases hod : o.dst with
      | none => simp only [putE]; exact other (by simp [hod])
      | some d =>
       simp only [putE, get]
       cases hb : (d == t) with
       | true =>
        rw [eq_of_beq hb] at hod
        simp only [cond_true]
        rw [stE_wr htn ⟨i', o, ho, hod, by rw [hset, if_pos rfl]⟩]
        exact hR3 t hod
       | false =>
        simp only [cond_false]
        exact other (by rw [hod]; intro e; cases e; simp at hb)
     ·left; exact stE_out htn
 refine key ops.size _ 0 F ρ a _ (by simp) (Nat.zero_le _) ?_ ?_ ?_ ?_ (by
  refine Nat.le_trans List.countP_le_length ?_
  simp)
 ·intro j o ho hl
  simp [Array.getD_eq_getD_getElem?, Array.getElem?_replicate] at hl
  split at hl <;> simp at hl
 ·intro i s hs
  simp [Array.getD_eq_getD_getElem?, Array.getElem?_replicate]
  split <;> simp
 ·intro i hl
  simp [Array.getD_eq_getD_getElem?, Array.getElem?_replicate] at hl
  split at hl <;> simp at hl
 ·refine st0.weaken fun t => ?_
  by_cases htn : t < p.n
  ·right
   rw [stE_not htn]
   rintro ⟨j, o, ho, hdj, hl⟩
   simp [Array.getD_eq_getD_getElem?, Array.getElem?_replicate] at hl
   split at hl <;> simp at hl
  ·left; exact stE_out htn
end
end Go.Q
end

section
/- The logic 'Q': open regions with one or two effects, in use. -/
namespace Go.Q
open Go.RowKit (Below intOf Hid)
def vsgo (T : Tab) (ops : Array Oper) (H : List Obj) (es av : List Nat) (k : Nat) (gs : List V) : Nat → List Oper → Env → Env × Prop × Nat × List Oper
 | i, [], e => (e, True, i, [])
 | i, o :: r, e => match effAt es i with
  | 0 => match decide (av.getD i 0 ≤ k) with
   | true => (match vguard ops (keepE (tms ops o) e) o with
    | some g => match vop T H g (keepE (tms ops o) e) o.op with
     | some (v, O) => match vsgo T ops H es av k gs (i + 1) r (putE o.dst (wrapg o g v) e) with
      | (e', O', i', rest) => (e', (g = true → O) ∧ O', i', rest)
     | none => (e, True, i, o :: r)
    | none => (e, True, i, o :: r))
   | false => vsgo T ops H es av k gs (i + 1) r e
  | s + 1 => match decide (s + 1 ≤ k) with
   | true => vsgo T ops H es av k gs (i + 1) r (putE o.dst (gs.getD s .undef) e)
   | false => vsgo T ops H es av k gs (i + 1) r e
section
variable {p : Par} {T : Tab} {Q : Post} {env : Env} {H : List Obj} {ops : Array Oper} {es av : List Nat} {k : Nat} {gs : List V}
theorem dstage_go (hT : T.Ok p.P) : ∀ {l : List Oper} {i i' : Nat} {e e' eF : Env} {O : Prop} {rest : List Oper}, vsgo T ops H es av k gs i l e = (e', O, i', rest) → O → DStage p ops H es av k gs i' rest e' eF → DStage p ops H es av k gs i l e eF
 | [], i, i', e, e', eF, O, rest, h, hO, hr => by
  simp only [vsgo, Prod.mk.injEq] at h
  obtain ⟨rfl, rfl, rfl, rfl⟩ := h
  exact hr
 | o :: r, i, i', e, e', eF, O, rest, h, hO, hr => by
  simp only [vsgo] at h
  cases hs : effAt es i with
  | zero =>
   rw [hs] at h
   simp only at h
   cases hle : decide (av.getD i 0 ≤ k) with
   | true =>
    rw [hle] at h
    simp only at h
    split at h
    ·rename_i g hg
     split at h
     ·rename_i v O1 hv
      simp only [Prod.mk.injEq] at h
      obtain ⟨rfl, rfl, rfl, rfl⟩ := h
      simp only [DStage, hs, of_decide_eq_true hle, if_true]
      exact ⟨_, opOk_quiet hT hg hv hO.1, dstage_go hT rfl hO.2 hr⟩
     ·simp only [Prod.mk.injEq] at h
      obtain ⟨rfl, rfl, rfl, rfl⟩ := h
      exact hr
    ·simp only [Prod.mk.injEq] at h
     obtain ⟨rfl, rfl, rfl, rfl⟩ := h
     exact hr
   | false =>
    rw [hle] at h
    simp only at h
    simp only [DStage, hs, of_decide_eq_false hle, if_false]
    exact dstage_go hT h hO hr
  | succ s =>
   rw [hs] at h
   simp only at h
   cases hle : decide (s + 1 ≤ k) with
   | true =>
    rw [hle] at h
    simp only at h
    simp only [DStage, hs, of_decide_eq_true hle, if_true]
    exact dstage_go hT h hO hr
   | false =>
    rw [hle] at h
    simp only at h
    simp only [DStage, hs, of_decide_eq_false hle, if_false]
    exact dstage_go hT h hO hr
theorem dstage_nil {i : Nat} {e : Env} : DStage p ops H es av k gs i [] e e := rfl
theorem dstage_call {o : Oper} {rest : List Oper} {i : Nat} {e eF : Env} {f : FuncId} {args : Array Operand} {ats : Array TypeId} {g : Bool} {r : V} {vs : List V} (hc : g = true → VPure p.P p.glob f vs r)
  (ho : o.op = .call { callee := .value (.func f), args, argTypes := ats })
  (hg : vguard ops (keepE (tms ops o) e) o = some g) (hb : bodied p.P f = true) (hvs : WkL (argsOf g (keepE (tms ops o) e) args.toList) vs) (hcl : cleanL vs = true) (how : g = true → owed g (keepE (tms ops o) e) args.toList)
  (hs : effAt es i = 0) (hk : av.getD i 0 ≤ k) (hr : DStage p ops H es av k gs (i + 1) rest (putE o.dst (wrapg o g r) e) eF) : DStage p ops H es av k gs i (o :: rest) e eF := by
 simp only [DStage, hs, hk, if_true]
 exact ⟨_, opOk_call ho hg hb hvs hcl how hc, hr⟩
theorem ev_le {e envX : Env} {x : Operand} (hl : Env.le e envX) (h : ev e x ≠ .undef) : ev envX x = ev e x := by
 cases x with
 | tmp t =>
  rcases hl t with h1 | h1
  ·exact absurd h1 h
  ·exact h1.symm
 | const v => rfl
 | global g => rfl
 | func f => rfl
theorem velems_undef {e : TypeId} {k : Nat} {t u : TypeId} : velems T H e k t u .undef = none := rfl
theorem effOk_append (hT : T.Ok p.P) {o : Oper} {e : Env} {x y : Operand} {t u el : TypeId} {k n i : Nat} {g : Bool} {xs ys : List (List V)} {O : Prop} (ho : o.op = .call { callee := .builtin .append, args := #[x, y], argTypes := #[t, u] })
  (hx : ev e x = .arr i n) (he : T.es t = some (el, k, g)) (hy : velems T H el k t u (ev e y) = some (ys, O)) (hO : O) (hi : H[i]? = some (.arr el k xs)) (hn : n = xs.length) (hB : xs.length + ys.length ≤ 137438953472) (hM : i ∈ p.M ∨ p.n0 ≤ i) :
  EffOk p H ((killH i H).set i (.arr el k (xs ++ ys))) o e (kill i) (.arr i (xs.length + ys.length)) := by
 intro E F ρ a w envX st hl K Q' hk
 have h1 : ev envX x = .arr i n := by rw [ev_le hl (by rw [hx]; simp), hx]
 have h2 : ev envX y = ev e y := ev_le hl fun h => by rw [h, velems_undef] at hy; cases hy
 have hv : veff T p [] envX H o = some (.arr i (xs.length + ys.length), (killH i H).set i (.arr el k (xs ++ ys)), killE i envX, O ∧ el = el ∧ k = k ∧ n = xs.length ∧ xs.length + ys.length ≤ 137438953472 ∧ (i ∈ p.M ∨ p.n0 ≤ i)) := by
  simp only [veff, ho, h1, h2, he, hy, hi]
 obtain ⟨nx, w', F', ρ', hr, st', hc⟩ := veff_run hT st hv ⟨hO, rfl, rfl, hn, hB, hM⟩
 rcases hc with ⟨mv, rfl, hrel⟩ | ⟨_, hc⟩
 ·simp only [Oper.wp, hr, Oper.upon_value]
  exact hk F' ρ' w' mv st' hrel
 ·simp at hc
def appEff (T : Tab) (p : Par) (H : List Obj) (o : Oper) (e : Env) : Option (List Obj × (V → V) × V × Prop) :=
 match o.op with
 | .call { callee := .builtin .append, args, argTypes } => match args.toList, argTypes.toList with
  | [x, y], [t, u] => match T.es t with
   | some (el, k, _) => match velems T H el k t u (ev e y) with
    | some (ys, O) => match ev e x with
     | .arr i n => match H[i]? with
      | some (.arr e' k' xs) => some ((killH i H).set i (.arr el k (xs ++ ys)), kill i, .arr i (xs.length + ys.length), O ∧ e' = el ∧ k' = k ∧ n = xs.length ∧ xs.length + ys.length ≤ 137438953472 ∧ (i ∈ p.M ∨ p.n0 ≤ i))
      | _ => none
     | _ => none
    | none => none
   | none => none
  | _, _ => none
 | _ => none
theorem effOk_app (hT : T.Ok p.P) {o : Oper} {e : Env} {H' : List Obj} {f : V → V} {v : V} {O : Prop} (h : appEff T p H o e = some (H', f, v, O)) (hO : O) : EffOk p H H' o e f v := by
 unfold appEff at h
 split at h
 ·rename_i args ats ho
  split at h
  ·rename_i x y t u hxy htu
   split at h
   ·rename_i el k g he
    split at h
    ·rename_i ys O' hy
     split at h
     ·rename_i i n hx
      split at h
      ·rename_i e' k' xs hi
       simp only [Option.some.injEq, Prod.mk.injEq] at h
       obtain ⟨rfl, rfl, rfl, rfl⟩ := h
       obtain ⟨hO', rfl, rfl, hn, hB, hM⟩ := hO
       refine effOk_append hT (x := x) (y := y) (t := t) (u := u) ?_ hx he hy hO' hi hn hB hM
       rw [ho]
       have h1 : args = #[x, y] := by apply Array.ext'; simpa using hxy
       have h2 : ats = #[t, u] := by apply Array.ext'; simpa using htu
       rw [h1, h2]
      ·simp at h
     ·simp at h
    ·simp at h
   ·simp at h
  ·simp at h
 ·simp at h
theorem effOk_callH {o : Oper} {e : Env} {f : FuncId} {args : Array Operand} {ats : Array TypeId} {r : V} {H' : List Obj} {vs : List V} (ix M mvd : List Nat) (hc : VCalls p.P p.glob f vs (viewIn H ix) M (fun r' H'' => r' = r ∧ H'' = H'))
  (ho : o.op = .call { callee := .value (.func f), args, argTypes := ats }) (hb : bodied p.P f = true) (hnd : nodupB ix = true) (hlt : ix.all (fun i => decide (i < H.length)) = true)
  (hM : M.all (fun j => match ix[j]? with | some i => (p.M.contains i || decide (p.n0 ≤ i)) && mvd.contains i | none => true) = true)
  (hvs : WkL (renL (posIn ix) (argsOf true e args.toList)) vs) (how : owed true e args.toList) : EffOk p H (heapOut H H' ix mvd) o e (ren (keepMoved mvd)) (ren (backIn ix H.length) r) := by
 intro E F ρ a w envX st hl K Q' hk
 have ste := st.weaken hl
 have hnd' := nodupB_ok hnd
 have hlt' : ∀ i ∈ ix, i < H.length := fun i hi => by simpa using List.all_eq_true.1 hlt i hi
 have hrel := relL_map ste (g := true) rfl args.toList (owed_all how)
 have hρ : ∀ (i j : Nat) (h : Value), posIn ix i = some j → ρ[i]? = some h → (ix.map fun i => ρ.getD i undef)[j]? = some h := by
  intro i j h h1 h2
  simp [posIn_spec h1, List.getD, h2]
 have hrel2 := hvs.rel (renL_rel hρ _ _ hrel)
 have hcall := hc F _ w _ (sim_in st.sim hnd' hlt') hrel2 st.glob
 have hrun : (execOp a.eval o).run p.P w = .ok (.enter f (args.toList.map a.eval).toArray) w := by
  have he : args.map a.eval = (args.toList.map a.eval).toArray := by apply Array.ext'; simp
  have hff : a.eval (.func f) = .func (.func f) #[] #[] := rfl
  simp only [execOp, ho, resolve, he, hff, Deferred.ofValue, Sem.run_bind, Sem.run_pure, Result.andThen_ok, invoke]
  simp [bodied_run hb]
 simp only [Oper.wp, hrun, Oper.upon_enter]
 refine hcall.mono ?_
 rintro e' w' ⟨F', ρ', H'', r', mr, rfl, ⟨rfl, rfl⟩, hr, sim', ev⟩
 have hMM : ∀ j ∈ M, ∀ i, ix[j]? = some i → (i ∈ p.M ∨ p.n0 ≤ i) ∧ mvd.contains i = true := by
  intro j hj i hi
  have := List.all_eq_true.1 hM j hj
  simp only [hi, Bool.and_eq_true, Bool.or_eq_true, decide_eq_true_eq] at this
  refine ⟨?_, this.2⟩
  rcases this.1 with h | h
  ·exact .inl (List.contains_iff_mem.1 h)
  ·exact .inr h
 obtain ⟨st', hback⟩ := st.call (mvd := mvd) hnd' hlt' sim' ev (fun j hj i hi => (hMM j hj i hi).1) (fun j hj i hi => (hMM j hj i hi).2)
 exact hk F' _ w' mr st' (hback _ mr hr)
def keptOk (f : V → V) (es av : List Nat) (k : Nat) (f0 f1 : Env) : Nat → List Oper → Prop
 | _, [] => True
 | i, o :: r => (match o.dst with
  | some d => bif inStage es av k i then get f1 d = .undef ∨ get f1 d = f (get f0 d) else True
  | none => True) ∧ keptOk f es av k f0 f1 (i + 1) r
theorem keptOk_at {f : V → V} {f0 f1 : Env} : ∀ {l : List Oper} {i : Nat}, keptOk f es av k f0 f1 i l → ∀ (j : Nat) (o : Oper), l[j]? = some o → inStage es av k (i + j) = true → ∀ d, o.dst = some d → get f1 d = .undef ∨ get f1 d = f (get f0 d)
 | [], i, _, j, o, hj, _, _, _ => by simp at hj
 | x :: l, i, h, 0, o, hj, hs, d, hd => by
  simp only [List.getElem?_cons_zero, Option.some.injEq] at hj
  subst hj
  have h1 := h.1
  simp only [hd] at h1
  rw [Nat.add_zero] at hs
  rw [hs] at h1
  exact h1
 | x :: l, i, h, j + 1, o, hj, hs, d, hd => by
  refine keptOk_at h.2 j o (by simpa using hj) ?_ d hd
  rw [← hs]; congr 1; omega
theorem mapE_get {f : V → V} (hf : f .undef = .undef) (e : Env) (t : Nat) : get (mapE f e) t = .undef ∨ get (mapE f e) t = f (get e t) := .inr (get_mapE hf e t)
theorem vwp_drawE1 (hm : p.P.follows .mixedOrders = true) (hd : drawOk p.n ops = true) (i1 : Nat) (av : List Nat) (hav : avOk ops [i1] av = true) {f0 f1 : Env} {H1 : List Obj} {o1 : Oper} {g1 : V → V} {v1 : V}
  (ho1 : ops[i1]? = some o1) (hs0 : DStage p ops H [i1] av 0 [] 0 ops.toList env f0) (he1 : EffOk p H H1 o1 (keepE (tms ops o1) f0) g1 v1) (hg1 : g1 .undef = .undef)
  (hs1 : DStage p ops H1 [i1] av 1 [v1] 0 ops.toList (mapE g1 env) f1) (hk1 : keptOk g1 [i1] av 0 f0 f1 0 ops.toList) (hv1 : ∀ d, o1.dst = some d → get f1 d = .undef ∨ get f1 d = v1)
  (K : List Nat) (hK : K.all (fun t => decide (t < p.n)) = true) (hq : Q .normal (keepE K f1) H1) {id : Nat} : VWp p (.region id ops true) Q env H := by
 refine vwp_drawE hm hd hav 1 (fun k => match k with | 0 => env | _ => mapE g1 env) (fun k => match k with | 0 => f0 | _ => f1) (fun k => match k with | 0 => H | _ => H1) (fun k => match k with | 0 => [] | _ => [v1]) rfl rfl ?_ ?_ ?_ K hK hq
 ·intro k hk
  rcases Nat.lt_or_ge k 1 with h | h
  ·obtain rfl : k = 0 := by omega
   exact hs0
  ·obtain rfl : k = 1 := by omega
   exact hs1
 ·intro i
  simp only [effAt]
  cases (i1 == i) <;> simp
 ·intro k hk
  obtain rfl : k = 0 := by omega
  exact ⟨i1, o1, g1, v1, by simp [effAt], ho1, he1, hg1, mapE_get hg1 env, fun j o' ho' hs d hd => keptOk_at hk1 j o' (by simpa using ho') (by rw [Nat.zero_add]; exact hs) d hd, hv1⟩
theorem vwp_drawE2 (hm : p.P.follows .mixedOrders = true) (hd : drawOk p.n ops = true) (i1 i2 : Nat) (hne : i1 ≠ i2) (av : List Nat) (hav : avOk ops [i1, i2] av = true) {f0 f1 f2 : Env} {H1 H2 : List Obj} {o1 o2 : Oper} {g1 g2 : V → V} {v1 v2 : V}
  (ho1 : ops[i1]? = some o1) (ho2 : ops[i2]? = some o2) (hs0 : DStage p ops H [i1, i2] av 0 [] 0 ops.toList env f0) (he1 : EffOk p H H1 o1 (keepE (tms ops o1) f0) g1 v1) (hg1 : g1 .undef = .undef)
  (hs1 : DStage p ops H1 [i1, i2] av 1 [v1] 0 ops.toList (mapE g1 env) f1) (hk1 : keptOk g1 [i1, i2] av 0 f0 f1 0 ops.toList) (hv1 : ∀ d, o1.dst = some d → get f1 d = .undef ∨ get f1 d = v1)
  (he2 : EffOk p H1 H2 o2 (keepE (tms ops o2) f1) g2 v2) (hg2 : g2 .undef = .undef)
  (hs2 : DStage p ops H2 [i1, i2] av 2 [g2 v1, v2] 0 ops.toList (mapE g2 (mapE g1 env)) f2) (hk2 : keptOk g2 [i1, i2] av 1 f1 f2 0 ops.toList) (hv2 : ∀ d, o2.dst = some d → get f2 d = .undef ∨ get f2 d = v2)
  (K : List Nat) (hK : K.all (fun t => decide (t < p.n)) = true) (hq : Q .normal (keepE K f2) H2) {id : Nat} : VWp p (.region id ops true) Q env H := by
 have n12 : (i1 == i2) = false := by simpa using hne
 refine vwp_drawE hm hd hav 2 (fun k => match k with | 0 => env | 1 => mapE g1 env | _ => mapE g2 (mapE g1 env)) (fun k => match k with | 0 => f0 | 1 => f1 | _ => f2) (fun k => match k with | 0 => H | 1 => H1 | _ => H2) (fun k => match k with | 0 => [] | 1 => [v1] | _ => [g2 v1, v2]) rfl rfl ?_ ?_ ?_ K hK hq
 ·intro k hk
  rcases Nat.lt_or_ge k 1 with h | h
  ·obtain rfl : k = 0 := by omega
   exact hs0
  ·rcases Nat.lt_or_ge k 2 with h' | h'
   ·obtain rfl : k = 1 := by omega
    exact hs1
   ·obtain rfl : k = 2 := by omega
    exact hs2
 ·intro i
  simp only [effAt]
  cases (i1 == i) <;> cases (i2 == i) <;> simp
 ·intro k hk
  rcases Nat.lt_or_ge k 1 with h | h
  ·obtain rfl : k = 0 := by omega
   exact ⟨i1, o1, g1, v1, by simp [effAt], ho1, he1, hg1, mapE_get hg1 env, fun j o' ho' hs d hd => keptOk_at hk1 j o' (by simpa using ho') (by rw [Nat.zero_add]; exact hs) d hd, hv1⟩
  ·obtain rfl : k = 1 := by omega
   exact ⟨i2, o2, g2, v2, by simp [effAt, n12], ho2, he2, hg2, mapE_get hg2 _, fun j o' ho' hs d hd => keptOk_at hk2 j o' (by simpa using ho') (by rw [Nat.zero_add]; exact hs) d hd, hv2⟩
theorem ren_undef (f : Nat → Option Nat) : ren f .undef = .undef := rfl
theorem vwp_trim {c : Code} (m : Nat) (hm : p.n0 ≤ m) (hmH : m ≤ H.length) (h : VWp p c Q (mapE (ren (below m)) env) (trimH m H)) : VWp p c Q env H := by
 intro E F ρ a w st
 refine h E F (ρ.take m) a w ⟨st.sim.trim m, fun t => ?_, st.size, st.defers, st.evol.trim st.sim (by rw [st.ent]; exact hm) hmH, st.ent, st.glob⟩
 rw [get_mapE (ren_undef _)]
 exact ren_rel (fun j i h => below_hf m j i h) _ _ (st.env t)
theorem vwp_ownCell {cd : Code} (i c e k : Nat) (cs : List V) {ty : Option TypeId} (hi : H[i]? = some (.box cs ty)) (hc : cs[c]? = some .nils)
  (h : VWp p cd Q env (H.set i (.box (cs.set c (.arr H.length 0)) ty) ++ [.arr e k []])) : VWp p cd Q env H := by
 intro E F ρ a w st
 have ho : ObjRel F (ρ ++ [.slice none 0 0]) w (.arr e k []) (.slice none 0 0) := ⟨[], 0, none, rfl, World.ownsRow_nil w 0 e k, by simp [RelLL], Nat.zero_le _⟩
 have st1 := st.newObj (w' := w) (o := .arr e k []) (h := .slice none 0 0) (Below.refl _ _) (fun b hb => by simp [blk] at hb) ho
 have hlt : i < H.length := (List.getElem?_eq_some_iff.1 hi).1
 have hi1 : (H ++ [.arr e k []])[i]? = some (.box cs ty) := by rw [List.getElem?_append_left hlt]; exact hi
 have hρl : i < (ρ ++ [Value.slice none 0 0]).length := by rw [st1.sim.len]; simp; omega
 have hr : (ρ ++ [Value.slice none 0 0])[i]? = some (ρ ++ [Value.slice none 0 0])[i] := by simp [hρl]
 obtain ⟨b, us, t, hh, hb, hrel, hone⟩ := st1.sim.obj i _ _ hi1 hr
 have hnew : (ρ ++ [Value.slice none 0 0])[H.length]? = some (.slice none 0 0) := by rw [← st.sim.len]; simp
 have key : ∀ (cs : List V) (us : List Value) (c : Nat), RelL F (ρ ++ [.slice none 0 0]) w cs us → cs[c]? = some .nils → RelL F (ρ ++ [.slice none 0 0]) w (cs.set c (.arr H.length 0)) us := by
  intro cs
  induction cs with
  | nil => intro us c h1 h2; simp at h2
  | cons v r ih =>
   intro us c h1 h2
   simp only [RelL] at h1
   obtain ⟨u, t, rfl, h3, h4⟩ := h1
   cases c with
   | zero =>
    simp only [List.getElem?_cons_zero, Option.some.injEq] at h2
    subst h2
    simp only [Rel] at h3
    simp only [List.set_cons_zero, RelL, Rel]
    exact ⟨u, t, rfl, ⟨none, 0, 0, hnew, h3, Nat.le_refl _⟩, h4⟩
   | succ c =>
    simp only [List.set_cons_succ, RelL]
    exact ⟨u, t, rfl, h3, ih t c h4 (by simpa using h2)⟩
 have st2 := st1.setObj (w' := w) (i := i) (o' := .box (cs.set c (.arr H.length 0)) ty) hi1 rfl hr rfl rfl rfl rfl (fun _ _ => rfl) ⟨b, us, t, hh, hb, key cs us c hrel hc, hone⟩
 rw [List.set_append_left _ _ hlt] at st2
 exact h E F (ρ ++ [.slice none 0 0]) a w st2
end
end Go.Q
end

section
/- The logic 'Q': contracts out of what is known of a call in the model's own words: one that appends to the slice that comes in; one to whom 'nil' comes. -/
namespace Go.Q
open Go.RowKit (Below)
section
variable {F : Nat → Prop} {ρ : List Value} {H : List Obj} {w w' : World}
theorem evol_refl (F : Nat → Prop) (ρ : List Value) (H : List Obj) (w : World) (M : List Nat) : Evol ⟨F, ρ, H, w⟩ M F ρ H w :=
 ⟨rfl, rfl, rfl, Nat.le_refl _, fun _ h => h, fun _ h => .inl h, fun i h h1 _ => h1, fun b hb => .inl hb, fun _ _ _ => rfl, Nat.le_refl _⟩
theorem st_of_sim (P : Program) (G : Glob) (M : List Nat) (sim : Sim F ρ H w) (hG : G.G F w) : St ⟨P, G, M, H.length, 0⟩ ⟨F, ρ, H, w⟩ F ρ [] H { tmps := #[], defers := [] } w :=
 ⟨sim, fun t => by simp [get, Rel], rfl, rfl, evol_refl F ρ H w M, sim.len, hG⟩
theorem grown_raw (P : Program) {G : Glob} {M : List Nat} (sim : Sim F ρ H w) (hG : G.G F w) {i e k : Nat} {xs ys : List (List V)} {h v' : Value} {us news : List Value} (hi : H[i]? = some (.arr e k xs)) (hr : ρ[i]? = some h) (hM : i ∈ M)
  (hus : RelLL F w k xs us) (hns : RelLL F w k ys news)
  (hown' : w'.ownsRow 0 e k v' (xs.length + ys.length) (us ++ news)) (hg : w.grownBy w' h.ownBlock) (hb : v'.ownBlock = h.ownBlock ∨ ∀ b, v'.ownBlock = some b → w.heap.size ≤ b) (hh : ∃ a n c, h = .slice a n c) (hB : xs.length + ys.length ≤ maxB) :
  Sim F (ρ.set i v') ((killH i H).set i (.arr e k (xs ++ ys))) w' ∧ Evol ⟨F, ρ, H, w⟩ M F (ρ.set i v') ((killH i H).set i (.arr e k (xs ++ ys))) w' ∧ Rel F (ρ.set i v') w' (.arr i (xs.length + ys.length)) v' := by
 have st := st_of_sim P G M sim hG
 have hblk : ∀ (v : Value) (n : Nat) (row : List Value) (W : World), W.ownsRow 0 e k v n row → blk v = v.ownBlock := by
  intro v n row W ho
  rcases ho.2 with ⟨rfl, _⟩ | ⟨g, cap, cur, rfl, _⟩ <;> rfl
 have hbh : blk h = h.ownBlock := by
  obtain ⟨a, n, c, rfl⟩ := hh
  cases a <;> rfl
 have hFs : ∀ b, F b → w'.heap[b]? = w.heap[b]? := fun b hb' => hg.block b (sim.alloc b hb') fun he => sim.apart i _ h b hi rfl hr (by rw [hbh]; exact he.symm) hb'
 have g : Goes F [] w F [] w' := ⟨fun _ h => h, hFs, fun _ _ h => h⟩
 have ho : ObjRel F (ρ.set i v') w' (.arr e k (xs ++ ys)) v' := by
  have hv : ∃ a c, v' = .slice a (xs ++ ys).length c := by
   rcases hown'.2 with ⟨rfl, h0⟩ | ⟨gb, cap, cur, rfl, _⟩
   ·exact ⟨none, 0, by rw [List.length_append, h0]⟩
   ·exact ⟨_, cap, by rw [List.length_append]⟩
  obtain ⟨a, c, hv⟩ := hv
  refine ⟨us ++ news, c, a, hv, by rw [List.length_append]; exact hown', ?_, by rw [List.length_append]; exact hB⟩
  exact RelLL.append (RelLL.goes g k xs us hus) (RelLL.goes g k ys news hns)
 have st' := st.move (w' := w') (o' := .arr e k (xs ++ ys)) (h' := v') hi rfl hr (.inl hM) hg.os hg.tape hg.output hg.size
  (fun b hb1 hb2 => hg.block b hb1 fun he => hb2 (by rw [hbh]; exact he.symm))
  (fun b hb1 => by
   rw [hblk v' _ _ _ hown'] at hb1
   rcases hb with h1 | h1
   ·left; rw [hbh, ← h1]; exact hb1
   ·right; exact h1 b hb1) ho rfl
 refine ⟨st'.sim, st'.evol, ?_⟩
 have hil : i < ρ.length := (List.getElem?_eq_some_iff.1 hr).1
 rcases hown'.2 with ⟨rfl, h0⟩ | ⟨gb, cap, cur, rfl, _⟩
 ·simp only [Rel]
  exact ⟨none, 0, 0, by rw [List.getElem?_set_self hil], by rw [h0], by omega⟩
 ·simp only [Rel]
  exact ⟨_, _, cap, by rw [List.getElem?_set_self hil], rfl, Nat.le_refl _⟩
end
theorem vcalls_grown {P : Program} {G : Glob} {f : FuncId} {e k : Nat} {xs ys : List (List V)} {args : List V} (hcl : cleanL args = true) (hB : xs.length + ys.length ≤ maxB)
  (h : ∀ F w (h : Value) (us ms : List Value), w.ownsRow 0 e k h xs.length us → RelL F [] w args ms → G.G F w → (∃ a n c, h = .slice a n c) →
   Calls P f (h :: ms).toArray w fun en w' => ∃ v' news, en = .returned v' ∧ RelLL F w k ys news ∧ w'.ownsRow 0 e k v' (xs.length + ys.length) (us ++ news) ∧ w.grownBy w' h.ownBlock ∧
    (v'.ownBlock = h.ownBlock ∨ ∀ b, v'.ownBlock = some b → w.heap.size ≤ b)) :
  VCalls P G f (.arr 0 xs.length :: args) [.arr e k xs] [0] (fun r H => r = .arr 0 (xs.length + ys.length) ∧ H = [.arr e k (xs ++ ys)]) := by
 intro F ρ w ms sim hr hG
 simp only [RelL] at hr
 obtain ⟨u, t, rfl, h1, h2⟩ := hr
 simp only [Rel] at h1
 obtain ⟨a, m, c, h3, rfl, hm⟩ := h1
 obtain ⟨us, c', a', hh, hown, hll, hB'⟩ := sim.obj 0 _ _ rfl h3
 injection hh with ha hm' hc; subst ha; subst hm'; subst hc
 refine (h F w _ us t hown (cleanL_rel _ _ hcl h2) hG ⟨_, _, _, rfl⟩).mono ?_
 rintro en w' ⟨v', news, rfl, hns, hown', hg, hb⟩
 obtain ⟨s1, s2, s3⟩ := grown_raw P (G := G) (M := [0]) sim hG (i := 0) rfl h3 (by simp) hll hns hown' hg hb ⟨_, _, _, rfl⟩ hB
 exact ⟨F, _, _, _, v', rfl, ⟨rfl, rfl⟩, s3, s1, s2⟩
theorem vcalls_nil {P : Program} {G : Glob} {f : FuncId} {e k : Nat} {args : List V} {post : V → List Obj → Prop} (hcl : cleanL args = true) (h : VCalls P G f (.arr 0 0 :: args) [.arr e k []] [0] post) : VCalls P G f (.nils :: args) [] [] post := by
 intro F ρ w ms sim hr hG
 have hρ : ρ = [] := List.eq_nil_of_length_eq_zero sim.len
 subst hρ
 have nolive : ∀ b, ¬ liveBlock [] [] b := by rintro b ⟨i, o, h, h1, _⟩; simp at h1
 have nolive2 : ∀ b, ¬ liveBlock [.arr e k []] [.slice none 0 0] b := by
  rintro b ⟨i, o, h, h1, h2, h3, h4⟩
  cases i with
  | zero => simp at h3; subst h3; simp [blk] at h4
  | succ i => simp at h1
 simp only [RelL] at hr
 obtain ⟨u, t, rfl, h1, h2⟩ := hr
 simp only [Rel] at h1
 subst h1
 have sim2 : Sim F [.slice none 0 0] [.arr e k []] w := by
  refine ⟨rfl, fun i o h hi hr => ?_, fun i o h b hi hl hr hb => ?_, fun i j o o' h h' b hi hl hj hl' hr hr' hb hb' => ?_, sim.alloc⟩
  ·cases i with
   | zero => simp at hi hr; subst hi; subst hr; exact ⟨[], 0, none, rfl, World.ownsRow_nil w 0 e k, by simp [RelLL], Nat.zero_le _⟩
   | succ i => simp at hi
  ·exact absurd ⟨i, o, h, hi, hl, hr, hb⟩ (nolive2 b)
  ·exact absurd ⟨i, o, h, hi, hl, hr, hb⟩ (nolive2 b)
 refine (h F [.slice none 0 0] w (.slice none 0 0 :: t) sim2 ?_ hG).mono ?_
 ·simp only [RelL]
  refine ⟨_, _, rfl, ?_, ?_⟩
  ·simp only [Rel]; exact ⟨none, 0, 0, rfl, rfl, Nat.le_refl _⟩
  ·exact RelL.of_bare (cleanL_rel _ _ hcl h2)
 ·rintro en w' ⟨F', ρ', H', r, mr, rfl, hp, hr, hs, ev⟩
  refine ⟨F', ρ', H', r, mr, rfl, hp, hr, hs, ev.os, ev.tape, ev.output, ev.size, ev.frozen, fun b hb => ?_, fun i h h1 _ => by simp at h1, fun b hb => ?_, fun b hb _ => ev.old b hb (nolive2 b), Nat.zero_le _⟩
  ·rcases ev.back b hb with h | h | h
   ·exact .inl h
   ·exact absurd h (nolive2 b)
   ·exact .inr (.inr h)
  ·rcases ev.live b hb with h | h
   ·exact absurd h (nolive2 b)
   ·exact .inr h
end Go.Q
end

section
/- The logic 'Q': single operations beside the engine: a string that is ranged over; maps whose keys are strings. -/
namespace Go.Q
open Go.RowKit (Below)
def OpStep (p : Par) (o : Oper) (env : Env) (H : List Obj) (φ : V → Env → List Obj → Prop) : Prop :=
 ∀ E F ρ a w, St p E F ρ env H a w → ∃ nx w' F' ρ' v env' H', (execOp a.eval o).run p.P w = .ok nx w' ∧ φ v env' H' ∧ St p E F' ρ' env' H' a w' ∧ ((∃ mv, nx = .value mv ∧ Rel F' ρ' w' v mv) ∨ (nx = .skip ∧ v = .undef))
section
variable {p : Par} {T : Tab} {env : Env} {H : List Obj} {Q : Post} {ops : Array Oper}
theorem vops_step {o : Oper} {rest : List Oper} {φ : V → Env → List Obj → Prop} (hs : OpStep p o env H φ) (hg : o.guard = none) (hd : dstOk p.n o.dst = true)
  (h : ∀ v env' H', φ v env' H' → VOps p ops rest Q (putE o.dst v env') H') : VOps p ops (o :: rest) Q env H := by
 intro E F ρ a w st
 simp only [wpList]
 rw [if_pos (by simp [Region.wanted, hg])]
 left
 obtain ⟨nx, w', F', ρ', v, env', H', hr, hφ, st', hx⟩ := hs E F ρ a w st
 rcases hx with ⟨mv, rfl, hrel⟩ | ⟨rfl, rfl⟩
 ·simp only [Oper.wp, hr, Oper.upon_value]
  exact h _ _ _ hφ E F' ρ' _ w' (st'.putO hd hrel)
 ·simp only [Oper.wp, hr, Oper.upon_skip]
  exact h _ _ _ hφ E F' ρ' _ w' (st'.putO hd (by simp [Rel]))
theorem vops_step1 {o : Oper} {rest : List Oper} {v : V} {env' : Env} {H' : List Obj} (hs : OpStep p o env H fun a b c => a = v ∧ b = env' ∧ c = H') (hg : o.guard = none) (hd : dstOk p.n o.dst = true)
  (h : VOps p ops rest Q (putE o.dst v env') H') : VOps p ops (o :: rest) Q env H :=
 vops_step hs hg hd fun _ _ _ ⟨e1, e2, e3⟩ => by subst e1; subst e2; subst e3; exact h
theorem Env.wk_cons2 {k : Nat} {v : V} {r e' : Env} (h : Wk (get e' k) v) (hr : Env.wk r e') : Env.wk ((k, v) :: r) e' := fun t => by
 simp only [get]
 cases hb : (k == t) with
 | true => rw [← eq_of_beq hb]; exact h
 | false => exact hr t
def runeStr (n : Int) : List UInt8 := (Utf8.encode n).data.toList
theorem runeStr_len (n : Int) : (runeStr n).length ≤ 4 := by
 have h := encode_size_le n
 unfold runeStr; rw [Array.length_toList]; exact h
theorem step_runeStr {o : Oper} {s d : TypeId} {x : Operand} {k : IntKind} {n : Int} (ho : o.op = .convert s d x) (hs : (p.P.underlying s).isSome = true) (hd : p.P.underlying d = some .string) (hx : ev env x = .int k n) :
  OpStep p o env H fun v env' H' => v = .str (runeStr n) ∧ env' = env ∧ H' = H := by
 intro E F ρ a w st
 have hr := st.ev x
 rw [hx] at hr
 simp only [Rel] at hr
 refine ⟨_, w, F, ρ, _, _, _, ?_, ⟨rfl, rfl, rfl⟩, st, .inl ⟨.string (Utf8.encode n), rfl, ?_⟩⟩
 ·simp only [execOp, ho, hr, Sem.run_bind, map_eq_pure_bind, run_convert_int_string w s d k n hs hd, Result.andThen_ok, Sem.run_pure]
 ·simp only [Rel]
  have := runeStr_len n
  exact ⟨by simp [runeStr], by unfold maxB; omega⟩
theorem step_boxT {o : Oper} {t : TypeId} {x : Operand} {cs : List V} (ho : o.op = .box t x) (hx : cellsOf (ev env x) = some cs) :
  OpStep p o env H fun v env' H' => v = .ptr H.length 0 ∧ env' = env ∧ H' = H ++ [.box cs (some t)] := by
 intro E F ρ a w st
 obtain ⟨us, h1, h2, h3⟩ := cellsOf_rel hx (st.ev x)
 refine ⟨.value (.pointer (some ⟨w.heap.size, 0, none⟩)), w.alloc (.cells us.toArray t), F, ρ ++ [.pointer (some ⟨w.heap.size, 0, none⟩)], _, _, _, by simp [execOp, ho, Instr.box, newVar, newRow, h1], ⟨rfl, rfl, rfl⟩, ?_, .inl ⟨_, rfl, ?_⟩⟩
 ·exact st.newObj (below_alloc w _) (fun b hb => by simp only [blk, Option.some.injEq] at hb; omega) ⟨w.heap.size, us, t, rfl, alloc_at w _, RelL.later h2 st.sim.alloc (below_alloc w _) _, h3⟩
 ·simp only [Rel, ← st.sim.len]; exact ⟨_, 0, by simp, rfl⟩
theorem ba_size (s : List UInt8) : (⟨s.toArray⟩ : ByteArray).size = s.length := by simp [ByteArray.size]
theorem step_range {o : Oper} {t : TypeId} {x : Operand} {s : List UInt8} (ho : o.op = .range t x) (ht : p.P.underlying t = some .string) (hx : ev env x = .str s) :
  OpStep p o env H fun v env' H' => v = .obj H.length ∧ env' = env ∧ H' = H ++ [.strIter s 0] := by
 intro E F ρ a w st
 have hr := st.ev x
 rw [hx] at hr
 simp only [Rel] at hr
 refine ⟨_, w.alloc (.stringIter ⟨s.toArray⟩ 0), F, ρ ++ [.pointer (some ⟨w.heap.size, 0, none⟩)], _, _, _, ?_, ⟨rfl, rfl, rfl⟩, ?_, .inl ⟨.pointer (some ⟨w.heap.size, 0, none⟩), rfl, ?_⟩⟩
 ·simp [execOp, ho, Instr.range, run_underlying ht, hr.1]
 ·exact st.newObj (below_alloc w _) (fun b hb => by simp only [blk, Option.some.injEq] at hb; omega) ⟨_, rfl, alloc_at w _⟩
 ·simp only [Rel, ← st.sim.len]; simp
def runeAt (s : List UInt8) (q : Nat) : Nat × Nat := Utf8.decode ⟨s.toArray⟩ q
theorem step_next {o : Oper} {x : Operand} {i q : Nat} {s : List UInt8} (ho : o.op = .next x true) (hx : ev env x = .obj i) (hi : H[i]? = some (.strIter s q)) (hq : q < s.length) :
  OpStep p o env H fun v env' H' => v = .tuple [.bool true, .int .i64 q, .int .i32 (runeAt s q).1] ∧ env' = env ∧ H' = H.set i (.strIter s (q + (runeAt s q).2)) := by
 intro E F ρ a w st
 have hr := st.ev x
 rw [hx] at hr
 simp only [Rel] at hr
 obtain ⟨b, hb, hh⟩ := st.sim.obj i _ _ hi hr
 have hlt : b < w.heap.size := (Array.getElem?_eq_some_iff.1 hh).1
 refine ⟨_, { w with heap := w.heap.setIfInBounds b (.stringIter ⟨s.toArray⟩ (q + (runeAt s q).2)) }, F, ρ, _, _, _, ?_, ⟨rfl, rfl, rfl⟩, ?_, .inl ⟨.tuple #[.bool true, .int .i64 q, .int .i32 (runeAt s q).1], rfl, ?_⟩⟩
 ·simp [execOp, ho, Instr.next, hb, getObj, setObj, Sem.run, hh, ba_size, hq, runeAt, goInt]
 ·refine st.setObj hi rfl hr rfl rfl rfl (by simp) (fun b2 hb2 => ?_) ⟨b, hb, by simp [hlt]⟩
  have hne : b ≠ b2 := fun e => hb2 (by rw [hb, e]; rfl)
  simp [Array.getElem?_setIfInBounds, hne]
 ·simp only [Rel, RelL]
  exact ⟨_, rfl, _, _, rfl, rfl, _, _, rfl, rfl, _, _, rfl, rfl, rfl⟩
theorem step_nextEnd {o : Oper} {x : Operand} {i q : Nat} {s : List UInt8} (ho : o.op = .next x true) (hx : ev env x = .obj i) (hi : H[i]? = some (.strIter s q)) (hq : s.length ≤ q) :
  OpStep p o env H fun v env' H' => v = .tuple [.bool false] ∧ env' = env ∧ H' = H := by
 intro E F ρ a w st
 have hr := st.ev x
 rw [hx] at hr
 simp only [Rel] at hr
 obtain ⟨b, hb, hh⟩ := st.sim.obj i _ _ hi hr
 refine ⟨_, w, F, ρ, _, _, _, ?_, ⟨rfl, rfl, rfl⟩, st, .inl ⟨.tuple #[.bool false], rfl, ?_⟩⟩
 ·simp [execOp, ho, Instr.next, hb, getObj, Sem.run, hh, ba_size, Nat.not_lt.2 hq]
 ·simp only [Rel, RelL]
  exact ⟨_, rfl, _, _, rfl, rfl, rfl⟩
abbrev MapV := List (List UInt8 × V)
def mapGet : MapV → List UInt8 → Option V
 | [], _ => none
 | (k, v) :: r, x => if k = x then some v else mapGet r x
def mapSet : MapV → List UInt8 → V → MapV
 | [], x, v => [(x, v)]
 | (k, u) :: r, x, v => if k = x then (k, v) :: r else (k, u) :: mapSet r x v
def mapIdx : MapV → List UInt8 → Option Nat
 | [], _ => none
 | (k, _) :: r, x => if k = x then some 0 else (mapIdx r x).map (· + 1)
theorem step_makeMap {o : Oper} {t : TypeId} {r : Option Operand} (ho : o.op = .makeMap t none) : OpStep p o env H fun v env' H' => v = .map H.length ∧ env' = env ∧ H' = H ++ [.map []] := by
 intro E F ρ a w st
 refine ⟨_, w.alloc (.map #[] 0), F, ρ ++ [.map (some w.heap.size)], _, _, _, ?_, ⟨rfl, rfl, rfl⟩, ?_, .inl ⟨.map (some w.heap.size), rfl, ?_⟩⟩
 ·simp [execOp, ho, Instr.makeMap]
 ·exact st.newObj (below_alloc w _) (fun b hb => by simp only [blk, Option.some.injEq] at hb; omega) ⟨_, #[], 0, rfl, alloc_at w _, by simp [RelM], by simp, by simp⟩
 ·simp only [Rel, ← st.sim.len]; exact ⟨_, by simp, rfl⟩
theorem ba_beq (a b : List UInt8) : ((⟨a.toArray⟩ : ByteArray) == ⟨b.toArray⟩) = decide (a = b) := by
 have h : ((⟨a.toArray⟩ : ByteArray) == ⟨b.toArray⟩) = (a.toArray == b.toArray) := rfl
 rw [h, beq_dec]
 by_cases e : a = b
 ·subst e; simp
 ·have : a.toArray ≠ b.toArray := fun h => e (by simpa using congrArg Array.toList h)
  simp [e, this]
theorem runQ_getMap {P : Program} {w : World} {r : Nat} {es : Array MapEntry} {clock : Nat} (hb : w.heap[r]? = some (.map es clock)) : (getObj r).run P w = .ok (.map es clock) w := by
 simp [getObj, Sem.run, hb]
theorem runQ_setMap {P : Program} {w : World} {r : Nat} {es : Array MapEntry} {clock : Nat} (o : Go.Obj) (hb : w.heap[r]? = some (.map es clock)) : (setObj r o).run P w = .ok () { w with heap := w.heap.setIfInBounds r o } := by
 simp [setObj, Sem.run, hb]
theorem findNow_map {F : Nat → Prop} {w : World} (x : List UInt8) : ∀ {es : MapV} {ms : List MapEntry} (n : Nat), RelM F w es ms →
  (mapIdx es x = none → Instr.findNow .string (.string ⟨x.toArray⟩) ms n = some none) ∧
  (∀ j, mapIdx es x = some j → ∃ m, ms[j]? = some m ∧ m.key = .string ⟨x.toArray⟩ ∧ Instr.findNow .string (.string ⟨x.toArray⟩) ms n = some (some (n + j, m.val)))
 | [], ms, n, h => by
  simp only [RelM] at h; subst h
  exact ⟨fun _ => rfl, fun j hj => by simp [mapIdx] at hj⟩
 | (k, v) :: r, ms, n, h => by
  simp only [RelM] at h
  obtain ⟨e, t, rfl, h1, h2, h3⟩ := h
  obtain ⟨g1, g2⟩ := findNow_map x (n + 1) h3
  by_cases hk : k = x
  ·subst hk
   refine ⟨fun hn => by simp [mapIdx] at hn, fun j hj => ?_⟩
   simp only [mapIdx, if_true, Option.some.injEq] at hj
   subst hj
   exact ⟨e, rfl, h1, by simp [Instr.findNow, h1, Instr.sameNow, ba_beq]⟩
  ·have hne : ((⟨x.toArray⟩ : ByteArray) == ⟨k.toArray⟩) = false := by
    rw [ba_beq]; simpa using fun h => hk h.symm
   refine ⟨fun hn => ?_, fun j hj => ?_⟩
   ·simp only [mapIdx, if_neg hk, Option.map_eq_none_iff] at hn
    simp [Instr.findNow, h1, Instr.sameNow, hne, g1 hn]
   ·simp only [mapIdx, if_neg hk, Option.map_eq_some_iff] at hj
    obtain ⟨j', hj', rfl⟩ := hj
    obtain ⟨m, e1, e2, e3⟩ := g2 j' hj'
    exact ⟨m, by simpa using e1, e2, by simp [Instr.findNow, h1, Instr.sameNow, hne, e3]; omega⟩
theorem mapSet_none {x : List UInt8} {v : V} : ∀ {es : MapV}, mapIdx es x = none → mapSet es x v = es ++ [(x, v)]
 | [], _ => rfl
 | (k, u) :: r, h => by
  by_cases hk : k = x
  ·simp [mapIdx, hk] at h
  ·simp only [mapIdx, if_neg hk, Option.map_eq_none_iff] at h
   simp only [mapSet, if_neg hk, mapSet_none h, List.cons_append]
theorem RelM.push {F : Nat → Prop} {w : World} {m : MapEntry} {x : List UInt8} {v : V} (hk : m.key = .string ⟨x.toArray⟩) (hv : Rel F [] w v m.val) : ∀ {es : MapV} {ms : List MapEntry}, RelM F w es ms → RelM F w (es ++ [(x, v)]) (ms ++ [m])
 | [], ms, h => by simp only [RelM] at h; subst h; simp only [List.nil_append, RelM]; exact ⟨m, [], rfl, hk, hv, rfl⟩
 | (k, u) :: r, ms, h => by
  simp only [RelM] at h
  obtain ⟨e, t, rfl, h1, h2, h3⟩ := h
  simp only [List.cons_append, RelM]
  exact ⟨e, t ++ [m], rfl, h1, h2, h3.push hk hv⟩
theorem RelM.put {F : Nat → Prop} {w : World} {x : List UInt8} {v : V} {mv : Value} (hv : Rel F [] w v mv) : ∀ {es : MapV} {ms : List MapEntry} {j : Nat}, mapIdx es x = some j → RelM F w es ms →
  RelM F w (mapSet es x v) (ms.modify j fun e => { e with key := .string ⟨x.toArray⟩, val := mv })
 | [], ms, j, hj, h => by simp [mapIdx] at hj
 | (k, u) :: r, ms, j, hj, h => by
  simp only [RelM] at h
  obtain ⟨e, t, rfl, h1, h2, h3⟩ := h
  by_cases hk : k = x
  ·simp only [mapIdx, hk, if_true, Option.some.injEq] at hj
   subst hj
   simp only [mapSet, hk, if_true, RelM]
   exact ⟨_, t, rfl, rfl, hv, h3⟩
  ·simp only [mapIdx, if_neg hk, Option.map_eq_some_iff] at hj
   obtain ⟨j', hj', rfl⟩ := hj
   simp only [mapSet, if_neg hk, RelM]
   exact ⟨e, t.modify j' _, rfl, h1, h2, h3.put hv hj'⟩
def mapTyB (P : Program) (t k e : TypeId) : Bool :=
 (match P.underlying t with | some (.map k' e') => Nat.beq k' k && Nat.beq e' e | _ => false) && (match P.underlying k with | some .string => true | _ => false)
theorem mapTyB_ok {P : Program} {t k e : TypeId} (h : mapTyB P t k e = true) : P.underlying t = some (.map k e) ∧ P.underlying k = some .string := by
 simp only [mapTyB, Bool.and_eq_true] at h
 obtain ⟨h1, h2⟩ := h
 constructor
 ·split at h1
  ·rename_i k' e' he
   simp only [Bool.and_eq_true] at h1
   rw [he, Nat.eq_of_beq_eq_true h1.1, Nat.eq_of_beq_eq_true h1.2]
  ·simp at h1
 ·split at h2
  ·assumption
  ·simp at h2
theorem checkKey_str {P : Program} {w : World} {k : TypeId} (hk : P.underlying k = some .string) (s : ByteArray) (b : Bool) (n : Nat) : (Instr.checkKey b (n + 1) k (.string s)).run P w = .ok () w := by
 simp [Instr.checkKey, run_underlying hk]
theorem mapTable {ms : Array MapEntry} {j : Nat} {m : MapEntry} (h : ms.toList[j]? = some m) : ms[j]? = some m := by simpa using h
theorem step_mapUpdate {o : Oper} {t k e : TypeId} {m x y : Operand} {i : Nat} {s : List UInt8} {es : MapV} (ho : o.op = .mapUpdate t m x y) (ht : mapTyB p.P t k e = true) (hm : ev env m = .map i) (hi : H[i]? = some (.map es)) (hx : ev env x = .str s)
  (hcl : clean (ev env y) = true) : OpStep p o env H fun v env' H' => v = .undef ∧ env' = env ∧ H' = H.set i (.map (mapSet es s (ev env y))) := by
 obtain ⟨ht1, ht2⟩ := mapTyB_ok ht
 intro E F ρ a w st
 have hrm := st.ev m
 rw [hm] at hrm
 simp only [Rel] at hrm
 obtain ⟨r, hρ, hme⟩ := hrm
 obtain ⟨r', ms, clk, hh, hheap, hrel, hpw, hlt⟩ := st.sim.obj i _ _ hi hρ
 injection hh with hh; injection hh with hh; subst hh
 have hrx := st.ev x
 rw [hx] at hrx
 simp only [Rel] at hrx
 have hy : Rel F [] w (ev env y) (a.eval y) := clean_rel _ _ hcl (st.ev y)
 have hr : r < w.heap.size := (Array.getElem?_eq_some_iff.1 hheap).1
 obtain ⟨f1, f2⟩ := findNow_map s 0 hrel
 have fin : ∀ (ms' : Array MapEntry) (clk' : Nat), (execOp a.eval o).run p.P w = .ok .skip { w with heap := w.heap.setIfInBounds r (.map ms' clk') } → RelM F w (mapSet es s (ev env y)) ms'.toList →
   ms'.toList.Pairwise (fun a b => a.born < b.born) → (∀ m ∈ ms'.toList, m.born < clk') →
   ∃ nx w' F' ρ' v env' H', (execOp a.eval o).run p.P w = .ok nx w' ∧ (v = .undef ∧ env' = env ∧ H' = H.set i (.map (mapSet es s (ev env y)))) ∧ St p E F' ρ' env' H' a w' ∧ ((∃ mv, nx = .value mv ∧ Rel F' ρ' w' v mv) ∨ (nx = .skip ∧ v = .undef)) := by
  intro ms' clk' h1 h2 h3 h4
  refine ⟨_, _, F, ρ, _, _, _, h1, ⟨rfl, rfl, rfl⟩, ?_, .inr ⟨rfl, rfl⟩⟩
  have hother : ∀ b2, r ≠ b2 → (w.heap.setIfInBounds r (.map ms' clk'))[b2]? = w.heap[b2]? := fun b2 hne => by simp [Array.getElem?_setIfInBounds, hne]
  have hF : ∀ b, F b → (w.heap.setIfInBounds r (.map ms' clk'))[b]? = w.heap[b]? := fun b hb => hother b fun e => st.sim.apart i _ _ b hi rfl hρ (by rw [← e]; rfl) hb
  refine st.setObj hi rfl hρ rfl rfl rfl (by simp) (fun b2 hb2 => hother b2 fun e => hb2 (by rw [← e]; rfl)) ⟨r, ms', clk', rfl, by simp [hr], RelM.goes (ρ := []) (ρ' := []) ⟨fun _ h => h, hF, fun _ _ h => h⟩ _ _ h2, h3, h4⟩
 cases hidx : mapIdx es s with
 | none =>
  refine fin (ms.push { key := .string ⟨s.toArray⟩, val := a.eval y, born := clk }) (clk + 1) ?_ ?_ ?_ ?_
  ·have := f1 hidx
   simp only [execOp, ho, hme, hrx.1, Instr.mapUpdate, Sem.run_bind, run_underlying ht1, run_underlying ht2, Result.andThen_ok, runQ_getMap hheap, checkKey_str ht2, Instr.findKey, this, Sem.run_pure, runQ_setMap _ hheap]
  ·rw [mapSet_none hidx, Array.toList_push]
   exact hrel.push rfl hy
  ·rw [Array.toList_push, List.pairwise_append]
   exact ⟨hpw, by simp, fun a ha b hb => by simp at hb; subst hb; exact hlt a ha⟩
  ·intro m hm
   rw [Array.toList_push, List.mem_append] at hm
   rcases hm with hm | hm
   ·have := hlt m hm; omega
   ·simp at hm; subst hm; simp
 | some j =>
  obtain ⟨m0, e1, e2, e3⟩ := f2 j hidx
  refine fin (ms.modify j fun e => { e with key := .string ⟨s.toArray⟩, val := a.eval y }) clk ?_ ?_ ?_ ?_
  ·rw [Nat.zero_add] at e3
   have e4 : ms[j]? = some m0 := mapTable e1
   simp only [execOp, ho, hme, hrx.1, Instr.mapUpdate, Sem.run_bind, run_underlying ht1, run_underlying ht2, Result.andThen_ok, runQ_getMap hheap, checkKey_str ht2, Instr.findKey, e3, Sem.run_pure, e4, Option.map_some, Option.getD_some, e2, Instr.keyThatStays, Instr.sameBits, ba_beq, decide_true, if_true, runQ_setMap _ hheap]
  ·rw [Array.toList_modify]
   exact hrel.put hy hidx
  ·rw [Array.toList_modify]
   have hb : (ms.toList.modify j fun e => { e with key := .string ⟨s.toArray⟩, val := a.eval y }).map (·.born) = ms.toList.map (·.born) := by
    apply List.ext_getElem?
    intro q
    simp only [List.getElem?_map, List.getElem?_modify]
    split <;> cases ms.toList[q]? <;> rfl
   have h1 : (ms.toList.map (·.born)).Pairwise (· < ·) := List.pairwise_map.2 hpw
   rw [← hb] at h1
   exact List.pairwise_map.1 h1
  ·intro m hm
   rw [Array.toList_modify] at hm
   have hb : (ms.toList.modify j fun e => { e with key := .string ⟨s.toArray⟩, val := a.eval y }).map (·.born) = ms.toList.map (·.born) := by
    apply List.ext_getElem?
    intro q
    simp only [List.getElem?_map, List.getElem?_modify]
    split <;> cases ms.toList[q]? <;> rfl
   have h1 : m.born ∈ ms.toList.map (·.born) := by rw [← hb]; exact List.mem_map.2 ⟨m, hm, rfl⟩
   obtain ⟨m2, h2, h3⟩ := List.mem_map.1 h1
   rw [← h3]; exact hlt m2 h2
end
end Go.Q
end

section
/- Plain laws of a map of patches, and of the sorted list. -/
namespace Go.Proofs.YtnobnefabagbhaaGreatDoor.Q
open Go Go.Q
def setAll (es : MapV) (l : List Patch) : MapV := l.foldl (fun es p => mapSet es p.name (.agg (cPatch p))) es
def mapOf (l : List Patch) : MapV := setAll [] l
theorem setAll_take (es : MapV) (l : List Patch) (i : Nat) (h : i < l.length) : setAll es (l.take (i + 1)) = mapSet (setAll es (l.take i)) l[i].name (.agg (cPatch l[i])) := by
 rw [setAll, List.take_succ_eq_append_getElem h, List.foldl_append]; rfl
def ofB (l : List Patch) : Bool := l.all patchB && (decide ((mapOf l).length = l.length) && decide (l.length ≤ 256))
theorem mapSet_len (x : Str) (v : V) : ∀ (es : MapV), (mapSet es x v).length = if (mapIdx es x).isSome then es.length else es.length + 1
 | [] => rfl
 | (k, u) :: r => by
  have := mapSet_len x v r
  simp only [mapSet, mapIdx]
  by_cases h : k = x
  ·simp [h]
  ·simp only [h, if_false, List.length_cons, this, Option.isSome_map]
   split <;> rfl
theorem mapIdx_set (x y : Str) (v : V) : ∀ (es : MapV), (mapIdx (mapSet es x v) y).isSome = ((mapIdx es y).isSome || decide (x = y))
 | [] => by
  by_cases h : x = y <;> simp [mapSet, mapIdx, h]
 | (k, u) :: r => by
  have := mapIdx_set x y v r
  simp only [mapSet]
  by_cases h : k = x
  ·subst h
   rw [if_pos rfl]
   simp only [mapIdx]
   by_cases h2 : k = y <;> simp [h2]
  ·rw [if_neg h]
   simp only [mapIdx]
   by_cases h2 : k = y
   ·simp [h2]
   ·simp [h2, this]
theorem setAll_len : ∀ (l : List Patch) (es : MapV), (setAll es l).length ≤ es.length + l.length
 | [], es => by simp [setAll]
 | p :: r, es => by
  have h1 := setAll_len r (mapSet es p.name (.agg (cPatch p)))
  have h2 := mapSet_len p.name (.agg (cPatch p)) es
  have h3 : setAll es (p :: r) = setAll (mapSet es p.name (.agg (cPatch p))) r := rfl
  rw [h3, List.length_cons]
  split at h2 <;> omega
theorem hasN_ins (x : Patch) (n : Str) : ∀ (l : List Patch), hasN (insP x l) n = (hasN l n || decide (x.name = n))
 | [] => by simp [insP, hasN]
 | y :: r => by
  have := hasN_ins x n r
  unfold hasN at this ⊢
  simp only [insP]
  split
  ·simp only [List.any_cons]
   cases decide (x.name = n) <;> cases decide (y.name = n) <;> simp
  ·simp only [List.any_cons, this, Bool.or_assoc]
theorem sortGo_isSome : ∀ (l acc : List Patch) (es : MapV), (∀ n, hasN acc n = (mapIdx es n).isSome) → (sortGo acc l).isSome = (l.all patchB && decide ((setAll es l).length = es.length + l.length))
 | [], acc, es, _ => by simp [sortGo, setAll]
 | x :: r, acc, es, h => by
  have h3 : setAll es (x :: r) = setAll (mapSet es x.name (.agg (cPatch x))) r := rfl
  have h2 := mapSet_len x.name (.agg (cPatch x)) es
  have hle := setAll_len r (mapSet es x.name (.agg (cPatch x)))
  rw [sortGo, h x.name, h3, List.all_cons, List.length_cons]
  cases hp : patchB x with
  | false => simp
  | true =>
   cases hi : (mapIdx es x.name).isSome with
   | true =>
    rw [hi, if_pos rfl] at h2
    simp
    intro _
    omega
   | false =>
    rw [hi] at h2
    simp only [Bool.not_false, Bool.and_self, if_true, Bool.true_and]
    rw [sortGo_isSome r (insP x acc) (mapSet es x.name (.agg (cPatch x))) fun n => by rw [hasN_ins, mapIdx_set, h n], h2]
    simp only [Bool.false_eq_true, if_false]
    rw [show es.length + 1 + r.length = es.length + (r.length + 1) from by omega]
theorem sortedP_isSome (l : List Patch) : (sortedP l).isSome = ofB l := by
 unfold sortedP ofB
 by_cases h : 256 < l.length
 ·rw [if_pos h]; simp; intro _ _; omega
 ·rw [if_neg h, sortGo_isSome l [] [] fun n => rfl]
  have : decide (l.length ≤ 256) = true := by simpa using Nat.not_lt.1 h
  rw [this, Bool.and_true]; simp [mapOf]; rfl
end Go.Proofs.YtnobnefabagbhaaGreatDoor.Q
end

section
/- Plain laws of the package 'codec': its own reading, which bears more than the document's. -/
namespace Go.Proofs.YtnobnefabagbhaaGreatDoor.Q
open Go Go.Q
def cLn (r : Rd) : List V := [.list 1 (r.b.map encB)]
attribute [go_sem] cLn
end Go.Proofs.YtnobnefabagbhaaGreatDoor.Q
end

section
/- Plain laws of sorting: one sorted list. -/
namespace Go.Proofs.YtnobnefabagbhaaGreatDoor.Q
open Go Go.Q
def upP (l : List Patch) : Prop := l.Pairwise fun a b => strGt a.name b.name = false
theorem ofB_len {l : List Patch} (h : ofB l = true) : l.length ≤ 256 := by
 simp only [ofB, Bool.and_eq_true, decide_eq_true_eq] at h; exact h.2.2
theorem insP_perm (x : Patch) : ∀ (l : List Patch), (insP x l).Perm (x :: l)
 | [] => .refl _
 | y :: r => by
  simp only [insP]; split
  ·exact .refl _
  ·exact ((insP_perm x r).cons y).trans (.swap x y r)
theorem sortGo_perm : ∀ {l acc s : List Patch}, sortGo acc l = some s → s.Perm (acc ++ l)
 | [], acc, s, h => by simp only [sortGo, Option.some.injEq] at h; subst h; simp
 | x :: r, acc, s, h => by
  rw [sortGo] at h
  split at h
  ·have h1 := sortGo_perm h
   exact h1.trans (((insP_perm x acc).append_right r).trans (by
    have : (x :: acc ++ r).Perm (acc ++ x :: r) := List.perm_middle.symm
    exact this))
  ·exact absurd h (by simp)
theorem strGt_false (a b : Str) : strGt a b = false ↔ a < b ∨ a = b := by
 unfold strGt
 rw [bytesLess_eq, Bool.not_eq_false', Bool.or_eq_true, decide_eq_true_eq, decide_eq_true_eq]
theorem str_tri (a b : Str) : a < b ∨ a = b ∨ b < a := by
 rcases Decidable.em (a < b) with h | h
 ·exact .inl h
 ·rcases Decidable.em (b < a) with h2 | h2
  ·exact .inr (.inr h2)
  ·exact .inr (.inl (List.le_antisymm (List.not_lt.1 h2) (List.not_lt.1 h)))
theorem strGt_true (a b : Str) : strGt a b = true ↔ b < a := by
 rw [← Bool.not_eq_false, strGt_false]
 constructor
 ·intro h
  rcases str_tri a b with h1 | h1 | h1
  ·exact absurd (.inl h1) h
  ·exact absurd (.inr h1) h
  ·exact h1
 ·rintro h (h1 | rfl)
  ·exact absurd (List.lt_trans h h1) (List.lt_irrefl _)
  ·exact absurd h (List.lt_irrefl _)
theorem strGt_antisymm {a b : Str} (h1 : strGt a b = false) (h2 : strGt b a = false) : a = b := by
 rw [strGt_false] at h1 h2
 rcases h1 with h1 | h1
 ·rcases h2 with h2 | h2
  ·exact absurd (List.lt_trans h1 h2) (List.lt_irrefl _)
  ·exact h2.symm
 ·exact h1
theorem insP_up (x : Patch) : ∀ {l : List Patch}, upP l → upP (insP x l)
 | [], _ => by simp [insP, upP]
 | y :: r, h => by
  have h' := List.pairwise_cons.1 h
  simp only [insP]
  split
  ·rename_i hy
   rw [strGt_true] at hy
   refine List.pairwise_cons.2 ⟨fun z hz => ?_, h⟩
   rw [strGt_false]
   rcases List.mem_cons.1 hz with rfl | hz
   ·exact .inl hy
   ·have := h'.1 z hz
    rw [strGt_false] at this
    rcases this with h3 | h3
    ·exact .inl (List.lt_trans hy h3)
    ·rw [← h3]; exact .inl hy
  ·rename_i hy
   refine List.pairwise_cons.2 ⟨fun z hz => ?_, insP_up x h'.2⟩
   rcases List.mem_cons.1 ((insP_perm x r).mem_iff.1 hz) with rfl | hz
   ·simpa using hy
   ·exact h'.1 z hz
theorem sortGo_up : ∀ {l acc s : List Patch}, sortGo acc l = some s → upP acc → upP s
 | [], acc, s, h, hu => by simp only [sortGo, Option.some.injEq] at h; subst h; exact hu
 | x :: r, acc, s, h, hu => by
  rw [sortGo] at h
  split at h
  ·exact sortGo_up h (insP_up x hu)
  ·exact absurd h (by simp)
def apartP (l : List Patch) : Prop := l.Pairwise fun a b => a.name ≠ b.name
theorem apartP_perm {l l' : List Patch} (h : l.Perm l') : apartP l ↔ apartP l' := h.pairwise_iff fun {a b} h e => h e.symm
theorem sortGo_apart : ∀ {l acc s : List Patch}, sortGo acc l = some s → apartP acc → apartP (acc ++ l)
 | [], acc, s, h, hu => by simpa using hu
 | x :: r, acc, s, h, hu => by
  rw [sortGo] at h
  split at h
  ·rename_i hc
   simp only [Bool.and_eq_true, Bool.not_eq_true'] at hc
   have h1 : apartP (x :: acc) := List.pairwise_cons.2 ⟨fun z hz e => by
    have := hc.2
    simp only [hasN, List.any_eq_false] at this
    exact this z hz (by simpa using e.symm), hu⟩
   have h2 := sortGo_apart h ((apartP_perm (insP_perm x acc)).2 h1)
   exact (apartP_perm (((insP_perm x acc).append_right r).trans List.perm_middle.symm)).1 h2
  ·exact absurd h (by simp)
theorem apartP_eq {l : List Patch} (h : apartP l) {a b : Patch} (ha : a ∈ l) (hb : b ∈ l) (e : a.name = b.name) : a = b := by
 induction l with
 | nil => simp at ha
 | cons x r ih =>
  have h' := List.pairwise_cons.1 h
  rcases List.mem_cons.1 ha with ha | ha <;> rcases List.mem_cons.1 hb with hb | hb
  ·rw [ha, hb]
  ·rw [ha] at e; exact absurd e (h'.1 b hb)
  ·rw [hb] at e; exact absurd e.symm (h'.1 a ha)
  ·exact ih h'.2 ha hb
theorem up_uniq {l l' s : List Patch} (ha : apartP l) (h1 : l'.Perm l) (h2 : s.Perm l) (u1 : upP l') (u2 : upP s) : l' = s :=
 List.Perm.eq_of_pairwise (fun a b ha' hb' e1 e2 => apartP_eq ha (h1.mem_iff.1 ha') (h2.mem_iff.1 hb') (strGt_antisymm e1 e2)) u1 u2 (h1.trans h2.symm)
theorem sortedP_facts {l s : List Patch} (h : sortedP l = some s) : s.Perm l ∧ upP s ∧ apartP l ∧ l.length ≤ 256 := by
 unfold sortedP at h
 split at h
 ·exact absurd h (by simp)
 ·have h1 := sortGo_perm h
  have h2 := sortGo_apart h (by simp [apartP])
  exact ⟨by simpa using h1, sortGo_up h (by simp [upP]), by simpa using h2, by omega⟩
theorem sortP_uniq {l l' : List Patch} (h : ofB l = true) (hp : l'.Perm l) (hu : upP l') : sortP l = (l', 0) := by
 rw [← sortedP_isSome] at h
 obtain ⟨s, hs⟩ := Option.isSome_iff_exists.1 h
 obtain ⟨f1, f2, f3, _⟩ := sortedP_facts hs
 rw [sortP, hs, up_uniq f3 hp f1 hu f2]
theorem sortP_no {l : List Patch} (h : ofB l = false) : sortP l = ([], 1) := by
 rw [← sortedP_isSome] at h
 rw [sortP, Option.isSome_eq_false_iff.1 h |> Option.isNone_iff_eq_none.1]
def errC (x : Msg) : Bool := bif bif !decide (x.kind = 3) then decide (x.err = 0) else false then true else (bif bif decide (x.kind = 3) then decide (0 < x.err) else false then decide (x.err ≤ 1000) else false)
def rightC (m : Msg) : Bool := !rmA m && (!rmB m && errC m)
theorem rightM_C (m : Msg) : rightM m = (rightC m && decide ((sortP m.patches).2 = 0)) := by
 have h : rmC m = (errC m && decide ((sortP m.patches).2 = 0)) := by
  unfold rmC errC
  by_cases h1 : (sortP m.patches).2 = 0
  ·by_cases h2 : m.kind = 3
   ·have e : decide (1 ≤ m.err) = decide (0 < m.err) := decide_eq_decide.2 (by omega)
    simp only [h1, h2, decide_true, cond_true, cond_false, Bool.not_true, Bool.and_true, e]
    cases decide (0 < m.err) <;> cases decide (m.err ≤ 1000) <;> rfl
   ·simp only [h1, h2, decide_true, decide_false, cond_true, cond_false, Bool.not_false, Bool.and_true]
    cases decide (m.err = 0) <;> rfl
  ·simp [h1]
 unfold rightM rightC
 rw [h]
 cases rmA m <;> cases rmB m <;> rfl
end Go.Proofs.YtnobnefabagbhaaGreatDoor.Q
end

section
/- Which names one comes to: depth first, with counts; what that is. -/
namespace Go.Q
open Go
abbrev Grf := Str → Option (List Str)
inductive Reach (g : Grf) (l : List Str) : Str → Prop
 | base {n : Str} : n ∈ l → Reach g l n
 | step {m n : Str} {d : List Str} : Reach g l m → g m = some d → n ∈ d → Reach g l n
theorem Reach.mono {g : Grf} {l l' : List Str} {n : Str} (h : Reach g l n) (hl : ∀ x ∈ l, Reach g l' x) : Reach g l' n := by
 induction h with
 | base h => exact hl _ h
 | step _ hg hn ih => exact .step ih hg hn
abbrev Cnts := List (Str × Nat)
def bump : Cnts → Str → Cnts
 | [], n => [(n, 1)]
 | (k, c) :: r, n => if k = n then (k, c + 1) :: r else (k, c) :: bump r n
def cnt : Cnts → Str → Nat
 | [], _ => 0
 | (k, c) :: r, n => if k = n then c else cnt r n
theorem cnt_bump : ∀ (t : Cnts) (n m : Str), cnt (bump t n) m = if n = m then cnt t n + 1 else cnt t m
 | [], n, m => by by_cases h : n = m <;> simp [bump, cnt, h]
 | (k, c) :: r, n, m => by
  by_cases hk : k = n
  ·subst hk
   by_cases h : k = m <;> simp [bump, cnt, h]
  ·have ih := cnt_bump r n m
   simp only [bump, if_neg hk, cnt, ih]
   by_cases h : n = m
   ·subst h; simp [hk]
   ·simp [h]
def visit1 (g : Grf) (rec_ : List Str → Cnts × Bool → Cnts × Bool) (n : Str) (s : Cnts × Bool) : Cnts × Bool :=
 match g n with
 | some d => if cnt (bump s.1 n) n = 1 then rec_ d (bump s.1 n, s.2) else (bump s.1 n, s.2)
 | none => (bump s.1 n, false)
def visitN (g : Grf) : Nat → List Str → Cnts × Bool → Cnts × Bool
 | 0, _, s => s
 | f + 1, l, s => l.foldl (fun s n => visit1 g (visitN g f) n s) s
structure VSpec (g : Grf) (l : List Str) (s s' : Cnts × Bool) : Prop where
 mono : ∀ n, 0 < cnt s.1 n → 0 < cnt s'.1 n
 all : ∀ n ∈ l, 0 < cnt s'.1 n
 reach : ∀ n, 0 < cnt s'.1 n → 0 < cnt s.1 n ∨ Reach g l n
 closed : ∀ n d, 0 < cnt s'.1 n → cnt s.1 n = 0 → g n = some d → ∀ m ∈ d, 0 < cnt s'.1 m
 fine : (s.2 = true → ∀ n, 0 < cnt s.1 n → (g n).isSome = true) → (s'.2 = true ↔ s.2 = true ∧ ∀ n, 0 < cnt s'.1 n → (g n).isSome = true)
theorem VSpec.nil {g : Grf} {s : Cnts × Bool} : VSpec g [] s s :=
 ⟨fun _ h => h, by simp, fun _ h => .inl h, fun _ _ h h0 => by omega, fun hi => ⟨fun h => ⟨h, hi h⟩, fun h => h.1⟩⟩
theorem VSpec.append {g : Grf} {l l' : List Str} {s s1 s2 : Cnts × Bool} (h : VSpec g l s s1) (k : VSpec g l' s1 s2) : VSpec g (l ++ l') s s2 := by
 refine ⟨fun n hn => k.mono n (h.mono n hn), fun n hn => ?_, fun n hn => ?_, fun n d hn h0 hg m hm => ?_, fun hi => ?_⟩
 ·rcases List.mem_append.1 hn with hn | hn
  ·exact k.mono n (h.all n hn)
  ·exact k.all n hn
 ·rcases k.reach n hn with h1 | h1
  ·rcases h.reach n h1 with h2 | h2
   ·exact .inl h2
   ·exact .inr (h2.mono fun x hx => .base (List.mem_append_left _ hx))
  ·exact .inr (h1.mono fun x hx => .base (List.mem_append_right _ hx))
 ·by_cases h1 : 0 < cnt s1.1 n
  ·exact k.mono m (h.closed n d h1 h0 hg m hm)
  ·exact k.closed n d hn (by omega) hg m hm
 ·have h1 := h.fine hi
  have h2 := k.fine fun h3 => (h1.1 h3).2
  rw [h2, h1]
  exact ⟨fun ⟨⟨a, _⟩, c⟩ => ⟨a, c⟩, fun ⟨a, c⟩ => ⟨⟨a, fun n hn => c n (k.mono n hn)⟩, c⟩⟩
def room (K : List Str) (t : Cnts) : Nat := (K.filter fun n => decide (cnt t n = 0)).length
theorem room_mono {K : List Str} {t t' : Cnts} (h : ∀ n, 0 < cnt t n → 0 < cnt t' n) : room K t' ≤ room K t := by
 unfold room
 induction K with
 | nil => simp
 | cons k K ih =>
  simp only [List.filter_cons]
  by_cases h1 : cnt t' k = 0
  ·have h2 : cnt t k = 0 := by
    rcases Nat.eq_zero_or_pos (cnt t k) with h3 | h3
    ·exact h3
    ·have := h k h3; omega
   simp only [h1, h2, decide_true, if_true, List.length_cons]; omega
  ·by_cases h2 : cnt t k = 0
   ·simp only [h1, h2, decide_true, decide_false, if_true, List.length_cons]
    simp; omega
   ·simp [h1, h2]; exact ih
theorem room_lt {K : List Str} {t t' : Cnts} {n : Str} (hn : n ∈ K) (h0 : cnt t n = 0) (h1 : 0 < cnt t' n) (h : ∀ m, 0 < cnt t m → 0 < cnt t' m) : room K t' < room K t := by
 unfold room
 induction K with
 | nil => simp at hn
 | cons k K ih =>
  have hm : ∀ K : List Str, (K.filter fun n => decide (cnt t' n = 0)).length ≤ (K.filter fun n => decide (cnt t n = 0)).length := fun K => room_mono (K := K) h
  simp only [List.filter_cons]
  by_cases hk : k = n
  ·subst hk
   have h2 : cnt t' k ≠ 0 := by omega
   have := hm K
   simp [h0, h2]; omega
  ·have hn' : n ∈ K := by
    rcases List.mem_cons.1 hn with h | h
    ·exact absurd h.symm hk
    ·exact h
   have ih := ih hn'
   by_cases h1 : cnt t' k = 0
   ·have h2 : cnt t k = 0 := by
     rcases Nat.eq_zero_or_pos (cnt t k) with h3 | h3
     ·exact h3
     ·have := h k h3; omega
    simp [h1, h2]; exact ih
   ·by_cases h2 : cnt t k = 0
    ·simp [h1, h2]; omega
    ·simp [h1, h2]; exact ih
theorem bump_mono (t : Cnts) (n : Str) : ∀ m, 0 < cnt t m → 0 < cnt (bump t n) m := by
 intro m hm
 rw [cnt_bump]
 split <;> omega
theorem visit1_spec {g : Grf} {K : List Str} (hK : ∀ n, (g n).isSome = true ↔ n ∈ K) {rec_ : List Str → Cnts × Bool → Cnts × Bool} {n : Str} {s : Cnts × Bool}
  (hrec : ∀ d, g n = some d → cnt s.1 n = 0 → VSpec g d (bump s.1 n, s.2) (rec_ d (bump s.1 n, s.2))) : VSpec g [n] s (visit1 g rec_ n s) := by
 have hc := cnt_bump s.1 n
 have hmo := bump_mono s.1 n
 have hn : 0 < cnt (bump s.1 n) n := by rw [hc]; simp
 have hnew : ∀ m, 0 < cnt (bump s.1 n) m → m = n ∨ 0 < cnt s.1 m := by
  intro m hm
  rw [hc] at hm
  by_cases h : n = m
  ·exact .inl h.symm
  ·rw [if_neg h] at hm; exact .inr hm
 unfold visit1
 cases hg : g n with
 | none =>
  refine ⟨hmo, by simpa using hn, fun m hm => ?_, fun m d hm h0 hd => ?_, fun hi => ?_⟩
  ·rcases hnew m hm with rfl | h
   ·exact .inr (.base (by simp))
   ·exact .inl h
  ·rcases hnew m hm with rfl | h
   ·rw [hg] at hd; cases hd
   ·omega
  ·constructor
   ·intro h; cases h
   ·intro ⟨_, h⟩
    have := h n hn
    rw [hg] at this; cases this
 | some d =>
  simp only
  by_cases h1 : cnt (bump s.1 n) n = 1
  ·rw [if_pos h1]
   have h0 : cnt s.1 n = 0 := by rw [hc] at h1; simp at h1; exact h1
   have hr := hrec d hg h0
   generalize rec_ d (bump s.1 n, s.2) = s' at hr
   refine ⟨fun m hm => hr.mono m (hmo m hm), fun m hm => ?_, fun m hm => ?_, fun m e hm hm0 he x hx => ?_, fun hi => ?_⟩
   ·have : m = n := by simpa using hm
    subst this
    exact hr.mono m hn
   ·rcases hr.reach m hm with h | h
    ·rcases hnew m h with rfl | h
     ·exact .inr (.base (by simp))
     ·exact .inl h
    ·exact .inr (h.mono fun x hx => .step (.base (by simp)) hg hx)
   ·by_cases hmn : m = n
    ·subst hmn
     rw [hg] at he; cases he
     exact hr.all x hx
    ·refine hr.closed m e hm ?_ he x hx
     show cnt (bump s.1 n) m = 0
     rw [hc, if_neg fun h => hmn h.symm]; exact hm0
   ·refine hr.fine fun h2 m hm => ?_
    rcases hnew m hm with rfl | h
    ·rw [hg]; rfl
    ·exact hi h2 m h
  ·rw [if_neg h1]
   have h0 : 0 < cnt s.1 n := by rw [hc] at h1; simp at h1; omega
   refine ⟨hmo, by simpa using hn, fun m hm => ?_, fun m e hm hm0 => ?_, fun hi => ?_⟩
   ·rcases hnew m hm with rfl | h
    ·exact .inl h0
    ·exact .inl h
   ·rcases hnew m hm with rfl | h <;> omega
   ·refine ⟨fun h => ⟨h, fun m hm => ?_⟩, fun h => h.1⟩
    rcases hnew m hm with rfl | h2
    ·rw [hg]; rfl
    ·exact hi h m h2
theorem visitN_spec {g : Grf} {K : List Str} (hK : ∀ n, (g n).isSome = true ↔ n ∈ K) : ∀ (f : Nat) (l : List Str) (s : Cnts × Bool), room K s.1 ≤ f → VSpec g l s (visitN g (f + 1) l s)
 | f, [], s, _ => VSpec.nil
 | f, n :: l, s, hf => by
  have h1 : VSpec g [n] s (visit1 g (visitN g f) n s) := by
   refine visit1_spec hK fun d hd h0 => ?_
   have hlt : room K (bump s.1 n) < room K s.1 := room_lt ((hK n).1 (by rw [hd]; rfl)) h0 (by rw [cnt_bump]; simp) (bump_mono s.1 n)
   match f, hf with
   | 0, hf => omega
   | f + 1, hf => exact visitN_spec hK f d _ (by show room K (bump s.1 n) ≤ f; omega)
  have h2 := visitN_spec hK f l (visit1 g (visitN g f) n s) (Nat.le_trans (room_mono h1.mono) hf)
  exact h1.append h2
termination_by f l _ => (f, l.length)
theorem visitN_reach {g : Grf} {K : List Str} (hK : ∀ n, (g n).isSome = true ↔ n ∈ K) (l : List Str) (f : Nat) (hf : K.length ≤ f) (n : Str) : 0 < cnt (visitN g (f + 1) l ([], true)).1 n ↔ Reach g l n := by
 have hs := visitN_spec hK f l ([], true) (Nat.le_trans (List.length_filter_le _ _) hf)
 constructor
 ·intro h
  rcases hs.reach n h with h | h
  ·simp [cnt] at h
  ·exact h
 ·intro h
  induction h with
  | base h => exact hs.all _ h
  | step _ hg hn ih => exact hs.closed _ _ ih rfl hg _ hn
theorem visitN_fine {g : Grf} {K : List Str} (hK : ∀ n, (g n).isSome = true ↔ n ∈ K) (l : List Str) (f : Nat) (hf : K.length ≤ f) : (visitN g (f + 1) l ([], true)).2 = true ↔ ∀ n, Reach g l n → (g n).isSome = true := by
 have hs := visitN_spec hK f l ([], true) (Nat.le_trans (List.length_filter_le _ _) hf)
 rw [hs.fine (fun _ n h => by simp [cnt] at h)]
 simp only [true_and]
 exact ⟨fun h n hn => h n ((visitN_reach hK l f hf n).2 hn), fun h n hn => h n ((visitN_reach hK l f hf n).1 hn)⟩
def keysOf (t : Cnts) : List Str := t.map (·.1)
theorem keys_bump (t : Cnts) (n : Str) : keysOf (bump t n) = if n ∈ keysOf t then keysOf t else keysOf t ++ [n] := by
 induction t with
 | nil => simp [bump, keysOf]
 | cons x t ih =>
  obtain ⟨k, c⟩ := x
  by_cases hk : k = n
  ·subst hk; simp [bump, keysOf]
  ·have hk' : n ≠ k := fun h => hk h.symm
   simp only [bump, if_neg hk, keysOf, List.map_cons, List.mem_cons, hk', false_or] at ih ⊢
   rw [ih]
   split
   ·rename_i h; simp [h]
   ·rename_i h; simp [h]
def Sound (t : Cnts) : Prop := (keysOf t).Nodup ∧ ∀ x ∈ t, 0 < x.2
theorem Sound.bump {t : Cnts} (h : Sound t) (n : Str) : Sound (bump t n) := by
 refine ⟨?_, ?_⟩
 ·rw [keys_bump]
  split
  ·exact h.1
  ·rename_i hn
   rw [List.nodup_append]
   exact ⟨h.1, by simp, fun a ha b hb => by simp at hb; subst hb; exact fun e => hn (e ▸ ha)⟩
 ·have h2 := h.2
  clear h
  induction t with
  | nil => intro x hx; simp [Q.bump] at hx; subst hx; simp
  | cons y t ih =>
   obtain ⟨k, c⟩ := y
   intro x hx
   simp only [Q.bump] at hx
   split at hx
   ·rcases List.mem_cons.1 hx with rfl | hx
    ·simp
    ·exact h2 x (List.mem_cons_of_mem _ hx)
   ·rcases List.mem_cons.1 hx with rfl | hx
    ·exact h2 _ (by simp)
    ·exact ih (fun y hy => h2 y (List.mem_cons_of_mem _ hy)) x hx
theorem Sound.mem {t : Cnts} (h : Sound t) (n : Str) : n ∈ keysOf t ↔ 0 < cnt t n := by
 have h2 := h.2
 clear h
 induction t with
 | nil => simp [keysOf, cnt]
 | cons x t ih =>
  obtain ⟨k, c⟩ := x
  have ih := ih fun y hy => h2 y (List.mem_cons_of_mem _ hy)
  simp only [keysOf, List.map_cons, List.mem_cons, cnt] at ih ⊢
  by_cases hk : k = n
  ·subst hk; simp; exact h2 (k, c) (by simp)
  ·rw [if_neg hk]
   exact ⟨fun h => ih.1 (h.resolve_left fun e => hk e.symm), fun h => .inr (ih.2 h)⟩
theorem visitN_sound {g : Grf} : ∀ (f : Nat) (l : List Str) (s : Cnts × Bool), Sound s.1 → Sound (visitN g f l s).1
 | 0, _, s, h => h
 | f + 1, [], s, h => h
 | f + 1, n :: l, s, h => by
  have h1 : Sound (visit1 g (visitN g f) n s).1 := by
   unfold visit1
   split
   ·split
    ·exact visitN_sound f _ _ (h.bump n)
    ·exact h.bump n
   ·exact h.bump n
  exact visitN_sound (f + 1) l _ h1
termination_by f l _ => (f, l.length)
end Go.Q
end

section
/- Which names one comes to: by a queue (the document's way). -/
namespace Go.Q
open Go
def queue (g : Grf) : Nat → List Str → List Str → Option (List Str)
 | 0, _, out => some out
 | _ + 1, [], out => some out
 | f + 1, n :: todo, out => if n ∈ out then queue g f todo out else match g n with
  | none => none
  | some d => queue g f (todo ++ d) (out ++ [n])
def wait (K : List (Str × List Str)) (out : List Str) : Nat := ((K.filter fun x => decide (x.1 ∉ out)).map fun x => x.2.length).sum
def load (K : List (Str × List Str)) (todo out : List Str) : Nat := todo.length + wait K out
theorem wait_out {K : List (Str × List Str)} (hn : (K.map (·.1)).Nodup) {n : Str} {d : List Str} (h : (n, d) ∈ K) {out : List Str} (ho : n ∉ out) : wait K out = wait K (out ++ [n]) + d.length := by
 unfold wait
 induction K with
 | nil => simp at h
 | cons x K ih =>
  obtain ⟨k, e⟩ := x
  simp only [List.map_cons, List.nodup_cons] at hn
  rcases List.mem_cons.1 h with h | h
  ·cases h
   have hno : ∀ y ∈ K, decide (y.1 ∉ out) = decide (y.1 ∉ out ++ [n]) := by
    intro y hy
    have : y.1 ≠ n := fun e => hn.1 (e ▸ List.mem_map.2 ⟨y, hy, rfl⟩)
    simp [this]
   have hf : K.filter (fun x => decide (x.1 ∉ out)) = K.filter (fun x => decide (x.1 ∉ out ++ [n])) := List.filter_congr hno
   rw [List.filter_cons, List.filter_cons]
   rw [if_pos (by simpa using ho), if_neg (by simp), hf, List.map_cons, List.sum_cons, Nat.add_comm]
  ·have ih := ih hn.2 h
   have hkn : k ≠ n := fun e => hn.1 (List.mem_map.2 ⟨(n, d), h, e.symm⟩)
   rw [List.filter_cons, List.filter_cons]
   by_cases hk : k ∈ out
   ·rw [if_neg (by simpa using hk), if_neg (by simp [hk])]; exact ih
   ·rw [if_pos (by simpa using hk), if_pos (by simp [hk, hkn]), List.map_cons, List.sum_cons, List.map_cons, List.sum_cons, ih]; omega
structure QInv (g : Grf) (l todo out : List Str) : Prop where
 reach : ∀ n, n ∈ out ∨ n ∈ todo → Reach g l n
 from_ : ∀ n ∈ l, n ∈ out ∨ n ∈ todo
 closed : ∀ n ∈ out, ∃ d, g n = some d ∧ ∀ m ∈ d, m ∈ out ∨ m ∈ todo
 nodup : out.Nodup
theorem QInv.start (g : Grf) (l : List Str) : QInv g l l [] := ⟨fun n h => by simpa using .base (h.resolve_left (by simp)), fun n h => .inr h, by simp, by simp⟩
theorem QInv.old {g : Grf} {l todo out : List Str} {n : Str} (h : QInv g l (n :: todo) out) (hn : n ∈ out) : QInv g l todo out := by
 have hm : ∀ m, m ∈ out ∨ m ∈ n :: todo → m ∈ out ∨ m ∈ todo := by
  rintro m (hm | hm)
  ·exact .inl hm
  ·rcases List.mem_cons.1 hm with rfl | hm
   ·exact .inl hn
   ·exact .inr hm
 refine ⟨fun m hm => h.reach m (hm.imp id (List.mem_cons_of_mem _)), fun m hl => hm m (h.from_ m hl), fun m hm2 => ?_, h.nodup⟩
 obtain ⟨d, h1, h2⟩ := h.closed m hm2
 exact ⟨d, h1, fun x hx => hm x (h2 x hx)⟩
theorem QInv.new {g : Grf} {l todo out : List Str} {n : Str} {d : List Str} (h : QInv g l (n :: todo) out) (hn : n ∉ out) (hg : g n = some d) : QInv g l (todo ++ d) (out ++ [n]) := by
 have hr : Reach g l n := h.reach n (.inr (by simp))
 have hm : ∀ m, m ∈ out ∨ m ∈ n :: todo → m ∈ out ++ [n] ∨ m ∈ todo ++ d := by
  rintro m (hm | hm)
  ·exact .inl (by simp [hm])
  ·rcases List.mem_cons.1 hm with rfl | hm
   ·exact .inl (by simp)
   ·exact .inr (by simp [hm])
 refine ⟨fun m hm2 => ?_, fun m hl => hm m (h.from_ m hl), fun m hm2 => ?_, ?_⟩
 ·rcases hm2 with hm2 | hm2
  ·rcases List.mem_append.1 hm2 with hm2 | hm2
   ·exact h.reach m (.inl hm2)
   ·have : m = n := by simpa using hm2
    subst this; exact hr
  ·rcases List.mem_append.1 hm2 with hm2 | hm2
   ·exact h.reach m (.inr (by simp [hm2]))
   ·exact .step hr hg hm2
 ·rcases List.mem_append.1 hm2 with hm2 | hm2
  ·obtain ⟨e, h1, h2⟩ := h.closed m hm2
   exact ⟨e, h1, fun x hx => hm x (h2 x hx)⟩
  ·have : m = n := by simpa using hm2
   subst this
   exact ⟨d, hg, fun x hx => .inr (by simp [hx])⟩
 ·rw [List.nodup_append]
  exact ⟨h.nodup, by simp, fun a ha b hb => by simp at hb; subst hb; exact fun e => hn (e ▸ ha)⟩
theorem QInv.done {g : Grf} {l out : List Str} (h : QInv g l [] out) (n : Str) : n ∈ out ↔ Reach g l n := by
 constructor
 ·exact fun hn => h.reach n (.inl hn)
 ·intro hr
  induction hr with
  | base hb => exact (h.from_ _ hb).resolve_right (by simp)
  | step _ hg hn ih =>
   obtain ⟨d, h1, h2⟩ := h.closed _ ih
   rw [hg] at h1; cases h1
   exact (h2 _ hn).resolve_right (by simp)
theorem queue_spec {g : Grf} {l : List Str} {K : List (Str × List Str)} (hn : (K.map (·.1)).Nodup) (hK : ∀ n d, g n = some d ↔ (n, d) ∈ K) : ∀ (f : Nat) (todo out : List Str), QInv g l todo out → load K todo out < f →
  match queue g f todo out with
  | some o => o.Nodup ∧ (∀ n, n ∈ o ↔ Reach g l n) ∧ ∀ n, Reach g l n → (g n).isSome = true
  | none => ∃ n, Reach g l n ∧ g n = none
 | 0, todo, out, _, hf => by omega
 | f + 1, [], out, h, hf => by
  simp only [queue]
  refine ⟨h.nodup, h.done, fun n hr => ?_⟩
  obtain ⟨d, h1, _⟩ := h.closed n ((h.done n).2 hr)
  rw [h1]; rfl
 | f + 1, n :: todo, out, h, hf => by
  simp only [queue]
  by_cases hno : n ∈ out
  ·rw [if_pos hno]
   exact queue_spec hn hK f todo out (h.old hno) (by simp only [load, List.length_cons] at hf ⊢; omega)
  ·rw [if_neg hno]
   cases hg : g n with
   | none => exact ⟨n, h.reach n (.inr (by simp)), hg⟩
   | some d =>
    have hw := wait_out hn ((hK n d).1 hg) hno
    exact queue_spec hn hK f (todo ++ d) (out ++ [n]) (h.new hno hg) (by simp only [load, List.length_cons, List.length_append] at hf ⊢; omega)
theorem queue_more {g : Grf} {K : List (Str × List Str)} (hn : (K.map (·.1)).Nodup) (hK : ∀ n d, g n = some d ↔ (n, d) ∈ K) : ∀ (f f' : Nat) (todo out : List Str), load K todo out < f → load K todo out < f' → queue g f todo out = queue g f' todo out
 | 0, _, todo, out, hf, _ => by omega
 | _, 0, todo, out, _, hf => by omega
 | f + 1, f' + 1, [], out, _, _ => rfl
 | f + 1, f' + 1, n :: todo, out, hf, hf' => by
  simp only [queue]
  by_cases hno : n ∈ out
  ·rw [if_pos hno, if_pos hno]
   exact queue_more hn hK f f' todo out (by simp only [load, List.length_cons] at hf ⊢; omega) (by simp only [load, List.length_cons] at hf' ⊢; omega)
  ·rw [if_neg hno, if_neg hno]
   cases hg : g n with
   | none => rfl
   | some d =>
    have hw := wait_out hn ((hK n d).1 hg) hno
    exact queue_more hn hK f f' (todo ++ d) (out ++ [n]) (by simp only [load, List.length_cons, List.length_append] at hf ⊢; omega) (by simp only [load, List.length_cons, List.length_append] at hf' ⊢; omega)
end Go.Q
end

section
/- The logic 'Q': looking up in a map of the call's own, and deleting in it. -/
namespace Go.Q
open Go
theorem mapGet_idx {F : Nat → Prop} {w : World} {x : List UInt8} : ∀ {es : MapV} {ms : List MapEntry} {j : Nat} {m : MapEntry}, RelM F w es ms → mapIdx es x = some j → ms[j]? = some m → ∃ u, mapGet es x = some u ∧ Rel F [] w u m.val
 | [], ms, j, m, _, hj, _ => by simp [mapIdx] at hj
 | (k, v) :: r, ms, j, m, h, hj, hm => by
  simp only [RelM] at h
  obtain ⟨e, t, rfl, h1, h2, h3⟩ := h
  by_cases hk : k = x
  ·simp only [mapIdx, hk, if_true, Option.some.injEq] at hj
   subst hj
   simp only [List.getElem?_cons_zero, Option.some.injEq] at hm
   subst hm
   exact ⟨v, by simp [mapGet, hk], h2⟩
  ·simp only [mapIdx, if_neg hk, Option.map_eq_some_iff] at hj
   obtain ⟨j', hj', rfl⟩ := hj
   obtain ⟨u, g1, g2⟩ := mapGet_idx h3 hj' (by simpa using hm)
   exact ⟨u, by simp [mapGet, hk, g1], g2⟩
theorem mapGet_none {x : List UInt8} : ∀ {es : MapV}, mapIdx es x = none → mapGet es x = none
 | [], _ => rfl
 | (k, v) :: r, h => by
  by_cases hk : k = x
  ·simp [mapIdx, hk] at h
  ·simp only [mapIdx, if_neg hk, Option.map_eq_none_iff] at h
   simp [mapGet, hk, mapGet_none h]
def mapDel : MapV → List UInt8 → MapV
 | [], _ => []
 | (k, u) :: r, x => if k = x then r else (k, u) :: mapDel r x
theorem mapDel_none {x : List UInt8} : ∀ {es : MapV}, mapIdx es x = none → mapDel es x = es
 | [], _ => rfl
 | (k, v) :: r, h => by
  by_cases hk : k = x
  ·simp [mapIdx, hk] at h
  ·simp only [mapIdx, if_neg hk, Option.map_eq_none_iff] at h
   simp [mapDel, hk, mapDel_none h]
theorem RelM.del {F : Nat → Prop} {w : World} {x : List UInt8} : ∀ {es : MapV} {ms : List MapEntry} {j : Nat}, mapIdx es x = some j → RelM F w es ms → RelM F w (mapDel es x) (ms.eraseIdx j)
 | [], ms, j, hj, h => by simp [mapIdx] at hj
 | (k, u) :: r, ms, j, hj, h => by
  simp only [RelM] at h
  obtain ⟨e, t, rfl, h1, h2, h3⟩ := h
  by_cases hk : k = x
  ·simp only [mapIdx, hk, if_true, Option.some.injEq] at hj
   subst hj
   simpa [mapDel, hk] using h3
  ·simp only [mapIdx, if_neg hk, Option.map_eq_some_iff] at hj
   obtain ⟨j', hj', rfl⟩ := hj
   simp only [mapDel, if_neg hk, List.eraseIdx_cons_succ, RelM]
   exact ⟨e, t.eraseIdx j', rfl, h1, h2, h3.del hj'⟩
section
variable {p : Par} {E : Entry} {F : Nat → Prop} {ρ : List Value} {env : Env} {H : List Obj} {a : Act} {w : World}
def lookV (zv : V) : Option V → V
 | some u => .tuple [u, .bool true]
 | none => .tuple [zv, .bool false]
theorem step_lookup {o : Oper} {t k e : TypeId} {m x : Operand} {i : Nat} {s : List UInt8} {es : MapV} {z : Value} {zv : V} (hzr : ∀ (F : Nat → Prop) (ρ : List Value) (w : World), Rel F ρ w zv z) (ho : o.op = .lookup t m x true) (ht : mapTyB p.P t k e = true) (hz : ∀ w, (zeroValue e).run p.P w = .ok z w) (hm : ev env m = .map i) (hi : H[i]? = some (.map es)) (hx : ev env x = .str s) :
  OpStep p o env H fun v env' H' => v = lookV zv (mapGet es s) ∧ env' = env ∧ H' = H := by
 obtain ⟨ht1, ht2⟩ := mapTyB_ok ht
 intro E F ρ a w st
 have hrm := st.ev m
 rw [hm] at hrm
 simp only [Rel] at hrm
 obtain ⟨r, hρ, hme⟩ := hrm
 obtain ⟨r', ms, clk, hh, hheap, hrel, hpw, hlt⟩ := st.sim.obj i _ _ hi hρ
 injection hh with hh; injection hh with hh; subst hh
 have hrx := st.ev x
 rw [hx] at hrx
 simp only [Rel] at hrx
 obtain ⟨f1, f2⟩ := findNow_map s 0 hrel
 cases hidx : mapIdx es s with
 | none =>
  refine ⟨_, w, F, ρ, _, _, _, ?_, ⟨rfl, rfl, rfl⟩, st, .inl ⟨.tuple #[z, .bool false], rfl, ?_⟩⟩
  ·have := f1 hidx
   simp only [execOp, ho, hme, hrx.1, Instr.lookup, Sem.run_bind, run_underlying ht1, run_underlying ht2, Result.andThen_ok, runQ_getMap hheap, checkKey_str ht2, Instr.findKey, this, Sem.run_pure, hz, if_true]
  ·rw [mapGet_none hidx]
   simp only [lookV, Rel, RelL]
   exact ⟨[z, .bool false], rfl, z, _, rfl, hzr _ _ _, _, _, rfl, rfl, rfl⟩
 | some j =>
  obtain ⟨m0, e1, e2, e3⟩ := f2 j hidx
  obtain ⟨u, g1, g2⟩ := mapGet_idx hrel hidx e1
  refine ⟨_, w, F, ρ, _, _, _, ?_, ⟨rfl, rfl, rfl⟩, st, .inl ⟨.tuple #[m0.val, .bool true], rfl, ?_⟩⟩
  ·rw [Nat.zero_add] at e3
   simp only [execOp, ho, hme, hrx.1, Instr.lookup, Sem.run_bind, run_underlying ht1, run_underlying ht2, Result.andThen_ok, runQ_getMap hheap, checkKey_str ht2, Instr.findKey, e3, Sem.run_pure, if_true]
  ·rw [g1]
   simp only [lookV, Rel, RelL]
   exact ⟨[m0.val, .bool true], rfl, m0.val, _, rfl, Rel.of_bare g2, _, _, rfl, rfl, rfl⟩
theorem step_lookupZ {o : Oper} {t k e : TypeId} {m x : Operand} {i : Nat} {s : List UInt8} {es : MapV} {z : Value} {zv : V} (hzr : ∀ (F : Nat → Prop) (ρ : List Value) (w : World), Rel F ρ w zv z) (ho : o.op = .lookup t m x false) (ht : mapTyB p.P t k e = true) (hz : ∀ w, (zeroValue e).run p.P w = .ok z w) (hm : ev env m = .map i) (hi : H[i]? = some (.map es)) (hx : ev env x = .str s) :
  OpStep p o env H fun v env' H' => v = (mapGet es s).getD zv ∧ env' = env ∧ H' = H := by
 obtain ⟨ht1, ht2⟩ := mapTyB_ok ht
 intro E F ρ a w st
 have hrm := st.ev m
 rw [hm] at hrm
 simp only [Rel] at hrm
 obtain ⟨r, hρ, hme⟩ := hrm
 obtain ⟨r', ms, clk, hh, hheap, hrel, hpw, hlt⟩ := st.sim.obj i _ _ hi hρ
 injection hh with hh; injection hh with hh; subst hh
 have hrx := st.ev x
 rw [hx] at hrx
 simp only [Rel] at hrx
 obtain ⟨f1, f2⟩ := findNow_map s 0 hrel
 cases hidx : mapIdx es s with
 | none =>
  refine ⟨_, w, F, ρ, _, _, _, ?_, ⟨rfl, rfl, rfl⟩, st, .inl ⟨z, rfl, ?_⟩⟩
  ·have := f1 hidx
   simp only [execOp, ho, hme, hrx.1, Instr.lookup, Sem.run_bind, run_underlying ht1, run_underlying ht2, Result.andThen_ok, runQ_getMap hheap, checkKey_str ht2, Instr.findKey, this, Sem.run_pure, hz, if_false, Bool.false_eq_true]
  ·rw [mapGet_none hidx]; exact hzr _ _ _
 | some j =>
  obtain ⟨m0, e1, e2, e3⟩ := f2 j hidx
  obtain ⟨u', g1, g2⟩ := mapGet_idx hrel hidx e1
  refine ⟨_, w, F, ρ, _, _, _, ?_, ⟨rfl, rfl, rfl⟩, st, .inl ⟨m0.val, rfl, ?_⟩⟩
  ·rw [Nat.zero_add] at e3
   simp only [execOp, ho, hme, hrx.1, Instr.lookup, Sem.run_bind, run_underlying ht1, run_underlying ht2, Result.andThen_ok, runQ_getMap hheap, checkKey_str ht2, Instr.findKey, e3, Sem.run_pure, if_false, Bool.false_eq_true]
  ·rw [g1]; exact Rel.of_bare g2
theorem step_delete {o : Oper} {t t2 k e : TypeId} {m x : Operand} {i : Nat} {s : List UInt8} {es : MapV} (ho : o.op = .call { callee := .builtin .delete, args := #[m, x], argTypes := #[t, t2] }) (ht : mapTyB p.P t k e = true) (hm : ev env m = .map i) (hi : H[i]? = some (.map es)) (hx : ev env x = .str s) :
  OpStep p o env H fun v env' H' => v = .tuple [] ∧ env' = env ∧ H' = H.set i (.map (mapDel es s)) := by
 obtain ⟨ht1, ht2⟩ := mapTyB_ok ht
 intro E F ρ a w st
 have hrm := st.ev m
 rw [hm] at hrm
 simp only [Rel] at hrm
 obtain ⟨r, hρ, hme⟩ := hrm
 obtain ⟨r', ms, clk, hh, hheap, hrel, hpw, hlt⟩ := st.sim.obj i _ _ hi hρ
 injection hh with hh; injection hh with hh; subst hh
 have hrx := st.ev x
 rw [hx] at hrx
 simp only [Rel] at hrx
 have hr : r < w.heap.size := (Array.getElem?_eq_some_iff.1 hheap).1
 obtain ⟨f1, f2⟩ := findNow_map s 0 hrel
 have fin : ∀ (ms' : Array MapEntry), (execOp a.eval o).run p.P w = .ok (.value (.tuple #[])) { w with heap := w.heap.setIfInBounds r (.map ms' clk) } → RelM F w (mapDel es s) ms'.toList → ms'.toList.Sublist ms.toList →
   ∃ nx w' F' ρ' v env' H', (execOp a.eval o).run p.P w = .ok nx w' ∧ (v = .tuple [] ∧ env' = env ∧ H' = H.set i (.map (mapDel es s))) ∧ St p E F' ρ' env' H' a w' ∧ ((∃ mv, nx = .value mv ∧ Rel F' ρ' w' v mv) ∨ (nx = .skip ∧ v = .undef)) := by
  intro ms' h1 h2 h3
  refine ⟨_, _, F, ρ, _, _, _, h1, ⟨rfl, rfl, rfl⟩, ?_, .inl ⟨_, rfl, by simp [Rel, RelL]⟩⟩
  have hother : ∀ b2, r ≠ b2 → (w.heap.setIfInBounds r (.map ms' clk))[b2]? = w.heap[b2]? := fun b2 hne => by simp [Array.getElem?_setIfInBounds, hne]
  have hF : ∀ b, F b → (w.heap.setIfInBounds r (.map ms' clk))[b]? = w.heap[b]? := fun b hb => hother b fun e => st.sim.apart i _ _ b hi rfl hρ (by rw [← e]; rfl) hb
  refine st.setObj hi rfl hρ rfl rfl rfl (by simp) (fun b2 hb2 => hother b2 fun e => hb2 (by rw [← e]; rfl)) ⟨r, ms', clk, rfl, by simp [hr], RelM.goes (ρ := []) (ρ' := []) ⟨fun _ h => h, hF, fun _ _ h => h⟩ _ _ h2, hpw.sublist h3, fun m hm => hlt m (h3.subset hm)⟩
 cases hidx : mapIdx es s with
 | none =>
  refine fin ms ?_ ?_ (List.Sublist.refl _)
  ·have := f1 hidx
   simp only [execOp, ho, resolve, Sem.run_bind, Sem.run_pure, Result.andThen_ok]
   simp [invoke, builtin, Builtin.delete_, hme, hrx.1, run_underlying ht1, runQ_getMap hheap, checkKey_str ht2, Instr.findKey, run_underlying ht2, this, runQ_setMap _ hheap]
  ·rw [mapDel_none hidx]; exact hrel
 | some j =>
  obtain ⟨m0, e1, e2, e3⟩ := f2 j hidx
  rw [Nat.zero_add] at e3
  refine fin (ms.eraseIdxIfInBounds j) ?_ ?_ ?_
  ·simp only [execOp, ho, resolve, Sem.run_bind, Sem.run_pure, Result.andThen_ok]
   simp [invoke, builtin, Builtin.delete_, hme, hrx.1, run_underlying ht1, runQ_getMap hheap, checkKey_str ht2, Instr.findKey, run_underlying ht2, e3, runQ_setMap _ hheap]
  ·rw [Array.toList_eraseIdxIfInBounds]
   exact hrel.del hidx
  ·rw [Array.toList_eraseIdxIfInBounds]
   exact List.eraseIdx_sublist _ _
end
end Go.Q
end

section
/- The walk depth first: its counts are bounded; how it lies in memory. -/
namespace Go.Q
open Go
def tot (t : Cnts) : Nat := (t.map (·.2)).sum
def pend (K : List (Str × List Str)) (t : Cnts) : Nat := ((K.filter fun x => decide (cnt t x.1 = 0)).map fun x => x.2.length).sum
theorem tot_bump : ∀ (t : Cnts) (n : Str), tot (bump t n) = tot t + 1
 | [], n => by simp [bump, tot]
 | (k, c) :: r, n => by
  by_cases hk : k = n
  ·simp [bump, hk, tot]; omega
  ·have ih := tot_bump r n
   simp only [tot] at ih
   simp [bump, hk, tot, ih]; omega
theorem cnt_le_tot : ∀ (t : Cnts) (n : Str), cnt t n ≤ tot t
 | [], n => by simp [cnt]
 | (k, c) :: r, n => by
  have ih := cnt_le_tot r n
  simp only [tot] at ih
  by_cases hk : k = n
  ·simp [cnt, hk, tot]
  ·simp [cnt, hk, tot]; omega
theorem pend_bump_le (K : List (Str × List Str)) (t : Cnts) (n : Str) : pend K (bump t n) ≤ pend K t := by
 unfold pend
 induction K with
 | nil => simp
 | cons x K ih =>
  simp only [List.filter_cons]
  by_cases h1 : cnt (bump t n) x.1 = 0
  ·have h2 : cnt t x.1 = 0 := by
    rw [cnt_bump] at h1
    split at h1 <;> omega
   simp only [h1, h2, decide_true, if_true, List.map_cons, List.sum_cons]; omega
  ·by_cases h2 : cnt t x.1 = 0
   ·simp only [h1, h2, decide_true, decide_false, if_true, Bool.false_eq_true, if_false, List.map_cons, List.sum_cons]; omega
   ·simp only [h1, h2, decide_false, Bool.false_eq_true, if_false]; exact ih
theorem pend_bump_new {K : List (Str × List Str)} (hn : (K.map (·.1)).Nodup) {t : Cnts} {n : Str} {d : List Str} (h : (n, d) ∈ K) (h0 : cnt t n = 0) : pend K (bump t n) + d.length = pend K t := by
 unfold pend
 induction K with
 | nil => simp at h
 | cons x K ih =>
  obtain ⟨k, e⟩ := x
  simp only [List.map_cons, List.nodup_cons] at hn
  simp only [List.filter_cons]
  rcases List.mem_cons.1 h with h | h
  ·cases h
   have hno : ∀ y ∈ K, decide (cnt (bump t n) y.1 = 0) = decide (cnt t y.1 = 0) := by
    intro y hy
    have : n ≠ y.1 := fun e => hn.1 (List.mem_map.2 ⟨y, hy, e.symm⟩)
    rw [cnt_bump, if_neg this]
   have h1 : cnt (bump t n) n ≠ 0 := by rw [cnt_bump]; simp
   rw [List.filter_congr hno]
   simp only [h1, h0, decide_true, decide_false, if_true, Bool.false_eq_true, if_false, List.map_cons, List.sum_cons]; omega
  ·have ih := ih hn.2 h
   have hkn : n ≠ k := fun e => hn.1 (List.mem_map.2 ⟨(n, d), h, e⟩)
   have hc : cnt (bump t n) k = cnt t k := by rw [cnt_bump, if_neg hkn]
   simp only [hc]
   by_cases hk : cnt t k = 0
   ·simp only [hk, decide_true, if_true, List.map_cons, List.sum_cons]; omega
   ·simp only [hk, decide_false, Bool.false_eq_true, if_false]; exact ih
theorem visit1_bound {g : Grf} {K : List (Str × List Str)} (hn : (K.map (·.1)).Nodup) (hK : ∀ n d, g n = some d ↔ (n, d) ∈ K) {rec_ : List Str → Cnts × Bool → Cnts × Bool} (hr : ∀ d s, tot (rec_ d s).1 + pend K (rec_ d s).1 ≤ tot s.1 + d.length + pend K s.1) (n : Str) (s : Cnts × Bool) :
  tot (visit1 g rec_ n s).1 + pend K (visit1 g rec_ n s).1 ≤ tot s.1 + 1 + pend K s.1 := by
 have hb := tot_bump s.1 n
 have hp := pend_bump_le K s.1 n
 unfold visit1
 cases hg : g n with
 | none => simp only; omega
 | some d =>
  simp only
  by_cases h1 : cnt (bump s.1 n) n = 1
  ·rw [if_pos h1]
   have h0 : cnt s.1 n = 0 := by rw [cnt_bump] at h1; simp at h1; exact h1
   have h2 := pend_bump_new hn ((hK n d).1 hg) h0
   have h3 := hr d (bump s.1 n, s.2)
   simp only at h3
   omega
  ·rw [if_neg h1]; simp only; omega
theorem visitN_bound {g : Grf} {K : List (Str × List Str)} (hn : (K.map (·.1)).Nodup) (hK : ∀ n d, g n = some d ↔ (n, d) ∈ K) : ∀ (f : Nat) (l : List Str) (s : Cnts × Bool), tot (visitN g f l s).1 + pend K (visitN g f l s).1 ≤ tot s.1 + l.length + pend K s.1
 | 0, l, s => by simp only [visitN]; omega
 | f + 1, [], s => by simp [visitN]
 | f + 1, n :: l, s => by
  have h1 := visit1_bound hn hK (visitN_bound hn hK f) n s
  have h2 := visitN_bound hn hK (f + 1) l (visit1 g (visitN g f) n s)
  have e : visitN g (f + 1) (n :: l) s = visitN g (f + 1) l (visit1 g (visitN g f) n s) := rfl
  rw [e, List.length_cons]; omega
termination_by f l _ => (f, l.length)
def toldM (t : Cnts) : MapV := t.map fun x => (x.1, .int .i64 (x.2 : Int))
theorem toldM_get : ∀ (t : Cnts) (n : Str), (mapGet (toldM t) n).getD (.int .i64 0) = .int .i64 (cnt t n : Int)
 | [], n => rfl
 | (k, c) :: r, n => by
  by_cases hk : k = n
  ·simp [toldM, mapGet, cnt, hk]
  ·have ih := toldM_get r n
   simp only [toldM] at ih
   simp [toldM, mapGet, cnt, hk, ih]
theorem toldM_set : ∀ (t : Cnts) (n : Str), mapSet (toldM t) n (.int .i64 ((cnt t n : Int) + 1)) = toldM (bump t n)
 | [], n => rfl
 | (k, c) :: r, n => by
  by_cases hk : k = n
  ·simp [toldM, mapSet, cnt, bump, hk]
  ·have ih := toldM_set r n
   simp only [toldM] at ih
   simp [toldM, mapSet, cnt, bump, hk, ih]
theorem foldl_take {α β : Type} (h : β → α → β) (s : β) (l : List α) (i : Nat) (hi : i < l.length) : (l.take (i + 1)).foldl h s = h ((l.take i).foldl h s) l[i] := by
 rw [List.take_succ_eq_append_getElem hi, List.foldl_append]; rfl
end Go.Q
end

section
/- The graph of a set of patches. -/
namespace Go.Proofs.YtnobnefabagbhaaGreatDoor.Q
open Go Go.Q
def findP (l : List Patch) (n : Str) : Option Patch := l.find? fun p => decide (p.name = n)
def gP (l : List Patch) : Grf := fun n => (findP l n).map (·.deps)
def KP (l : List Patch) : List (Str × List Str) := l.map fun p => (p.name, p.deps)
theorem KP_nodup {l : List Patch} (h : apartP l) : ((KP l).map (·.1)).Nodup := by
 have e : (KP l).map (·.1) = l.map (·.name) := by simp [KP]
 rw [e]
 exact List.pairwise_map.2 h
theorem findP_mem {l : List Patch} (h : apartP l) {n : Str} {p : Patch} : findP l n = some p ↔ p ∈ l ∧ p.name = n := by
 constructor
 ·intro hf
  have h1 := List.find?_some hf
  exact ⟨List.mem_of_find?_eq_some hf, by simpa using h1⟩
 ·rintro ⟨hm, rfl⟩
  unfold findP
  cases hf : l.find? (fun q => decide (q.name = p.name)) with
  | none =>
   have := List.find?_eq_none.1 hf p hm
   simp at this
  | some q =>
   have h1 := List.find?_some hf
   have h2 := List.mem_of_find?_eq_some hf
   rw [apartP_eq h h2 hm (by simpa using h1)]
theorem gP_mem {l : List Patch} (h : apartP l) (n : Str) (d : List Str) : gP l n = some d ↔ (n, d) ∈ KP l := by
 unfold gP KP
 rw [Option.map_eq_some_iff]
 constructor
 ·rintro ⟨p, hp, rfl⟩
  obtain ⟨h1, rfl⟩ := (findP_mem h).1 hp
  exact List.mem_map.2 ⟨p, h1, rfl⟩
 ·intro hm
  obtain ⟨p, h1, h2⟩ := List.mem_map.1 hm
  cases h2
  exact ⟨p, (findP_mem h).2 ⟨h1, rfl⟩, rfl⟩
theorem gP_some {l : List Patch} (h : apartP l) (n : Str) : (gP l n).isSome = true ↔ n ∈ l.map (·.name) := by
 constructor
 ·intro hs
  obtain ⟨d, hd⟩ := Option.isSome_iff_exists.1 hs
  have := (gP_mem h n d).1 hd
  obtain ⟨p, h1, h2⟩ := List.mem_map.1 this
  cases h2
  exact List.mem_map.2 ⟨p, h1, rfl⟩
 ·intro hm
  obtain ⟨p, h1, rfl⟩ := List.mem_map.1 hm
  rw [(gP_mem h p.name p.deps).2 (List.mem_map.2 ⟨p, h1, rfl⟩)]; rfl
theorem setAll_apart : ∀ (l : List Patch) (es : MapV), apartP l → (∀ p ∈ l, mapIdx es p.name = none) → setAll es l = es ++ l.map fun p => (p.name, .agg (cPatch p))
 | [], es, _, _ => by simp [setAll]
 | p :: r, es, h, hn => by
  have h3 : setAll es (p :: r) = setAll (mapSet es p.name (.agg (cPatch p))) r := rfl
  have hp := List.pairwise_cons.1 h
  rw [h3, mapSet_none (hn p (by simp)), setAll_apart r _ hp.2 ?_]
  ·simp
  ·intro q hq
   have e1 : (mapIdx (mapSet es p.name (.agg (cPatch p))) q.name).isSome = false := by
    rw [mapIdx_set, hn q (List.mem_cons_of_mem _ hq)]
    simpa using hp.1 q hq
   rw [mapSet_none (hn p (by simp))] at e1
   cases h5 : mapIdx (es ++ [(p.name, V.agg (cPatch p))]) q.name with
   | none => rfl
   | some j => rw [h5] at e1; cases e1
theorem mapOf_apart {l : List Patch} (h : apartP l) : mapOf l = l.map fun p => (p.name, .agg (cPatch p)) := by
 rw [mapOf, setAll_apart l [] h fun _ _ => rfl]; rfl
theorem mapGet_map (l : List Patch) (n : Str) : mapGet (l.map fun p => (p.name, .agg (cPatch p))) n = (findP l n).map fun p => .agg (cPatch p) := by
 induction l with
 | nil => rfl
 | cons p r ih =>
  by_cases h : p.name = n
  ·simp [mapGet, findP, h]
  ·simp only [findP] at ih
   simp [mapGet, findP, h, ih]
theorem ofB_apart {l : List Patch} (h : ofB l = true) : apartP l := by
 have h1 := sortedP_isSome l
 rw [h] at h1
 obtain ⟨s, hs⟩ := Option.isSome_iff_exists.1 h1
 exact (sortedP_facts hs).2.2.1
end Go.Proofs.YtnobnefabagbhaaGreatDoor.Q
end

section
/- The logic 'Q': open regions with calls of function values. -/
namespace Go.Q
open Go.RowKit (Below intOf Hid)
section
variable {p : Par} {T : Tab} {Q : Post} {env : Env} {H : List Obj} {ops : Array Oper} {es av : List Nat} {k : Nat} {gs : List V}
theorem opOk_callV {o : Oper} {x : Operand} {f : FuncId} {fs cs : List V} {args : Array Operand} {ats : Array TypeId} {r : V} {env : Env} (ho : o.op = .call { callee := .value x, args, argTypes := ats })
  (hx : ev env x = .func (.func f) fs cs) (hg : o.guard = none) (hb : bodied p.P f = true) {vs : List V} (hvs : WkL (fs ++ (argsOf true env args.toList ++ cs)) vs) (hcl : cleanL vs = true) (how : owed true env args.toList)
  (hc : VPure p.P p.glob f vs r) : OpOk p ops H o env r := by
 intro E F ρ a w st K Q' hk
 rw [if_pos (by simp [Region.wanted, hg])]
 left
 have hrx := st.ev x
 rw [hx] at hrx
 simp only [Rel] at hrx
 obtain ⟨us, vs', hxe, hu, hv⟩ := hrx
 have hrel := RelL.append hu (RelL.append (relL_map st (g := true) rfl args.toList (owed_all how)) hv)
 have hcall := hc F w _ (cleanL_rel _ _ hcl (hvs.rel hrel)) st.sim.alloc st.glob
 simp only [Oper.wp, callV_run ho hb hxe, Oper.upon_enter]
 refine hcall.mono ?_
 rintro e w' ⟨mr, rfl, hr, hbel⟩
 refine hk _ w' mr hbel (fun _ h => .inl h) (fun b hb => hb.imp id (·.1)) (fun b hb => ?_) (Rel.of_bare hr)
 rcases hb with hb | hb
 ·exact Nat.lt_of_lt_of_le (st.sim.alloc b hb) hbel.size
 ·exact hb.2
theorem dstage_callV {o : Oper} {rest : List Oper} {i : Nat} {e eF : Env} {x : Operand} {f : FuncId} {fs cs : List V} {args : Array Operand} {ats : Array TypeId} {r : V} {vs : List V} (hc : VPure p.P p.glob f vs r)
  (ho : o.op = .call { callee := .value x, args, argTypes := ats }) (hx : ev (keepE (tms ops o) e) x = .func (.func f) fs cs)
  (hg : o.guard = none) (hb : bodied p.P f = true) (hvs : WkL (fs ++ (argsOf true (keepE (tms ops o) e) args.toList ++ cs)) vs) (hcl : cleanL vs = true) (how : owed true (keepE (tms ops o) e) args.toList)
  (hs : effAt es i = 0) (hk : av.getD i 0 ≤ k) (hr : DStage p ops H es av k gs (i + 1) rest (putE o.dst r e) eF) : DStage p ops H es av k gs i (o :: rest) e eF := by
 simp only [DStage, hs, hk, if_true]
 exact ⟨_, opOk_callV ho hx hg hb hvs hcl how hc, hr⟩
theorem effOk_callVH {o : Oper} {e : Env} {x : Operand} {f : FuncId} {fs cs : List V} {args : Array Operand} {ats : Array TypeId} {r : V} {H' : List Obj} {vs : List V} (ix M mvd : List Nat) (hc : VCalls p.P p.glob f vs (viewIn H ix) M (fun r' H'' => r' = r ∧ H'' = H'))
  (ho : o.op = .call { callee := .value x, args, argTypes := ats }) (hx : ev e x = .func (.func f) fs cs) (hb : bodied p.P f = true) (hnd : nodupB ix = true) (hlt : ix.all (fun i => decide (i < H.length)) = true)
  (hM : M.all (fun j => match ix[j]? with | some i => (p.M.contains i || decide (p.n0 ≤ i)) && mvd.contains i | none => true) = true)
  (hvs : WkL (renL (posIn ix) (fs ++ (argsOf true e args.toList ++ cs))) vs) (how : owed true e args.toList) : EffOk p H (heapOut H H' ix mvd) o e (ren (keepMoved mvd)) (ren (backIn ix H.length) r) := by
 intro E F ρ a w envX st hl K Q' hk
 have ste := st.weaken hl
 have hnd' := nodupB_ok hnd
 have hlt' : ∀ i ∈ ix, i < H.length := fun i hi => by simpa using List.all_eq_true.1 hlt i hi
 have hrx := ste.ev x
 rw [hx] at hrx
 simp only [Rel] at hrx
 obtain ⟨us, vs', hxe, hu, hv⟩ := hrx
 have hrel := RelL.append hu (RelL.append (relL_map ste (g := true) rfl args.toList (owed_all how)) hv)
 have hρ : ∀ (i j : Nat) (h : Value), posIn ix i = some j → ρ[i]? = some h → (ix.map fun i => ρ.getD i undef)[j]? = some h := by
  intro i j h h1 h2
  simp [posIn_spec h1, List.getD, h2]
 have hrel2 := hvs.rel (renL_rel hρ _ _ hrel)
 have hcall := hc F _ w _ (sim_in st.sim hnd' hlt') hrel2 st.glob
 simp only [Oper.wp, callV_run ho hb hxe, Oper.upon_enter]
 refine hcall.mono ?_
 rintro e' w' ⟨F', ρ', H'', r', mr, rfl, ⟨rfl, rfl⟩, hr, sim', ev⟩
 have hMM : ∀ j ∈ M, ∀ i, ix[j]? = some i → (i ∈ p.M ∨ p.n0 ≤ i) ∧ mvd.contains i = true := by
  intro j hj i hi
  have := List.all_eq_true.1 hM j hj
  simp only [hi, Bool.and_eq_true, Bool.or_eq_true, decide_eq_true_eq] at this
  refine ⟨?_, this.2⟩
  rcases this.1 with h | h
  ·exact .inl (List.contains_iff_mem.1 h)
  ·exact .inr h
 obtain ⟨st', hback⟩ := st.call (mvd := mvd) hnd' hlt' sim' ev (fun j hj i hi => (hMM j hj i hi).1) (fun j hj i hi => (hMM j hj i hi).2)
 exact hk F' _ w' mr st' (hback _ mr hr)
end
end Go.Q
end

section
/- The conversion of a byte slice of constants to its own type: the row gets a mark, and is read as a list behind it. -/
namespace Go.Q
open Go
variable {p : Par} {env : Env} {H : List Obj}
theorem RelLL.set {F : Nat → Prop} {w : World} {k : Nat} {cs : List V} {us' : List Value} (hl : cs.length = k) (hr : RelL F [] w cs us') (ho : ∀ u ∈ us', u.oneCell' = true) :
  ∀ {xs : List (List V)} {us : List Value} {j : Nat}, RelLL F w k xs us → j < xs.length → RelLL F w k (xs.set j cs) (us.take (j * k) ++ us' ++ us.drop (j * k + k))
 | [], us, j, _, hj => by simp at hj
 | c :: r, us, 0, h, _ => by
  simp only [RelLL] at h
  obtain ⟨u, t, rfl, h2, h3, h4, h5⟩ := h
  have hu : u.length = k := by rw [RelL.length h3, h2]
  simp only [List.set_cons_zero, RelLL, Nat.zero_mul, List.take_zero, List.nil_append, Nat.zero_add]
  refine ⟨us', t, ?_, hl, hr, ho, h5⟩
  rw [← hu, List.drop_left]
 | c :: r, us, j + 1, h, hj => by
  simp only [RelLL] at h
  obtain ⟨u, t, rfl, h2, h3, h4, h5⟩ := h
  have hu : u.length = k := by rw [RelL.length h3, h2]
  have ih := RelLL.set hl hr ho h5 (j := j) (by simpa using hj)
  simp only [List.set_cons_succ, RelLL]
  refine ⟨u, _, ?_, h2, h3, h4, ih⟩
  have e1 : (u ++ t).take ((j + 1) * k) = u ++ t.take (j * k) := by
   rw [Nat.add_mul, Nat.one_mul, Nat.add_comm, ← hu, List.take_append, List.take_of_length_le (by omega), Nat.add_sub_cancel_left]
  have e2 : (u ++ t).drop ((j + 1) * k + k) = t.drop (j * k + k) := by rw [Nat.add_mul, Nat.one_mul, show j * k + k + k = u.length + (j * k + k) from by rw [hu]; omega, List.drop_append]; simp
  rw [e1, e2]; simp
theorem step_storeArr {T : Tab} (hT : T.Ok p.P) {o : Oper} {t : TypeId} {ad x : Operand} {i j e k : Nat} {xs : List (List V)} {cs : List V} {r : Option Nat} (ho : o.op = .store t ad x) (hld : T.ld t = some r) (hk : r.getD 1 = k)
  (had : ev env ad = .aptr i k j 0) (hx : cellsOf (ev env x) = some cs) (hl : cs.length = k) (hcl : cleanL cs = true) (hi : H[i]? = some (.arr e k xs)) (hj : j < xs.length) :
  OpStep p o env H fun v env' H' => v = .undef ∧ env' = env ∧ H' = H.set i (.arr e k (xs.set j cs)) := by
 intro E F ρ a w st
 have hp := st.ev ad
 rw [had] at hp
 simp only [Rel] at hp
 obtain ⟨b, m, q, h1, h2⟩ := hp
 obtain ⟨us', e1, e2, e3⟩ := cellsOf_rel hx (st.ev x)
 obtain ⟨us, c', a', hh, hown, hll, hB⟩ := st.sim.obj i _ _ hi h1
 injection hh with ha hm hc; subst hm; subst hc
 rcases hown.2 with ⟨hn, _⟩ | ⟨g, cap, cur, hv, hb0, hg, hnc, hcm, hcs, htk⟩
 ·injection hn with hn; exact absurd hn (by simp)
 ·simp only [Value.slice.injEq, Option.some.injEq, Addr.mk.injEq, and_true] at hv
  obtain ⟨rfl, _, rfl⟩ := hv
  have hlu' := RelL.length e2
  have e2' : RelL F [] w cs us' := cleanL_rel _ _ hcl e2
  obtain ⟨d, hd, hag, ti, hti, hz⟩ := hT.ld t _ hld
  have hjk : j * k + k ≤ xs.length * k := by
   have := Nat.mul_le_mul_right k (show j + 1 ≤ xs.length from hj)
   rw [Nat.add_mul, Nat.one_mul] at this; exact this
  have hcap : xs.length * k ≤ cur.size := by rw [hcs]; exact Nat.mul_le_mul_right k hnc
  have hrun := run_storeCells_at p.P b (j * k + 0) e us' 0 cur w hg (by rw [hlu', hl]; omega) e3
  simp only [Nat.add_zero] at hrun
  rw [hlu', hl] at hrun
  refine ⟨.skip, w.setRow b (cur.toList.take (j * k) ++ us' ++ cur.toList.drop (j * k + k)).toArray, F, ρ, _, _, _, ?_, ⟨rfl, rfl, rfl⟩, ?_, .inr ⟨rfl, rfl⟩⟩
  ·have hsz : (a.eval x).cells.size = ti.size := by rw [e1, hz, hk]; simp [hlu', hl]
   have hcl2 : (a.eval x).cells.toList = us' := by rw [e1]
   simp only [execOp, ho, Instr.storeAt, h2, Instr.sureAddr, storeVar, Sem.run_bind, Sem.run_pure, Result.andThen_ok, sizeOf_run hT hti]
   rw [if_neg (by simp [hsz]), hcl2]
   simp only [Nat.add_zero]
   rw [hrun]
   rfl
  ·refine st.setObj hi rfl h1 rfl rfl rfl (by simp [World.setRow]) (fun b2 hb2 => setRow_other w b b2 _ (fun e => hb2 (by simp [blk, e]))) ?_
   have hF : ∀ b2, F b2 → (w.setRow b (cur.toList.take (j * k) ++ us' ++ cur.toList.drop (j * k + k)).toArray).heap[b2]? = w.heap[b2]? := fun b2 hb2 => setRow_other w b b2 _ (by rintro rfl; exact st.sim.apart i _ _ b2 hi rfl h1 rfl hb2)
   have hset := RelLL.set hl e2' e3 hll hj
   have hnew : us.take (j * k) ++ us' ++ us.drop (j * k + k) = (cur.toList.take (j * k) ++ us' ++ cur.toList.drop (j * k + k)).take (xs.length * k) := by
    have hA : (cur.toList.take (j * k)).length = j * k := by rw [List.length_take]; exact Nat.min_eq_left (by simp; omega)
    have hAu : (cur.toList.take (j * k) ++ us').length = j * k + k := by rw [List.length_append, hA, hlu', hl]
    rw [List.take_append, List.take_of_length_le (l := cur.toList.take (j * k) ++ us') (by omega), hAu, ← htk, List.take_take, Nat.min_eq_left (by omega), List.drop_take]
   refine ⟨us.take (j * k) ++ us' ++ us.drop (j * k + k), q, some ⟨b, 0, none⟩, by simp, ⟨?_, .inr ⟨b, q, _, by simp, Nat.zero_le _, setRow_heap w b _ _ e (0, 0) hg, by simpa using hnc, hcm, ?_, by simpa using hnew.symm⟩⟩, ?_, by simpa using hB⟩
   ·have := hown.1
    simp only [List.length_append, List.length_take, List.length_drop, hlu', hl, List.length_set]; omega
   ·simp only [List.size_toArray, List.length_append, List.length_take, List.length_drop, hlu', hl, Array.length_toList]
    rw [← hcs]; omega
   ·exact RelLL.goes (F := F) (F' := F) (ρ := []) (ρ' := []) (w := w) ⟨fun _ h => h, hF, fun _ _ h => h⟩ k _ _ hset
end Go.Q
end

section
/- Range over functions, in the logic 'Q': code in a round's frame. -/
namespace Go.Q
open Go
theorem opIn {P : Program} {r n : Nat} {o : Oper} {a : Act} {w : World} {next : Act → World → Prop} {Q : Exit → Act → World → Prop} (hd : ∀ c, o.op ≠ .defer c) (h : o.wp P a w next Q) : o.wpIn (Fence.wide.inRound r) n P a w next Q := by
 refine ⟨fun _ _ => trivial, ?_⟩
 rw [Oper.semAt_plain _ _ _ hd]
 unfold Oper.wp at h
 revert h
 generalize (execOp a.eval o).run P w = res
 intro h
 cases res with
 | ok nx w' =>
  cases nx with
  | value v => exact h
  | skip => exact h
  | defer d => exact h
  | enter f args => exact ⟨fun h => by simp [Fence.wide, Fence.inRound] at h, callsIn_wide.2 h⟩
  | row row args => exact ⟨fun h => by simp [Fence.wide, Fence.inRound] at h, fun c cs _ => let ⟨v, w2, r, s⟩ := h c cs; ⟨v, w2, r, stepsIn_wide.2 s⟩⟩
  | _ => exact h.elim
 | halt x w' => cases x <;> first | exact h | exact h.elim
theorem listIn {P : Program} {r n : Nat} {ops : Array Oper} {Q : Exit → Act → World → Prop} (hno : ¬ LetsOut Q) : ∀ {l : List Oper} {a : Act} {w : World}, (∀ o ∈ l, ∀ c, o.op ≠ .defer c) → wpList P ops Q l a w → wpListIn (Fence.wide.inRound r) n P ops Q l a w
 | [], a, w, _, h => h
 | o :: l, a, w, hd, h => by
  simp only [wpList] at h
  simp only [wpListIn]
  split at h
  ·rename_i hw
   rw [if_pos hw]
   rcases h with h | h
   ·have h2 := opIn (r := r) (n := n) (hd o (by simp)) h
    exact Oper.wpIn_mono (fun a w => listIn hno (fun o ho => hd o (by simp [ho]))) h2
   ·exact absurd h.2 hno
  ·rename_i hw
   rw [if_neg hw]
   exact ⟨fun _ _ => trivial, listIn hno (fun o ho => hd o (by simp [ho])) h⟩
def VWpR (r : Nat) (p : Par) (c : Code) (Q : Post) (env : Env) (H : List Obj) : Prop :=
 ∀ E F ρ a w, St p E F ρ env H a w → c.wpIn (Fence.wide.inRound r) 0 p.P (Lift p E Q) a w
section
variable {r : Nat} {p : Par} {Q : Post} {env : Env} {H : List Obj}
theorem vwpR_skip (h : Q .normal env H) : VWpR r p .skip Q env H := fun _ F ρ _ _ st => wpIn_skip ⟨F, ρ, env, H, h, st⟩
theorem vwpR_ret (h : Q .ret env H) : VWpR r p .ret Q env H := fun _ F ρ _ _ st => wpIn_ret ⟨F, ρ, env, H, h, st⟩
theorem vwpR_seq {x y : Code} (h : VWpR r p x (thenQ (VWpR r p y Q) Q) env H) : VWpR r p (.seq x y) Q env H := by
 intro E F ρ a w st
 refine wpIn_seq (wpIn_mono (h E F ρ a w st) ?_)
 rintro e a' w' ⟨F', ρ', env', H', q, st'⟩
 cases e with
 | normal => exact q E F' ρ' a' w' st'
 | exit id => exact ⟨F', ρ', env', H', q, st'⟩
 | goto l => exact ⟨F', ρ', env', H', q, st'⟩
 | ret => exact ⟨F', ρ', env', H', q, st'⟩
 | panic c => exact ⟨F', ρ', env', H', q, st'⟩
 | outgrown => exact ⟨F', ρ', env', H', q, st'⟩
theorem vwpR_block {id : Nat} {c : Code} (h : VWpR r p c (blockQ id Q) env H) : VWpR r p (.block id c) Q env H := by
 intro E F ρ a w st
 refine wpIn_block (wpIn_mono (h E F ρ a w st) ?_)
 rintro e a' w' ⟨F', ρ', env', H', q, st'⟩
 cases e with
 | exit id' =>
  simp only [Exit.inBlock, blockQ] at q ⊢
  split
  ·rename_i he; rw [if_pos he] at q; exact ⟨F', ρ', env', H', q, st'⟩
  ·rename_i he; rw [if_neg he] at q; exact ⟨F', ρ', env', H', q, st'⟩
 | normal => exact ⟨F', ρ', env', H', q, st'⟩
 | goto l => exact ⟨F', ρ', env', H', q, st'⟩
 | ret => exact ⟨F', ρ', env', H', q, st'⟩
 | panic c => exact ⟨F', ρ', env', H', q, st'⟩
 | outgrown => exact ⟨F', ρ', env', H', q, st'⟩
def plainOps (l : List Oper) : Bool := l.all fun o => match o.op with | .defer _ => false | _ => true
theorem plainOps_ok {l : List Oper} (h : plainOps l = true) : ∀ o ∈ l, ∀ c, o.op ≠ .defer c := by
 intro o ho c e
 have := List.all_eq_true.1 h o ho
 simp [e] at this
theorem vwpR_region {id : Nat} {ops : Array Oper} (hd : plainOps ops.toList = true) (hno : ∀ env H, ¬ Q .outgrown env H) (h : VOps p ops ops.toList Q env H) : VWpR r p (.region id ops false) Q env H := by
 intro E F ρ a w st
 refine wpIn_region_list (listIn ?_ (plainOps_ok hd) (h E F ρ a w st))
 rintro ⟨a', w', F', ρ', env', H', q, _⟩
 exact hno _ _ q
end
end Go.Q
end

section
/- Range over functions, in the logic 'Q': an iterator's code, between whose steps the caller's rounds run. -/
namespace Go.Q
open Go
structure Upd (B : Nat → Prop) (w w' : World) : Prop where
 os : w'.os = w.os
 tape : w'.tape = w.tape
 output : w'.output = w.output
 size : w.heap.size ≤ w'.heap.size
 same : ∀ b, b < w.heap.size → ¬ B b → w'.heap[b]? = w.heap[b]?
theorem Upd.refl (B : Nat → Prop) (w : World) : Upd B w w := ⟨rfl, rfl, rfl, Nat.le_refl _, fun _ _ _ => rfl⟩
theorem Upd.trans {B B' : Nat → Prop} {w w' w'' : World} (h : Upd B w w') (k : Upd B' w' w'') (hb : ∀ b, B' b → B b ∨ w.heap.size ≤ b) : Upd B w w'' :=
 ⟨k.os.trans h.os, k.tape.trans h.tape, k.output.trans h.output, Nat.le_trans h.size k.size, fun b hlt hn => (k.same b (Nat.lt_of_lt_of_le hlt h.size) fun e => (hb b e).elim hn (by omega)).trans (h.same b hlt hn)⟩
theorem Upd.mono {B B' : Nat → Prop} {w w' : World} (h : Upd B w w') (hb : ∀ b, B b → B' b) : Upd B' w w' := ⟨h.os, h.tape, h.output, h.size, fun b hlt hn => h.same b hlt fun e => hn (hb b e)⟩
structure CInv (γ : Type) where
 l : Nat
 J : γ → (Nat → Prop) → (Nat → Prop) → World → Prop
 stable : ∀ s F F' B w w', J s F B w → (∀ b, F b → F' b) → (∀ b, B b → ¬ F' b) → (∀ b, F' b → b < w'.heap.size) → (∀ b, F b ∨ B b → w'.heap[b]? = w.heap[b]?) → w.heap.size ≤ w'.heap.size → w'.os = w.os → w'.tape = w.tape → w'.output = w.output → J s F' B w'
 lt : ∀ s F B w, J s F B w → ∀ b, B b → b < w.heap.size
structure Ent where
 F : Nat → Prop
 L : Nat → Prop
 B : Nat → Prop
 w : World
structure StI {γ : Type} (P : Program) (G : Glob) (n : Nat) (J : CInv γ) (E : Ent) (F : Nat → Prop) (B : Nat → Prop) (ρ : List Value) (s : γ) (env : Env) (H : List Obj) (a : Act) (w : World) : Prop where
 sim : Sim F ρ H w
 env : ∀ t, Rel F ρ w (get env t) (a.tmps.getD t undef)
 size : a.tmps.size = n
 defers : a.defers = []
 glob : G.G F w
 yl : ρ[0]? = some (.func (.yield J.l) #[] #[])
 inv : J.J s F B w
 apF : ∀ b, B b → ¬ F b
 apL : ∀ b, B b → ¬ liveBlock H ρ b
 sub : ∀ b, E.F b → F b
 new : ∀ b, F b ∨ B b ∨ liveBlock H ρ b → E.F b ∨ E.B b ∨ E.L b ∨ E.w.heap.size ≤ b
 upd : Upd (fun b => E.B b ∨ E.L b) E.w w
def VWpJ {γ : Type} (P : Program) (G : Glob) (n : Nat) (J : CInv γ) (c : Code) (Q : γ → Post) (s : γ) (env : Env) (H : List Obj) : Prop :=
 ∀ E F B ρ a w, StI P G n J E F B ρ s env H a w → c.wpIn Fence.wide 0 P (fun e a w => ∃ F B ρ s env H, Q s e env H ∧ StI P G n J E F B ρ s env H a w) a w
section
variable {γ : Type} {P : Program} {G : Glob} {n : Nat} {J : CInv γ} {Q : γ → Post} {s : γ} {env : Env} {H : List Obj}
theorem vwpJ_of {c : Code} (h : VWp ⟨P, G, [], H.length, n⟩ c (Q s) env H) : VWpJ P G n J c Q s env H := by
 intro E F B ρ a w st
 refine wpIn_wide.2 ?_
 have st0 : St ⟨P, G, [], H.length, n⟩ ⟨F, ρ, H, w⟩ F ρ env H a w := ⟨st.sim, st.env, st.size, st.defers, evol_refl F ρ H w [], st.sim.len, st.glob⟩
 refine wp_mono (h _ F ρ a w st0) ?_
 rintro e a' w' ⟨F', ρ', env', H', q, st'⟩
 have ev := st'.evol
 have hB : ∀ b, B b → w'.heap[b]? = w.heap[b]? := fun b hb => ev.old b (J.lt s F B w st.inv b hb) (st.apL b hb)
 have hF' : ∀ b, F' b → F b ∨ liveBlock H ρ b ∨ w.heap.size ≤ b := ev.back
 have hapF : ∀ b, B b → ¬ F' b := by
  intro b hb hf
  rcases hF' b hf with h1 | h1 | h1
  ·exact st.apF b hb h1
  ·exact st.apL b hb h1
  ·exact absurd (J.lt s F B w st.inv b hb) (by omega)
 have hsame : ∀ b, F b ∨ B b → w'.heap[b]? = w.heap[b]? := by
  rintro b (hb | hb)
  ·exact ev.old b (st.sim.alloc b hb) fun ⟨i, o, h, g1, g2, g3, g4⟩ => st.sim.apart i o h b g1 g2 g3 g4 hb
  ·exact hB b hb
 refine ⟨F', B, ρ', s, env', H', q, st'.sim, st'.env, st'.size, st'.defers, st'.glob, ev.rho 0 _ st.yl (by simp), J.stable s F F' B w w' st.inv ev.frozen hapF st'.sim.alloc hsame ev.size ev.os ev.tape ev.output, hapF, ?_, fun b hb => ev.frozen b (st.sub b hb), ?_, ?_⟩
 ·intro b hb hl
  rcases ev.live b hl with h1 | h1
  ·exact st.apL b hb h1
  ·exact absurd (J.lt s F B w st.inv b hb) (by show ¬ b < w.heap.size; have : w.heap.size ≤ b := h1; omega)
 ·have hsz := st.upd.size
  rintro b (h1 | h1 | h1)
  ·rcases hF' b h1 with h2 | h2 | h2
   ·exact st.new b (.inl h2)
   ·exact st.new b (.inr (.inr h2))
   ·exact .inr (.inr (.inr (Nat.le_trans hsz h2)))
  ·exact st.new b (.inr (.inl h1))
  ·rcases ev.live b h1 with h2 | h2
   ·exact st.new b (.inr (.inr h2))
   ·exact .inr (.inr (.inr (Nat.le_trans hsz h2)))
 ·have hu : Upd (fun b => liveBlock H ρ b) w w' := ⟨ev.os, ev.tape, ev.output, ev.size, ev.old⟩
  refine ⟨ev.os.trans st.upd.os, ev.tape.trans st.upd.tape, ev.output.trans st.upd.output, Nat.le_trans st.upd.size ev.size, fun b hlt hn => ?_⟩
  refine (ev.old b (Nat.lt_of_lt_of_le hlt st.upd.size) fun hl => ?_).trans (st.upd.same b hlt hn)
  rcases st.new b (.inr (.inr hl)) with h1 | h1 | h1 | h1
  ·obtain ⟨i, o, h, g1, g2, g3, g4⟩ := hl
   exact st.sim.apart i o h b g1 g2 g3 g4 (st.sub b h1)
  ·exact hn (.inl h1)
  ·exact hn (.inr h1)
  ·omega
theorem vwpJ_seq {x y : Code} (h : VWpJ P G n J x (fun s => thenQ (VWpJ P G n J y Q s) (Q s)) s env H) : VWpJ P G n J (.seq x y) Q s env H := by
 intro E F B ρ a w st
 refine wpIn_seq (wpIn_mono (h E F B ρ a w st) ?_)
 rintro e a' w' ⟨F', B', ρ', s', env', H', q, st'⟩
 cases e with
 | normal => exact q E F' B' ρ' a' w' st'
 | exit id => exact ⟨F', B', ρ', s', env', H', q, st'⟩
 | goto l => exact ⟨F', B', ρ', s', env', H', q, st'⟩
 | ret => exact ⟨F', B', ρ', s', env', H', q, st'⟩
 | panic c => exact ⟨F', B', ρ', s', env', H', q, st'⟩
 | outgrown => exact ⟨F', B', ρ', s', env', H', q, st'⟩
theorem vwpJ_block {id : Nat} {c : Code} (h : VWpJ P G n J c (fun s => blockQ id (Q s)) s env H) : VWpJ P G n J (.block id c) Q s env H := by
 intro E F B ρ a w st
 refine wpIn_block (wpIn_mono (h E F B ρ a w st) ?_)
 rintro e a' w' ⟨F', B', ρ', s', env', H', q, st'⟩
 cases e with
 | exit id' =>
  simp only [Exit.inBlock, blockQ] at q ⊢
  split
  ·rename_i he; rw [if_pos he] at q; exact ⟨F', B', ρ', s', env', H', q, st'⟩
  ·rename_i he; rw [if_neg he] at q; exact ⟨F', B', ρ', s', env', H', q, st'⟩
 | normal => exact ⟨F', B', ρ', s', env', H', q, st'⟩
 | goto l => exact ⟨F', B', ρ', s', env', H', q, st'⟩
 | ret => exact ⟨F', B', ρ', s', env', H', q, st'⟩
 | panic c => exact ⟨F', B', ρ', s', env', H', q, st'⟩
 | outgrown => exact ⟨F', B', ρ', s', env', H', q, st'⟩
theorem vwpJ_exit {id : Nat} (h : Q s (.exit id) env H) : VWpJ P G n J (.exit id) Q s env H := fun E F B ρ a w st => wpIn_exit ⟨F, B, ρ, s, env, H, h, st⟩
theorem vwpJ_skip (h : Q s .normal env H) : VWpJ P G n J .skip Q s env H := fun E F B ρ a w st => wpIn_skip ⟨F, B, ρ, s, env, H, h, st⟩
theorem vwpJ_ret (h : Q s .ret env H) : VWpJ P G n J .ret Q s env H := fun E F B ρ a w st => wpIn_ret ⟨F, B, ρ, s, env, H, h, st⟩
theorem StI.weaken {E : Ent} {F B : Nat → Prop} {ρ : List Value} {env' : Env} {a : Act} {w : World} (st : StI P G n J E F B ρ s env' H a w) (h : Env.wk env env') : StI P G n J E F B ρ s env H a w :=
 ⟨st.sim, fun t => h t _ _ _ _ (st.env t), st.size, st.defers, st.glob, st.yl, st.inv, st.apF, st.apL, st.sub, st.new, st.upd⟩
theorem vwpJ_loop {α : Type} {c : Code} (e : α → Env) (h : α → List Obj) (φ : α → γ → Prop) (μ : α → Nat) (x0 : α) (h0 : φ x0 s) (he : Env.wk (e x0) env) (hH : H = h x0)
  (round : ∀ x s, φ x s → VWpJ P G n J c (fun s' => thenQ (fun env' H' => ∃ y, φ y s' ∧ μ y < μ x ∧ Env.wk (e y) env' ∧ H' = h y) (Q s')) s (e x) (h x)) : VWpJ P G n J (.loop c) Q s env H := by
 intro E F B ρ a w st
 refine wpIn_loop_ghost (fun m a w => ∃ x s F B ρ, μ x = m ∧ φ x s ∧ StI P G n J E F B ρ s (e x) (h x) a w) (μ x0) ⟨x0, s, F, B, ρ, rfl, h0, ?_⟩ ?_
 ·subst hH; exact st.weaken he
 ·rintro m a w ⟨x, s, F, B, ρ, rfl, hx, st⟩
  refine wpIn_mono (round x s hx E F B ρ a w st) ?_
  rintro e' a' w' ⟨F', B', ρ', s', env', H', q, st'⟩
  cases e' with
  | normal =>
   obtain ⟨y, hy, hlt, hle, rfl⟩ := q
   exact ⟨μ y, hlt, y, s', F', B', ρ', rfl, hy, st'.weaken hle⟩
  | exit id => exact ⟨F', B', ρ', s', env', H', q, st'⟩
  | goto l => exact ⟨F', B', ρ', s', env', H', q, st'⟩
  | ret => exact ⟨F', B', ρ', s', env', H', q, st'⟩
  | panic c => exact ⟨F', B', ρ', s', env', H', q, st'⟩
  | outgrown => exact ⟨F', B', ρ', s', env', H', q, st'⟩
theorem vwpJ_cond {t : Nat} {b : Bool} {x y : Code} (hc : get env t = .bool b) (h1 : b = true → VWpJ P G n J x Q s env H) (h2 : b = false → VWpJ P G n J y Q s env H) : VWpJ P G n J (.cond (.tmp t) x y) Q s env H := by
 intro E F B ρ a w st
 have h := st.env t
 rw [hc] at h
 simp only [Rel] at h
 refine wpIn_cond (t := b) (by simp only [Act.eval]; exact h) ?_
 cases b with
 | true => exact h1 rfl E F B ρ a w st
 | false => exact h2 rfl E F B ρ a w st
def PostJ (P : Program) (G : Glob) (n : Nat) (J : CInv γ) (E : Ent) (Q : γ → Post) : Exit → Act → World → Prop := fun e a w => ∃ F B ρ s env H, Q s e env H ∧ StI P G n J E F B ρ s env H a w
def VOpsJ (P : Program) (G : Glob) (n : Nat) (J : CInv γ) (ops : Array Oper) (l : List Oper) (Q : γ → Post) (s : γ) (env : Env) (H : List Obj) : Prop :=
 ∀ E F B ρ a w, StI P G n J E F B ρ s env H a w → wpListIn Fence.wide 0 P ops (PostJ P G n J E Q) l a w
theorem vwpJ_region {id : Nat} {ops : Array Oper} (h : VOpsJ P G n J ops ops.toList Q s env H) : VWpJ P G n J (.region id ops false) Q s env H :=
 fun E F B ρ a w st => wpIn_region_list (h E F B ρ a w st)
theorem vopsJ_done {ops : Array Oper} (h : Q s .normal env H) : VOpsJ P G n J ops [] Q s env H := fun E F B ρ a w st => ⟨F, B, ρ, s, env, H, h, st⟩
theorem StI.put {E : Ent} {F B : Nat → Prop} {ρ : List Value} {a : Act} {w : World} (st : StI P G n J E F B ρ s env H a w) {d : Option Tmp} {v : V} {mv : Value} (hd : dstOk n d = true) (hv : Rel F ρ w v mv) : StI P G n J E F B ρ s (putE d v env) H (a.put d mv) w := by
 have st0 : St ⟨P, G, [], H.length, n⟩ ⟨F, ρ, H, w⟩ F ρ env H a w := ⟨st.sim, st.env, st.size, st.defers, evol_refl F ρ H w [], st.sim.len, st.glob⟩
 have st1 := st0.putO hd hv
 exact ⟨st1.sim, st1.env, st1.size, st1.defers, st1.glob, st.yl, st.inv, st.apF, st.apL, st.sub, st.new, st.upd⟩
theorem vopsJ_quiet {T : Tab} (hT : T.Ok P) {ops : Array Oper} {o : Oper} {rest : List Oper} {v : V} {O : Prop} (hg : o.guard = none) (hdf : ∀ c, o.op ≠ .defer c) (hd : dstOk n o.dst = true) (hv : vop T H true env o.op = some (v, O)) (hO : O)
  (h : VOpsJ P G n J ops rest Q s (putE o.dst v env) H) : VOpsJ P G n J ops (o :: rest) Q s env H := by
 intro E F B ρ a w st
 have st0 : St ⟨P, G, [], H.length, n⟩ ⟨F, ρ, H, w⟩ F ρ env H a w := ⟨st.sim, st.env, st.size, st.defers, evol_refl F ρ H w [], st.sim.len, st.glob⟩
 obtain ⟨mv, hr, hrel⟩ := vop_run (p := ⟨P, G, [], H.length, n⟩) hT st0 rfl hv hO
 refine wpListIn_plain hg fun K hK => ⟨fun _ _ => trivial, ?_⟩
 rw [Oper.semAt_plain _ _ _ hdf, hr]
 exact hK _ _ (h E F B ρ _ w (st.put hd hrel))
theorem Sim.upd {F : Nat → Prop} {ρ : List Value} {w w' : World} {B : Nat → Prop} (sim : Sim F ρ H w) (u : Upd B w w') (hF : ∀ b, B b → ¬ F b) (hL : ∀ b, B b → ¬ liveBlock H ρ b) : Sim F ρ H w' := by
 have hs : ∀ b, F b → w'.heap[b]? = w.heap[b]? := fun b hb => u.same b (sim.alloc b hb) fun h => hF b h hb
 have g : Goes F ρ w F ρ w' := ⟨fun _ h => h, hs, fun _ _ h => h⟩
 refine ⟨sim.len, ?_, sim.apart, sim.inj, fun b hb => Nat.lt_of_lt_of_le (sim.alloc b hb) u.size⟩
 intro i o h hi hr
 have ho := sim.obj i o h hi hr
 by_cases hl : o.live = true
 ·exact ho.goes g fun b hb => u.same b (ho.block_lt hl hb) fun h2 => hL b h2 ⟨i, o, h, hi, hl, hr, hb⟩
 ·cases o <;> simp [Obj.live] at hl
  trivial
def RoundJ (P : Program) (G : Glob) (J : CInv γ) (s : γ) (v : V) (φ : Bool → γ → Prop) : Prop :=
 ∀ (F B : Nat → Prop) (w : World) (mv : Value), J.J s F B w → (∀ b, B b → ¬ F b) → (∀ b, F b → b < w.heap.size) → G.G F w → Rel F [] w v mv →
  YieldAt Fence.wide 0 P J.l #[mv] w fun e w' => ∃ b s' F' B', e = .returned (.bool b) ∧ φ b s' ∧ J.J s' F' B' w' ∧ Upd B w w' ∧ (∀ k, B' k → B k ∨ w.heap.size ≤ k) ∧ (∀ k, F k → F' k) ∧ (∀ k, F' k → F k ∨ B k ∨ w.heap.size ≤ k) ∧ (∀ k, B' k → ¬ F' k) ∧ (∀ k, F' k → k < w'.heap.size) ∧ G.G F' w'
theorem vopsJ_yield {ops : Array Oper} {o : Oper} {rest : List Oper} {x y : Operand} {ats : Array TypeId} {v : V} {φ : Bool → γ → Prop} (hg : o.guard = none) (ho : o.op = .call { callee := .value x, args := #[y], argTypes := ats }) (hd : dstOk n o.dst = true)
  (hx : ev env x = .obj 0) (hy : ev env y = v) (hcl : clean v = true) (hY : RoundJ P G J s v φ) (h : ∀ b s', φ b s' → VOpsJ P G n J ops rest Q s' (putE o.dst (.bool b) env) H) : VOpsJ P G n J ops (o :: rest) Q s env H := by
 intro E F B ρ a w st
 have st0 : St ⟨P, G, [], H.length, n⟩ ⟨F, ρ, H, w⟩ F ρ env H a w := ⟨st.sim, st.env, st.size, st.defers, evol_refl F ρ H w [], st.sim.len, st.glob⟩
 have hrx := st0.ev x
 rw [hx] at hrx
 simp only [Rel] at hrx
 have hxe : a.eval x = .func (.yield J.l) #[] #[] := by
  rw [st.yl] at hrx; exact (Option.some.inj hrx).symm
 have hry := st0.ev y
 rw [hy] at hry
 have hv : Rel F [] w v (a.eval y) := clean_rel _ _ hcl hry
 obtain ⟨fn, tmps, assign, body, hyr, hR⟩ := hY F B w (a.eval y) st.inv st.apF st.sim.alloc st.glob hv
 refine wpListIn_plain hg fun K hK => ⟨fun _ _ => trivial, ?_⟩
 rw [Oper.semAt_plain _ _ _ (by rw [ho]; intro c hc; cases hc)]
 have hrun : (execOp a.eval o).run P w = .ok (.round J.l fn tmps assign body) w := by
  simp only [execOp, ho, resolve, hxe, Deferred.ofValue, Sem.run_bind, Sem.run_pure, Result.andThen_ok, invoke]
  simpa using hyr
 rw [hrun, Oper.uponIn_round]
 refine ⟨fun h => by simp [Fence.wide] at h, hR.mono ?_⟩
 rintro e w' ⟨b, s', F', B', rfl, hφ, hJ, hu, hB', hF1, hF2, hF3, hF4, hG'⟩
 have hlt : ∀ k, F k ∨ liveBlock H ρ k → k < w.heap.size := by
  rintro k (hk | ⟨i, o2, h2, g1, g2, g3, g4⟩)
  ·exact st.sim.alloc k hk
  ·exact (st.sim.obj i o2 h2 g1 g3).block_lt g2 g4
 have hs : ∀ b, F b → w'.heap[b]? = w.heap[b]? := fun b hb => hu.same b (st.sim.alloc b hb) fun h => st.apF b h hb
 have g : Goes F ρ w F' ρ w' := ⟨hF1, hs, fun _ _ h => h⟩
 have hsim : Sim F' ρ H w' := by
  refine ⟨st.sim.len, ?_, ?_, st.sim.inj, hF4⟩
  ·intro i o h hi hr
   have ho := st.sim.obj i o h hi hr
   by_cases hl : o.live = true
   ·exact ho.goes g fun b hb => hu.same b (ho.block_lt hl hb) fun h2 => st.apL b h2 ⟨i, o, h, hi, hl, hr, hb⟩
   ·cases o <;> simp [Obj.live] at hl
    trivial
  ·intro i o h k hi hl hr hk hf
   have hlk : liveBlock H ρ k := ⟨i, o, h, hi, hl, hr, hk⟩
   rcases hF2 k hf with h1 | h1 | h1
   ·exact st.sim.apart i o h k hi hl hr hk h1
   ·exact st.apL k h1 hlk
   ·exact absurd (hlt k (.inr hlk)) (by omega)
 have st' : StI P G n J E F' B' ρ s' env H a w' := by
  refine ⟨hsim, fun t => Rel.goes g _ _ (st.env t), st.size, st.defers, hG', st.yl, hJ, hF3, ?_, fun b hb => hF1 b (st.sub b hb), ?_, ?_⟩
  ·intro k hk hf
   rcases hB' k hk with h1 | h1
   ·exact st.apL k h1 hf
   ·exact absurd (hlt k (.inr hf)) (by omega)
  ·have hsz := st.upd.size
   rintro k (h1 | h1 | h1)
   ·rcases hF2 k h1 with h2 | h2 | h2
    ·exact st.new k (.inl h2)
    ·exact st.new k (.inr (.inl h2))
    ·exact .inr (.inr (.inr (Nat.le_trans hsz h2)))
   ·rcases hB' k h1 with h2 | h2
    ·exact st.new k (.inr (.inl h2))
    ·exact .inr (.inr (.inr (Nat.le_trans hsz h2)))
   ·exact st.new k (.inr (.inr h1))
  ·refine ⟨hu.os.trans st.upd.os, hu.tape.trans st.upd.tape, hu.output.trans st.upd.output, Nat.le_trans st.upd.size hu.size, fun k hlt2 hn => ?_⟩
   refine (hu.same k (Nat.lt_of_lt_of_le hlt2 st.upd.size) fun hk => ?_).trans (st.upd.same k hlt2 hn)
   rcases st.new k (.inr (.inl hk)) with h1 | h1 | h1 | h1
   ·exact st.apF k hk (st.sub k h1)
   ·exact hn (.inl h1)
   ·exact hn (.inr h1)
   ·omega
 exact hK _ _ (h b s' hφ E F' B' ρ _ w' (st'.put hd (by simp only [Rel])))
theorem entry_tmps {F : Nat → Prop} {ρ : List Value} {w : World} {args : List V} {ms : List Value} {k : Nat} (hr : RelL F ρ w args ms) (hn : args.length ≤ k) (t : Nat) : Rel F ρ w (get (entryEnv 0 args) t) ((ms.toArray ++ Array.replicate (k - ms.toArray.size) undef).getD t undef) := by
 have := entry_rel (F := F) (ρ := ρ) (w := w) 0 t hr
 rw [if_pos (Nat.zero_le _), Nat.sub_zero] at this
 have he : (ms.toArray ++ Array.replicate (k - ms.toArray.size) undef).getD t undef = ms.getD t undef := by
  rw [Array.getD_eq_getD_getElem?, Array.getElem?_append, List.getD_eq_getElem?_getD]
  split
  ·rename_i hlt
   simp
  ·rename_i hlt
   simp only [List.size_toArray, Nat.not_lt] at hlt
   rw [List.getElem?_eq_none hlt, Array.getElem?_replicate]
   split <;> rfl
 rw [he]; exact this
theorem iter_of {f : FuncId} {fn : Func} {c : Code} {args : List V} {s0 : γ} {φ : γ → Prop} (hf : P.funcs[f]? = some fn) (hb : fn.body = some c) (hn : args.length + 1 ≤ fn.ntmps) (hres : fn.results = #[])
  (h : VWpJ P G fn.ntmps J c (fun s e _ _ => (e = .normal ∨ e = .ret) ∧ φ s) s0 (entryEnv 0 (.obj 0 :: args)) (.dead :: H))
  {F B : Nat → Prop} {ρ : List Value} {w : World} {ms : List Value} (sim : Sim F (.func (.yield J.l) #[] #[] :: ρ) (.dead :: H) w) (hr : RelL F (.func (.yield J.l) #[] #[] :: ρ) w args ms) (hG : G.G F w) (hJ : J.J s0 F B w)
  (hF : ∀ b, B b → ¬ F b) (hL : ∀ b, B b → ¬ liveBlock (.dead :: H) (.func (.yield J.l) #[] #[] :: ρ) b) :
  CallsIn Fence.wide 0 P f (.func (.yield J.l) #[] #[] :: ms).toArray w fun e w' => ∃ s B' F' v, e = .returned v ∧ φ s ∧ J.J s F' B' w' ∧ (∀ b, B' b → ¬ F' b) ∧ (∀ b, F b → F' b) ∧ G.G F' w' ∧ (∀ b, F' b → b < w'.heap.size) ∧
   (∀ b, F' b ∨ B' b → F b ∨ B b ∨ liveBlock (.dead :: H) (.func (.yield J.l) #[] #[] :: ρ) b ∨ w.heap.size ≤ b) ∧ Upd (fun b => B b ∨ liveBlock (.dead :: H) (.func (.yield J.l) #[] #[] :: ρ) b) w w' := by
 refine callsIn_of_wp hf hb trivial ?_
 have hr2 : RelL F (.func (.yield J.l) #[] #[] :: ρ) w (.obj 0 :: args) (.func (.yield J.l) #[] #[] :: ms) := by
  simp only [RelL]
  exact ⟨_, _, rfl, by simp [Rel], hr⟩
 have hlen := RelL.length hr2
 have st : StI P G fn.ntmps J ⟨F, liveBlock (.dead :: H) (.func (.yield J.l) #[] #[] :: ρ), B, w⟩ F B (.func (.yield J.l) #[] #[] :: ρ) s0 (entryEnv 0 (.obj 0 :: args)) (.dead :: H) { tmps := (.func (.yield J.l) #[] #[] :: ms).toArray ++ Array.replicate (fn.ntmps - (.func (.yield J.l) #[] #[] :: ms : List Value).toArray.size) undef, defers := [] } w := by
  refine ⟨sim, fun t => entry_tmps hr2 (by simpa using hn) t, ?_, rfl, hG, rfl, hJ, hF, hL, fun _ h => h, ?_, Upd.refl _ _⟩
  ·simp at hlen ⊢; omega
  ·rintro b (h1 | h1 | h1)
   ·exact .inl h1
   ·exact .inr (.inl h1)
   ·exact .inr (.inr (.inl h1))
 refine wpIn_mono (h _ F B _ _ w st) ?_
 rintro e a' w' ⟨F', B', ρ', s', env', H', ⟨hq, hφ⟩, st'⟩
 have fin : ∀ v, ∃ s B' F' v', (Ending.returned v : Ending) = .returned v' ∧ φ s ∧ J.J s F' B' w' ∧ (∀ b, B' b → ¬ F' b) ∧ (∀ b, F b → F' b) ∧ G.G F' w' ∧ (∀ b, F' b → b < w'.heap.size) ∧
   (∀ b, F' b ∨ B' b → F b ∨ B b ∨ liveBlock (.dead :: H) (.func (.yield J.l) #[] #[] :: ρ) b ∨ w.heap.size ≤ b) ∧ Upd (fun b => B b ∨ liveBlock (.dead :: H) (.func (.yield J.l) #[] #[] :: ρ) b) w w' :=
  fun v => ⟨s', B', F', v, rfl, hφ, st'.inv, st'.apF, st'.sub, st'.glob, st'.sim.alloc, fun b hb => st'.new b (hb.elim .inl fun h => .inr (.inl h)), st'.upd⟩
 rcases hq with rfl | rfl
 ·exact ⟨st'.defers, _, results_none hres _ _ _, fin _⟩
 ·exact ⟨st'.defers, _, results_none hres _ _ _, fin _⟩
end
end Go.Q
end

section
/- Range over functions, in the logic 'Q': the caller's rounds. -/
namespace Go.Q
open Go
structure RCfg (γ : Type) where
 l : Nat
 D : Nat
 fn : FuncId
 tmps : Array Value
 ps : Array Tmp
 assign : Code
 body : Code
 envK : Env
 K : γ → List Obj
 st : γ → LoopState
 pend : γ → Option Code
 ne : l ≠ D
variable {γ : Type}
def RCfg.rcd (c : RCfg γ) (s : LoopState) (q : Option Code) : Loop := { state := s, pending := q, fn := c.fn, tmps := c.tmps, params := c.ps, assign := c.assign, body := c.body, defers := c.D }
def JR (c : RCfg γ) : CInv γ := {
 l := c.l
 J s F B w := ∃ ρ, Sim F ρ (c.K s) w ∧ (∀ t, Rel F ρ w (get c.envK t) (c.tmps.getD t undef)) ∧ w.heap[c.l]? = some (.loop (c.rcd (c.st s) (c.pend s))) ∧ w.heap[c.D]? = some (.deferred (some [])) ∧
  (∀ b, B b ↔ (b = c.l ∨ b = c.D ∨ liveBlock (c.K s) ρ b)) ∧ ¬ liveBlock (c.K s) ρ c.l ∧ ¬ liveBlock (c.K s) ρ c.D
 stable s F F' B w w' h hF hB hlt hs hsz hos ht hou := by
  obtain ⟨ρ, sim, henv, hl, hD, hb, nl, nD⟩ := h
  have g : Goes F ρ w F' ρ w' := ⟨hF, fun b hb => hs b (.inl hb), fun _ _ h => h⟩
  refine ⟨ρ, ⟨sim.len, ?_, ?_, sim.inj, hlt⟩, fun t => Rel.goes g _ _ (henv t), ?_, ?_, hb, nl, nD⟩
  ·intro i o h hi hr
   have ho := sim.obj i o h hi hr
   by_cases hlv : o.live = true
   ·exact ho.goes g fun b hk => hs b (.inr ((hb b).2 (.inr (.inr ⟨i, o, h, hi, hlv, hr, hk⟩))))
   ·cases o <;> simp [Obj.live] at hlv
    trivial
  ·intro i o h b hi hlv hr hk hf
   exact hB b ((hb b).2 (.inr (.inr ⟨i, o, h, hi, hlv, hr, hk⟩))) hf
  ·rw [hs c.l (.inr ((hb _).2 (.inl rfl)))]; exact hl
  ·rw [hs c.D (.inr ((hb _).2 (.inr (.inl rfl))))]; exact hD
 lt s F B w h b hB := by
  obtain ⟨ρ, sim, henv, hl, hD, hb, nl, nD⟩ := h
  rcases (hb b).1 hB with rfl | rfl | ⟨i, o, h, g1, g2, g3, g4⟩
  ·exact (Array.getElem?_eq_some_iff.1 hl).1
  ·exact (Array.getElem?_eq_some_iff.1 hD).1
  ·exact (sim.obj i o h g1 g3).block_lt g2 g4 }
def endQ (c : RCfg γ) (s : γ) (φ : Bool → γ → Prop) : Post
 | .normal, _, H => ∃ s', φ true s' ∧ trimH (c.K s).length H = c.K s' ∧ (c.K s').length = (c.K s).length ∧ (c.K s).length ≤ H.length ∧ c.st s' = .ready ∧ c.pend s' = none
 | .ret, _, H => ∃ s', φ false s' ∧ trimH (c.K s).length H = c.K s' ∧ (c.K s').length = (c.K s).length ∧ (c.K s).length ≤ H.length ∧ c.st s' = .done ∧ c.pend s' = some .ret
 | _, _, _ => False
def notIn (M : List Nat) (j : Nat) : Option Nat := if j ∈ M then none else some j
theorem round_of {P : Program} {G : Glob} {M : List Nat} (c : RCfg γ) (t : Tmp) (hps : c.ps = #[t]) {s : γ} {v : V} {φ : Bool → γ → Prop} (hst : c.st s = .ready) (hpd : c.pend s = none) (htl : t < c.tmps.size)
  (hk : ∀ t, ren (notIn M) (get c.envK t) = get c.envK t) (hKp : ∀ t, ren (below (c.K s).length) (get c.envK t) = get c.envK t)
  (hA : VWpR c.l ⟨P, G, M, (c.K s).length, c.tmps.size⟩ c.assign (fun e env H => e = .normal ∧ (c.K s).length ≤ H.length ∧ VWpR c.l ⟨P, G, M, H.length, c.tmps.size⟩ c.body (endQ c s φ) env H) ((t, v) :: c.envK) (c.K s)) :
  RoundJ P G (JR c) s v φ := by
 intro F B w mv hJ hBF hFlt hG hv
 obtain ⟨ρ, sim, henv, hl, hD, hb, nl, nD⟩ := hJ
 rw [hst, hpd] at hl
 have hll : c.l < w.heap.size := (Array.getElem?_eq_some_iff.1 hl).1
 have hDl : c.D < w.heap.size := (Array.getElem?_eq_some_iff.1 hD).1
 have nFl : ¬ F c.l := hBF _ ((hb _).2 (.inl rfl))
 have nFD : ¬ F c.D := hBF _ ((hb _).2 (.inr (.inl rfl)))
 refine ⟨_, _, _, _, run_yield hl (by simp [RCfg.rcd, hps]), roundIn_of_wpIn trivial ?_⟩
 have hset : ((c.rcd LoopState.ready none).params.zip #[mv]).foldl (fun tmps (t, a) => tmps.setIfInBounds t a) (c.rcd LoopState.ready none).tmps = c.tmps.setIfInBounds t mv := by simp [RCfg.rcd, hps]
 rw [hset]
 have st : St ⟨P, G, M, (c.K s).length, c.tmps.size⟩ ⟨F, ρ, c.K s, w⟩ F ρ ((t, v) :: c.envK) (c.K s) { tmps := c.tmps.setIfInBounds t mv, defers := [] } w := by
  refine ⟨sim, fun t' => ?_, by simp, rfl, evol_refl F ρ (c.K s) w M, sim.len, hG⟩
  simp only [get]
  cases h : (t == t') with
  | true =>
   have h' := eq_of_beq h
   subst h'
   simp only [cond_true]
   have : (c.tmps.setIfInBounds t mv).getD t undef = mv := by simp [Array.getD, htl]
   rw [this]
   exact Rel.goes ⟨fun _ h => h, fun _ _ => rfl, fun _ _ h => by simp at h⟩ _ _ hv
  | false =>
   have h' : t ≠ t' := by simpa using h
   have : (c.tmps.setIfInBounds t mv).getD t' undef = c.tmps.getD t' undef := by simp [Array.getD_eq_getD_getElem?, Array.getElem?_setIfInBounds, h']
   simp only [cond_false]
   rw [this]; exact henv t'
 refine wpIn_mono (hA _ F ρ _ w st) ?_
 rintro e a1 w1 ⟨F1, ρ1, env1, H1, ⟨rfl, hle1, hB1⟩, st1⟩
 have ev1 := st1.evol
 have hsz1 : w.heap.size ≤ w1.heap.size := ev1.size
 have hl1 : w1.heap[c.l]? = some (.loop (c.rcd .ready none)) := (ev1.old c.l hll nl).trans hl
 have hD1 : w1.heap[c.D]? = some (.deferred (some [])) := (ev1.old c.D hDl nD).trans hD
 have nF1 : ∀ b, b < w.heap.size → ¬ F b → ¬ liveBlock (c.K s) ρ b → ¬ F1 b := by
  intro b hlt h1 h2 h3
  rcases ev1.back b h3 with h | h | h
  ·exact h1 h
  ·exact h2 h
  ·exact absurd hlt (by show ¬ b < w.heap.size; have : w.heap.size ≤ b := h; omega)
 have nL1 : ∀ b, b < w.heap.size → ¬ liveBlock (c.K s) ρ b → ¬ liveBlock H1 ρ1 b := by
  intro b hlt h2 h3
  rcases ev1.live b h3 with h | h
  ·exact h2 h
  ·exact absurd hlt (by show ¬ b < w.heap.size; have : w.heap.size ≤ b := h; omega)
 have hbr := run_beginRound (P := P) hl1 rfl
 have u12 : Upd (fun b => b = c.l) w1 (w1.putObj c.l (.loop { c.rcd .ready none with state := .busy })) := ⟨rfl, rfl, rfl, by simp, fun b _ hb => World.putObj_heap_other hb⟩
 have hl2 : (w1.putObj c.l (.loop { c.rcd .ready none with state := .busy })).heap[c.l]? = some (.loop (c.rcd .busy none)) := World.putObj_heap_same (Nat.lt_of_lt_of_le hll hsz1)
 have hD2 : (w1.putObj c.l (.loop { c.rcd .ready none with state := .busy })).heap[c.D]? = some (.deferred (some [])) := (World.putObj_heap_other (fun e => c.ne e.symm)).trans hD1
 generalize w1.putObj c.l (.loop { c.rcd .ready none with state := .busy }) = w2 at u12 hl2 hD2 hbr
 refine ⟨w2, hbr, ?_⟩
 have g12 : Goes F1 ρ1 w1 F1 ρ1 w2 := ⟨fun _ h => h, fun b hb => u12.same b (st1.sim.alloc b hb) (by rintro rfl; exact nF1 _ hll nFl nl hb), fun _ _ h => h⟩
 have sim2 : Sim F1 ρ1 H1 w2 := st1.sim.upd u12 (by rintro b rfl; exact nF1 _ hll nFl nl) (by rintro b rfl; exact nL1 _ hll nl)
 have st2 : St ⟨P, G, M, H1.length, c.tmps.size⟩ ⟨F1, ρ1, H1, w2⟩ F1 ρ1 env1 H1 a1 w2 := ⟨sim2, fun t => Rel.goes g12 _ _ (st1.env t), st1.size, st1.defers, evol_refl F1 ρ1 H1 w2 M, sim2.len, G.stable F1 w1 F1 w2 (fun _ h => h) g12.same st1.glob⟩
 refine wpIn_mono (hB1 _ F1 ρ1 a1 w2 st2) ?_
 rintro e a3 w3 ⟨F3, ρ3, env3, H3, hq, st3⟩
 have ev3 := st3.evol
 have hs2 : w.heap.size ≤ w2.heap.size := Nat.le_trans hsz1 u12.size
 have hsz3 : w2.heap.size ≤ w3.heap.size := ev3.size
 have hl3 : w3.heap[c.l]? = some (.loop (c.rcd .busy none)) := (ev3.old c.l (Nat.lt_of_lt_of_le hll hs2) (nL1 _ hll nl)).trans hl2
 have hD3 : w3.heap[c.D]? = some (.deferred (some [])) := (ev3.old c.D (Nat.lt_of_lt_of_le hDl hs2) (nL1 _ hDl nD)).trans hD2
 have nF3 : ∀ b, b < w.heap.size → ¬ F b → ¬ liveBlock (c.K s) ρ b → ¬ F3 b := by
  intro b hlt h1 h2 h3
  rcases ev3.back b h3 with h | h | h
  ·exact nF1 b hlt h1 h2 h
  ·exact nL1 b hlt h2 h
  ·exact absurd hlt (by have : w2.heap.size ≤ b := h; omega)
 have nL3 : ∀ b, b < w.heap.size → ¬ liveBlock (c.K s) ρ b → ¬ liveBlock H3 ρ3 b := by
  intro b hlt h2 h3
  rcases ev3.live b h3 with h | h
  ·exact nL1 b hlt h2 h
  ·exact absurd hlt (by have : w2.heap.size ≤ b := h; omega)
 have fin : ∀ (jump : Option Code) (s' : γ), φ jump.isNone s' → trimH (c.K s).length H3 = c.K s' → (c.K s).length ≤ H3.length → c.st s' = (if jump.isNone then .ready else .done) → c.pend s' = jump →
   ∃ v w', (Instr.endRound c.l jump).run P w3 = .ok v w' ∧ ∃ b s' F' B', (Ending.returned v : Ending) = .returned (.bool b) ∧ φ b s' ∧ (JR c).J s' F' B' w' ∧ Upd B w w' ∧ (∀ k, B' k → B k ∨ w.heap.size ≤ k) ∧ (∀ k, F k → F' k) ∧ (∀ k, F' k → F k ∨ B k ∨ w.heap.size ≤ k) ∧ (∀ k, B' k → ¬ F' k) ∧ (∀ k, F' k → k < w'.heap.size) ∧ G.G F' w' := by
  intro jump s' hφ htr hle hst' hpd'
  have her := run_endRound (P := P) jump hl3
  have u34 : Upd (fun b => b = c.l) w3 (w3.putObj c.l (.loop { c.rcd .busy none with state := if jump.isNone then .ready else .done, pending := jump })) := ⟨rfl, rfl, rfl, by simp, fun b _ hb => World.putObj_heap_other hb⟩
  have hl4 : (w3.putObj c.l (.loop { c.rcd .busy none with state := if jump.isNone then .ready else .done, pending := jump })).heap[c.l]? = some (.loop (c.rcd (c.st s') (c.pend s'))) := by
   rw [World.putObj_heap_same (by omega), hst', hpd']; rfl
  have hD4 : (w3.putObj c.l (.loop { c.rcd .busy none with state := if jump.isNone then .ready else .done, pending := jump })).heap[c.D]? = some (.deferred (some [])) := (World.putObj_heap_other (fun e => c.ne e.symm)).trans hD3
  generalize w3.putObj c.l (.loop { c.rcd .busy none with state := if jump.isNone then .ready else .done, pending := jump }) = w4 at u34 hl4 hD4 her
  refine ⟨_, w4, her, ?_⟩
  have htl : ∀ b, liveBlock (c.K s') (ρ3.take (c.K s).length) b → liveBlock H3 ρ3 b := fun b hb => trim_live (by rw [htr]; exact hb)
  have sim3 : Sim F3 (ρ3.take (c.K s).length) (c.K s') w3 := htr ▸ st3.sim.trim (c.K s).length
  have sim4 := sim3.upd u34 (by rintro b rfl; exact nF3 _ hll nFl nl) (by rintro b rfl; exact fun h => nL3 _ hll nl (htl _ h))
  have hFs : ∀ b, F b → w4.heap[b]? = w.heap[b]? := by
   intro b hb
   have hlt := hFlt b hb
   have hnl : ¬ liveBlock (c.K s) ρ b := fun ⟨i, o, h, g1, g2, g3, g4⟩ => sim.apart i o h b g1 g2 g3 g4 hb
   have hbl : b ≠ c.l := by rintro rfl; exact nFl hb
   rw [u34.same b (by omega) hbl, ev3.old b (Nat.lt_of_lt_of_le hlt hs2) (nL1 b hlt hnl), u12.same b (Nat.lt_of_lt_of_le hlt hsz1) hbl, ev1.old b hlt hnl]
  have hF13 : ∀ b, F b → F3 b := fun b hb => ev3.frozen b (ev1.frozen b hb)
  refine ⟨jump.isNone, s', F3, fun b => b = c.l ∨ b = c.D ∨ liveBlock (c.K s') (ρ3.take (c.K s).length) b, rfl, hφ, ⟨ρ3.take (c.K s).length, sim4, fun t => ?_, hl4, hD4, fun b => Iff.rfl, fun h => nL3 _ hll nl (htl _ h), fun h => nL3 _ hDl nD (htl _ h)⟩, ?_, ?_, hF13, ?_, ?_, sim4.alloc, ?_⟩
  ·have h1 := ren_rel (f := notIn M) (ρ' := ρ3) (fun j i h hj hr => by
    unfold notIn at hj
    split at hj
    ·cases hj
    ·rename_i hm
     injection hj with hj; subst hj
     exact ev3.rho j h (ev1.rho j h hr hm) hm) _ _ (henv t)
   rw [hk] at h1
   have h2 := ren_rel (fun j i h => below_hf (c.K s).length j i h) _ _ h1
   rw [hKp] at h2
   exact Rel.goes ⟨hF13, hFs, fun _ _ h => h⟩ _ _ h2
  ·refine ⟨u34.os.trans (ev3.os.trans (u12.os.trans ev1.os)), u34.tape.trans (ev3.tape.trans (u12.tape.trans ev1.tape)), u34.output.trans (ev3.output.trans (u12.output.trans ev1.output)), by have := u34.size; omega, fun b hlt hn => ?_⟩
   have hbl : b ≠ c.l := fun e => hn ((hb b).2 (.inl e))
   have hnl : ¬ liveBlock (c.K s) ρ b := fun h => hn ((hb b).2 (.inr (.inr h)))
   rw [u34.same b (by omega) hbl, ev3.old b (Nat.lt_of_lt_of_le hlt hs2) (nL1 b hlt hnl), u12.same b (Nat.lt_of_lt_of_le hlt hsz1) hbl, ev1.old b hlt hnl]
  ·rintro k (rfl | rfl | h)
   ·exact .inl ((hb _).2 (.inl rfl))
   ·exact .inl ((hb _).2 (.inr (.inl rfl)))
   ·rcases ev3.live k (htl k h) with h1 | h1
    ·rcases ev1.live k h1 with h2 | h2
     ·exact .inl ((hb _).2 (.inr (.inr h2)))
     ·exact .inr h2
    ·exact .inr (Nat.le_trans hs2 h1)
  ·intro k h
   rcases ev3.back k h with h1 | h1 | h1
   ·rcases ev1.back k h1 with h2 | h2 | h2
    ·exact .inl h2
    ·exact .inr (.inl ((hb _).2 (.inr (.inr h2))))
    ·exact .inr (.inr h2)
   ·rcases ev1.live k h1 with h2 | h2
    ·exact .inr (.inl ((hb _).2 (.inr (.inr h2))))
    ·exact .inr (.inr h2)
   ·exact .inr (.inr (Nat.le_trans hs2 h1))
  ·rintro k (rfl | rfl | ⟨i, o, h, g1, g2, g3, g4⟩) hf
   ·exact nF3 _ hll nFl nl hf
   ·exact nF3 _ hDl nFD nD hf
   ·exact sim4.apart i o h k g1 g2 g3 g4 hf
  ·exact G.stable F3 w3 F3 w4 (fun _ h => h) (fun b hb' => u34.same b (st3.sim.alloc b hb') (by rintro rfl; exact nF3 _ hll nFl nl hb')) st3.glob
 cases e with
 | normal =>
  obtain ⟨s', h1, h2, _, h4, h5, h6⟩ := hq
  exact fin none s' h1 h2 h4 h5 h6
 | ret =>
  obtain ⟨s', h1, h2, _, h4, h5, h6⟩ := hq
  exact fin (some .ret) s' h1 h2 h4 h5 h6
 | _ => exact hq.elim
end Go.Q
end

section
/- Range over functions, in the logic 'Q': the code behind the loop, which runs with the loop's mark. -/
namespace Go.Q
open Go
def wd (d : List Deferred) (a : Act) : Act := { a with defers := a.defers ++ d }
def liftD (d : List Deferred) (Q : Exit → Act → World → Prop) : Exit → Act → World → Prop := fun e a w => ∃ a0, Q e a0 w ∧ a = wd d a0
theorem put_wd (d : List Deferred) (a : Act) (t : Option Tmp) (v : Value) : (wd d a).put t v = wd d (a.put t v) := by cases t <;> rfl
theorem letsOut_D {d : List Deferred} {Q : Exit → Act → World → Prop} (h : LetsOut Q) : LetsOut (liftD d Q) := by
 obtain ⟨a, w, h⟩ := h
 exact ⟨wd d a, w, a, h, rfl⟩
theorem opInD {P : Program} {n : Nat} {d : List Deferred} {o : Oper} {a : Act} {w : World} {next : Act → World → Prop} {Q : Exit → Act → World → Prop} (hd : ∀ c, o.op ≠ .defer c) (h : o.wp P a w next Q) :
  o.wpIn Fence.wide n P (wd d a) w (fun a' w' => ∃ a0, next a0 w' ∧ a' = wd d a0) (liftD d Q) := by
 refine ⟨fun _ _ => trivial, ?_⟩
 rw [Oper.semAt_plain _ _ _ hd]
 unfold Oper.wp at h
 have he : (wd d a).eval = a.eval := rfl
 rw [he]
 revert h
 generalize (execOp a.eval o).run P w = res
 intro h
 cases res with
 | ok nx w' =>
  cases nx with
  | value v => exact ⟨_, h, put_wd d a _ _⟩
  | skip => exact ⟨_, h, put_wd d a _ _⟩
  | defer x => exact ⟨_, h, put_wd d { a with defers := x :: a.defers } _ _⟩
  | enter f args =>
   refine ⟨fun h => by simp [Fence.wide] at h, callsIn_wide.2 (Calls.mono h ?_)⟩
   intro e w2 h2
   cases e with
   | returned v => exact ⟨_, h2, put_wd d a _ _⟩
   | panicked chain => exact ⟨a, h2, rfl⟩
   | outgrown => exact letsOut_D h2
  | row row args =>
   refine ⟨fun h => by simp [Fence.wide] at h, fun c cs _ => ?_⟩
   obtain ⟨v, w2, r, s⟩ := h c cs
   exact ⟨v, w2, ⟨_, r, put_wd d a _ _⟩, stepsIn_wide.2 s⟩
  | _ => exact h.elim
 | halt x w' => cases x <;> first | exact ⟨a, h, rfl⟩ | exact h.elim
theorem listInD {P : Program} {n : Nat} {d : List Deferred} {ops : Array Oper} {Q : Exit → Act → World → Prop} (hno : ¬ LetsOut Q) : ∀ {l : List Oper} {a : Act} {w : World}, (∀ o ∈ l, ∀ c, o.op ≠ .defer c) → wpList P ops Q l a w → wpListIn Fence.wide n P ops (liftD d Q) l (wd d a) w
 | [], a, w, _, h => ⟨a, h, rfl⟩
 | o :: l, a, w, hd, h => by
  simp only [wpList] at h
  simp only [wpListIn]
  split at h
  ·rename_i hw
   rw [if_pos (show Region.wanted o (yielded ops (wd d a).tmps) = true from hw)]
   rcases h with h | h
   ·refine Oper.wpIn_mono ?_ (opInD (n := n) (d := d) (hd o (by simp)) h)
    rintro a' w' ⟨a0, h0, rfl⟩
    exact listInD hno (fun o ho => hd o (by simp [ho])) h0
   ·exact absurd h.2 hno
  ·rename_i hw
   rw [if_neg (show ¬ Region.wanted o (yielded ops (wd d a).tmps) = true from hw), put_wd]
   exact ⟨fun _ _ => trivial, listInD hno (fun o ho => hd o (by simp [ho])) h⟩
theorem regionD {p : Par} {d : List Deferred} {Q : Post} {env : Env} {H : List Obj} {id : Nat} {ops : Array Oper} (hp : plainOps ops.toList = true) (hno : ∀ env H, ¬ Q .outgrown env H) (h : VOps p ops ops.toList Q env H) {E : Entry} {F : Nat → Prop} {ρ : List Value} {a : Act} {w : World}
  (st : St p E F ρ env H a w) : (Code.region id ops false).wpIn Fence.wide 0 p.P (liftD d (Lift p E Q)) (wd d a) w := by
 refine wpIn_region_list (listInD ?_ (plainOps_ok hp) (h E F ρ a w st))
 rintro ⟨a', w', F', ρ', env', H', q, _⟩
 exact hno _ _ q
end Go.Q
end

section
/- Range over functions, in the logic 'Q': the statement. -/
namespace Go.Q
open Go
def IterGives {γ : Type} (P : Program) (G : Glob) (J : CInv γ) (f : FuncId) (csI : List V) (HI : List Obj) (s0 : γ) (φ : γ → Prop) : Prop :=
 ∀ {F B : Nat → Prop} {ρ : List Value} {w : World} {ms : List Value}, Sim F (.func (.yield J.l) #[] #[] :: ρ) (.dead :: HI) w → RelL F (.func (.yield J.l) #[] #[] :: ρ) w csI ms → G.G F w → J.J s0 F B w →
  (∀ b, B b → ¬ F b) → (∀ b, B b → ¬ liveBlock (.dead :: HI) (.func (.yield J.l) #[] #[] :: ρ) b) →
  CallsIn Fence.wide 0 P f (.func (.yield J.l) #[] #[] :: ms).toArray w fun e w' => ∃ s B' F' v, e = .returned v ∧ φ s ∧ J.J s F' B' w' ∧ (∀ b, B' b → ¬ F' b) ∧ (∀ b, F b → F' b) ∧ G.G F' w' ∧ (∀ b, F' b → b < w'.heap.size) ∧
   (∀ b, F' b ∨ B' b → F b ∨ B b ∨ liveBlock (.dead :: HI) (.func (.yield J.l) #[] #[] :: ρ) b ∨ w.heap.size ≤ b) ∧ Upd (fun b => B b ∨ liveBlock (.dead :: HI) (.func (.yield J.l) #[] #[] :: ρ) b) w w'
def laid (w : World) (r : Loop) : World := (w.alloc (.deferred (some []))).alloc (.loop r)
theorem laid_below (w : World) (r : Loop) : RowKit.Below w.heap.size w (laid w r) := by
 refine ⟨rfl, rfl, rfl, by simp [laid]; omega, fun k hk => ?_⟩
 show ((w.heap.push _).push _)[k]? = _
 rw [Array.getElem?_push, Array.getElem?_push]
 simp; rw [if_neg (by omega), if_neg (by omega)]
theorem laid_D (w : World) (r : Loop) : (laid w r).heap[w.heap.size]? = some (.deferred (some [])) := by
 show ((w.heap.push _).push _)[w.heap.size]? = _
 rw [Array.getElem?_push, Array.getElem?_push]
 simp
theorem laid_l (w : World) (r : Loop) : (laid w r).heap[w.heap.size + 1]? = some (.loop r) := by
 show ((w.heap.push _).push _)[w.heap.size + 1]? = _
 rw [Array.getElem?_push]
 simp
theorem live_in {H : List Obj} {ρ : List Value} {ix : List Nat} {b : Nat} (hlen : ρ.length = H.length) (hlt : ∀ i ∈ ix, i < H.length) (h : liveBlock (viewIn H ix) (ix.map fun i => ρ.getD i undef) b) :
  ∃ i ∈ ix, ∃ (o : Obj) (h : Value), H[i]? = some o ∧ o.live = true ∧ ρ[i]? = some h ∧ blk h = some b := by
 obtain ⟨j, o, x, h1, h2, h3, h4⟩ := h
 simp only [viewIn, List.getElem?_map, Option.map_eq_some_iff] at h1
 obtain ⟨i, g1, rfl⟩ := h1
 have hi := hlt i (List.mem_of_getElem? g1)
 rw [renO_live] at h2
 refine ⟨i, List.mem_of_getElem? g1, H[i], x, by simp [hi], by simpa [List.getD, hi] using h2, ?_, h4⟩
 have hi2 : i < ρ.length := by rw [hlen]; exact hi
 simp [g1, List.getD, hi2] at h3
 rw [← h3]; simp [hi2]
variable {γ : Type} {P : Program} {G : Glob}
theorem range_wp {p : Par} {E : Entry} {F : Nat → Prop} {ρ : List Value} {env : Env} {H : List Obj} {a : Act} {w : World} (st : St p E F ρ env H a w) (K : γ → List Obj) (s0 : γ) (envK : Env) (stt : γ → LoopState) (pend : γ → Option Code)
  {g t : Nat} {assign bdy : Code} {fI : FuncId} {cs csI : List V} {HI : List Obj} {φ : γ → Prop} (ixI ixK : List Nat) {Q : Exit → Act → World → Prop}
  (hg : get env g = .func (.func fI) [] cs) (hbI : bodied p.P fI = true) (hst0 : stt s0 = .ready) (hpd0 : pend s0 = none)
  (hndI : (H.length :: ixI).Nodup) (hltI : ∀ i ∈ ixI, i < H.length) (hndK : ixK.Nodup) (hltK : ∀ i ∈ ixK, i < H.length) (hdis : ∀ i ∈ ixI, i ∉ ixK)
  (hK : K s0 = viewIn H ixK) (hHI : viewIn (H ++ [.dead]) (H.length :: ixI) = .dead :: HI) (hcs : WkL (renL (posIn (H.length :: ixI)) cs) csI)
  (hEnv : ∀ t, Wk (ren (posIn ixK) (get env t)) (get envK t))
  (hI : ∀ c : RCfg γ, c.K = K → c.envK = envK → c.st = stt → c.pend = pend → c.ps = #[t] → c.assign = assign → c.body = bdy → c.tmps.size = p.n → IterGives p.P p.glob (JR c) fI csI HI s0 φ)
  (hQ : ∀ (c : RCfg γ) s F' B' w3, c.l = w.heap.size + 1 → c.D = w.heap.size → c.K = K → c.envK = envK → c.st = stt → c.pend = pend → c.tmps = a.tmps → φ s → (JR c).J s F' B' w3 → (∀ b, B' b → ¬ F' b) → (∀ b, F b → F' b) → p.glob.G F' w3 →
   (∀ b, F' b ∨ B' b → F b ∨ liveBlock H ρ b ∨ w.heap.size ≤ b) → Upd (fun b => liveBlock H ρ b) w w3 → rangePost Fence.wide 0 p.P c.l Q (wd [{ target := .collected w.heap.size, args := #[] }] a) (.returned (.tuple #[])) w3) :
  (Code.rangeFunc (.tmp g) #[t] assign bdy).wpIn Fence.wide 0 p.P Q a w := by
 refine wpIn_rangeFunc fun fn' _ => ?_
 have hfe := st.env g
 rw [hg] at hfe
 simp only [Rel] at hfe
 obtain ⟨us, vs, hfe, rfl, hvs⟩ := hfe
 have hev : a.eval (.tmp g) = .func (.func fI) #[] vs.toArray := hfe
 have hne : w.heap.size + 1 ≠ w.heap.size := by omega
 refine ⟨w.heap.size + 1, [{ target := .collected w.heap.size, args := #[] }], laid w { state := .ready, pending := none, fn := fn', tmps := a.tmps, params := #[t], assign := assign, body := bdy, defers := w.heap.size },
  { target := .fn (.func fI) vs.toArray, args := #[.func (.yield (w.heap.size + 1)) #[] #[]] }, laid w { state := .ready, pending := none, fn := fn', tmps := a.tmps, params := #[t], assign := assign, body := bdy, defers := w.heap.size }, fI, #[.func (.yield (w.heap.size + 1)) #[] #[]] ++ vs.toArray, laid w { state := .ready, pending := none, fn := fn', tmps := a.tmps, params := #[t], assign := assign, body := bdy, defers := w.heap.size }, run_enterLoop_outer _ _ _ _ _, ?_, fun _ _ => trivial, ?_, fun h => by simp [Fence.wide] at h, ?_⟩
 ·simp only [resolve, rangeCall, hev, Deferred.ofValue, Sem.run_bind, Sem.run_pure, Result.andThen_ok]
  simp [Act.eval]
 ·simp [invoke, bodied_run hbI]
 ·have hW := laid_below w { state := .ready, pending := none, fn := fn', tmps := a.tmps, params := #[t], assign := assign, body := bdy, defers := w.heap.size }
  have hl1 := laid_l w { state := .ready, pending := none, fn := fn', tmps := a.tmps, params := #[t], assign := assign, body := bdy, defers := w.heap.size }
  have hD1 := laid_D w { state := .ready, pending := none, fn := fn', tmps := a.tmps, params := #[t], assign := assign, body := bdy, defers := w.heap.size }
  generalize laid w { state := .ready, pending := none, fn := fn', tmps := a.tmps, params := #[t], assign := assign, body := bdy, defers := w.heap.size } = W1 at hW hl1 hD1 ⊢
  have st1 := st.grow (F' := F) hW (fun _ h => h) (fun _ h => .inl h) (fun b hb => Nat.lt_of_lt_of_le (st.sim.alloc b hb) hW.size)
  have st2 := st1.newObj (w' := W1) (o := .dead) (h := .func (.yield (w.heap.size + 1)) #[] #[]) (RowKit.Below.refl _ _) (fun b hb => by simp [blk] at hb) trivial
  have hlen : ρ.length = H.length := st.sim.len
  have hltI2 : ∀ i ∈ H.length :: ixI, i < (H ++ [Obj.dead]).length := by
   intro i hi
   rcases List.mem_cons.1 hi with rfl | hi
   ·simp
   ·have := hltI i hi; simp; omega
  have simI := sim_in st2.sim hndI hltI2
  rw [hHI] at simI
  have hy0 : (ρ ++ [Value.func (.yield (w.heap.size + 1)) #[] #[]]).getD H.length undef = .func (.yield (w.heap.size + 1)) #[] #[] := by
   rw [← hlen]; simp [List.getD]
  rw [List.map_cons, hy0] at simI
  have simK := sim_in st1.sim hndK hltK
  have hvs1 : RelL F ρ W1 cs vs := RelL.goes (F := F) (F' := F) (ρ := ρ) (ρ' := ρ) (w := w) ⟨fun _ h => h, fun b hb => hW.block b (st.sim.alloc b hb), fun _ _ h => h⟩ _ _ hvs
  have hvs2 : RelL F (ρ ++ [Value.func (.yield (w.heap.size + 1)) #[] #[]]) W1 cs vs := RelL.goes (F := F) (F' := F) (ρ := ρ) (w := W1) ⟨fun _ h => h, fun _ _ => rfl, fun i h hi => by rw [List.getElem?_append_left (List.getElem?_eq_some_iff.1 hi).1]; exact hi⟩ _ _ hvs1
  have hrI := hcs.rel (renL_rel (ρ' := (H.length :: ixI).map fun i => (ρ ++ [Value.func (.yield (w.heap.size + 1)) #[] #[]]).getD i undef) (fun i j h h1 h2 => by
   have h3 := posIn_spec h1
   rw [List.getElem?_map, h3]
   simp only [Option.map_some, List.getD, h2, Option.getD_some]) _ _ hvs2)
  rw [List.map_cons, hy0] at hrI
  have hlvK : ∀ b, liveBlock (K s0) (ixK.map fun i => ρ.getD i undef) b → b < w.heap.size := by
   intro b hb
   rw [hK] at hb
   obtain ⟨i, _, o, h, g1, g2, g3, g4⟩ := live_in hlen hltK hb
   exact (st.sim.obj i o h g1 g3).block_lt g2 g4
  have hlvKH : ∀ b, liveBlock (K s0) (ixK.map fun i => ρ.getD i undef) b → liveBlock H ρ b := by
   intro b hb
   rw [hK] at hb
   obtain ⟨i, _, o, h, g1, g2, g3, g4⟩ := live_in hlen hltK hb
   exact ⟨i, o, h, g1, g2, g3, g4⟩
  have hlvI : ∀ b, liveBlock (.dead :: HI) (.func (.yield (w.heap.size + 1)) #[] #[] :: ixI.map fun i => (ρ ++ [Value.func (.yield (w.heap.size + 1)) #[] #[]]).getD i undef) b → ∃ i ∈ ixI, ∃ (o : Obj) (h : Value), H[i]? = some o ∧ o.live = true ∧ ρ[i]? = some h ∧ blk h = some b := by
   intro b hb
   have hb' : liveBlock (viewIn (H ++ [Obj.dead]) (H.length :: ixI)) ((H.length :: ixI).map fun i => (ρ ++ [Value.func (.yield (w.heap.size + 1)) #[] #[]]).getD i undef) b := by rw [hHI, List.map_cons, hy0]; exact hb
   obtain ⟨i, hi, o, h, g1, g2, g3, g4⟩ := live_in (by simp [hlen]) hltI2 hb'
   rcases List.mem_cons.1 hi with rfl | hi
   ·simp at g1; subst g1; simp [Obj.live] at g2
   ·have hlt := hltI i hi
    rw [List.getElem?_append_left hlt] at g1
    rw [List.getElem?_append_left (by omega)] at g3
    exact ⟨i, hi, o, h, g1, g2, g3, g4⟩
  let c : RCfg γ := ⟨w.heap.size + 1, w.heap.size, fn', a.tmps, #[t], assign, bdy, envK, K, stt, pend, hne⟩
  have hJ : (JR c).J s0 F (fun b => b = w.heap.size + 1 ∨ b = w.heap.size ∨ liveBlock (K s0) (ixK.map fun i => ρ.getD i undef) b) W1 := by
   refine ⟨ixK.map fun i => ρ.getD i undef, by show Sim F _ (K s0) W1; rw [hK]; exact simK, fun t' => hEnv t' _ _ _ _ (ren_rel (fun j i h h1 h2 => ?_) _ _ (st1.env t')), ?_, hD1, fun b => Iff.rfl, fun h => ?_, fun h => ?_⟩
   ·have h3 := posIn_spec h1
    rw [List.getElem?_map, h3]
    simp only [Option.map_some, List.getD, h2, Option.getD_some]
   ·show W1.heap[w.heap.size + 1]? = some (.loop (c.rcd (stt s0) (pend s0)))
    rw [hst0, hpd0]; exact hl1
   ·have := hlvK _ h; have h5 : c.l = w.heap.size + 1 := rfl; omega
   ·have := hlvK _ h; have h5 : c.D = w.heap.size := rfl; omega
  have hBF : ∀ b, (b = w.heap.size + 1 ∨ b = w.heap.size ∨ liveBlock (K s0) (ixK.map fun i => ρ.getD i undef) b) → ¬ F b := by
   rintro b (rfl | rfl | hb) hf
   ·have := st.sim.alloc _ hf; omega
   ·have := st.sim.alloc _ hf; omega
   ·obtain ⟨i, o, h, g1, g2, g3, g4⟩ := hlvKH b hb
    exact st.sim.apart i o h b g1 g2 g3 g4 hf
  have hBL : ∀ b, (b = w.heap.size + 1 ∨ b = w.heap.size ∨ liveBlock (K s0) (ixK.map fun i => ρ.getD i undef) b) → ¬ liveBlock (.dead :: HI) (.func (.yield (w.heap.size + 1)) #[] #[] :: ixI.map fun i => (ρ ++ [Value.func (.yield (w.heap.size + 1)) #[] #[]]).getD i undef) b := by
   intro b hb hl
   obtain ⟨i, hi, o, h, g1, g2, g3, g4⟩ := hlvI b hl
   have hlt := (st.sim.obj i o h g1 g3).block_lt g2 g4
   rcases hb with rfl | rfl | hb
   ·omega
   ·omega
   ·rw [hK] at hb
    obtain ⟨i', hi', o', h', k1, k2, k3, k4⟩ := live_in hlen hltK hb
    have := st.sim.inj i i' o o' h h' b g1 g2 k1 k2 g3 k3 g4 k4
    subst this
    exact hdis i hi hi'
  have hcall := hI c rfl rfl rfl rfl rfl rfl rfl st.size simI hrI st1.glob hJ hBF hBL
  have hargs : (#[Value.func (.yield (w.heap.size + 1)) #[] #[]] ++ vs.toArray) = (Value.func (.yield (w.heap.size + 1)) #[] #[] :: vs).toArray := by simp
  rw [hargs]
  refine CallsIn.mono hcall ?_
  rintro e w3 ⟨s, B', F', v, rfl, hφ, hJ3, hd3, hF3, hG3, hlt3, hnew, hu⟩
  have hact : ({ a with defers := [{ target := .collected w.heap.size, args := #[] }] ++ a.defers } : Act) = wd [{ target := .collected w.heap.size, args := #[] }] a := by simp [wd, st.defers]
  rw [hact]
  refine hQ c s F' B' w3 rfl rfl rfl rfl rfl rfl rfl hφ hJ3 hd3 hF3 hG3 ?_ ?_
  ·intro b hb
   have hs1 := hW.size
   rcases hnew b hb with h1 | (rfl | rfl | h1) | h1 | h1
   ·exact .inl h1
   ·exact .inr (.inr (by omega))
   ·exact .inr (.inr (by omega))
   ·exact .inr (.inl (hlvKH b h1))
   ·obtain ⟨i, _, o, h, g1, g2, g3, g4⟩ := hlvI b h1
    exact .inr (.inl ⟨i, o, h, g1, g2, g3, g4⟩)
   ·exact .inr (.inr (by omega))
  ·refine ⟨hu.os.trans hW.os, hu.tape.trans hW.tape, hu.output.trans hW.output, Nat.le_trans hW.size hu.size, fun b hlt hn => ?_⟩
   refine (hu.same b (Nat.lt_of_lt_of_le hlt hW.size) ?_).trans (hW.block b hlt)
   rintro ((rfl | rfl | h1) | h1)
   ·omega
   ·omega
   ·exact hn (hlvKH b h1)
   ·obtain ⟨i, _, o, h, g1, g2, g3, g4⟩ := hlvI b h1
    exact hn ⟨i, o, h, g1, g2, g3, g4⟩
end Go.Q
end

section
/- Range over functions, in the logic 'Q': a function whose body ends in such a loop, an open row of operations, and 'return'. -/
namespace Go.Q
open Go
def VWpT (p : Par) (c : Code) (Q : Entry → Exit → Act → World → Prop) (env : Env) (H : List Obj) : Prop :=
 ∀ E F ρ a w, St p E F ρ env H a w → c.wpIn Fence.wide 0 p.P (Q E) a w
theorem vwpT_seq {p : Par} {x y : Code} {Q : Entry → Exit → Act → World → Prop} {env : Env} {H : List Obj} (h : VWp p x (fun e env H => e = .normal ∧ VWpT p y Q env H) env H) : VWpT p (.seq x y) Q env H := by
 intro E F ρ a w st
 refine wpIn_seq (wpIn_wide.2 (wp_mono (h E F ρ a w st) ?_))
 rintro e a' w' ⟨F', ρ', env', H', ⟨rfl, q⟩, st'⟩
 exact q E F' ρ' a' w' st'
def thenT (p : Par) (y : Code) (Q : Entry → Exit → Act → World → Prop) : Entry → Exit → Act → World → Prop
 | E, .normal, a, w => y.wpIn Fence.wide 0 p.P (Q E) a w
 | E, e, a, w => Q E e a w
theorem vwpT_then {p : Par} {x y : Code} {Q : Entry → Exit → Act → World → Prop} {env : Env} {H : List Obj} (h : VWpT p x (thenT p y Q) env H) : VWpT p (.seq x y) Q env H := by
 intro E F ρ a w st
 refine wpIn_seq (wpIn_mono (h E F ρ a w st) ?_)
 intro e a' w' q
 cases e <;> exact q
def up (n j : Nat) : Option Nat := some (n + j)
def upH (n : Nat) (H : List Obj) : List Obj := List.replicate n .dead ++ H.map (renO (up n))
def resE (E : Entry) (M : List Nat) (post : V → List Obj → Prop) : Ending → World → Prop := fun e w' =>
 ∃ F' ρ' H' r mr, e = .returned mr ∧ post r H' ∧ Rel F' ρ' w' r mr ∧ Sim F' ρ' H' w' ∧ Evol E M F' ρ' H' w'
theorem up_hf {ρ0 ρ : List Value} {n : Nat} (hn : ρ0.length = n) (j i : Nat) (h : Value) (hj : up n j = some i) (hr : ρ[j]? = some h) : (ρ0 ++ ρ)[i]? = some h := by
 simp only [up, Option.some.injEq] at hj
 subst hj
 rw [List.getElem?_append_right (by omega), hn, Nat.add_sub_cancel_left]
 exact hr
theorem upH_at {n : Nat} {H : List Obj} {i : Nat} {o : Obj} (h : (upH n H)[i]? = some o) (hl : o.live = true) : n ≤ i ∧ ∃ o0, H[i - n]? = some o0 ∧ o = renO (up n) o0 ∧ o0.live = true := by
 unfold upH at h
 by_cases hi : i < n
 ·rw [List.getElem?_append_left (by simpa using hi)] at h
  rw [List.getElem?_replicate, if_pos hi] at h
  cases h; simp [Obj.live] at hl
 ·rw [List.getElem?_append_right (by simp; omega)] at h
  simp only [List.length_replicate, List.getElem?_map, Option.map_eq_some_iff] at h
  obtain ⟨o0, h1, rfl⟩ := h
  exact ⟨by omega, o0, h1, rfl, by rwa [renO_live] at hl⟩
theorem up_at {ρ0 ρ : List Value} {n i : Nat} {h : Value} (hn : ρ0.length = n) (hi : n ≤ i) (hr : (ρ0 ++ ρ)[i]? = some h) : ρ[i - n]? = some h := by
 rw [List.getElem?_append_right (by omega), hn] at hr
 exact hr
theorem up_live {ρ0 ρ : List Value} {n b : Nat} {H : List Obj} (hn : ρ0.length = n) (h : liveBlock (upH n H) (ρ0 ++ ρ) b) : liveBlock H ρ b := by
 obtain ⟨i, o, x, h1, h2, h3, h4⟩ := h
 obtain ⟨hi, o0, g1, rfl, g2⟩ := upH_at h1 h2
 exact ⟨i - n, o0, x, g1, g2, up_at hn hi h3, h4⟩
theorem Sim.up {F : Nat → Prop} {ρ0 ρ : List Value} {H : List Obj} {w : World} {n : Nat} (hn : ρ0.length = n) (sim : Sim F ρ H w) : Sim F (ρ0 ++ ρ) (upH n H) w := by
 refine ⟨by simp [upH, sim.len, hn], ?_, ?_, ?_, sim.alloc⟩
 ·intro i o h hi hr
  by_cases hl : o.live = true
  ·obtain ⟨hin, o0, g1, rfl, g2⟩ := upH_at hi hl
   exact renO_rel (up_hf hn) (sim.obj (i - n) o0 h g1 (up_at hn hin hr))
  ·cases o <;> simp [Obj.live] at hl
   trivial
 ·intro i o h b hi hl hr hb hf
  obtain ⟨hin, o0, g1, rfl, g2⟩ := upH_at hi hl
  exact sim.apart (i - n) o0 h b g1 g2 (up_at hn hin hr) hb hf
 ·intro i j o o' h h' b hi hl hj hl' hr hr' hb hb'
  obtain ⟨hin, o0, g1, rfl, g2⟩ := upH_at hi hl
  obtain ⟨hjn, o1, k1, rfl, k2⟩ := upH_at hj hl'
  have := sim.inj (i - n) (j - n) o0 o1 h h' b g1 g2 k1 k2 (up_at hn hin hr) (up_at hn hjn hr') hb hb'
  omega
variable {γ : Type} {P : Program} {G : Glob}
theorem leave_range {p : Par} {T : Tab} (hT : T.Ok p.P) {E : Entry} {F : Nat → Prop} {ρ : List Value} {env : Env} {H : List Obj} {a : Act} {w : World} (st : St p E F ρ env H a w) {fn : Func} {rs : List ResultVar} (hfn : fn.results = rs.toArray)
  {post : V → List Obj → Prop} {F' B' : Nat → Prop} {ρK : List Value} {HK : List Obj} {w3 w4 : World} (simK : Sim F' ρK HK w3) (hsz : w.heap.size + 1 < w3.heap.size) (hw4 : w4 = w3 ∨ ∃ o, w4 = w3.putObj (w.heap.size + 1) o)
  (hBK : ∀ b, liveBlock HK ρK b → B' b) (hl : ¬ liveBlock HK ρK (w.heap.size + 1)) (hD : ¬ liveBlock HK ρK w.heap.size) (hlB : B' (w.heap.size + 1)) (hDB : B' w.heap.size) (hBF : ∀ b, B' b → ¬ F' b) (hFF : ∀ b, F b → F' b)
  (hnew : ∀ b, F' b ∨ B' b → F b ∨ liveBlock H ρ b ∨ w.heap.size ≤ b) (hu : Upd (fun b => liveBlock H ρ b) w w3) (hDd : w3.heap[w.heap.size]? = some (.deferred (some [])))
  {F5 : Nat → Prop} {ρ5 : List Value} {env5 : Env} {H5 : List Obj} {a5 : Act} {w5 : World} (st5 : St ⟨p.P, p.glob, [], HK.length, p.n⟩ ⟨F', ρK, HK, w4⟩ F5 ρ5 env5 H5 a5 w5)
  {vs : List V} {O : Prop} (hres : resAll T H5 env5 rs = some (vs, O)) (hO : O) (hpost : post (ren (up p.n0) (pack1V vs)) (upH p.n0 H5)) :
  LeavesInM Fence.wide 0 p.P fn (wd [{ target := .collected w.heap.size, args := #[] }] a5).tmps (resE E p.M post) (wd [{ target := .collected w.heap.size, args := #[] }] a5).defers .returning w5 := by
 have hn : E.ρ.length = p.n0 := st.ent
 have ev := st.evol
 have ev5 := st5.evol
 have hs45 : w4.heap.size ≤ w5.heap.size := ev5.size
 have h4 : w4.os = w3.os ∧ w4.tape = w3.tape ∧ w4.output = w3.output ∧ w4.heap.size = w3.heap.size ∧ ∀ b, b ≠ w.heap.size + 1 → w4.heap[b]? = w3.heap[b]? := by
  rcases hw4 with rfl | ⟨o, rfl⟩
  ·exact ⟨rfl, rfl, rfl, rfl, fun _ _ => rfl⟩
  ·exact ⟨rfl, rfl, rfl, by simp, fun b hb => World.putObj_heap_other hb⟩
 obtain ⟨h4o, h4t, h4u, h4s, h4h⟩ := h4
 have hszE : E.w.heap.size ≤ w.heap.size := ev.size
 have nF5 : ∀ b, b < w4.heap.size → B' b → ¬ liveBlock HK ρK b → ¬ F5 b := by
  intro b hlt hb hnl hf
  rcases ev5.back b hf with h | h | h
  ·exact hBF b hb h
  ·exact hnl h
  ·have : w4.heap.size ≤ b := h
   omega
 have nL5 : ∀ b, b < w4.heap.size → ¬ liveBlock HK ρK b → ¬ liveBlock H5 ρ5 b := by
  intro b hlt hnl hf
  rcases ev5.live b hf with h | h
  ·exact hnl h
  ·have : w4.heap.size ≤ b := h
   omega
 have hD5 : w5.heap[w.heap.size]? = some (.deferred (some [])) := (ev5.old w.heap.size (by show _ < w4.heap.size; omega) hD).trans ((h4h _ (by omega)).trans hDd)
 simp only [wd, st5.defers, List.nil_append, LeavesInM]
 refine ⟨by simp, .inl ⟨_, _, rfl, run_takeDeferred hD5, ?_⟩⟩
 have u56 : Upd (fun b => b = w.heap.size) w5 (w5.putObj w.heap.size (.deferred none)) := ⟨rfl, rfl, rfl, by simp, fun b _ hb => World.putObj_heap_other hb⟩
 generalize w5.putObj w.heap.size (.deferred none) = w6 at u56
 have nFD : ¬ F5 w.heap.size := nF5 _ (by omega) hDB hD
 have nLD : ¬ liveBlock H5 ρ5 w.heap.size := nL5 _ (by omega) hD
 have sim6 : Sim F5 ρ5 H5 w6 := st5.sim.upd u56 (by rintro b rfl; exact nFD) (by rintro b rfl; exact nLD)
 have g56 : Goes F5 ρ5 w5 F5 ρ5 w6 := ⟨fun _ h => h, fun b hb => u56.same b (st5.sim.alloc b hb) (by rintro rfl; exact nFD hb), fun _ _ h => h⟩
 have st6 : St ⟨p.P, p.glob, [], H5.length, p.n⟩ ⟨F5, ρ5, H5, w6⟩ F5 ρ5 env5 H5 a5 w6 := ⟨sim6, fun t => Rel.goes g56 _ _ (st5.env t), st5.size, st5.defers, evol_refl F5 ρ5 H5 w6 [], sim6.len, p.glob.stable F5 w5 F5 w6 (fun _ h => h) g56.same st5.glob⟩
 obtain ⟨mv, hr1, hr2⟩ := resultsC_run (p := ⟨p.P, p.glob, [], H5.length, p.n⟩) hT st6 hfn hres hO
 have oldF : ∀ b, F' b ∨ B' b → E.F b ∨ liveBlock E.H E.ρ b ∨ E.w.heap.size ≤ b := by
  intro b hb
  rcases hnew b hb with h | h | h
  ·exact ev.back b h
  ·rcases ev.live b h with h | h
   ·exact .inr (.inl h)
   ·exact .inr (.inr h)
  ·exact .inr (.inr (by omega))
 have oldL : ∀ b, liveBlock HK ρK b → liveBlock E.H E.ρ b ∨ E.w.heap.size ≤ b := by
  intro b hb
  rcases hnew b (.inr (hBK b hb)) with h | h | h
  ·exact absurd (hFF b h) (hBF b (hBK b hb))
  ·exact ev.live b h
  ·exact .inr (by omega)
 have hsz4 : E.w.heap.size ≤ w4.heap.size := by omega
 refine ⟨mv, hr1, F5, E.ρ ++ ρ5, upH p.n0 H5, _, mv, rfl, hpost, ren_rel (up_hf hn) _ _ hr2, sim6.up hn, ?_⟩
 refine ⟨u56.os.trans (ev5.os.trans (h4o.trans (hu.os.trans ev.os))), u56.tape.trans (ev5.tape.trans (h4t.trans (hu.tape.trans ev.tape))), u56.output.trans (ev5.output.trans (h4u.trans (hu.output.trans ev.output))), ?_, fun b hb => ev5.frozen b (hFF b (ev.frozen b hb)), ?_, ?_, ?_, ?_, by simp⟩
 ·have := u56.size; omega
 ·intro b hb
  rcases ev5.back b hb with h | h | h
  ·exact oldF b (.inl h)
  ·exact oldF b (.inr (hBK b h))
  ·have : w4.heap.size ≤ b := h
   exact .inr (.inr (by omega))
 ·intro i h hi _
  rw [List.getElem?_append_left (List.getElem?_eq_some_iff.1 hi).1]; exact hi
 ·intro b hb
  rcases ev5.live b (up_live hn hb) with h | h
  ·exact oldL b h
  ·have : w4.heap.size ≤ b := h
   exact .inr (by omega)
 ·intro b hlt hnl
  have hnlw : ¬ liveBlock H ρ b := fun h => (ev.live b h).elim hnl (by omega)
  have hnlK : ¬ liveBlock HK ρK b := fun h => (oldL b h).elim hnl (by omega)
  have hs3 := hu.size
  rw [u56.same b (by omega) (by omega), ev5.old b (by show b < w4.heap.size; omega) hnlK]
  show w4.heap[b]? = _
  rw [h4h b (by omega), hu.same b (by omega) hnlw]
  exact ev.old b hlt hnl
theorem vwpT_range {p : Par} {T : Tab} (hT : T.Ok p.P) {env : Env} {H : List Obj} {fn : Func} {rs : List ResultVar} (hfn : fn.results = rs.toArray) {post : V → List Obj → Prop}
  (K : γ → List Obj) (s0 : γ) (envK : Env) (stt : γ → LoopState) (pend : γ → Option Code)
  {bid id : Nat} {ops : Array Oper} {g t : Nat} {assign bdy : Code} {fI : FuncId} {cs csI : List V} {HI : List Obj} {φ : γ → Prop} (ixI ixK : List Nat)
  (hg : get env g = .func (.func fI) [] cs) (hbI : bodied p.P fI = true) (hst0 : stt s0 = .ready) (hpd0 : pend s0 = none)
  (hndI : (H.length :: ixI).Nodup) (hltI : ∀ i ∈ ixI, i < H.length) (hndK : ixK.Nodup) (hltK : ∀ i ∈ ixK, i < H.length) (hdis : ∀ i ∈ ixI, i ∉ ixK)
  (hK : K s0 = viewIn H ixK) (hHI : viewIn (H ++ [.dead]) (H.length :: ixI) = .dead :: HI) (hcs : WkL (renL (posIn (H.length :: ixI)) cs) csI)
  (hEnv : ∀ t, Wk (ren (posIn ixK) (get env t)) (get envK t))
  (hI : ∀ c : RCfg γ, c.K = K → c.envK = envK → c.st = stt → c.pend = pend → c.ps = #[t] → c.assign = assign → c.body = bdy → c.tmps.size = p.n → IterGives p.P p.glob (JR c) fI csI HI s0 φ)
  (hpl : plainOps ops.toList = true) (hbusy : ∀ s, φ s → stt s ≠ .busy) (hpd : ∀ s, φ s → pend s = none ∨ pend s = some .ret)
  (hN : ∀ s, φ s → pend s = none → VOps ⟨p.P, p.glob, [], (K s).length, p.n⟩ ops ops.toList (fun e env' H' => e = .normal ∧ ∃ vs O, resAll T H' env' rs = some (vs, O) ∧ O ∧ post (ren (up p.n0) (pack1V vs)) (upH p.n0 H')) envK (K s))
  (hR : ∀ s, φ s → pend s = some .ret → ∃ vs O, resAll T (K s) envK rs = some (vs, O) ∧ O ∧ post (ren (up p.n0) (pack1V vs)) (upH p.n0 (K s))) :
  VWpT p (.block bid (.rangeFunc (.tmp g) #[t] assign bdy)) (thenT p (.seq (.region id ops false) .ret) (fun E => bodyPostM Fence.wide 0 p.P fn (resE E p.M post))) env H := by
 intro E F ρ a w st
 refine (wpIn_block (range_wp st K s0 envK stt pend ixI ixK hg hbI hst0 hpd0 hndI hltI hndK hltK hdis hK hHI hcs hEnv hI ?_))
 intro c s F' B' w3 hcl hcD hcK hcE hcS hcP hcT hφ hJ hBF hFF hG3 hnew hu
 obtain ⟨ρK, simK, henvK, hlrec, hDrec, hB, nl, nD⟩ := hJ
 rw [hcl, hcS, hcP] at hlrec
 rw [hcD] at hDrec
 rw [hcK] at simK hB nl nD
 rw [hcE] at henvK
 rw [hcT] at henvK
 rw [hcl] at nl
 rw [hcD] at nD
 have hlB : B' (w.heap.size + 1) := (hB _).2 (.inl hcl.symm)
 have hDB : B' w.heap.size := (hB _).2 (.inr (.inl hcD.symm))
 have hBK : ∀ b, liveBlock (K s) ρK b → B' b := fun b hb => (hB b).2 (.inr (.inr hb))
 have hsz : w.heap.size + 1 < w3.heap.size := (Array.getElem?_eq_some_iff.1 hlrec).1
 simp only [rangePost]
 refine ⟨_, _, by rw [hcl]; exact run_endLoop hlrec (by simp only [RCfg.rcd]; exact hbusy s hφ), ?_⟩
 generalize hrec : ({ c.rcd (stt s) (pend s) with state := LoopState.exhausted } : Loop) = rec'
 have hw4 : ∃ o, w3.putObj (w.heap.size + 1) (.loop rec') = w3.putObj (w.heap.size + 1) o := ⟨_, rfl⟩
 have u34 : Upd (fun b => b = w.heap.size + 1) w3 (w3.putObj (w.heap.size + 1) (.loop rec')) := ⟨rfl, rfl, rfl, by simp, fun b _ hb => World.putObj_heap_other hb⟩
 generalize w3.putObj (w.heap.size + 1) (.loop rec') = w4 at u34 hw4
 have sim4 : Sim F' ρK (K s) w4 := simK.upd u34 (by rintro b rfl; exact hBF _ hlB) (by rintro b rfl; exact nl)
 have g34 : Goes F' ρK w3 F' ρK w4 := ⟨fun _ h => h, fun b hb => u34.same b (simK.alloc b hb) (by rintro rfl; exact hBF _ hlB hb), fun _ _ h => h⟩
 have st4 : St ⟨p.P, p.glob, [], (K s).length, p.n⟩ ⟨F', ρK, K s, w4⟩ F' ρK envK (K s) a w4 := ⟨sim4, fun t => Rel.goes g34 _ _ (henvK t), st.size, st.defers, evol_refl F' ρK (K s) w4 [], sim4.len, p.glob.stable F' w3 F' w4 (fun _ h => h) g34.same hG3⟩
 simp only [RCfg.rcd]
 rcases hpd s hφ with hpn | hpn
 ·rw [hpn]
  simp only [Exit.inBlock, thenT]
  refine wpIn_seq (wpIn_mono (regionD hpl (fun _ _ h => by cases h.1) (hN s hφ hpn) st4) ?_)
  rintro e a' w5 ⟨a5, ⟨F5, ρ5, env5, H5, ⟨rfl, vs, O, hr1, hO, hp⟩, st5⟩, rfl⟩
  refine wpIn_ret ?_
  simp only [bodyPostM]
  exact leave_range hT st hfn simK hsz (.inr hw4) hBK nl nD hlB hDB hBF hFF hnew hu hDrec st5 hr1 hO hp
 ·rw [hpn]
  obtain ⟨vs, O, hr1, hO, hp⟩ := hR s hφ hpn
  refine wpIn_ret ?_
  simp only [Exit.inBlock, thenT, bodyPostM]
  exact leave_range hT st hfn simK hsz (.inr hw4) hBK nl nD hlB hDB hBF hFF hnew hu hDrec st4 hr1 hO hp
theorem vcalls_ofT {P : Program} {G : Glob} {f : FuncId} {fn : Func} {c : Code} {args : List V} {H0 : List Obj} {M : List Nat} {post : V → List Obj → Prop} (hf : P.funcs[f]? = some fn) (hb : fn.body = some c) (hn : args.length ≤ fn.ntmps)
  (h : VWpT ⟨P, G, M, H0.length, fn.ntmps⟩ c (fun E => bodyPostM Fence.wide 0 P fn (resE E M post)) (entryEnv 0 args) H0) : VCalls P G f args H0 M post := by
 intro F ρ w ms sim hr hG
 refine (callsIn_wide (n := 0)).1 (callsIn_of_wp_marks hf hb trivial ?_)
 have hlen := RelL.length hr
 refine h ⟨F, ρ, H0, w⟩ F ρ _ w ⟨sim, fun t => entry_tmps hr hn t, ?_, rfl, evol_refl F ρ H0 w M, sim.len, hG⟩
 simp; omega
end Go.Q
end

section
/- Range over functions, in the logic 'Q': rules for whole regions. -/
namespace Go.Q
open Go
section
variable {p : Par} {T : Tab} {Q : Post} {env : Env} {H : List Obj}
theorem vwpR_reg1 {r : Nat} (hT : T.Ok p.P) (own K : List Nat) {id : Nat} {ops : Array Oper} {env' : Env} {H' : List Obj} {O : Prop} (hpl : plainOps ops.toList = true) (hno : ∀ env H, ¬ Q .outgrown env H)
  (he : vgoK T p own K ops env H = (env', H', O, [])) (hO : O) (hy : Q .normal env' H') : VWpR r p (.region id ops false) Q env H := by
 refine vwpR_region hpl hno ?_
 unfold vgoK at he
 cases hg : vgo T p own ops ops.toList env H with
 | mk e r =>
  obtain ⟨h, O', rest⟩ := r
  rw [hg] at he
  cases rest with
  | cons o l => simp at he
  | nil =>
   simp only [Prod.mk.injEq, and_true] at he
   obtain ⟨rfl, rfl, rfl⟩ := he
   exact vops_go hT own hg hO (vops_done K hy)
theorem vops_all (hT : T.Ok p.P) (own K : List Nat) {ops : Array Oper} {env' : Env} {H' : List Obj} {O : Prop}
  (he : vgoK T p own K ops env H = (env', H', O, [])) (hO : O) (hy : Q .normal env' H') : VOps p ops ops.toList Q env H := by
 unfold vgoK at he
 cases hg : vgo T p own ops ops.toList env H with
 | mk e r =>
  obtain ⟨h, O', rest⟩ := r
  rw [hg] at he
  cases rest with
  | cons o l => simp at he
  | nil =>
   simp only [Prod.mk.injEq, and_true] at he
   obtain ⟨rfl, rfl, rfl⟩ := he
   exact vops_go hT own hg hO (vops_done K hy)
end
theorem vwpJ_reg {γ : Type} {P : Program} {G : Glob} {n : Nat} {J : CInv γ} {Q : γ → Post} {s : γ} {env : Env} {H : List Obj} {T : Tab} (hT : T.Ok P) (own K : List Nat) {id : Nat} {ops : Array Oper} {y : Code} {env' : Env} {H' : List Obj} {O : Prop}
  (he : vgoK T ⟨P, G, [], H.length, n⟩ own K ops env H = (env', H', O, [])) (hO : O) (hy : VWpJ P G n J y Q s env' H') : VWpJ P G n J (.seq (.region id ops false) y) Q s env H :=
 vwpJ_seq (vwpJ_of (vwp_reg1 hT own K he hO hy))
theorem vwpJ_reg1 {γ : Type} {P : Program} {G : Glob} {n : Nat} {J : CInv γ} {Q : γ → Post} {s : γ} {env : Env} {H : List Obj} {T : Tab} (hT : T.Ok P) (own K : List Nat) {id : Nat} {ops : Array Oper} {env' : Env} {H' : List Obj} {O : Prop}
  (he : vgoK T ⟨P, G, [], H.length, n⟩ own K ops env H = (env', H', O, [])) (hO : O) (hy : Q s .normal env' H') : VWpJ P G n J (.region id ops false) Q s env H :=
 vwpJ_of (vwp_reg1 hT own K he hO hy)
theorem vwpJ_trim {γ : Type} {P : Program} {G : Glob} {n : Nat} {J : CInv γ} {Q : γ → Post} {s : γ} {env : Env} {H : List Obj} {c : Code} (m : Nat) (hm : 1 ≤ m) (h : VWpJ P G n J c Q s (mapE (ren (below m)) env) (trimH m H)) : VWpJ P G n J c Q s env H := by
 intro E F B ρ a w st
 have hlv : ∀ b, liveBlock (trimH m H) (ρ.take m) b → liveBlock H ρ b := fun b hb => trim_live hb
 refine h E F B (ρ.take m) a w ⟨st.sim.trim m, fun t => ?_, st.size, st.defers, st.glob, ?_, st.inv, st.apF, fun b hb hl => st.apL b hb (hlv b hl), st.sub, fun b hb => st.new b (hb.imp id fun h => h.imp id (hlv b)), st.upd⟩
 ·rw [get_mapE (ren_undef _)]
  exact ren_rel (fun j i h => below_hf m j i h) _ _ (st.env t)
 ·rw [List.getElem?_take, if_pos (by omega)]; exact st.yl
theorem vwpJ_knowH {γ : Type} {P : Program} {G : Glob} {n : Nat} {J : CInv γ} {Q : γ → Post} {s : γ} {env : Env} {H : List Obj} {c : Code} (i : Nat) (o : Obj) (hi : H[i]? = some o) (h : factsO o → VWpJ P G n J c Q s env H) : VWpJ P G n J c Q s env H := by
 intro E F B ρ a w st
 have hl : i < ρ.length := by rw [st.sim.len]; exact (List.getElem?_eq_some_iff.1 hi).1
 exact h (obj_facts (st.sim.obj i o ρ[i] hi (by simp [hl]))) E F B ρ a w st
theorem vwpR_cond {r : Nat} {p : Par} {Q : Post} {env : Env} {H : List Obj} {t : Nat} {b : Bool} {x y : Code} (hc : get env t = .bool b) (h1 : b = true → VWpR r p x Q env H) (h2 : b = false → VWpR r p y Q env H) : VWpR r p (.cond (.tmp t) x y) Q env H := by
 intro E F ρ a w st
 have h := st.env t
 rw [hc] at h
 simp only [Rel] at h
 refine wpIn_cond (t := b) (by simp only [Act.eval]; exact h) ?_
 cases b with
 | true => exact h1 rfl E F ρ a w st
 | false => exact h2 rfl E F ρ a w st
end Go.Q
end

section
/-
 DERIVED: THE SHELF's CONTRACTS AT THIS DUMP, IN PLAIN WORDS (tools/lay-plain.mjs out of 'TryzShelf.lean', which tools/lay-shelf.mjs wrote): THE SAME DECLARATIONS UNDER THE SAME NAMES: 'import', 'namespace', 'open', 'def', 'theorem' AND NOTHING ELSE: no command of the shelf's: FOR A HAND-IN. Each laying: the table of numbers ('.._ren') and one theorem, a field a fact of the dump's own or the kernel's comparison; each contract: ONE APPLICATION.
-/
namespace Go.Proofs
open Go.Shelf
def Tryz.lays169_ren : Go.Shelf.Ren := ⟨fun | 169 => 146 | n => n, fun | 70 => 146 | 9 => 9 | 0 => 0 | 72 => 148 | 37 => 64 | 127 => 173 | 3 => 3 | 5 => 5 | n => n, fun | n => n⟩
theorem Tryz.Builder_Extra_169 : Builder.Extra Tryz.prog Tryz.lays169_ren := {
 sizeBuilder := by kernel_rfl
 liesBuilder := by kernel_rfl
 t5 := Tryz.underlying5
 a5 := Tryz.isAgg5
 z5 := Tryz.sizeOf5
 v5 := Tryz.zeroValue5
 infoByte := by kernel_rfl
 cellsByte := by kernel_rfl
 sizeByte := by kernel_rfl
 neB5 := by decide }
def Tryz.lays119_ren : Go.Shelf.Ren := ⟨fun | 119 => 122 | n => n, fun | 21 => 21 | 4 => 4 | n => n, fun | n => n⟩
theorem Tryz.lays119 : Go.Proofs.Lays.n119 Tryz.prog Tryz.lays119_ren := {
 mixed := by kernel_rfl
 f119 := Tryz.func122.trans (congrArg some (by kernel_rfl))
 t4 := Tryz.underlying4
 a4 := Tryz.isAgg4
 z4 := Tryz.sizeOf4
 v4 := Tryz.zeroValue4
 t21 := Tryz.underlying21
 a21 := Tryz.isAgg21
 z21 := Tryz.sizeOf21
 v21 := Tryz.zeroValue21 }
theorem Tryz.utf8_ValidRune (r : Int) (w : World) :
  Calls Tryz.prog 122 #[.int .i32 r] w fun e w' => e = .returned (.bool (Lib.validRune r)) ∧ w' = w := Any.utf8_ValidRune Tryz.lays119 r w
def Tryz.lays106_ren : Go.Shelf.Ren := ⟨fun | 106 => 63 | 213 => 96 | 265 => 127 | n => n, fun | 9 => 9 | 3 => 3 | n => n, fun | n => n⟩
theorem Tryz.lays106 : Go.Proofs.Lays.n106 Tryz.prog Tryz.lays106_ren := {
 mixed := by kernel_rfl
 f106 := Tryz.func63.trans (congrArg some (by kernel_rfl))
 f213 := Tryz.func96.trans (congrArg some (by kernel_rfl))
 f265 := Tryz.func127.trans (congrArg some (by kernel_rfl))
 t3 := Tryz.underlying3
 a3 := Tryz.isAgg3
 z3 := Tryz.sizeOf3
 v3 := Tryz.zeroValue3
 t9 := Tryz.underlying9
 a9 := Tryz.isAgg9
 z9 := Tryz.sizeOf9
 v9 := Tryz.zeroValue9 }
open Go.RowKit in
theorem Tryz.strings_Compare (a b : ByteArray) (w : World) :
  Calls Tryz.prog 63 #[.string a, .string b] w fun e w' => e = .returned (.int .i64 (Lib.compareBytes a.data.toList b.data.toList)) ∧ w' = w := Any.strings_Compare Tryz.lays106 a b w
def Tryz.lays137_ren : Go.Shelf.Ren := ⟨fun | 137 => 121 | 217 => 158 | 266 => 189 | n => n, fun | 9 => 9 | 5 => 5 | 3 => 3 | n => n, fun | n => n⟩
theorem Tryz.lays137 : Go.Proofs.Lays.n137 Tryz.prog Tryz.lays137_ren := {
 mixed := by kernel_rfl
 f137 := Tryz.func121.trans (congrArg some (by kernel_rfl))
 f217 := Tryz.func158.trans (congrArg some (by kernel_rfl))
 f266 := Tryz.func189.trans (congrArg some (by kernel_rfl))
 t3 := Tryz.underlying3
 a3 := Tryz.isAgg3
 z3 := Tryz.sizeOf3
 v3 := Tryz.zeroValue3
 t5 := Tryz.underlying5
 a5 := Tryz.isAgg5
 z5 := Tryz.sizeOf5
 v5 := Tryz.zeroValue5
 t9 := Tryz.underlying9
 a9 := Tryz.isAgg9
 z9 := Tryz.sizeOf9
 v9 := Tryz.zeroValue9 }
open Go.RowKit in
theorem Tryz.strings_IndexByte (s : ByteArray) (c : Int) (w : World) :
  Calls Tryz.prog 121 #[.string s, .int .u8 c] w fun e w' => e = .returned (.int .i64 (Lib.indexByte s.data.toList c.toNat.toUInt8)) ∧ w' = w := Any.strings_IndexByte Tryz.lays137 s c w
def Tryz.lays103_ren : Go.Shelf.Ren := ⟨fun | 103 => 201 | 210 => 209 | 206 => 212 | n => n, fun | 9 => 9 | 4 => 4 | 24 => 190 | 3 => 3 | n => n, fun | n => n⟩
theorem Tryz.lays103 : Go.Proofs.Lays.n103 Tryz.prog Tryz.lays103_ren := {
 mixed := by kernel_rfl
 f103 := Tryz.func201.trans (congrArg some (by kernel_rfl))
 f206 := Tryz.func212.trans (congrArg some (by kernel_rfl))
 f210 := Tryz.func209.trans (congrArg some (by kernel_rfl))
 t3 := Tryz.underlying3
 a3 := Tryz.isAgg3
 z3 := Tryz.sizeOf3
 v3 := Tryz.zeroValue3
 t4 := Tryz.underlying4
 a4 := Tryz.isAgg4
 z4 := Tryz.sizeOf4
 v4 := Tryz.zeroValue4
 t9 := Tryz.underlying9
 a9 := Tryz.isAgg9
 z9 := Tryz.sizeOf9
 v9 := Tryz.zeroValue9
 t24 := Tryz.underlying190
 a24 := Tryz.isAgg190
 z24 := Tryz.sizeOf190
 v24 := Tryz.zeroValue190 }
open Go.RowKit in
theorem Tryz.strings_CutPrefix (s p : ByteArray) (w : World) :
  Calls Tryz.prog 201 #[.string s, .string p] w fun e w' => e = .returned (.tuple #[.string ⟨(Lib.trimPrefix s.data.toList p.data.toList).toArray⟩, .bool (Lib.hasPrefix s.data.toList p.data.toList)]) ∧ w' = w := Any.strings_CutPrefix Tryz.lays103 s p w
def Tryz.lays283_ren : Go.Shelf.Ren := ⟨fun | 283 => 179 | n => n, fun | 3 => 3 | 9 => 9 | 4 => 4 | n => n, fun | n => n⟩
theorem Tryz.lays283 : Go.Proofs.Lays.n283 Tryz.prog Tryz.lays283_ren := {
 mixed := by kernel_rfl
 f283 := Tryz.func179.trans (congrArg some (by kernel_rfl))
 t3 := Tryz.underlying3
 a3 := Tryz.isAgg3
 z3 := Tryz.sizeOf3
 v3 := Tryz.zeroValue3
 t4 := Tryz.underlying4
 a4 := Tryz.isAgg4
 z4 := Tryz.sizeOf4
 v4 := Tryz.zeroValue4
 t9 := Tryz.underlying9
 a9 := Tryz.isAgg9
 z9 := Tryz.sizeOf9
 v9 := Tryz.zeroValue9 }
open Go.Lib in
theorem Tryz.internal_strconv_small (i : Nat) (h : i < 100) (w : World) :
  Calls Tryz.prog 179 #[.int .i64 i] w fun e w' => e = .returned (.string ⟨(Lib.decDigits i).toArray⟩) ∧ w' = w := Any.internal_strconv_small Tryz.lays283 i h w
def Tryz.laysM284_ren : Go.Shelf.Ren := ⟨fun | 284 => 180 | 129 => 138 | 317 => 195 | 318 => 196 | n => n, fun | 53 => 144 | 3 => 3 | 212 => 186 | 0 => 0 | 4 => 4 | 46 => 118 | 5 => 5 | 9 => 9 | n => n, fun | 17 => 1 | n => n⟩
theorem Tryz.laysM284 : Go.Proofs.LaysM.n284 Tryz.prog Tryz.laysM284_ren := {
 mixed := by kernel_rfl
 f129 := Tryz.func138.trans (congrArg some (by kernel_rfl))
 f284 := Tryz.func180.trans (congrArg some (by kernel_rfl))
 f317 := Tryz.func195.trans (congrArg some (by kernel_rfl))
 f318 := Tryz.func196.trans (congrArg some (by kernel_rfl))
 t0 := Tryz.underlying0
 a0 := Tryz.isAgg0
 z0 := Tryz.sizeOf0
 v0 := Tryz.zeroValue0
 t3 := Tryz.underlying3
 a3 := Tryz.isAgg3
 z3 := Tryz.sizeOf3
 v3 := Tryz.zeroValue3
 t4 := Tryz.underlying4
 a4 := Tryz.isAgg4
 z4 := Tryz.sizeOf4
 v4 := Tryz.zeroValue4
 t5 := Tryz.underlying5
 a5 := Tryz.isAgg5
 z5 := Tryz.sizeOf5
 v5 := Tryz.zeroValue5
 t9 := Tryz.underlying9
 a9 := Tryz.isAgg9
 z9 := Tryz.sizeOf9
 v9 := Tryz.zeroValue9
 t46 := Tryz.underlying118
 a46 := Tryz.isAgg118
 z46 := Tryz.sizeOf118
 v46 := Tryz.zeroValue118
 t53 := Tryz.underlying144
 a53 := Tryz.isAgg144
 z53 := Tryz.sizeOf144
 v53 := Tryz.zeroValue144
 t212 := Tryz.underlying186
 a212 := Tryz.isAgg186
 z212 := Tryz.sizeOf186
 v212 := Tryz.zeroValue186
 g17 := by kernel_rfl
 i0 := by kernel_rfl
 i3 := by kernel_rfl
 i4 := by kernel_rfl
 i5 := by kernel_rfl
 i9 := by kernel_rfl
 i46 := by kernel_rfl
 i53 := by kernel_rfl
 i212 := by kernel_rfl
 m17 := by kernel_rfl }
open Go.Lib in
theorem Tryz.internal_strconv_numDigits (u : Nat) (h1 : 1 ≤ u) (h2 : u < 18446744073709551616) (w : World) (htab : Lib.TabIs Tryz.prog w "internal/strconv.uint64pow10" .u64 Lib.pow10Tab) :
  Calls Tryz.prog 180 #[.int .u64 u] w fun e w' => e = .returned (.int .i64 (Lib.nDigits u)) ∧ w' = w := Any.internal_strconv_numDigits Tryz.laysM284 u h1 h2 w htab
def Tryz.lays285_ren : Go.Shelf.Ren := ⟨fun | 285 => 181 | n => n, fun | 37 => 64 | 53 => 144 | 3 => 3 | 4 => 4 | 51 => 142 | 9 => 9 | 5 => 5 | 0 => 0 | n => n, fun | n => n⟩
theorem Tryz.lays285 : Go.Proofs.Lays.n285 Tryz.prog Tryz.lays285_ren := {
 mixed := by kernel_rfl
 f285 := Tryz.func181.trans (congrArg some (by kernel_rfl))
 t0 := Tryz.underlying0
 a0 := Tryz.isAgg0
 z0 := Tryz.sizeOf0
 v0 := Tryz.zeroValue0
 t3 := Tryz.underlying3
 a3 := Tryz.isAgg3
 z3 := Tryz.sizeOf3
 v3 := Tryz.zeroValue3
 t4 := Tryz.underlying4
 a4 := Tryz.isAgg4
 z4 := Tryz.sizeOf4
 v4 := Tryz.zeroValue4
 t5 := Tryz.underlying5
 a5 := Tryz.isAgg5
 z5 := Tryz.sizeOf5
 v5 := Tryz.zeroValue5
 t9 := Tryz.underlying9
 a9 := Tryz.isAgg9
 z9 := Tryz.sizeOf9
 v9 := Tryz.zeroValue9
 t37 := Tryz.underlying64
 a37 := Tryz.isAgg64
 z37 := Tryz.sizeOf64
 v37 := Tryz.zeroValue64
 t51 := Tryz.underlying142
 a51 := Tryz.isAgg142
 z51 := Tryz.sizeOf142
 v51 := Tryz.zeroValue142
 t53 := Tryz.underlying144
 a53 := Tryz.isAgg144
 z53 := Tryz.sizeOf144
 v53 := Tryz.zeroValue144 }
open Go.RowKit Go.Sort Go.Lib in
theorem Tryz.internal_strconv_formatBase10 (blk off cap : Nat) (u : Nat) (d : Array UInt8) (w : World) (hH : Holds (fun (b : UInt8) => Value.int .u8 (b.toNat : Int)) w blk off d) (hu : u < 10 ^ d.size) (hu64 : u < 18446744073709551616) (hsz : d.size < 4611686018427387904) :
  Calls Tryz.prog 181 #[.slice (some ⟨blk, off, none⟩) d.size cap, .int .u64 u] w fun e w' =>
   e = .returned (.tuple #[]) ∧ ∃ (n v' : Nat) (dk : Array UInt8), w' = (putRow (fun (b : UInt8) => Value.int .u8 (b.toNat : Int)) w blk off dk).drewN n ∧ FmtInv d.size u 0 v' dk := Any.internal_strconv_formatBase10 Tryz.lays285 blk off cap u d w hH hu hu64 hsz
def Tryz.laysM171_ren : Go.Shelf.Ren := ⟨fun | 171 => 81 | 243 => 112 | 246 => 151 | 283 => 179 | 284 => 180 | 285 => 181 | 286 => 182 | 129 => 138 | 317 => 195 | 318 => 196 | 319 => 197 | 320 => 198 | 337 => 205 | 338 => 206 | n => n, fun | 3 => 3 | 9 => 9 | 2 => 2 | 4 => 4 | 171 => 175 | 0 => 0 | 53 => 144 | 37 => 64 | 5 => 5 | 173 => 177 | 212 => 186 | 51 => 142 | 20 => 20 | 213 => 187 | 46 => 118 | 232 => 197 | 233 => 198 | n => n, fun | 17 => 1 | 18 => 2 | 19 => 3 | n => n⟩
theorem Tryz.laysM171 : Go.Proofs.LaysM.n171 Tryz.prog Tryz.laysM171_ren := {
 mixed := by kernel_rfl
 f129 := Tryz.func138.trans (congrArg some (by kernel_rfl))
 f171 := Tryz.func81.trans (congrArg some (by kernel_rfl))
 f243 := Tryz.func112.trans (congrArg some (by kernel_rfl))
 f246 := Tryz.func151.trans (congrArg some (by kernel_rfl))
 f283 := Tryz.func179.trans (congrArg some (by kernel_rfl))
 f284 := Tryz.func180.trans (congrArg some (by kernel_rfl))
 f285 := Tryz.func181.trans (congrArg some (by kernel_rfl))
 f286 := Tryz.func182.trans (congrArg some (by kernel_rfl))
 f317 := Tryz.func195.trans (congrArg some (by kernel_rfl))
 f318 := Tryz.func196.trans (congrArg some (by kernel_rfl))
 f319 := Tryz.func197.trans (congrArg some (by kernel_rfl))
 f320 := Tryz.func198.trans (congrArg some (by kernel_rfl))
 f337 := Tryz.func205.trans (congrArg some (by kernel_rfl))
 f338 := Tryz.func206.trans (congrArg some (by kernel_rfl))
 t0 := Tryz.underlying0
 a0 := Tryz.isAgg0
 z0 := Tryz.sizeOf0
 v0 := Tryz.zeroValue0
 t2 := Tryz.underlying2
 a2 := Tryz.isAgg2
 z2 := Tryz.sizeOf2
 v2 := Tryz.zeroValue2
 t3 := Tryz.underlying3
 a3 := Tryz.isAgg3
 z3 := Tryz.sizeOf3
 v3 := Tryz.zeroValue3
 t4 := Tryz.underlying4
 a4 := Tryz.isAgg4
 z4 := Tryz.sizeOf4
 v4 := Tryz.zeroValue4
 t5 := Tryz.underlying5
 a5 := Tryz.isAgg5
 z5 := Tryz.sizeOf5
 v5 := Tryz.zeroValue5
 t9 := Tryz.underlying9
 a9 := Tryz.isAgg9
 z9 := Tryz.sizeOf9
 v9 := Tryz.zeroValue9
 t20 := Tryz.underlying20
 a20 := Tryz.isAgg20
 z20 := Tryz.sizeOf20
 v20 := Tryz.zeroValue20
 t37 := Tryz.underlying64
 a37 := Tryz.isAgg64
 z37 := Tryz.sizeOf64
 v37 := Tryz.zeroValue64
 t46 := Tryz.underlying118
 a46 := Tryz.isAgg118
 z46 := Tryz.sizeOf118
 v46 := Tryz.zeroValue118
 t51 := Tryz.underlying142
 a51 := Tryz.isAgg142
 z51 := Tryz.sizeOf142
 v51 := Tryz.zeroValue142
 t53 := Tryz.underlying144
 a53 := Tryz.isAgg144
 z53 := Tryz.sizeOf144
 v53 := Tryz.zeroValue144
 t171 := Tryz.underlying175
 a171 := Tryz.isAgg175
 z171 := Tryz.sizeOf175
 v171 := Tryz.zeroValue175
 t173 := Tryz.underlying177
 a173 := Tryz.isAgg177
 z173 := Tryz.sizeOf177
 v173 := Tryz.zeroValue177
 t212 := Tryz.underlying186
 a212 := Tryz.isAgg186
 z212 := Tryz.sizeOf186
 v212 := Tryz.zeroValue186
 t213 := Tryz.underlying187
 a213 := Tryz.isAgg187
 z213 := Tryz.sizeOf187
 t232 := Tryz.underlying197
 a232 := Tryz.isAgg197
 z232 := Tryz.sizeOf197
 v232 := Tryz.zeroValue197
 t233 := Tryz.underlying198
 a233 := Tryz.isAgg198
 z233 := Tryz.sizeOf198
 v233 := Tryz.zeroValue198
 g17 := by kernel_rfl
 g18 := by kernel_rfl
 g19 := by kernel_rfl
 i0 := by kernel_rfl
 i2 := by kernel_rfl
 i3 := by kernel_rfl
 i4 := by kernel_rfl
 i5 := by kernel_rfl
 i9 := by kernel_rfl
 i20 := by kernel_rfl
 i37 := by kernel_rfl
 i46 := by kernel_rfl
 i51 := by kernel_rfl
 i53 := by kernel_rfl
 i171 := by kernel_rfl
 i173 := by kernel_rfl
 i212 := by kernel_rfl
 i232 := by kernel_rfl
 i233 := by kernel_rfl
 m17 := by kernel_rfl
 m18 := by kernel_rfl
 m19 := by kernel_rfl }
open Go.RowKit Go.Sort Go.Lib in
theorem Tryz.strconv_Itoa (n : Int) (h0 : -9223372036854775808 ≤ n) (h1 : n ≤ 9223372036854775807) (w : World) (htab : Lib.TabIs Tryz.prog w "internal/strconv.uint64pow10" .u64 Lib.pow10Tab) :
  Calls Tryz.prog 81 #[.int .i64 n] w fun e w' => e = .returned (.string ⟨(Lib.itoa n).toArray⟩) ∧ ∃ k os, w' = grow (w.drewN k) os := Any.strconv_Itoa Tryz.laysM171 n h0 h1 w htab
def Tryz.lays219_ren : Go.Shelf.Ren := ⟨fun | 219 => 210 | 217 => 158 | 225 => 124 | 224 => 123 | 267 => 213 | 266 => 189 | 314 => 214 | n => n, fun | 9 => 9 | 3 => 3 | 4 => 4 | 5 => 5 | 46 => 118 | 146 => 203 | 51 => 142 | n => n, fun | 1 => 0 | n => n⟩
theorem Tryz.lays219 : Go.Proofs.Lays.n219 Tryz.prog Tryz.lays219_ren := {
 mixed := by kernel_rfl
 f217 := Tryz.func158.trans (congrArg some (by kernel_rfl))
 f219 := Tryz.func210.trans (congrArg some (by kernel_rfl))
 f224 := Tryz.func123.trans (congrArg some (by kernel_rfl))
 f225 := Tryz.func124.trans (congrArg some (by kernel_rfl))
 f266 := Tryz.func189.trans (congrArg some (by kernel_rfl))
 f267 := Tryz.func213.trans (congrArg some (by kernel_rfl))
 f314 := Tryz.func214.trans (congrArg some (by kernel_rfl))
 t3 := Tryz.underlying3
 a3 := Tryz.isAgg3
 z3 := Tryz.sizeOf3
 v3 := Tryz.zeroValue3
 t4 := Tryz.underlying4
 a4 := Tryz.isAgg4
 z4 := Tryz.sizeOf4
 v4 := Tryz.zeroValue4
 t5 := Tryz.underlying5
 a5 := Tryz.isAgg5
 z5 := Tryz.sizeOf5
 v5 := Tryz.zeroValue5
 t9 := Tryz.underlying9
 a9 := Tryz.isAgg9
 z9 := Tryz.sizeOf9
 v9 := Tryz.zeroValue9
 t46 := Tryz.underlying118
 a46 := Tryz.isAgg118
 z46 := Tryz.sizeOf118
 v46 := Tryz.zeroValue118
 t51 := Tryz.underlying142
 a51 := Tryz.isAgg142
 z51 := Tryz.sizeOf142
 v51 := Tryz.zeroValue142
 t146 := Tryz.underlying203
 a146 := Tryz.isAgg203
 z146 := Tryz.sizeOf203
 v146 := Tryz.zeroValue203
 g1 := by kernel_rfl }
open Go.RowKit Go.Lib in
theorem Tryz.stringslite_Index_one (s : ByteArray) (c : UInt8) (w : World) :
  Calls Tryz.prog 210 #[.string s, .string ⟨#[c]⟩] w fun e w' => e = .returned (.int .i64 (Lib.indexByte s.data.toList c)) ∧ w' = w := Any.stringslite_Index_one Tryz.lays219 s c w
def Tryz.lays144_ren : Go.Shelf.Ren := ⟨fun | 144 => 188 | 143 => 202 | 219 => 210 | 217 => 158 | 225 => 124 | 224 => 123 | 267 => 213 | 266 => 189 | 314 => 214 | n => n, fun | 9 => 9 | 4 => 4 | 3 => 3 | 5 => 5 | 46 => 118 | 146 => 203 | 51 => 142 | n => n, fun | 1 => 0 | n => n⟩
theorem Tryz.lays144 : Go.Proofs.Lays.n144 Tryz.prog Tryz.lays144_ren := {
 mixed := by kernel_rfl
 f143 := Tryz.func202.trans (congrArg some (by kernel_rfl))
 f144 := Tryz.func188.trans (congrArg some (by kernel_rfl))
 f217 := Tryz.func158.trans (congrArg some (by kernel_rfl))
 f219 := Tryz.func210.trans (congrArg some (by kernel_rfl))
 f224 := Tryz.func123.trans (congrArg some (by kernel_rfl))
 f225 := Tryz.func124.trans (congrArg some (by kernel_rfl))
 f266 := Tryz.func189.trans (congrArg some (by kernel_rfl))
 f267 := Tryz.func213.trans (congrArg some (by kernel_rfl))
 f314 := Tryz.func214.trans (congrArg some (by kernel_rfl))
 t3 := Tryz.underlying3
 a3 := Tryz.isAgg3
 z3 := Tryz.sizeOf3
 v3 := Tryz.zeroValue3
 t4 := Tryz.underlying4
 a4 := Tryz.isAgg4
 z4 := Tryz.sizeOf4
 v4 := Tryz.zeroValue4
 t5 := Tryz.underlying5
 a5 := Tryz.isAgg5
 z5 := Tryz.sizeOf5
 v5 := Tryz.zeroValue5
 t9 := Tryz.underlying9
 a9 := Tryz.isAgg9
 z9 := Tryz.sizeOf9
 v9 := Tryz.zeroValue9
 t46 := Tryz.underlying118
 a46 := Tryz.isAgg118
 z46 := Tryz.sizeOf118
 v46 := Tryz.zeroValue118
 t51 := Tryz.underlying142
 a51 := Tryz.isAgg142
 z51 := Tryz.sizeOf142
 v51 := Tryz.zeroValue142
 t146 := Tryz.underlying203
 a146 := Tryz.isAgg203
 z146 := Tryz.sizeOf203
 v146 := Tryz.zeroValue203
 g1 := by kernel_rfl }
open Go.RowKit Go.Lib in
theorem Tryz.strings_Contains_one (s : ByteArray) (c : UInt8) (w : World) :
  Calls Tryz.prog 188 #[.string s, .string ⟨#[c]⟩] w fun e w' => e = .returned (.bool (decide (0 ≤ Lib.indexByte s.data.toList c))) ∧ w' = w := Any.strings_Contains_one Tryz.lays144 s c w
def Tryz.lays190_ren : Go.Shelf.Ren := ⟨fun | 190 => 65 | 125 => 99 | 258 => 98 | 128 => 137 | 129 => 138 | 302 => 128 | 303 => 129 | 304 => 130 | 305 => 131 | 306 => 132 | 307 => 133 | 308 => 134 | 309 => 135 | 310 => 136 | 333 => 167 | 329 => 168 | 330 => 169 | 334 => 170 | 335 => 171 | 336 => 172 | 344 => 193 | n => n, fun | 31 => 23 | 9 => 9 | 3 => 3 | 46 => 118 | 0 => 0 | 51 => 142 | 53 => 144 | 4 => 4 | 183 => 134 | 182 => 133 | 131 => 139 | 5 => 5 | 218 => 161 | 222 => 165 | 228 => 182 | 229 => 183 | n => n, fun | n => n⟩
theorem Tryz.lays190 : Go.Proofs.Lays.n190 Tryz.prog Tryz.lays190_ren := {
 mixed := by kernel_rfl
 f125 := Tryz.func99.trans (congrArg some (by kernel_rfl))
 f128 := Tryz.func137.trans (congrArg some (by kernel_rfl))
 f129 := Tryz.func138.trans (congrArg some (by kernel_rfl))
 f190 := Tryz.func65.trans (congrArg some (by kernel_rfl))
 f258 := Tryz.func98.trans (congrArg some (by kernel_rfl))
 f302 := Tryz.func128.trans (congrArg some (by kernel_rfl))
 f303 := Tryz.func129.trans (congrArg some (by kernel_rfl))
 f304 := Tryz.func130.trans (congrArg some (by kernel_rfl))
 f305 := Tryz.func131.trans (congrArg some (by kernel_rfl))
 f306 := Tryz.func132.trans (congrArg some (by kernel_rfl))
 f307 := Tryz.func133.trans (congrArg some (by kernel_rfl))
 f308 := Tryz.func134.trans (congrArg some (by kernel_rfl))
 f309 := Tryz.func135.trans (congrArg some (by kernel_rfl))
 f310 := Tryz.func136.trans (congrArg some (by kernel_rfl))
 f329 := Tryz.func168.trans (congrArg some (by kernel_rfl))
 f330 := Tryz.func169.trans (congrArg some (by kernel_rfl))
 f333 := Tryz.func167.trans (congrArg some (by kernel_rfl))
 f334 := Tryz.func170.trans (congrArg some (by kernel_rfl))
 f335 := Tryz.func171.trans (congrArg some (by kernel_rfl))
 f336 := Tryz.func172.trans (congrArg some (by kernel_rfl))
 f344 := Tryz.func193.trans (congrArg some (by kernel_rfl))
 t0 := Tryz.underlying0
 a0 := Tryz.isAgg0
 z0 := Tryz.sizeOf0
 v0 := Tryz.zeroValue0
 t3 := Tryz.underlying3
 a3 := Tryz.isAgg3
 z3 := Tryz.sizeOf3
 v3 := Tryz.zeroValue3
 t4 := Tryz.underlying4
 a4 := Tryz.isAgg4
 z4 := Tryz.sizeOf4
 v4 := Tryz.zeroValue4
 t5 := Tryz.underlying5
 a5 := Tryz.isAgg5
 z5 := Tryz.sizeOf5
 v5 := Tryz.zeroValue5
 t9 := Tryz.underlying9
 a9 := Tryz.isAgg9
 z9 := Tryz.sizeOf9
 v9 := Tryz.zeroValue9
 t31 := Tryz.underlying23
 a31 := Tryz.isAgg23
 z31 := Tryz.sizeOf23
 v31 := Tryz.zeroValue23
 t46 := Tryz.underlying118
 a46 := Tryz.isAgg118
 z46 := Tryz.sizeOf118
 v46 := Tryz.zeroValue118
 t51 := Tryz.underlying142
 a51 := Tryz.isAgg142
 z51 := Tryz.sizeOf142
 v51 := Tryz.zeroValue142
 t53 := Tryz.underlying144
 a53 := Tryz.isAgg144
 z53 := Tryz.sizeOf144
 v53 := Tryz.zeroValue144
 t131 := Tryz.underlying139
 a131 := Tryz.isAgg139
 z131 := Tryz.sizeOf139
 v131 := Tryz.zeroValue139
 t182 := Tryz.underlying133
 a182 := Tryz.isAgg133
 z182 := Tryz.sizeOf133
 v182 := Tryz.zeroValue133
 t183 := Tryz.underlying134
 a183 := Tryz.isAgg134
 z183 := Tryz.sizeOf134
 v183 := Tryz.zeroValue134
 t218 := Tryz.underlying161
 a218 := Tryz.isAgg161
 z218 := Tryz.sizeOf161
 v218 := Tryz.zeroValue161
 t222 := Tryz.underlying165
 a222 := Tryz.isAgg165
 z222 := Tryz.sizeOf165
 v222 := Tryz.zeroValue165
 t228 := Tryz.underlying182
 a228 := Tryz.isAgg182
 z228 := Tryz.sizeOf182
 v228 := Tryz.zeroValue182
 t229 := Tryz.underlying183
 a229 := Tryz.isAgg183
 z229 := Tryz.sizeOf183
 v229 := Tryz.zeroValue183 }
open Go.Sort Go.RowKit in
theorem Tryz.slices_Sort_string (blk off cap : Nat) (ss : List (List UInt8)) (w : World) (hH : Holds encStr w blk off ss.toArray) (hblk : blk < w.heap.size) (hsz : ss.length < 4611686018427387904) :
  Calls Tryz.prog 65 #[.slice (some ⟨blk, off, none⟩) ss.length cap] w fun e w' =>
   e = .returned (.tuple #[]) ∧ ∃ n os, w' = grow (putRow encStr (Sort.ahead w n) blk off (ss.mergeSort fun x y => decide (x ≤ y)).toArray) os := Any.slices_Sort_string Tryz.lays190 blk off cap ss w hH hblk hsz
def Tryz.laysM288_ren : Go.Shelf.Ren := ⟨fun | 288 => 178 | 283 => 179 | 284 => 180 | 285 => 181 | 286 => 182 | 129 => 138 | 317 => 195 | 318 => 196 | 319 => 197 | 320 => 198 | 337 => 205 | 338 => 206 | n => n, fun | 37 => 64 | 53 => 144 | 3 => 3 | 4 => 4 | 9 => 9 | 171 => 175 | 0 => 0 | 173 => 177 | 212 => 186 | 51 => 142 | 5 => 5 | 20 => 20 | 213 => 187 | 46 => 118 | 232 => 197 | 233 => 198 | n => n, fun | 17 => 1 | 18 => 2 | 19 => 3 | n => n⟩
theorem Tryz.laysM288 : Go.Proofs.LaysM.n288 Tryz.prog Tryz.laysM288_ren := {
 mixed := by kernel_rfl
 f129 := Tryz.func138.trans (congrArg some (by kernel_rfl))
 f283 := Tryz.func179.trans (congrArg some (by kernel_rfl))
 f284 := Tryz.func180.trans (congrArg some (by kernel_rfl))
 f285 := Tryz.func181.trans (congrArg some (by kernel_rfl))
 f286 := Tryz.func182.trans (congrArg some (by kernel_rfl))
 f288 := Tryz.func178.trans (congrArg some (by kernel_rfl))
 f317 := Tryz.func195.trans (congrArg some (by kernel_rfl))
 f318 := Tryz.func196.trans (congrArg some (by kernel_rfl))
 f319 := Tryz.func197.trans (congrArg some (by kernel_rfl))
 f320 := Tryz.func198.trans (congrArg some (by kernel_rfl))
 f337 := Tryz.func205.trans (congrArg some (by kernel_rfl))
 f338 := Tryz.func206.trans (congrArg some (by kernel_rfl))
 t0 := Tryz.underlying0
 a0 := Tryz.isAgg0
 z0 := Tryz.sizeOf0
 v0 := Tryz.zeroValue0
 t3 := Tryz.underlying3
 a3 := Tryz.isAgg3
 z3 := Tryz.sizeOf3
 v3 := Tryz.zeroValue3
 t4 := Tryz.underlying4
 a4 := Tryz.isAgg4
 z4 := Tryz.sizeOf4
 v4 := Tryz.zeroValue4
 t5 := Tryz.underlying5
 a5 := Tryz.isAgg5
 z5 := Tryz.sizeOf5
 v5 := Tryz.zeroValue5
 t9 := Tryz.underlying9
 a9 := Tryz.isAgg9
 z9 := Tryz.sizeOf9
 v9 := Tryz.zeroValue9
 t20 := Tryz.underlying20
 a20 := Tryz.isAgg20
 z20 := Tryz.sizeOf20
 v20 := Tryz.zeroValue20
 t37 := Tryz.underlying64
 a37 := Tryz.isAgg64
 z37 := Tryz.sizeOf64
 v37 := Tryz.zeroValue64
 t46 := Tryz.underlying118
 a46 := Tryz.isAgg118
 z46 := Tryz.sizeOf118
 v46 := Tryz.zeroValue118
 t51 := Tryz.underlying142
 a51 := Tryz.isAgg142
 z51 := Tryz.sizeOf142
 v51 := Tryz.zeroValue142
 t53 := Tryz.underlying144
 a53 := Tryz.isAgg144
 z53 := Tryz.sizeOf144
 v53 := Tryz.zeroValue144
 t171 := Tryz.underlying175
 a171 := Tryz.isAgg175
 z171 := Tryz.sizeOf175
 v171 := Tryz.zeroValue175
 t173 := Tryz.underlying177
 a173 := Tryz.isAgg177
 z173 := Tryz.sizeOf177
 v173 := Tryz.zeroValue177
 t212 := Tryz.underlying186
 a212 := Tryz.isAgg186
 z212 := Tryz.sizeOf186
 v212 := Tryz.zeroValue186
 t213 := Tryz.underlying187
 a213 := Tryz.isAgg187
 z213 := Tryz.sizeOf187
 t232 := Tryz.underlying197
 a232 := Tryz.isAgg197
 z232 := Tryz.sizeOf197
 v232 := Tryz.zeroValue197
 t233 := Tryz.underlying198
 a233 := Tryz.isAgg198
 z233 := Tryz.sizeOf198
 v233 := Tryz.zeroValue198
 g17 := by kernel_rfl
 g18 := by kernel_rfl
 g19 := by kernel_rfl
 i0 := by kernel_rfl
 i3 := by kernel_rfl
 i4 := by kernel_rfl
 i5 := by kernel_rfl
 i9 := by kernel_rfl
 i20 := by kernel_rfl
 i37 := by kernel_rfl
 i46 := by kernel_rfl
 i51 := by kernel_rfl
 i53 := by kernel_rfl
 i171 := by kernel_rfl
 i173 := by kernel_rfl
 i212 := by kernel_rfl
 i232 := by kernel_rfl
 i233 := by kernel_rfl
 m17 := by kernel_rfl
 m18 := by kernel_rfl
 m19 := by kernel_rfl }
def Tryz.lays194_ren : Go.Shelf.Ren := ⟨fun | 194 => 31 | n => n, fun | 31 => 23 | 9 => 9 | 3 => 3 | 4 => 4 | 0 => 0 | n => n, fun | n => n⟩
theorem Tryz.lays194 : Go.Proofs.Lays.n194 Tryz.prog Tryz.lays194_ren := {
 mixed := by kernel_rfl
 f194 := Tryz.func31.trans (congrArg some (by kernel_rfl))
 t0 := Tryz.underlying0
 a0 := Tryz.isAgg0
 z0 := Tryz.sizeOf0
 v0 := Tryz.zeroValue0
 t3 := Tryz.underlying3
 a3 := Tryz.isAgg3
 z3 := Tryz.sizeOf3
 v3 := Tryz.zeroValue3
 t4 := Tryz.underlying4
 a4 := Tryz.isAgg4
 z4 := Tryz.sizeOf4
 v4 := Tryz.zeroValue4
 t9 := Tryz.underlying9
 a9 := Tryz.isAgg9
 z9 := Tryz.sizeOf9
 v9 := Tryz.zeroValue9
 t31 := Tryz.underlying23
 a31 := Tryz.isAgg23
 z31 := Tryz.sizeOf23
 v31 := Tryz.zeroValue23 }
open Go.RowKit Go.Lib Go.Sort in
theorem Tryz.slices_Compact_string (blk off cap : Nat) (zs : List (List UInt8)) (w : World) (hH : Holds encStr w blk off zs.toArray) (hsz : zs.length ≤ 9223372036854775807) (hcap : zs.length ≤ cap) :
  Calls Tryz.prog 31 #[.slice (some ⟨blk, off, none⟩) zs.length cap] w fun e w' => e = .returned (.slice (some ⟨blk, off, none⟩) (Lib.compact zs).length cap) ∧ ∃ q, w' = putRow encStr (Sort.ahead w q) blk off (Lib.compact zs ++ List.replicate (zs.length - (Lib.compact zs).length) []).toArray := Any.slices_Compact_string Tryz.lays194 blk off cap zs w hH hsz hcap
open Go.RowKit Go.Sort in
theorem Tryz.slices_Sort_string_none (p : Option Addr) (cap : Nat) (w : World) :
  Calls Tryz.prog 65 #[.slice p 0 cap] w fun e w' => e = .returned (.tuple #[]) ∧ w' = w := Any.slices_Sort_string_none Tryz.lays190 p cap w
end Go.Proofs
end

section
/- The logic 'Q': how a table of types is held against the program, by Bool functions that the kernel runs. -/
namespace Go.Q
def cEs (P : Program) (t e k : Nat) (g : Bool) : Bool :=
 (match P.underlying t with | some (.slice e') => Nat.beq e' e | _ => false) &&
 (match P.info? e with | some i => Nat.beq i.size k && Nat.ble i.bytes 1024 && (match i.zero with | some z => Nat.beq z.cells.size k | none => false) | none => false) &&
 Nat.blt 0 k && (match P.underlying e with | some d => (aggD d == g) | none => false)
theorem cEs_ok {P : Program} {t e k : Nat} {g : Bool} (h : cEs P t e k g = true) : P.underlying t = some (.slice e) ∧ (∃ i, P.info? e = some i ∧ i.size = k ∧ i.bytes ≤ 1024 ∧ ∃ z, i.zero = some z ∧ z.cells.size = k) ∧ 0 < k ∧
  (∃ d, P.underlying e = some d ∧ g = aggD d) := by
 unfold cEs at h
 simp only [Bool.and_eq_true] at h
 obtain ⟨⟨⟨h1, h2⟩, h3⟩, h4⟩ := h
 refine ⟨?_, ?_, Nat.blt_eq.mp h3, ?_⟩
 ·split at h1
  ·rename_i e' he; rw [he, Nat.eq_of_beq_eq_true h1]
  ·simp at h1
 ·split at h2
  ·rename_i i hi
   simp only [Bool.and_eq_true] at h2
   obtain ⟨⟨h5, h6⟩, h7⟩ := h2
   split at h7
   ·rename_i z hz
    exact ⟨i, hi, Nat.eq_of_beq_eq_true h5, Nat.le_of_ble_eq_true h6, z, hz, Nat.eq_of_beq_eq_true h7⟩
   ·simp at h7
  ·simp at h2
 ·split at h4
  ·rename_i d hd; exact ⟨d, hd, by simpa using (beq_iff_eq.1 h4).symm⟩
  ·simp at h4
def cFo (P : Program) (s f o k : Nat) (g : Bool) : Bool :=
 match P.underlying s with
 | some (.struct fs) => match fs[f]? with
  | some fd => Nat.beq fd.offset o && Nat.blt 0 k && (match P.info? fd.type with | some i => Nat.beq i.size k | none => false) && (match P.underlying fd.type with | some d => (aggD d == g) | none => false)
  | none => false
 | _ => false
theorem cFo_ok {P : Program} {s f o k : Nat} {g : Bool} (h : cFo P s f o k g = true) : ∃ fs fd, P.underlying s = some (.struct fs) ∧ fs[f]? = some fd ∧ fd.offset = o ∧ 0 < k ∧
  (∃ i, P.info? fd.type = some i ∧ i.size = k) ∧ (∃ d, P.underlying fd.type = some d ∧ g = aggD d) := by
 unfold cFo at h
 split at h
 ·rename_i fs hfs
  split at h
  ·rename_i fd hfd
   simp only [Bool.and_eq_true] at h
   obtain ⟨⟨⟨h1, h2⟩, h3⟩, h4⟩ := h
   refine ⟨fs, fd, hfs, hfd, Nat.eq_of_beq_eq_true h1, Nat.blt_eq.mp h2, ?_, ?_⟩
   ·split at h3
    ·rename_i i hi; exact ⟨i, hi, Nat.eq_of_beq_eq_true h3⟩
    ·simp at h3
   ·split at h4
    ·rename_i d hd; exact ⟨d, hd, by simpa using (beq_iff_eq.1 h4).symm⟩
    ·simp at h4
  ·simp at h
 ·simp at h
def cLd (P : Program) (t : Nat) (r : Option Nat) : Bool :=
 (match P.underlying t with | some d => (r.isSome == aggD d) | none => false) && (match P.info? t with | some i => Nat.beq i.size (r.getD 1) | none => false)
theorem cLd_ok {P : Program} {t : Nat} {r : Option Nat} (h : cLd P t r = true) : ∃ d, P.underlying t = some d ∧ r.isSome = aggD d ∧ ∃ i, P.info? t = some i ∧ i.size = r.getD 1 := by
 unfold cLd at h
 simp only [Bool.and_eq_true] at h
 obtain ⟨h1, h2⟩ := h
 split at h1
 ·rename_i d hd
  split at h2
  ·rename_i i hi; exact ⟨d, hd, by simpa using h1, i, hi, Nat.eq_of_beq_eq_true h2⟩
  ·simp at h2
 ·simp at h1
def cFl (P : Program) (t : Nat) (l : List (Nat × Nat)) : Bool :=
 match P.underlying t with
 | some (.struct fs) => (match fs.toList.mapM (fun f => (P.info? f.type).map fun i => (f.offset, i.size)) with | some l' => l' == l | none => false)
 | _ => false
theorem cFl_ok {P : Program} {t : Nat} {l : List (Nat × Nat)} (h : cFl P t l = true) : ∃ fs, P.underlying t = some (.struct fs) ∧ fs.toList.mapM (fun f => (P.info? f.type).map fun i => (f.offset, i.size)) = some l := by
 unfold cFl at h
 split at h
 ·rename_i fs hfs
  split at h
  ·rename_i l' hl; exact ⟨fs, hfs, by rw [hl]; simpa using h⟩
  ·simp at h
 ·simp at h
def cB1 (P : Program) (t : Nat) : Bool := match P.info? t with | some i => Nat.beq i.bytes 1 | none => false
theorem cB1_ok {P : Program} {t : Nat} (h : cB1 P t = true) : ∃ i, P.info? t = some i ∧ i.bytes = 1 := by
 unfold cB1 at h
 split at h
 ·rename_i i hi; exact ⟨i, hi, Nat.eq_of_beq_eq_true h⟩
 ·simp at h
mutual
def vz : V → Value → Bool
 | .bool b, .bool b' => b == b'
 | .int k n, .int k' n' => decide (k = k') && decide (n = n')
 | .flt k n, .float k' n' => decide (k = k') && Nat.beq n n'
 | .str [], .string s => Nat.beq s.data.size 0
 | .nils, .slice none 0 0 => true
 | .nilptr, .pointer none => true
 | .nilmap, .map none => true
 | .nilfunc, .nilFunc => true
 | .niliface, .nilIface => true
 | .agg cs, .agg us => vzL cs us.toList
 | _, _ => false
def vzL : List V → List Value → Bool
 | [], [] => true
 | v :: r, u :: t => vz v u && u.oneCell' && vzL r t
 | _, _ => false
end
mutual
theorem vz_rel : ∀ (v : V) (z : Value), vz v z = true → ∀ F ρ w, Rel F ρ w v z
 | .bool b, z, h, F, ρ, w => by cases z <;> simp_all [vz, Rel]
 | .int k n, z, h, F, ρ, w => by cases z <;> simp_all [vz, Rel]
 | .flt k n, z, h, F, ρ, w => by
  cases z <;> simp_all [vz, Rel]
 | .str s, z, h, F, ρ, w => by
  cases s with
  | nil =>
   cases z with
   | string b =>
    simp only [vz] at h
    obtain ⟨d⟩ := b
    have h0 : d = #[] := Array.eq_empty_of_size_eq_zero (Nat.eq_of_beq_eq_true h)
    subst h0
    simp [Rel]
   | _ => simp [vz] at h
  | cons x s => cases z <;> simp [vz] at h
 | .nils, z, h, F, ρ, w => by
  cases z with
  | slice a l c =>
   cases a with
   | none =>
    cases l with
    | zero =>
     cases c with
     | zero => simp [Rel]
     | succ c => simp [vz] at h
    | succ l => simp [vz] at h
   | some a => simp [vz] at h
  | _ => simp [vz] at h
 | .nilptr, z, h, F, ρ, w => by
  cases z with
  | pointer a => cases a with
   | none => simp [Rel]
   | some a => simp [vz] at h
  | _ => simp [vz] at h
 | .nilmap, z, h, F, ρ, w => by
  cases z with
  | map a => cases a with
   | none => simp [Rel]
   | some a => simp [vz] at h
  | _ => simp [vz] at h
 | .nilfunc, z, h, F, ρ, w => by cases z <;> simp_all [vz, Rel]
 | .niliface, z, h, F, ρ, w => by cases z <;> simp_all [vz, Rel]
 | .agg cs, z, h, F, ρ, w => by
  cases z with
  | agg us =>
   simp only [vz] at h
   simp only [Rel]
   have := vzL_rel cs us.toList h F ρ w
   exact ⟨us.toList, by simp, this.1, this.2⟩
  | _ => simp [vz] at h
 | .undef, z, h, F, ρ, w => by simp [Rel]
 | .list k xs, z, h, F, ρ, w => by cases z <;> simp [vz] at h
 | .eptr cs, z, h, F, ρ, w => by cases z <;> simp [vz] at h
 | .ptr i c, z, h, F, ρ, w => by cases z <;> simp [vz] at h
 | .arr i n, z, h, F, ρ, w => by cases z <;> simp [vz] at h
 | .aptr i k j c, z, h, F, ρ, w => by cases z <;> simp [vz] at h
 | .map i, z, h, F, ρ, w => by cases z <;> simp [vz] at h
 | .func fn a b, z, h, F, ρ, w => by cases z <;> simp [vz] at h
 | .iface t v, z, h, F, ρ, w => by cases z <;> simp [vz] at h
 | .tuple vs, z, h, F, ρ, w => by cases z <;> simp [vz] at h
 | .when g v, z, h, F, ρ, w => by cases z <;> simp [vz] at h
 | .obj i, z, h, F, ρ, w => by cases z <;> simp [vz] at h
theorem vzL_rel : ∀ (vs : List V) (us : List Value), vzL vs us = true → ∀ F ρ w, RelL F ρ w vs us ∧ ∀ u ∈ us, u.oneCell' = true
 | [], us, h, F, ρ, w => by cases us <;> simp_all [vzL, RelL]
 | v :: r, us, h, F, ρ, w => by
  cases us with
  | nil => simp [vzL] at h
  | cons u t =>
   simp only [vzL, Bool.and_eq_true] at h
   obtain ⟨⟨h1, h2⟩, h3⟩ := h
   have hr := vz_rel v u h1 F ρ w
   have ht := vzL_rel r t h3 F ρ w
   refine ⟨by simp only [RelL]; exact ⟨u, t, rfl, hr, ht.1⟩, ?_⟩
   intro x hx
   rcases List.mem_cons.1 hx with rfl | hx
   ·exact h2
   ·exact ht.2 x hx
end
def cZr (P : Program) (t : Nat) (v : V) : Bool := match P.info? t with | some i => (match i.zero with | some z => vz v z | none => false) | none => false
theorem cZr_ok {P : Program} {t : Nat} {v : V} (h : cZr P t v = true) : ∃ i z, P.info? t = some i ∧ i.zero = some z ∧ ∀ F ρ w, Rel F ρ w v z := by
 unfold cZr at h
 split at h
 ·rename_i i hi
  split at h
  ·rename_i z hz; exact ⟨i, z, hi, hz, vz_rel v z h⟩
  ·simp at h
 ·simp at h
def cIk (P : Program) (t : Nat) (k : IntKind) : Bool := match P.underlying t with | some (.int k') => decide (k' = k) | _ => false
theorem cIk_ok {P : Program} {t : Nat} {k : IntKind} (h : cIk P t k = true) : P.underlying t = some (.int k) := by
 unfold cIk at h
 split at h
 ·rename_i k' hk; rw [hk]; simp at h; rw [h]
 ·simp at h
def cSt (P : Program) (t : Nat) : Bool := match P.underlying t with | some .string => true | _ => false
theorem cSt_ok {P : Program} {t : Nat} (h : cSt P t = true) : P.underlying t = some .string := by
 unfold cSt at h
 split at h
 ·assumption
 ·simp at h
def cBt (P : Program) (t : Nat) : Bool := match P.underlying t with | some .bool => true | _ => false
theorem cBt_ok {P : Program} {t : Nat} (h : cBt P t = true) : P.underlying t = some .bool := by
 unfold cBt at h
 split at h
 ·assumption
 ·simp at h
def tlook {α : Type} : List (Nat × α) → Nat → Option α
 | [], _ => none
 | (k, v) :: r, t => bif Nat.beq k t then some v else tlook r t
def thas : List Nat → Nat → Bool
 | [], _ => false
 | k :: r, t => Nat.beq k t || thas r t
theorem tlook_all {α : Type} (c : Nat → α → Bool) : ∀ (l : List (Nat × α)), (l.all fun x => c x.1 x.2) = true → ∀ t v, tlook l t = some v → c t v = true
 | [], _, t, v, h => by simp [tlook] at h
 | (k, x) :: r, ha, t, v, h => by
  simp only [List.all_cons, Bool.and_eq_true] at ha
  simp only [tlook] at h
  cases hb : Nat.beq k t with
  | true =>
   simp only [hb, cond_true, Option.some.injEq] at h
   have := Nat.eq_of_beq_eq_true hb
   subst this; subst h; exact ha.1
  | false =>
   simp only [hb, cond_false] at h
   exact tlook_all c r ha.2 t v h
theorem thas_all (c : Nat → Bool) : ∀ (l : List Nat), l.all c = true → ∀ t, thas l t = true → c t = true
 | [], _, t, h => by simp [thas] at h
 | k :: r, ha, t, h => by
  simp only [List.all_cons, Bool.and_eq_true] at ha
  simp only [thas, Bool.or_eq_true] at h
  rcases h with h | h
  ·rw [← Nat.eq_of_beq_eq_true h]; exact ha.1
  ·exact thas_all c r ha.2 t h
end Go.Q
end
