/- Part 2 of the proof: RegionP, Book1, Book2, Idset1, Idset2, Idset3, Book3, Eql, Book4, Tally1, Tally2, Slot1, Wire1, RegionG, Wire2. -/
import Derived.Test.YtccgpjhgfjfaoaaGreatDoorQ1
import Derived.Laws.StructEq
import Derived.ChangeKeysEq
set_option linter.unusedSimpArgs false
set_option linter.unusedVariables false
/- A drawn region whose operation p is a plain move for which the tail need not wait. -/
namespace Go.Proofs.YtccgpjhgfjfaoaaGreatDoor
open Go

def reachB (ops : Array Oper) : Nat → Nat → Nat → Bool
  | 0, _, _ => false
  | f + 1, t, i => match ops[t]? with
    | none => false
    | some o => (o.after.any fun e => Region.binds .any e && e.on == i) || (o.after.any fun e => Region.binds .any e && reachB ops f e.on i)
theorem reachB_listed {ops : Array Oper} {listed : Array Bool} (hc : ∀ j oj, ops[j]? = some oj → listed.getD j false = true → ∀ e ∈ oj.after, Region.binds .any e = true → listed.getD e.on false = true) :
    ∀ (f t i : Nat) (o : Oper), ops[t]? = some o → (∀ e ∈ o.after, Region.binds .any e = true → listed.getD e.on false = true) → reachB ops f t i = true → listed.getD i false = true
  | 0, _, _, _, _, _, h => by simp [reachB] at h
  | f + 1, t, i, o, ho, hall, h => by
    simp only [reachB, ho, Bool.or_eq_true, Array.any_eq_true', Bool.and_eq_true, beq_iff_eq] at h
    rcases h with ⟨e, he, hb, heq⟩ | ⟨e, he, hb, hr⟩
    · exact heq ▸ hall e he hb
    · have hl := hall e he hb
      cases hoe : ops[e.on]? with
      | none =>
        cases f with
        | zero => simp [reachB] at hr
        | succ f => simp [reachB, hoe] at hr
      | some oe => exact reachB_listed hc f e.on i oe hoe (hc e.on oe hoe hl) hr

structure DetSpecP (ops : Array Oper) (n p : Nat) : Prop where
  sel : Region.noSelect ops = true
  le : n ≤ ops.size
  edges : ∀ i o, i < n → ops[i]? = some o → ∀ e ∈ o.after, Region.binds .any e = true → e.on < i
  looks : ∀ i o j d, i < n → ops[i]? = some o → dstOf ops j = some d → d ∈ o.looksAt ops → j < i ∧ Region.waitsFor .any ops i j = true
  uniq : ∀ i j d, i < n → j < n → j ≠ i → dstOf ops j = some d → dstOf ops i ≠ some d
  seq : Region.seqB .any ops (ops.size - n) n ((Array.range ops.size).map fun i => decide (i < n)) = true
  reach : ∀ t i, n ≤ t → t < ops.size → i < n → i ≠ p → reachB ops 4 t i = true
/-- The check. -/
def detPB (ops : Array Oper) (n p : Nat) : Bool :=
  Region.noSelect ops && decide (n ≤ ops.size) && decide (p < n) &&
  (List.range n).all (fun i => match ops[i]? with
    | none => false
    | some o => o.after.all (fun e => !Region.binds .any e || decide (e.on < i)) &&
      (List.range ops.size).all (fun j => match dstOf ops j with
        | none => true
        | some d => (!(o.looksAt ops).contains d || (decide (j < i) && Region.waitsFor .any ops i j)) && (j == i || decide (n ≤ j) || dstOf ops i != some d))) &&
  Region.seqB .any ops (ops.size - n) n ((Array.range ops.size).map fun i => decide (i < n)) &&
  (List.range ops.size).all (fun t => decide (t < n) || (List.range n).all fun i => i == p || reachB ops 4 t i) &&
  (match ops[p]? with
    | some ⟨some d, .move x, _, _, after, none⟩ => after.all (fun e => !Region.binds .any e) && (match x with
        | .tmp t => (List.range ops.size).all fun j => dstOf ops j != some t
        | _ => true) && (List.range ops.size).all (fun j => match ops[j]? with
          | some o => (j == p || o.dst != some d) && (!(o.looksAt ops).contains d || Region.waitsFor .any ops j p)
          | none => false)
    | _ => false)
theorem DetSpecP.of {ops : Array Oper} {n p : Nat} (h : detPB ops n p = true) : DetSpecP ops n p := by
  simp only [detPB, Bool.and_eq_true, decide_eq_true_eq] at h
  obtain ⟨⟨⟨⟨⟨⟨h1, h2⟩, _⟩, h3⟩, h5⟩, h6⟩, _⟩ := h
  simp only [List.all_eq_true, List.mem_range] at h3 h6
  refine ⟨h1, h2, fun i o hi ho e he hb => ?_, fun i o j d hi ho hd hl => ?_, fun i j d hi hj hne hd => ?_, h5, fun t i ht hts hi hip => ?_⟩
  · have := h3 i hi
    simp only [ho, Bool.and_eq_true] at this
    have h6 := Array.all_eq_true'.1 this.1 e he
    simpa [hb] using h6
  · have := h3 i hi
    simp only [ho, Bool.and_eq_true, List.all_eq_true, List.mem_range] at this
    have hj : j < ops.size := by
      rcases Nat.lt_or_ge j ops.size with h | h
      · exact h
      · simp [dstOf, Array.getElem?_eq_none h] at hd
    have h6 := this.2 j hj
    simp only [hd, Bool.and_eq_true, Bool.or_eq_true] at h6
    rcases h6.1 with h7 | h7
    · simp only [Bool.not_eq_true', List.contains_eq_mem, decide_eq_false_iff_not] at h7
      exact absurd hl h7
    · simpa using h7
  · have ho : ∃ o, ops[i]? = some o := ⟨ops[i]'(by omega), by simp [show i < ops.size by omega]⟩
    obtain ⟨o, ho⟩ := ho
    have := h3 i hi
    simp only [ho, Bool.and_eq_true, List.all_eq_true, List.mem_range] at this
    have h6 := this.2 j (by omega)
    simp only [hd, Bool.and_eq_true, Bool.or_eq_true] at h6
    rcases h6.2 with (h7 | h7) | h7
    · exact absurd (by simpa using h7) hne
    · simp at h7; omega
    · simpa using h7
  · have := h6 t hts
    simp only [Bool.or_eq_true, decide_eq_true_eq, List.all_eq_true, List.mem_range, beq_iff_eq] at this
    rcases this with h | h
    · omega
    · rcases h i hi with h | h
      · exact absurd h hip
      · exact h
/-- What is known of operation p. -/
structure PureSpec (ops : Array Oper) (p : Nat) (d : Tmp) (x : Operand) : Prop where
  op : ∃ ty pos after, ops[p]? = some ⟨some d, .move x, ty, pos, after, none⟩ ∧ ∀ e ∈ after, Region.binds .any e = false
  arg : ∀ t, x = .tmp t → ∀ j, dstOf ops j ≠ some t
  uniq : ∀ j o, ops[j]? = some o → j ≠ p → o.dst ≠ some d
  looks : ∀ j o, ops[j]? = some o → d ∈ o.looksAt ops → Region.waitsFor .any ops j p = true
theorem PureSpec.of {ops : Array Oper} {n p : Nat} (h : detPB ops n p = true) : p < n ∧ ∃ d x, PureSpec ops p d x := by
  simp only [detPB, Bool.and_eq_true, decide_eq_true_eq] at h
  obtain ⟨⟨⟨⟨⟨⟨h1, h2⟩, hp⟩, h3⟩, h5⟩, h6⟩, h7⟩ := h
  refine ⟨hp, ?_⟩
  split at h7
  · rename_i d x ty pos after ho
    simp only [Bool.and_eq_true, List.all_eq_true, List.mem_range] at h7
    obtain ⟨⟨ha, hx⟩, hj⟩ := h7
    refine ⟨d, x, ⟨_, _, _, ho, fun e he => by have := Array.all_eq_true'.1 ha e he; simpa using this⟩, fun t ht j hd => ?_, fun j o ho' hne hd => ?_, fun j o ho' hl => ?_⟩
    · subst ht
      have hjs : j < ops.size := by
        rcases Nat.lt_or_ge j ops.size with h | h
        · exact h
        · simp [dstOf, Array.getElem?_eq_none h] at hd
      simp only [List.all_eq_true, List.mem_range] at hx
      have := hx j hjs
      simp [hd] at this
    · have hjs := (Array.getElem?_eq_some_iff.1 ho').1
      have := hj j hjs
      simp only [ho', Bool.and_eq_true, Bool.or_eq_true, beq_iff_eq] at this
      rcases this.1 with h | h
      · exact hne h
      · simp [hd] at h
    · have hjs := (Array.getElem?_eq_some_iff.1 ho').1
      have := hj j hjs
      simp only [ho', Bool.and_eq_true, Bool.or_eq_true] at this
      rcases this.2 with h | h
      · simp only [Bool.not_eq_true', List.contains_eq_mem, decide_eq_false_iff_not] at h
        exact absurd hl h
      · exact h
  · cases h7

section
variable {P : Program} {ops : Array Oper} {K : Act → World → Prop} {n k p : Nat}
theorem put_comm (a : Act) {d e : Option Tmp} (u v : Value) (h : ∀ t, d = some t → e ≠ some t) : (a.put d u).put e v = (a.put e v).put d u := by
  cases d with
  | none => rfl
  | some t =>
    cases e with
    | none => rfl
    | some s =>
      have hne : t ≠ s := fun e' => h t rfl (by rw [e'])
      simp only [Act.put]
      congr 1
      exact Array.setIfInBounds_comm _ _ hne
/-- An operation that does not look at slot d goes as well with d filled. -/
theorem upon_put {o : Oper} {b : Act} {d : Tmp} {v : Value} {F F' : Act → World → Prop} {N : Exit → Act → World → Prop} (hd : o.dst ≠ some d) (hF : ∀ b' w', F (b'.put (some d) v) w' → F' b' w') (hN : ∀ e a w, N e a w → e = .normal)
    (r : Result Next) (h : o.upon P (b.put (some d) v) F N r) : o.upon P b F' N r := by
  have hc : ∀ u, (b.put (some d) v).put o.dst u = (b.put o.dst u).put (some d) v := fun u => put_comm b v u (fun t ht => by cases ht; exact hd)
  cases r with
  | ok x w' =>
    cases x <;> simp only [Oper.upon] at h ⊢
    case value u => exact hF _ _ (hc u ▸ h)
    case skip => exact hF _ _ (hc _ ▸ h)
    case defer dd =>
      refine hF _ _ ?_
      have e : ({ b.put (some d) v with defers := dd :: (b.put (some d) v).defers } : Act).put o.dst undef = (({ b with defers := dd :: b.defers } : Act).put o.dst undef).put (some d) v := by
        rw [← put_comm _ v undef (fun t ht => by cases ht; exact hd)]
        rfl
      rw [← e]; exact h
    case enter f args =>
      refine Calls.mono h fun e w'' he => ?_
      cases e with
      | returned u => exact hF _ _ (hc u ▸ he)
      | panicked c => exact absurd (hN _ _ _ he) (by simp)
      | outgrown => obtain ⟨a, w, he⟩ := he; exact absurd (hN _ _ _ he) (by simp)
    case row row args => exact Rows.mono h fun u w'' he => hF _ _ (hc u ▸ he)
  | halt x w' =>
    cases x <;> simp only [Oper.upon] at h ⊢
    case panic u => exact absurd (hN _ _ _ h) (by simp)
theorem pure_first (hsel : Region.noSelect ops = true) {d : Tmp} {x : Operand} (S : PureSpec ops p d x) : ∀ (fuel : Nat) (listed : Array Bool) (b : Act) (w : World) (v : Value), listed.size = ops.size → listed.getD p true = false → b.eval x = v →
    wpAny P .any ops (NormQ K) fuel (listed.setIfInBounds p true) (b.put (some d) v) w → wpAny P .any ops (NormQ K) (fuel + 1) listed b w := by
  obtain ⟨ty, pos, after, hop, hae⟩ := S.op
  have hps := (Array.getElem?_eq_some_iff.1 hop).1
  intro fuel
  induction fuel with
  | zero =>
    intro listed b w v hsz hpl hv h
    refine ⟨fun hr => ?_, fun j hj => ?_⟩
    · have : p ∈ Region.ready .any ops listed := mem_ready.2 ⟨hpl, _, hop, fun e he hb => by rw [hae e he] at hb; cases hb⟩
      rw [hr] at this; cases this
    · by_cases hjp : j = p
      · subst hjp
        unfold wpOp
        rw [hop]
        simp only [Region.wanted, if_true]
        left
        unfold Oper.wp
        simp only [execOp, Sem.run_bind, Sem.run_pure, Result.andThen, Oper.upon]
        rw [hv]; exact h
      · exfalso
        obtain ⟨h0, o, ho, hall⟩ := mem_ready.1 hj
        have : j ∈ Region.ready .any ops (listed.setIfInBounds p true) := mem_ready.2 ⟨by rw [Array.getD_eq_getD_getElem?, Array.getElem?_setIfInBounds_ne (Ne.symm hjp), ← Array.getD_eq_getD_getElem?]; exact h0, o, ho, fun e he hb => by
          by_cases e' : e.on = p
          · rw [e']; simp [hsz, hps]
          · rw [Array.getD_eq_getD_getElem?, Array.getElem?_setIfInBounds_ne (Ne.symm e'), ← Array.getD_eq_getD_getElem?]; exact hall e he hb⟩
        rw [h.1] at this; cases this
  | succ f ih =>
    intro listed b w v hsz hpl hv h
    refine ⟨fun hr => ?_, fun j hj => ?_⟩
    · have : p ∈ Region.ready .any ops listed := mem_ready.2 ⟨hpl, _, hop, fun e he hb => by rw [hae e he] at hb; cases hb⟩
      rw [hr] at this; cases this
    · by_cases hjp : j = p
      · subst hjp
        unfold wpOp
        rw [hop]
        simp only [Region.wanted, if_true]
        left
        unfold Oper.wp
        simp only [execOp, Sem.run_bind, Sem.run_pure, Result.andThen, Oper.upon]
        rw [hv]; exact h
      · obtain ⟨h0, o, ho, hall⟩ := mem_ready.1 hj
        have hr : j ∈ Region.ready .any ops (listed.setIfInBounds p true) := mem_ready.2 ⟨by rw [Array.getD_eq_getD_getElem?, Array.getElem?_setIfInBounds_ne (Ne.symm hjp), ← Array.getD_eq_getD_getElem?]; exact h0, o, ho, fun e he hb => by
          by_cases e' : e.on = p
          · rw [e']; simp [hsz, hps]
          · rw [Array.getD_eq_getD_getElem?, Array.getElem?_setIfInBounds_ne (Ne.symm e'), ← Array.getD_eq_getD_getElem?]; exact hall e he hb⟩
        have h1 := h.2 j hr
        have hnl : d ∉ o.looksAt ops := fun hm => by
          obtain ⟨o', ho', e, he, hb, heo⟩ := Region.waitsFor_spec (S.looks j o ho hm)
          rw [ho] at ho'
          obtain rfl := Option.some.inj ho'
          have := hall e he hb
          rw [heo, getD_both hpl] at this
          cases this
        have hdo : o.dst ≠ some d := S.uniq j o ho hjp
        have hex : execOp (b.put (some d) v).eval o = execOp b.eval o := execOp_congr o (Region.noSelect_spec hsel j o · · ho) fun y hy => by
          cases y with
          | tmp t =>
            have ht : t ∈ o.looksAt ops := List.mem_append_left _ (List.mem_filterMap.2 ⟨.tmp t, by simpa using hy, rfl⟩)
            have hne : (some d : Option Tmp) ≠ some t := fun e => hnl (by cases e; exact ht)
            simp only [Act.eval, Array.getD_eq_getD_getElem?, put_get_ne b v hne]
          | _ => rfl
        have hwt : Region.wanted o (yielded ops (b.put (some d) v).tmps) = Region.wanted o (yielded ops b.tmps) := by
          unfold Region.wanted
          cases hg : o.guard with
          | none => rfl
          | some gw =>
            obtain ⟨g, want⟩ := gw
            have hy : yielded ops (b.put (some d) v).tmps g = yielded ops b.tmps g := by
              unfold yielded
              cases hd : (ops[g]?).bind (·.dst) with
              | none => rfl
              | some dg =>
                have ht : dg ∈ o.looksAt ops := List.mem_append_right _ (by simp [hg, hd])
                have hne : (some d : Option Tmp) ≠ some dg := fun e => hnl (by cases e; exact ht)
                simp only [Option.bind_some, put_get_ne b v hne]
            simp only [hy]
        have hstep : ∀ b' w', (b'.eval x = v) → wpAny P .any ops (NormQ K) f ((listed.setIfInBounds p true).setIfInBounds j true) (b'.put (some d) v) w' → wpAny P .any ops (NormQ K) (f + 1) (listed.setIfInBounds j true) b' w' := fun b' w' hb' hk => by
          refine ih _ b' w' v (by simp [hsz]) ?_ hb' ?_
          · rw [Array.getD_eq_getD_getElem?, Array.getElem?_setIfInBounds_ne hjp, ← Array.getD_eq_getD_getElem?]; exact hpl
          · rw [Array.setIfInBounds_comm _ _ hjp]; exact hk
        have hev : ∀ u (bd : List Deferred), (({ b with defers := bd } : Act).put o.dst u).eval x = v := fun u bd => by
          rw [← hv]
          cases hx : x with
          | tmp t =>
            have hne : o.dst ≠ some t := fun e => S.arg t hx j (by simp [dstOf, ho, e])
            simp only [Act.eval, Array.getD_eq_getD_getElem?, put_get_ne _ u hne]
          | _ => rfl
        unfold wpOp at h1 ⊢
        rw [ho] at h1 ⊢
        simp only at h1 ⊢
        rw [hwt] at h1
        by_cases hwn : Region.wanted o (yielded ops b.tmps) = true
        · rw [if_pos hwn] at h1 ⊢
          rcases h1 with h1 | ⟨_, a', w', h1⟩
          · left
            unfold Oper.wp at h1 ⊢
            rw [hex] at h1
            generalize (execOp b.eval o).run P w = r at h1 ⊢
            have hc : ∀ u, (b.put (some d) v).put o.dst u = (b.put o.dst u).put (some d) v := fun u => put_comm b v u (fun t ht => by cases ht; exact hdo)
            cases r with
            | ok y w' =>
              cases y <;> simp only [Oper.upon] at h1 ⊢
              case value u => exact hstep _ _ (hev u b.defers) (hc u ▸ h1)
              case skip => exact hstep _ _ (hev _ b.defers) (hc _ ▸ h1)
              case defer dd =>
                refine hstep _ _ (hev _ _) ?_
                have e : ({ b.put (some d) v with defers := dd :: (b.put (some d) v).defers } : Act).put o.dst undef = (({ b with defers := dd :: b.defers } : Act).put o.dst undef).put (some d) v := by
                  rw [← put_comm _ v undef (fun t ht => by cases ht; exact hdo)]
                  rfl
                rw [← e]; exact h1
              case enter f' args =>
                refine Calls.mono h1 fun e w'' he => ?_
                cases e with
                | returned u => exact hstep _ _ (hev u b.defers) (hc u ▸ he)
                | panicked c => exact absurd he.1 (by simp)
                | outgrown => obtain ⟨a, w, he⟩ := he; exact absurd he.1 (by simp)
              case row row args => exact Rows.mono h1 fun u w'' he => hstep _ _ (hev u b.defers) (hc u ▸ he)
            | halt y w' =>
              cases y <;> simp only [Oper.upon] at h1 ⊢
              case panic u => exact absurd h1.1 (by simp)
          · exact absurd h1.1 (by simp)
        · rw [if_neg hwn] at h1 ⊢
          have hc : ∀ u, (b.put (some d) v).put o.dst u = (b.put o.dst u).put (some d) v := fun u => put_comm b v u (fun t ht => by cases ht; exact hdo)
          exact hstep _ _ (hev _ b.defers) (hc _ ▸ h1)
variable {Q : Exit → Act → World → Prop} {I : Bool → World → Prop}
theorem any_detP (S : DetSpecP ops n p) (hkn : k < n) (vs : Nat → Value) (a : Act) (hdet : ∀ i o, i < n → i ≠ k → ops[i]? = some o → ∀ e, DetOp P ops (I e) o (vs i) (stg ops vs a i)) (hst : ∀ o, ops[k]? = some o → DetOp2 P ops (I false) (I true) o (vs k) (stg ops vs a k))
    (hfin : ∀ w, I true w → wpList P ops Q (ops.toList.drop n) (stg ops vs a n) w) :
    ∀ (m : Nat) (U : List Nat) (listed : Array Bool) (b : Act) (w : World), U.length = m → U.Nodup → (∀ i, i ∈ U ↔ i < n ∧ listed.getD i true = false) →
      HeadInv .any ops n listed → DetInv ops n vs a listed b → listed.getD p false = true → I (listed.getD k false) w → wpAny P .any ops Q (m + (ops.size - n)) listed b w := by
  intro m
  induction m with
  | zero =>
    intro U listed b w hl hnd hU hinv hb hpl hI
    have hnil : U = [] := List.eq_nil_of_length_eq_zero hl
    subst hnil
    have hdone : ∀ i, i < n → listed.getD i true = true := fun i hi => by
      cases h : listed.getD i true with
      | true => rfl
      | false => exact absurd ((hU i).2 ⟨hi, h⟩) (by simp)
    have hlist : listed = (Array.range ops.size).map fun i => decide (i < n) := by
      apply Array.ext
      · simp [hinv.size]
      · intro i h1 h2
        have hi : i < ops.size := by rw [← hinv.size]; exact h1
        by_cases hin : i < n
        · have := hdone i hin
          rw [Array.getD_eq_getD_getElem?, Array.getElem?_eq_getElem h1] at this
          simpa [hin] using this
        · have := hinv.tail i (by omega) hi
          rw [Array.getD_eq_getD_getElem?, Array.getElem?_eq_getElem h1] at this
          simpa [hin] using this
    have hbe : b = stg ops vs a n := by
      have ht : b.tmps = (stg ops vs a n).tmps := by
        apply Array.ext_getElem?
        intro t
        by_cases hx : ∃ j, j < n ∧ dstOf ops j = some t
        · obtain ⟨j, hj, hd⟩ := hx
          refine hb.done j t hj hd ?_
          have hjs : j < listed.size := by rw [hinv.size]; have := S.le; omega
          have := hdone j hj
          rw [Array.getD_eq_getD_getElem?, Array.getElem?_eq_getElem hjs] at this ⊢
          simpa using this
        · have hx' : ∀ j, j < n → dstOf ops j ≠ some t := fun j hj hd => hx ⟨j, hj, hd⟩
          rw [hb.other t hx', stg_ne vs a t n hx']
      have hd : b.defers = (stg ops vs a n).defers := by rw [hb.defers, stg_defers]
      cases b; cases hc : stg ops vs a n; rw [hc] at ht hd; simp only at ht hd; rw [ht, hd]
    have hkd : listed.getD k false = true := by
      have hks : k < listed.size := by rw [hinv.size]; have := S.le; omega
      have := hdone k hkn
      rw [Array.getD_eq_getD_getElem?, Array.getElem?_eq_getElem hks] at this ⊢
      simpa using this
    rw [hkd] at hI
    subst hlist hbe
    have hsz : (ops.toList.drop n).length = ops.size - n := by simp
    have := wpAny_of_seq (P := P) (md := .any) (ops := ops) (Q' := Q) (ops.toList.drop n) n _ (stg ops vs a n) w (fun j => by simp [List.getElem?_drop]) (by rw [hsz]; exact S.seq) (hfin w hI)
    rw [hsz] at this
    rw [Nat.zero_add]
    exact this
  | succ m ih =>
    intro U listed b w hl hnd hU hinv hb hpl hI
    have hex : ∃ i, i < n ∧ listed.getD i true = false := by
      cases U with
      | nil => simp at hl
      | cons i U => exact ⟨i, (hU i).1 (by simp)⟩
    have hfloat : ∀ t, t ∈ Region.ready .any ops listed → t < n := fun t ht => by
      rcases Nat.lt_or_ge t n with h | h
      · exact h
      · exfalso
        obtain ⟨i, hi, hun⟩ := hex
        have hip : i ≠ p := fun e => by
          subst e
          rw [getD_both hun] at hpl
          cases hpl
        obtain ⟨_, o, ho, hall⟩ := mem_ready.1 ht
        have hlt := (Array.getElem?_eq_some_iff.1 ho).1
        have := reachB_listed hinv.closed 4 t i o ho hall (S.reach t i h hlt hi hip)
        rw [getD_both hun] at this
        cases this
    have hne : Region.ready .any ops listed ≠ [] := by
      have key : ∀ i, i < n → listed.getD i true = false → ∃ j, j ∈ Region.ready .any ops listed := by
        intro i
        induction i using Nat.strongRecOn with
        | _ i ihi =>
          intro hi hun
          have ho : ops[i]? = some (ops[i]'(by have := S.le; omega)) := by simp [show i < ops.size by have := S.le; omega]
          by_cases hall : ∀ e ∈ (ops[i]'(by have := S.le; omega)).after, Region.binds .any e = true → listed.getD e.on false = true
          · exact ⟨i, mem_ready.2 ⟨hun, _, ho, hall⟩⟩
          · have : ∃ e, e ∈ (ops[i]'(by have := S.le; omega)).after ∧ Region.binds .any e = true ∧ ¬ listed.getD e.on false = true := by
              apply Classical.byContradiction
              intro hc
              exact hall fun e he hb => Classical.byContradiction fun h => hc ⟨e, he, hb, h⟩
            obtain ⟨e, he, hbd, hl⟩ := this
            have hlt := S.edges i _ hi ho e he hbd
            refine ihi e.on hlt (by omega) ?_
            have hsz : e.on < listed.size := by rw [hinv.size]; have := S.le; omega
            rw [Array.getD_eq_getD_getElem?, Array.getElem?_eq_getElem hsz] at hl ⊢
            simpa using hl
      obtain ⟨i, hi, hun⟩ := hex
      obtain ⟨j, hj⟩ := key i hi hun
      intro h; rw [h] at hj; cases hj
    rw [show m + 1 + (ops.size - n) = (m + (ops.size - n)) + 1 by omega]
    refine ⟨fun h => absurd h hne, fun i hi => ?_⟩
    have hin := hfloat i hi
    obtain ⟨hun, o, ho, hall⟩ := mem_ready.1 hi
    have hdst : dstOf ops i = o.dst := by simp [dstOf, ho]
    have hag : ∀ t, t ∈ o.looksAt ops → (stg ops vs a i).tmps[t]? = b.tmps[t]? := fun t ht => by
      by_cases hx : ∃ k, k < n ∧ dstOf ops k = some t
      · obtain ⟨k, hk, hd⟩ := hx
        obtain ⟨hki, hw⟩ := S.looks i o k t hin ho hd ht
        obtain ⟨oj, hoj, e, he, hbd, heo⟩ := Region.waitsFor_spec hw
        rw [ho] at hoj
        obtain rfl := Option.some.inj hoj
        have hlk : listed.getD k false = true := heo ▸ hall e he hbd
        rw [hb.done k t hk hd hlk, stg_eq vs a t k hd i hki (fun j hj hne => S.uniq j k t (by omega) hk (Ne.symm hne) hd),
          stg_eq vs a t k hd n hk (fun j hj hne => S.uniq j k t hj hk (Ne.symm hne) hd)]
      · have hx' : ∀ j, j < n → dstOf ops j ≠ some t := fun j hj hd => hx ⟨j, hj, hd⟩
        rw [hb.other t hx', stg_ne vs a t i fun j hj => hx' j (by omega)]
    have hpl' : (listed.setIfInBounds i true).getD p false = true := by
      by_cases e : i = p
      · subst e
        have hisz : i < listed.size := by rw [hinv.size]; have := S.le; omega
        simp [hisz]
      · rw [Array.getD_eq_getD_getElem?, Array.getElem?_setIfInBounds_ne e, ← Array.getD_eq_getD_getElem?]
        exact hpl
    have hstep : ∀ w', I ((listed.setIfInBounds i true).getD k false) w' → wpAny P .any ops Q (m + (ops.size - n)) (listed.setIfInBounds i true) (b.put o.dst (vs i)) w' := fun w' hI' => by
      refine ih (U.erase i) _ _ _ (by rw [List.length_erase_of_mem ((hU i).2 ⟨hin, hun⟩), hl]; rfl) (hnd.erase i) (fun j => ?_) (hinv.set hi hin) ⟨?_, ?_, ?_, ?_⟩ hpl' hI'
      · rw [hnd.mem_erase_iff, hU]
        by_cases e : j = i
        · subst e
          have hsz : j < listed.size := by rw [hinv.size]; have := S.le; omega
          simp [Array.getElem?_setIfInBounds, hsz]
        · simp [Array.getElem?_setIfInBounds_ne (Ne.symm e), e]
      · rw [put_size, hb.size]
      · rw [put_defers, hb.defers]
      · intro j t hj hd hlj
        by_cases e : j = i
        · subst e
          rw [hdst] at hd
          rw [hd, put_get_eq, hb.size, stg_eq vs a t j (hdst.trans hd) n hj (fun k hk hne => S.uniq k j t hk hj (Ne.symm hne) (hdst.trans hd))]
        · have hne : o.dst ≠ some t := by rw [← hdst]; exact S.uniq i j t hin hj e hd
          rw [put_get_ne _ _ hne]
          refine hb.done j t hj hd ?_
          rw [Array.getD_eq_getD_getElem?, Array.getElem?_setIfInBounds_ne (Ne.symm e), ← Array.getD_eq_getD_getElem?] at hlj
          exact hlj
      · intro t ht
        have hne : o.dst ≠ some t := by rw [← hdst]; exact ht i hin
        rw [put_get_ne _ _ hne]
        exact hb.other t ht
    have hisz : i < listed.size := by rw [hinv.size]; have := S.le; omega
    by_cases hik : i = k
    · subst hik
      have hf : listed.getD i false = false := by
        rw [Array.getD_eq_getD_getElem?, Array.getElem?_eq_getElem hisz] at hun ⊢
        simpa using hun
      rw [hf] at hI
      refine DetOp2.moved ho (Region.noSelect_spec S.sel i o · · ho) ((stg_size vs a i).trans hb.size.symm) ((stg_defers vs a i).trans hb.defers.symm) hag (hst o ho) hI fun w' hI' => hstep w' ?_
      rw [Array.getD_eq_getD_getElem?, Array.getElem?_setIfInBounds]
      simpa [hisz] using hI'
    · refine DetOp.moved ho (Region.noSelect_spec S.sel i o · · ho) ((stg_size vs a i).trans hb.size.symm) ((stg_defers vs a i).trans hb.defers.symm) hag (hdet i o hin hik ho _) hI fun w' hI' => hstep w' ?_
      rw [Array.getD_eq_getD_getElem?, Array.getElem?_setIfInBounds_ne hik, ← Array.getD_eq_getD_getElem?]
      exact hI'

end
section
variable {P : Program} {ops : Array Oper} {K : Act → World → Prop} {Q : Exit → Act → World → Prop} {n k p : Nat}
theorem any_mono (hK : ∀ a w, K a w → Q .normal a w) : ∀ (fuel : Nat) (listed : Array Bool) (a : Act) (w : World), wpAny P .any ops (NormQ K) fuel listed a w → wpAny P .any ops Q fuel listed a w
  | 0, listed, a, w, h => ⟨h.1, hK _ _ h.2.2⟩
  | fuel + 1, listed, a, w, h => by
    refine ⟨fun h0 => hK _ _ (h.1 h0).2, fun i hi => ?_⟩
    have h1 := h.2 i hi
    unfold wpOp at h1 ⊢
    cases ho : ops[i]? with
    | none => rw [ho] at h1; exact any_mono hK fuel _ a w h1
    | some o =>
      rw [ho] at h1
      simp only at h1 ⊢
      split
      · rename_i hw
        rw [if_pos hw] at h1
        rcases h1 with h1 | ⟨_, a', w', h1⟩
        · left
          unfold Oper.wp at h1 ⊢
          generalize (execOp a.eval o).run P w = r at h1 ⊢
          cases r with
          | ok y w' =>
            cases y <;> simp only [Oper.upon] at h1 ⊢
            case value u => exact any_mono hK fuel _ _ _ h1
            case skip => exact any_mono hK fuel _ _ _ h1
            case defer dd => exact any_mono hK fuel _ _ _ h1
            case enter f' args =>
              refine Calls.mono h1 fun e w'' he => ?_
              cases e with
              | returned u => exact any_mono hK fuel _ _ _ he
              | panicked c => exact absurd he.1 (by simp)
              | outgrown => obtain ⟨a, w, he⟩ := he; exact absurd he.1 (by simp)
            case row row args => exact Rows.mono h1 fun u w'' he => any_mono hK fuel _ _ _ he
          | halt y w' =>
            cases y <;> simp only [Oper.upon] at h1 ⊢
            case panic u => exact absurd h1.1 (by simp)
        · exact absurd h1.1 (by simp)
      · rename_i hw
        rw [if_neg hw] at h1
        exact any_mono hK fuel _ _ _ h1
theorem detP_any {l : List Oper} {a : Act} {w : World} (n k p : Nat) (I : Bool → World → Prop) (hB : (detPB l.toArray n p && decide (k < n) && decide (p ≠ k)) = true) (hI : I false w.drew)
    (h : wpDetS P l.toArray I k (fun a' => ∀ w', I true w' → wpList P l.toArray (NormQ K) (l.drop n) a' w') (l.take n) 0 a) : wpAny P .any l.toArray (NormQ K) l.toArray.size (Array.replicate l.toArray.size false) a w.drew := by
  simp only [Bool.and_eq_true, decide_eq_true_eq] at hB
  obtain ⟨⟨hB, hkn⟩, hpk⟩ := hB
  have S := DetSpecP.of hB
  obtain ⟨hpn, d, x, SP⟩ := PureSpec.of hB
  obtain ⟨ty, pos, after, hop, hae⟩ := SP.op
  have hn : n ≤ l.length := by simpa using S.le
  have hlen : (l.take n).length = n := by simp; omega
  obtain ⟨vs, hvs⟩ := wpDetS_values (ops := l.toArray) (l.take n) 0 a (fun j hj => by rw [hlen] at hj; simp [hj]) h
  obtain ⟨h1, h2⟩ := hvs (stg l.toArray vs a) rfl (fun j _ => by simp [stg])
  rw [hlen] at h1 h2
  have hdp : dstOf l.toArray p = some d := by simp only [dstOf, hop]; rfl
  have hev : ∀ i, (stg l.toArray vs a i).eval x = a.eval x := fun i => by
    cases hx : x with
    | tmp t =>
      have := stg_ne (ops := l.toArray) vs a t i (fun j _ hd => SP.arg t hx j hd)
      simp only [Act.eval, Array.getD_eq_getD_getElem?, this]
    | _ => rfl
  have hvp : (stg l.toArray vs a p).put (some d) (a.eval x) = (stg l.toArray vs a p).put (some d) (vs p) := by
    have hp := (h1 p _ hpn (by simpa using hop)).1 (by simpa using hpk) false
    rcases hp with ⟨_, hr⟩ | ⟨hw, _⟩
    · have h3 := hr _ hI
      unfold Oper.wp at h3
      simp only [execOp, Sem.run_bind, Sem.run_pure, Result.andThen, Oper.upon, hev] at h3
      exact h3.1
    · simp [Region.wanted] at hw
  have hvd : d < a.tmps.size → a.eval x = vs p := fun hd => by
    have h3 : ((stg l.toArray vs a p).put (some d) (a.eval x)).tmps[d]? = ((stg l.toArray vs a p).put (some d) (vs p)).tmps[d]? := by rw [hvp]
    rw [put_get_eq, put_get_eq, stg_size, if_pos hd, if_pos hd] at h3
    exact Option.some.inj h3
  have hps : p < l.toArray.size := (Array.getElem?_eq_some_iff.1 hop).1
  have hf0 : ∀ j, j ≠ p → ((Array.replicate l.toArray.size false).setIfInBounds p true).getD j false = false := fun j hj => by
    rw [Array.getD_eq_getD_getElem?, Array.getElem?_setIfInBounds_ne (Ne.symm hj), ← Array.getD_eq_getD_getElem?, getD_replicate_false]
  have hf1 : ∀ j, j ≠ p → j < l.toArray.size → ((Array.replicate l.toArray.size false).setIfInBounds p true).getD j true = false := fun j hj hjs => by
    rw [Array.getD_eq_getD_getElem?, Array.getElem?_setIfInBounds_ne (Ne.symm hj), ← Array.getD_eq_getD_getElem?]
    exact getD_in (by simpa using hjs) (getD_replicate_false _ _)
  have hfp : ∀ z, ((Array.replicate l.toArray.size false).setIfInBounds p true).getD p z = true := fun z => by
    rw [Array.getD_eq_getD_getElem?, Array.getElem?_setIfInBounds]
    have hps' : p < l.length := by simpa using hps
    simp [hps']
  have key := any_detP (P := P) (Q := NormQ K) (I := I) S hkn vs a (fun i o hi hik ho => (h1 i o hi (by simpa using ho)).1 (by simpa using hik)) (fun o ho => (h1 k o hkn (by simpa using ho)).2 (by simp)) (by simpa using h2)
    (n - 1) ((List.range n).erase p) ((Array.replicate l.toArray.size false).setIfInBounds p true) (a.put (some d) (a.eval x)) w.drew
    (by rw [List.length_erase_of_mem (by simpa using hpn)]; simp) (List.nodup_range.erase p) (fun i => by
      rw [List.nodup_range.mem_erase_iff, List.mem_range]
      constructor
      · intro hi; exact ⟨hi.2, hf1 i hi.1 (by have := S.le; omega)⟩
      · intro hi
        refine ⟨fun e => ?_, hi.1⟩
        rw [e, hfp] at hi
        cases hi.2)
    ⟨by simp, fun j oj hj hl e he hb => by
      by_cases e' : j = p
      · subst e'
        rw [hop] at hj
        obtain rfl := Option.some.inj hj
        rw [hae e he] at hb; cases hb
      · rw [hf0 j e'] at hl; exact Bool.noConfusion hl, fun t ht hts => hf1 t (by omega) hts⟩
    ⟨put_size _ _ _, put_defers _ _ _, fun j t hj hd hl => by
      by_cases e' : j = p
      · subst e'
        rw [hdp] at hd
        cases hd
        rw [put_get_eq, stg_eq vs a d j hdp n hj (fun i hi hne => S.uniq i j d hi hj (Ne.symm hne) hdp)]
        split
        · rename_i hds; rw [hvd hds]
        · rfl
      · rw [hf0 j e'] at hl; exact Bool.noConfusion hl, fun t ht => by
      rw [put_get_ne _ _ (fun e => ht p hpn (hdp.trans e))]⟩ (hfp false) (by rw [hf0 k (Ne.symm hpk)]; exact hI)
  have hs := S.le
  have := pure_first (P := P) (K := K) S.sel SP _ (Array.replicate l.toArray.size false) a w.drew (a.eval x) (by simp) (getD_in (by simpa using hps) (getD_replicate_false _ _)) rfl key
  rw [show n - 1 + (l.toArray.size - n) + 1 = l.toArray.size by omega] at this
  exact this
theorem region_detP {id : Nat} {a : Act} {w : World} {l : List Oper} (n k p : Nat) (I : Bool → World → Prop) (hm : P.follows .mixedOrders = true) (hB : (detPB l.toArray n p && decide (k < n) && decide (p ≠ k)) = true) (hI : I false w.drew)
    (h : wpDetS P l.toArray I k (fun a' => ∀ w', I true w' → wpList P l.toArray (NormQ fun a w => Q .normal a w) (l.drop n) a' w') (l.take n) 0 a) : (Code.region id l.toArray true).wp P Q a w :=
  wp_region_any hm (any_mono (fun _ _ h => h) _ _ _ _ (detP_any n k p I hB hI h))
theorem region_detPR {S : Nat → Prop} {w0 w : World} {sz : Nat} {L R : List Bk} {id : Nat} {a : Act} {l : List Oper} (n k p : Nat) (H : Hp S w0 w sz L R) (hm : P.follows .mixedOrders = true) (hB : (detPB l.toArray n p && decide (k < n) && decide (p ≠ k)) = true)
    (h : wpDetS P l.toArray (fun _ => HpX S w0 sz L R) k (fun a' => ∀ w', HpX S w0 sz L R w' → wpList P l.toArray (NormQ fun a w => Q .normal a w) (l.drop n) a' w') (l.take n) 0 a) : (Code.region id l.toArray true).wp P Q a w :=
  region_detP n k p _ hm hB ⟨_, Nat.le_refl _, H.drew⟩ h
/-- One block is made by operation k. -/
def HpM (S : Nat → Prop) (w0 : World) (sz : Nat) (L R : List Bk) (t : TypeId) (cs : Array Value) (e : Bool) (w : World) : Prop := Hp S w0 w (bif e then sz + 1 else sz) (L ++ bif e then [(sz, t, cs)] else []) R
theorem region_mkP {S : Nat → Prop} {w0 w : World} {sz : Nat} {L R : List Bk} {id : Nat} {a : Act} {l : List Oper} (n k p : Nat) (t : TypeId) (cs : Array Value) (H : Hp S w0 w sz L R) (hm : P.follows .mixedOrders = true) (hB : (detPB l.toArray n p && decide (k < n) && decide (p ≠ k)) = true)
    (h : wpDetS P l.toArray (HpM S w0 sz L R t cs) k (fun a' => ∀ w', Hp S w0 w' (sz + 1) (L ++ [(sz, t, cs)]) R → wpList P l.toArray (NormQ fun a w => Q .normal a w) (l.drop n) a' w') (l.take n) 0 a) : (Code.region id l.toArray true).wp P Q a w :=
  region_detP n k p _ hm hB (by show Hp _ _ _ _ (L ++ []) _; rw [List.append_nil]; exact H.drew) h
theorem Hp.mkd {S : Nat → Prop} {w0 w : World} {sz : Nat} {L R : List Bk} {t : TypeId} {cs : Array Value} (H : Hp S w0 w (sz + 1) ((sz, t, cs) :: L) R) : HpM S w0 sz L R t cs true w := H.perm (List.perm_append_comm (l₁ := [_]))
theorem HpM.start {S : Nat → Prop} {w0 w : World} {sz : Nat} {L R : List Bk} {t : TypeId} {cs : Array Value} (H : HpM S w0 sz L R t cs false w) : Hp S w0 w sz L R := by
  have : Hp S w0 w sz (L ++ []) R := H
  rwa [List.append_nil] at this
end
end Go.Proofs.YtccgpjhgfjfaoaaGreatDoor
/- tagbook: a book is a block with a slice, and a row of notices. -/
namespace Go.Proofs.YtccgpjhgfjfaoaaGreatDoor
open Go.RowKit

abbrev tBook : TypeId := 173
abbrev tNtc : TypeId := 128
abbrev bookC (br n : Nat) : Array Value := #[.slice (some ⟨br, 0, none⟩) n n]
def rowC (l : List Ntc) : Array Value := (l.flatMap encN).toArray
abbrev BK (l : List Ntc) (bk br : Nat) : List Bk := [(bk, tBook, bookC br l.length), (br, tNtc, rowC l)]
theorem rowC_size (l : List Ntc) : (rowC l).size = l.length * 3 := by simp [rowC, flat_len encN_len]
theorem rowC_seg (l : List Ntc) : seg (rowC l) 0 (l.length * 3) = l.flatMap encN := by
  have := flat_len encN_len l
  simp only [seg, rowC, List.drop_zero]
  rw [← this, List.take_length]
theorem rowC_at (l : List Ntc) (i : Nat) (hi : i < l.length) : segV true (rowC l) (i * 3) 3 = ntcV l[i] := by
  have := seg_elem encN_len (rowC_seg l) i hi
  rw [Nat.zero_add] at this
  simp only [segV, if_true]; rw [this]; rfl
theorem rowC_bd (l : List Ntc) (i : Nat) (hi : i < l.length) : i * 3 + 3 ≤ (rowC l).size := by rw [rowC_size]; omega
theorem flat_set {α : Type} {enc : α → List Value} {n : Nat} (hn : ∀ x, (enc x).length = n) (x : α) : ∀ (l : List α) (i : Nat), i < l.length → (l.flatMap enc).take (i * n) ++ enc x ++ (l.flatMap enc).drop (i * n + n) = (l.set i x).flatMap enc
  | [], i, h => by simp at h
  | y :: l, 0, _ => by
    simp only [List.flatMap_cons, List.set_cons_zero, Nat.zero_mul, List.take_zero, List.nil_append, Nat.zero_add]
    rw [← hn y, List.drop_left]
  | y :: l, i + 1, h => by
    have ih := flat_set hn x l i (by simpa using h)
    simp only [List.flatMap_cons, List.set_cons_succ, Nat.add_mul, Nat.one_mul]
    rw [← ih]
    have e : i * n + n = (enc y).length + i * n := by rw [hn]; omega
    rw [e, List.take_append, List.drop_append]
    have e2 : (enc y).length + i * n + n - (enc y).length = i * n + n := by omega
    rw [show (enc y).length + i * n - (enc y).length = i * n by omega, e2, List.take_of_length_le (by omega), List.drop_eq_nil_of_le (by omega)]
    simp
    rw [e]
theorem rowC_put (l : List Ntc) (i : Nat) (hi : i < l.length) (x : Ntc) : segPut (rowC l) (i * 3) (encN x) = rowC (l.set i x) := by
  unfold segPut rowC
  rw [← flat_set encN_len x l i hi]
  simp [encN_len]
instance iBook1_1 : Ty Tryz.prog 81 false 1 := ⟨fun _ => by kernel_rfl, fun _ => by kernel_rfl, fun _ => rfl⟩
section
variable {w : World} {bk br : Nat} {l : List Ntc}
set_option maxRecDepth 100000 in
set_option maxHeartbeats 2000000 in
theorem blist_any (h1 : Blk w bk tBook (bookC br l.length)) : Calls Tryz.prog 71 #[pV bk] w (Ret (.slice (some ⟨br, 0, none⟩) l.length l.length) w) := by
  go_enter Tryz.func71, Tryz.ntmps71
  have H := (Hp.start NoS w).addR h1 id
  go_wp2_with (first | ((with_reducible apply wlL); apply hw_loadR 0 rfl rfl H rfl; (focus (simp; done)); (focus (simp only [segV, seg, NS]; rfl))))
  exact bodyPost_ret (res1 rfl (rv_tmp rfl)) rfl ⟨rfl, H.ret⟩
set_option maxRecDepth 100000 in
set_option maxHeartbeats 2000000 in
theorem bSize_any (h1 : Blk w bk tBook (bookC br l.length)) : Calls Tryz.prog 123 #[pV bk] w (Ret (.int .i64 l.length) w) := by
  go_enter Tryz.func123, Tryz.ntmps123
  have H := (Hp.start NoS w).addR h1 id
  go_wp2_with (first | (go_at_call 71; refine (blist_any (H.ro _ (.head _)).1).mono ?_; rintro e w' ⟨rfl, hb⟩; obtain ⟨s1, hs1, H⟩ := H.call hb; clear hb))
  exact bodyPost_ret (res1 rfl (rv_tmp rfl)) rfl ⟨rfl, H.ret⟩
set_option maxRecDepth 100000 in
set_option maxHeartbeats 2000000 in
theorem bAt_ok (h1 : Blk w bk tBook (bookC br l.length)) (h2 : Blk w br tNtc (rowC l)) (i : Nat) (hi : i < l.length) : Calls Tryz.prog 170 #[pV bk, .int .i64 i] w (Ret (.tuple #[ntcV l[i], .int .i64 0]) w) := by
  have HV := Lib.hid (rowC_at l i hi)
  have HB := Lib.hid (rowC_bd l i hi)
  have hd : decide ((l.length : Int) ≤ (i : Int)) = false := by simp; omega
  have hd' : decide (l.length ≤ i) = false := by simp; omega
  go_enter Tryz.func170, Tryz.ntmps170
  have H := ((Hp.start NoS w).addR h1 id).addR h2 id
  go_wp2_with (first | (go_at_call 123; refine (bSize_any (H.ro _ (.tail _ (.head _))).1).mono ?_; rintro e w' ⟨rfl, hb⟩; obtain ⟨s1, hs1, H⟩ := H.call hb; clear hb) | ((with_reducible apply wlL); apply hw_loadR 1 rfl rfl H rfl; (focus (simp; done)); (focus (simp only [segV, seg, NS]; rfl))) | ((with_reducible show wpList _ _ _ (⟨_, .load _ _, _, _, _, _⟩ :: _) _ _); apply hw_loadR 0 rfl rfl H rfl; (focus exact HB.out); (focus exact HV.out)) | ((first | ((with_reducible apply wlB); refine hw_box rfl rfl H ?_) | ((with_reducible apply wlA); refine hw_alloc rfl H ?_) | ((with_reducible apply wlS); first | refine hw_store 0 rfl rfl rfl H rfl rfl rfl (by simp) rfl ?_ | refine hw_store 1 rfl rfl rfl H rfl rfl rfl (by simp) rfl ?_ | refine hw_store 2 rfl rfl rfl H rfl rfl rfl (by simp) rfl ?_ | refine hw_store 3 rfl rfl rfl H rfl rfl rfl (by simp) rfl ?_)); clear H; intro w' H; (try simp only [Act.eval, Act.put, Value.cells, segV, seg, segPut, NS, Nat.reduceAdd] at H)) | ((with_reducible apply wlL); (first | apply hw_load 0 rfl rfl H rfl | apply hw_load 1 rfl rfl H rfl | apply hw_load 2 rfl rfl H rfl | apply hw_load 3 rfl rfl H rfl); (focus (simp; done)); (focus (simp only [segV, seg, NS]; rfl))))
  exact bodyPost_ret (res2 rfl (rv_cell 0 rfl H rfl (Nat.le_of_ble_eq_true rfl)) (rv_tmp rfl)) rfl ⟨by simp [segV, seg], H.ret⟩
set_option maxRecDepth 100000 in
set_option maxHeartbeats 2000000 in
theorem bAt_no (h1 : Blk w bk tBook (bookC br l.length)) (i : Int) (hi : i < 0 ∨ (l.length : Int) ≤ i) : Calls Tryz.prog 170 #[pV bk, .int .i64 i] w (Ret (.tuple #[ntcV ⟨0, 0, 0⟩, .int .i64 30]) w) := by
  rcases (show i < 0 ∨ (0 ≤ i ∧ (l.length : Int) ≤ i) by omega) with h | ⟨h0, h⟩
  all_goals (
    go_enter Tryz.func170, Tryz.ntmps170
    have H := (Hp.start NoS w).addR h1 id
    go_wp2_with (first | (go_at_call 123; refine (bSize_any (H.ro _ (.head _)).1).mono ?_; rintro e w' ⟨rfl, hb⟩; obtain ⟨s1, hs1, H⟩ := H.call hb; clear hb) | ((first | ((with_reducible apply wlB); refine hw_box rfl rfl H ?_) | ((with_reducible apply wlA); refine hw_alloc rfl H ?_) | ((with_reducible apply wlS); first | refine hw_store 0 rfl rfl rfl H rfl rfl rfl (by simp) rfl ?_ | refine hw_store 1 rfl rfl rfl H rfl rfl rfl (by simp) rfl ?_ | refine hw_store 2 rfl rfl rfl H rfl rfl rfl (by simp) rfl ?_ | refine hw_store 3 rfl rfl rfl H rfl rfl rfl (by simp) rfl ?_)); clear H; intro w' H; (try simp only [Act.eval, Act.put, Value.cells, segV, seg, segPut, NS, Nat.reduceAdd] at H)) | ((with_reducible apply wlL); (first | apply hw_load 0 rfl rfl H rfl | apply hw_load 1 rfl rfl H rfl | apply hw_load 2 rfl rfl H rfl | apply hw_load 3 rfl rfl H rfl); (focus (simp; done)); (focus (simp only [segV, seg, NS]; rfl))))
    exact bodyPost_ret (res2 rfl (rv_cell 0 rfl H rfl (Nat.le_of_ble_eq_true rfl)) (rv_tmp rfl)) rfl ⟨by simp [segV, seg], H.ret⟩)
end
end Go.Proofs.YtccgpjhgfjfaoaaGreatDoor
/- tagbook: Take, List, All. -/
namespace Go.Proofs.YtccgpjhgfjfaoaaGreatDoor
open Go.RowKit

def takeN (l : List Ntc) (x : Ntc) : List Ntc × Bool × Int :=
  if validB l.length x then (if beatsB x (l.getD x.of.toNat ⟨0, 0, 0⟩) then (l.set x.of.toNat x, true, 0) else (l, false, 0)) else (l, false, 50)
theorem takeN_len (l : List Ntc) (x : Ntc) : (takeN l x).1.length = l.length := by
  unfold takeN; split
  · split <;> simp
  · rfl
theorem BK_set (l : List Ntc) (i : Nat) (x : Ntc) (bk br : Nat) : BK (l.set i x, true, (0 : Int)).1 bk br = [(bk, tBook, bookC br l.length), (br, tNtc, rowC (l.set i x))] := by simp [BK]
section
variable {w : World} {bk br : Nat} {l : List Ntc}
set_option maxRecDepth 100000 in
set_option maxHeartbeats 2000000 in
theorem Take_no (H0 : Own w (BK l bk br)) (x : Ntc) (hv : validB l.length x = false) : Calls Tryz.prog 116 #[pV bk, ntcV x] w (UpdL (BK l bk br) (BK (takeN l x).1 bk br) (.tuple #[.bool (takeN l x).2.1, .int .i64 (takeN l x).2.2]) w) := by
  have hS := Lib.hid (show takeN l x = (l, false, 50) by unfold takeN; rw [hv]; rfl)
  go_enter Tryz.func116, Tryz.ntmps116
  have H := H0
  unfold Own at H
  go_wp2_with (first | ((first | ((with_reducible apply wlB); refine hw_box rfl rfl H ?_) | ((with_reducible apply wlA); refine hw_alloc rfl H ?_) | ((with_reducible apply wlS); first | refine hw_store 0 rfl rfl rfl H rfl rfl rfl (by simp) rfl ?_ | refine hw_store 1 rfl rfl rfl H rfl rfl rfl (by simp) rfl ?_ | refine hw_store 2 rfl rfl rfl H rfl rfl rfl (by simp) rfl ?_ | refine hw_store 3 rfl rfl rfl H rfl rfl rfl (by simp) rfl ?_)); clear H; intro w' H; (try simp only [Act.eval, Act.put, Value.cells, segV, seg, segPut, NS, Nat.reduceAdd] at H)) | ((with_reducible apply wlL); (first | apply hw_load 0 rfl rfl H rfl | apply hw_load 1 rfl rfl H rfl | apply hw_load 2 rfl rfl H rfl | apply hw_load 3 rfl rfl H rfl); (focus (simp; done)); (focus (simp only [segV, seg, NS]; rfl))))
  (try simp only [Act.eval, Act.put, Value.cells, segV, seg, segPut, NS, Nat.reduceAdd])
  refine region_det 5 (HpX _ _ _ _ _) rfl (by kernel_rfl) ⟨_, Nat.le_refl _, H.drew⟩ ?_; clear H; simp only [List.take_succ_cons, List.take_zero, List.drop_succ_cons, List.drop_zero]
  repeat (first | (apply det_op rfl; (focus (rintro w' ⟨s1, hs1, H⟩; go_wp2_with (first | ((with_reducible apply wlL); apply hw_load 0 rfl rfl H rfl; (focus (simp; done)); (focus (simp only [segV, seg, NS]; rfl))) | (go_at_call 123; refine (bSize_any (H.blk _ (.tail _ (.head _)))).mono ?_; rintro e w' ⟨rfl, hb⟩; obtain ⟨s2, hs2, H⟩ := H.call hb; clear hb) | (go_at_call 122; refine (Valid_any _ _ _).mono ?_; rw [hv]; rintro e w' ⟨rfl, hb⟩; obtain ⟨s2, hs2, H⟩ := H.call hb; clear hb)); refine ⟨rfl, rfl, ?_, _, by omega, H⟩; (first | (simp only [SlotIs, Array.getD_eq_getD_getElem?, List.getElem?_toArray, List.getElem?_cons_succ, List.getElem?_cons_zero, Option.getD_some]; exact rfl) | exact rfl))); (try simp only [Act.put, List.setIfInBounds_toArray, List.set_cons_zero, List.set_cons_succ])) | (apply det_skip rfl; (try simp only [Act.put, List.setIfInBounds_toArray, List.set_cons_zero, List.set_cons_succ])))
  rintro w' ⟨s3, hs3, H⟩; (try simp only [Act.eval, Act.put, Value.cells, segV, seg, segPut, NS, Nat.reduceAdd])
  go_wp2_with (first | ((first | ((with_reducible apply wlB); refine hw_box rfl rfl H ?_) | ((with_reducible apply wlA); refine hw_alloc rfl H ?_) | ((with_reducible apply wlS); first | refine hw_store 0 rfl rfl rfl H rfl rfl rfl (by simp) rfl ?_ | refine hw_store 1 rfl rfl rfl H rfl rfl rfl (by simp) rfl ?_ | refine hw_store 2 rfl rfl rfl H rfl rfl rfl (by simp) rfl ?_ | refine hw_store 3 rfl rfl rfl H rfl rfl rfl (by simp) rfl ?_)); clear H; intro w' H; (try simp only [Act.eval, Act.put, Value.cells, segV, seg, segPut, NS, Nat.reduceAdd] at H)) | ((with_reducible apply wlL); (first | apply hw_load 0 rfl rfl H rfl | apply hw_load 1 rfl rfl H rfl | apply hw_load 2 rfl rfl H rfl | apply hw_load 3 rfl rfl H rfl); (focus (simp; done)); (focus (simp only [segV, seg, NS]; rfl))))
  exact bodyPost_ret (res2 rfl (rv_tmp rfl) (rv_tmp rfl)) rfl ⟨_, by rw [hS.out]; rfl, by rw [hS.out]; exact H.drop1⟩
set_option maxRecDepth 100000 in
set_option maxHeartbeats 2000000 in
theorem Take_low (H0 : Own w (BK l bk br)) (i : Nat) (tag kind : Int) (hi : i < l.length) (hv : validB l.length ⟨i, tag, kind⟩ = true) (hb1 : beatsB ⟨i, tag, kind⟩ l[i] = false) : Calls Tryz.prog 116 #[pV bk, ntcV ⟨i, tag, kind⟩] w (UpdL (BK l bk br) (BK (takeN l ⟨i, tag, kind⟩).1 bk br) (.tuple #[.bool (takeN l ⟨i, tag, kind⟩).2.1, .int .i64 (takeN l ⟨i, tag, kind⟩).2.2]) w) := by
  have hS := Lib.hid (show takeN l ⟨i, tag, kind⟩ = (l, false, 0) by unfold takeN; rw [hv]; simp [hi, hb1])
  have HV := Lib.hid (rowC_at l i hi)
  have HB := Lib.hid (rowC_bd l i hi)
  go_enter Tryz.func116, Tryz.ntmps116
  have H := H0
  unfold Own at H
  go_wp2_with (first | ((first | ((with_reducible apply wlB); refine hw_box rfl rfl H ?_) | ((with_reducible apply wlA); refine hw_alloc rfl H ?_) | ((with_reducible apply wlS); first | refine hw_store 0 rfl rfl rfl H rfl rfl rfl (by simp) rfl ?_ | refine hw_store 1 rfl rfl rfl H rfl rfl rfl (by simp) rfl ?_ | refine hw_store 2 rfl rfl rfl H rfl rfl rfl (by simp) rfl ?_ | refine hw_store 3 rfl rfl rfl H rfl rfl rfl (by simp) rfl ?_)); clear H; intro w' H; (try simp only [Act.eval, Act.put, Value.cells, segV, seg, segPut, NS, Nat.reduceAdd] at H)) | ((with_reducible apply wlL); (first | apply hw_load 0 rfl rfl H rfl | apply hw_load 1 rfl rfl H rfl | apply hw_load 2 rfl rfl H rfl | apply hw_load 3 rfl rfl H rfl); (focus (simp; done)); (focus (simp only [segV, seg, NS]; rfl))))
  (try simp only [Act.eval, Act.put, Value.cells, segV, seg, segPut, NS, Nat.reduceAdd])
  refine region_det 5 (HpX _ _ _ _ _) rfl (by kernel_rfl) ⟨_, Nat.le_refl _, H.drew⟩ ?_; clear H; simp only [List.take_succ_cons, List.take_zero, List.drop_succ_cons, List.drop_zero]
  repeat (first | (apply det_op rfl; (focus (rintro w' ⟨s1, hs1, H⟩; go_wp2_with (first | ((with_reducible apply wlL); apply hw_load 0 rfl rfl H rfl; (focus (simp; done)); (focus (simp only [segV, seg, NS]; rfl))) | (go_at_call 123; refine (bSize_any (H.blk _ (.tail _ (.head _)))).mono ?_; rintro e w' ⟨rfl, hb⟩; obtain ⟨s2, hs2, H⟩ := H.call hb; clear hb) | (go_at_call 122; refine (Valid_any _ ⟨i, tag, kind⟩ _).mono ?_; rw [hv]; rintro e w' ⟨rfl, hb⟩; obtain ⟨s2, hs2, H⟩ := H.call hb; clear hb)); refine ⟨rfl, rfl, ?_, _, by omega, H⟩; (first | (simp only [SlotIs, Array.getD_eq_getD_getElem?, List.getElem?_toArray, List.getElem?_cons_succ, List.getElem?_cons_zero, Option.getD_some]; exact rfl) | exact rfl))); (try simp only [Act.put, List.setIfInBounds_toArray, List.set_cons_zero, List.set_cons_succ])) | (apply det_skip rfl; (try simp only [Act.put, List.setIfInBounds_toArray, List.set_cons_zero, List.set_cons_succ])))
  rintro w' ⟨s3, hs3, H⟩; (try simp only [Act.eval, Act.put, Value.cells, segV, seg, segPut, NS, Nat.reduceAdd])
  go_wp2_with (first | ((first | ((with_reducible apply wlB); refine hw_box rfl rfl H ?_) | ((with_reducible apply wlA); refine hw_alloc rfl H ?_) | ((with_reducible apply wlS); first | refine hw_store 0 rfl rfl rfl H rfl rfl rfl (by simp) rfl ?_ | refine hw_store 1 rfl rfl rfl H rfl rfl rfl (by simp) rfl ?_ | refine hw_store 2 rfl rfl rfl H rfl rfl rfl (by simp) rfl ?_ | refine hw_store 3 rfl rfl rfl H rfl rfl rfl (by simp) rfl ?_)); clear H; intro w' H; (try simp only [Act.eval, Act.put, Value.cells, segV, seg, segPut, NS, Nat.reduceAdd] at H)) | ((with_reducible apply wlL); (first | apply hw_load 0 rfl rfl H rfl | apply hw_load 1 rfl rfl H rfl | apply hw_load 2 rfl rfl H rfl | apply hw_load 3 rfl rfl H rfl); (focus (simp; done)); (focus (simp only [segV, seg, NS]; rfl))))
  (try simp only [Act.eval, Act.put, Value.cells, segV, seg, segPut, NS, Nat.reduceAdd])
  refine region_det 11 (HpX _ _ _ _ _) rfl (by kernel_rfl) ⟨_, Nat.le_refl _, H.drew⟩ ?_; clear H; simp only [List.take_succ_cons, List.take_zero, List.drop_succ_cons, List.drop_zero]
  repeat (first | (apply det_op rfl; (focus (rintro w' ⟨s1, hs1, H⟩; go_wp2_with (first | ((with_reducible show wpList _ _ _ (⟨_, .load _ _, _, _, _, _⟩ :: _) _ _); apply hw_load 2 rfl rfl H rfl; (focus exact HB.out); (focus exact HV.out)) | ((with_reducible apply wlL); apply hw_load 0 rfl rfl H rfl; (focus (simp; done)); (focus (simp only [segV, seg, NS]; rfl))) | ((with_reducible apply wlL); apply hw_load 1 rfl rfl H rfl; (focus (simp; done)); (focus (simp only [segV, seg, NS]; rfl))) | (go_at_call 171; refine (Beats_any ⟨i, tag, kind⟩ _ _).mono ?_; rw [hb1]; rintro e w' ⟨rfl, hb⟩; obtain ⟨s2, hs2, H⟩ := H.call hb; clear hb)); refine ⟨rfl, rfl, ?_, _, by omega, H⟩; (first | (simp only [SlotIs, Array.getD_eq_getD_getElem?, List.getElem?_toArray, List.getElem?_cons_succ, List.getElem?_cons_zero, Option.getD_some]; exact rfl) | exact rfl))); (try simp only [Act.put, List.setIfInBounds_toArray, List.set_cons_zero, List.set_cons_succ])) | (apply det_skip rfl; (try simp only [Act.put, List.setIfInBounds_toArray, List.set_cons_zero, List.set_cons_succ])))
  rintro w' ⟨s4, hs4, H⟩; (try simp only [Act.eval, Act.put, Value.cells, segV, seg, segPut, NS, Nat.reduceAdd])
  go_wp2_with (first | ((first | ((with_reducible apply wlB); refine hw_box rfl rfl H ?_) | ((with_reducible apply wlA); refine hw_alloc rfl H ?_) | ((with_reducible apply wlS); first | refine hw_store 0 rfl rfl rfl H rfl rfl rfl (by simp) rfl ?_ | refine hw_store 1 rfl rfl rfl H rfl rfl rfl (by simp) rfl ?_ | refine hw_store 2 rfl rfl rfl H rfl rfl rfl (by simp) rfl ?_ | refine hw_store 3 rfl rfl rfl H rfl rfl rfl (by simp) rfl ?_)); clear H; intro w' H; (try simp only [Act.eval, Act.put, Value.cells, segV, seg, segPut, NS, Nat.reduceAdd] at H)) | ((with_reducible apply wlL); (first | apply hw_load 0 rfl rfl H rfl | apply hw_load 1 rfl rfl H rfl | apply hw_load 2 rfl rfl H rfl | apply hw_load 3 rfl rfl H rfl); (focus (simp; done)); (focus (simp only [segV, seg, NS]; rfl))))
  exact bodyPost_ret (res2 rfl (rv_tmp rfl) (rv_tmp rfl)) rfl ⟨_, by rw [hS.out]; rfl, by rw [hS.out]; exact H.drop1⟩
set_option maxRecDepth 100000 in
set_option maxHeartbeats 2000000 in
theorem Take_yes (H0 : Own w (BK l bk br)) (i : Nat) (tag kind : Int) (hi : i < l.length) (hv : validB l.length ⟨i, tag, kind⟩ = true) (hb1 : beatsB ⟨i, tag, kind⟩ l[i] = true) : Calls Tryz.prog 116 #[pV bk, ntcV ⟨i, tag, kind⟩] w (UpdL (BK l bk br) (BK (takeN l ⟨i, tag, kind⟩).1 bk br) (.tuple #[.bool (takeN l ⟨i, tag, kind⟩).2.1, .int .i64 (takeN l ⟨i, tag, kind⟩).2.2]) w) := by
  have hS := Lib.hid (show takeN l ⟨i, tag, kind⟩ = (l.set i ⟨i, tag, kind⟩, true, 0) by unfold takeN; rw [hv]; simp [hi, hb1])
  have HV := Lib.hid (rowC_at l i hi)
  have HB := Lib.hid (rowC_bd l i hi)
  have HP := Lib.hid (rowC_put l i hi ⟨i, tag, kind⟩)
  go_enter Tryz.func116, Tryz.ntmps116
  have H := H0
  unfold Own at H
  go_wp2_with (first | ((first | ((with_reducible apply wlB); refine hw_box rfl rfl H ?_) | ((with_reducible apply wlA); refine hw_alloc rfl H ?_) | ((with_reducible apply wlS); first | refine hw_store 0 rfl rfl rfl H rfl rfl rfl (by simp) rfl ?_ | refine hw_store 1 rfl rfl rfl H rfl rfl rfl (by simp) rfl ?_ | refine hw_store 2 rfl rfl rfl H rfl rfl rfl (by simp) rfl ?_ | refine hw_store 3 rfl rfl rfl H rfl rfl rfl (by simp) rfl ?_)); clear H; intro w' H; (try simp only [Act.eval, Act.put, Value.cells, segV, seg, segPut, NS, Nat.reduceAdd] at H)) | ((with_reducible apply wlL); (first | apply hw_load 0 rfl rfl H rfl | apply hw_load 1 rfl rfl H rfl | apply hw_load 2 rfl rfl H rfl | apply hw_load 3 rfl rfl H rfl); (focus (simp; done)); (focus (simp only [segV, seg, NS]; rfl))))
  (try simp only [Act.eval, Act.put, Value.cells, segV, seg, segPut, NS, Nat.reduceAdd])
  refine region_det 5 (HpX _ _ _ _ _) rfl (by kernel_rfl) ⟨_, Nat.le_refl _, H.drew⟩ ?_; clear H; simp only [List.take_succ_cons, List.take_zero, List.drop_succ_cons, List.drop_zero]
  repeat (first | (apply det_op rfl; (focus (rintro w' ⟨s1, hs1, H⟩; go_wp2_with (first | ((with_reducible apply wlL); apply hw_load 0 rfl rfl H rfl; (focus (simp; done)); (focus (simp only [segV, seg, NS]; rfl))) | (go_at_call 123; refine (bSize_any (H.blk _ (.tail _ (.head _)))).mono ?_; rintro e w' ⟨rfl, hb⟩; obtain ⟨s2, hs2, H⟩ := H.call hb; clear hb) | (go_at_call 122; refine (Valid_any _ ⟨i, tag, kind⟩ _).mono ?_; rw [hv]; rintro e w' ⟨rfl, hb⟩; obtain ⟨s2, hs2, H⟩ := H.call hb; clear hb)); refine ⟨rfl, rfl, ?_, _, by omega, H⟩; (first | (simp only [SlotIs, Array.getD_eq_getD_getElem?, List.getElem?_toArray, List.getElem?_cons_succ, List.getElem?_cons_zero, Option.getD_some]; exact rfl) | exact rfl))); (try simp only [Act.put, List.setIfInBounds_toArray, List.set_cons_zero, List.set_cons_succ])) | (apply det_skip rfl; (try simp only [Act.put, List.setIfInBounds_toArray, List.set_cons_zero, List.set_cons_succ])))
  rintro w' ⟨s3, hs3, H⟩; (try simp only [Act.eval, Act.put, Value.cells, segV, seg, segPut, NS, Nat.reduceAdd])
  go_wp2_with (first | ((first | ((with_reducible apply wlB); refine hw_box rfl rfl H ?_) | ((with_reducible apply wlA); refine hw_alloc rfl H ?_) | ((with_reducible apply wlS); first | refine hw_store 0 rfl rfl rfl H rfl rfl rfl (by simp) rfl ?_ | refine hw_store 1 rfl rfl rfl H rfl rfl rfl (by simp) rfl ?_ | refine hw_store 2 rfl rfl rfl H rfl rfl rfl (by simp) rfl ?_ | refine hw_store 3 rfl rfl rfl H rfl rfl rfl (by simp) rfl ?_)); clear H; intro w' H; (try simp only [Act.eval, Act.put, Value.cells, segV, seg, segPut, NS, Nat.reduceAdd] at H)) | ((with_reducible apply wlL); (first | apply hw_load 0 rfl rfl H rfl | apply hw_load 1 rfl rfl H rfl | apply hw_load 2 rfl rfl H rfl | apply hw_load 3 rfl rfl H rfl); (focus (simp; done)); (focus (simp only [segV, seg, NS]; rfl))))
  (try simp only [Act.eval, Act.put, Value.cells, segV, seg, segPut, NS, Nat.reduceAdd])
  refine region_det 11 (HpX _ _ _ _ _) rfl (by kernel_rfl) ⟨_, Nat.le_refl _, H.drew⟩ ?_; clear H; simp only [List.take_succ_cons, List.take_zero, List.drop_succ_cons, List.drop_zero]
  repeat (first | (apply det_op rfl; (focus (rintro w' ⟨s1, hs1, H⟩; go_wp2_with (first | ((with_reducible show wpList _ _ _ (⟨_, .load _ _, _, _, _, _⟩ :: _) _ _); apply hw_load 2 rfl rfl H rfl; (focus exact HB.out); (focus exact HV.out)) | ((with_reducible apply wlL); apply hw_load 0 rfl rfl H rfl; (focus (simp; done)); (focus (simp only [segV, seg, NS]; rfl))) | ((with_reducible apply wlL); apply hw_load 1 rfl rfl H rfl; (focus (simp; done)); (focus (simp only [segV, seg, NS]; rfl))) | (go_at_call 171; refine (Beats_any ⟨i, tag, kind⟩ _ _).mono ?_; rw [hb1]; rintro e w' ⟨rfl, hb⟩; obtain ⟨s2, hs2, H⟩ := H.call hb; clear hb)); refine ⟨rfl, rfl, ?_, _, by omega, H⟩; (first | (simp only [SlotIs, Array.getD_eq_getD_getElem?, List.getElem?_toArray, List.getElem?_cons_succ, List.getElem?_cons_zero, Option.getD_some]; exact rfl) | exact rfl))); (try simp only [Act.put, List.setIfInBounds_toArray, List.set_cons_zero, List.set_cons_succ])) | (apply det_skip rfl; (try simp only [Act.put, List.setIfInBounds_toArray, List.set_cons_zero, List.set_cons_succ])))
  rintro w' ⟨s4, hs4, H⟩; (try simp only [Act.eval, Act.put, Value.cells, segV, seg, segPut, NS, Nat.reduceAdd])
  go_wp2_with (first | ((first | ((with_reducible apply wlB); refine hw_box rfl rfl H ?_) | ((with_reducible apply wlA); refine hw_alloc rfl H ?_) | ((with_reducible apply wlS); first | refine hw_store 0 rfl rfl rfl H rfl rfl rfl (by simp) rfl ?_ | refine hw_store 1 rfl rfl rfl H rfl rfl rfl (by simp) rfl ?_ | refine hw_store 2 rfl rfl rfl H rfl rfl rfl (by simp) rfl ?_ | refine hw_store 3 rfl rfl rfl H rfl rfl rfl (by simp) rfl ?_)); clear H; intro w' H; (try simp only [Act.eval, Act.put, Value.cells, segV, seg, segPut, NS, Nat.reduceAdd] at H)) | ((with_reducible apply wlL); (first | apply hw_load 0 rfl rfl H rfl | apply hw_load 1 rfl rfl H rfl | apply hw_load 2 rfl rfl H rfl | apply hw_load 3 rfl rfl H rfl); (focus (simp; done)); (focus (simp only [segV, seg, NS]; rfl))))
  (try simp only [Act.eval, Act.put, Value.cells, segV, seg, segPut, NS, Nat.reduceAdd])
  refine region_det 7 (HpX _ _ _ _ _) rfl (by kernel_rfl) ⟨_, Nat.le_refl _, H.drew⟩ ?_; clear H; simp only [List.take_succ_cons, List.take_zero, List.drop_succ_cons, List.drop_zero]
  repeat (first | (apply det_op rfl; (focus (rintro w' ⟨s1, hs1, H⟩; go_wp2_with (first | ((with_reducible apply wlL); apply hw_load 0 rfl rfl H rfl; (focus (simp; done)); (focus (simp only [segV, seg, NS]; rfl))) | ((with_reducible apply wlL); apply hw_load 1 rfl rfl H rfl; (focus (simp; done)); (focus (simp only [segV, seg, NS]; rfl)))); refine ⟨rfl, rfl, ?_, _, by omega, H⟩; (first | (simp only [SlotIs, Array.getD_eq_getD_getElem?, List.getElem?_toArray, List.getElem?_cons_succ, List.getElem?_cons_zero, Option.getD_some]; exact rfl) | exact rfl))); (try simp only [Act.put, List.setIfInBounds_toArray, List.set_cons_zero, List.set_cons_succ])) | (apply det_skip rfl; (try simp only [Act.put, List.setIfInBounds_toArray, List.set_cons_zero, List.set_cons_succ])))
  rintro w' ⟨s5, hs5, H⟩; (try simp only [Act.eval, Act.put, Value.cells, segV, seg, segPut, NS, Nat.reduceAdd])
  go_wp2_with (first | ((with_reducible show wpList _ _ _ (⟨_, .store _ _ _, _, _, _, _⟩ :: _) _ _); refine hw_store 2 rfl rfl rfl H rfl (vs := encN ⟨i, tag, kind⟩) rfl rfl HB.out rfl ?_; clear H; intro w' H; simp only [List.set_cons_zero, List.set_cons_succ, HP.out] at H) | ((first | ((with_reducible apply wlB); refine hw_box rfl rfl H ?_) | ((with_reducible apply wlA); refine hw_alloc rfl H ?_) | ((with_reducible apply wlS); first | refine hw_store 0 rfl rfl rfl H rfl rfl rfl (by simp) rfl ?_ | refine hw_store 1 rfl rfl rfl H rfl rfl rfl (by simp) rfl ?_ | refine hw_store 2 rfl rfl rfl H rfl rfl rfl (by simp) rfl ?_ | refine hw_store 3 rfl rfl rfl H rfl rfl rfl (by simp) rfl ?_)); clear H; intro w' H; (try simp only [Act.eval, Act.put, Value.cells, segV, seg, segPut, NS, Nat.reduceAdd] at H)) | ((with_reducible apply wlL); (first | apply hw_load 0 rfl rfl H rfl | apply hw_load 1 rfl rfl H rfl | apply hw_load 2 rfl rfl H rfl | apply hw_load 3 rfl rfl H rfl); (focus (simp; done)); (focus (simp only [segV, seg, NS]; rfl))))
  exact bodyPost_ret (res2 rfl (rv_tmp rfl) (rv_tmp rfl)) rfl ⟨_, by rw [hS.out]; rfl, by rw [hS.out, BK_set]; exact H.drop1⟩
theorem Take_any (H0 : Own w (BK l bk br)) (x : Ntc) : Calls Tryz.prog 116 #[pV bk, ntcV x] w (UpdL (BK l bk br) (BK (takeN l x).1 bk br) (.tuple #[.bool (takeN l x).2.1, .int .i64 (takeN l x).2.2]) w) := by
  rcases Bool.eq_false_or_eq_true (validB l.length x) with hv | hv
  · obtain ⟨of, tag, kind⟩ := x
    have h := hv
    simp only [validB, Bool.and_eq_true, decide_eq_true_eq] at h
    obtain ⟨i, rfl⟩ := Int.eq_ofNat_of_zero_le h.1.1.2.2.1
    have hi : i < l.length := by have := h.1.1.2.2.2; omega
    rcases Bool.eq_false_or_eq_true (beatsB ⟨i, tag, kind⟩ l[i]) with hb | hb
    · exact Take_yes H0 i tag kind hi hv hb
    · exact Take_low H0 i tag kind hi hv hb
  · exact Take_no H0 x hv
theorem row_rd (h2 : Blk w br tNtc (rowC l)) (c : Nat) : Rd w (some ⟨br, 0, none⟩) l.length c 3 (l.flatMap encN) :=
  ⟨flat_len encN_len l, (fun h => by cases h), cells_of (n := l.length * 3) h2 (rowC_seg l), by simp [encN, Value.oneCell']⟩
set_option maxRecDepth 100000 in
set_option maxHeartbeats 2000000 in
theorem bList_any (h1 : Blk w bk tBook (bookC br l.length)) (h2 : Blk w br tNtc (rowC l)) (hl : l.length ≤ 100) : Calls Tryz.prog 45 #[pV bk] w
    (fun e w' => ∃ sz v L, e = .returned v ∧ GL tNtc 3 v l.length (l.flatMap encN) L ∧ Hp NoS w w' sz L []) := by
  go_enter Tryz.func45, Tryz.ntmps45
  have H := ((Hp.start NoS w).addR h1 id).addR h2 id
  go_wp2_with (first | ((first | ((with_reducible apply wlB); refine hw_box rfl rfl H ?_) | ((with_reducible apply wlA); refine hw_alloc rfl H ?_) | ((with_reducible apply wlS); first | refine hw_store 0 rfl rfl rfl H rfl rfl rfl (by simp) rfl ?_ | refine hw_store 1 rfl rfl rfl H rfl rfl rfl (by simp) rfl ?_ | refine hw_store 2 rfl rfl rfl H rfl rfl rfl (by simp) rfl ?_ | refine hw_store 3 rfl rfl rfl H rfl rfl rfl (by simp) rfl ?_)); clear H; intro w' H; (try simp only [Act.eval, Act.put, Value.cells, segV, seg, segPut, NS, Nat.reduceAdd] at H)) | ((with_reducible apply wlL); (first | apply hw_load 0 rfl rfl H rfl | apply hw_load 1 rfl rfl H rfl | apply hw_load 2 rfl rfl H rfl | apply hw_load 3 rfl rfl H rfl); (focus (simp; done)); (focus (simp only [segV, seg, NS]; rfl))))
  refine (blist_any (H.ro _ (.tail _ (.head _))).1).mono ?_; rintro e w' ⟨rfl, hb⟩; obtain ⟨s1, hs1, H⟩ := H.call hb; clear hb
  go_wp2_with (first | ((first | ((with_reducible apply wlB); refine hw_box rfl rfl H ?_) | ((with_reducible apply wlA); refine hw_alloc rfl H ?_) | ((with_reducible apply wlS); first | refine hw_store 0 rfl rfl rfl H rfl rfl rfl (by simp) rfl ?_ | refine hw_store 1 rfl rfl rfl H rfl rfl rfl (by simp) rfl ?_ | refine hw_store 2 rfl rfl rfl H rfl rfl rfl (by simp) rfl ?_ | refine hw_store 3 rfl rfl rfl H rfl rfl rfl (by simp) rfl ?_)); clear H; intro w' H; (try simp only [Act.eval, Act.put, Value.cells, segV, seg, segPut, NS, Nat.reduceAdd] at H)) | ((with_reducible apply wlL); (first | apply hw_load 0 rfl rfl H rfl | apply hw_load 1 rfl rfl H rfl | apply hw_load 2 rfl rfl H rfl | apply hw_load 3 rfl rfl H rfl); (focus (simp; done)); (focus (simp only [segV, seg, NS]; rfl))))
  refine (Clone_ntc (row_rd (H.ro _ (.head _)).1 _) (by omega)).mono ?_; rintro e w' ⟨s3, v3, L3, rfl, hG, -, H3⟩; obtain ⟨hs3, H⟩ := H.fresh H3; clear H3
  go_wp2_with (first | ((first | ((with_reducible apply wlB); refine hw_box rfl rfl H ?_) | ((with_reducible apply wlA); refine hw_alloc rfl H ?_) | ((with_reducible apply wlS); first | refine hw_store 0 rfl rfl rfl H rfl rfl rfl (by simp) rfl ?_ | refine hw_store 1 rfl rfl rfl H rfl rfl rfl (by simp) rfl ?_ | refine hw_store 2 rfl rfl rfl H rfl rfl rfl (by simp) rfl ?_ | refine hw_store 3 rfl rfl rfl H rfl rfl rfl (by simp) rfl ?_)); clear H; intro w' H; (try simp only [Act.eval, Act.put, Value.cells, segV, seg, segPut, NS, Nat.reduceAdd] at H)) | ((with_reducible apply wlL); (first | apply hw_load 0 rfl rfl H rfl | apply hw_load 1 rfl rfl H rfl | apply hw_load 2 rfl rfl H rfl | apply hw_load 3 rfl rfl H rfl); (focus (simp; done)); (focus (simp only [segV, seg, NS]; rfl))))
  exact bodyPost_ret (res1 rfl (rv_tmp rfl)) rfl ⟨_, _, _, rfl, hG, H.noR⟩
set_option maxRecDepth 100000 in
set_option maxHeartbeats 2000000 in
theorem bAll_any (h1 : Blk w bk tBook (bookC br l.length)) (h2 : Blk w br tNtc (rowC l)) (hl : l.length ≤ 100) (hl0 : 0 < l.length) : Calls Tryz.prog 69 #[pV bk] w
    (fun e w' => ∃ sz q b c pad, e = .returned (.func (.func 99) #[] #[pV q]) ∧ Hp NoS w w' sz [(q, 39, #[.slice (some ⟨b, 0, none⟩) l.length c]), (b, tNtc, (l.flatMap encN ++ pad).toArray)] []) := by
  go_enter Tryz.func69, Tryz.ntmps69
  have H := ((Hp.start NoS w).addR h1 id).addR h2 id
  go_wp2_with (first | ((first | ((with_reducible apply wlB); refine hw_box rfl rfl H ?_) | ((with_reducible apply wlA); refine hw_alloc rfl H ?_) | ((with_reducible apply wlS); first | refine hw_store 0 rfl rfl rfl H rfl rfl rfl (by simp) rfl ?_ | refine hw_store 1 rfl rfl rfl H rfl rfl rfl (by simp) rfl ?_ | refine hw_store 2 rfl rfl rfl H rfl rfl rfl (by simp) rfl ?_ | refine hw_store 3 rfl rfl rfl H rfl rfl rfl (by simp) rfl ?_)); clear H; intro w' H; (try simp only [Act.eval, Act.put, Value.cells, segV, seg, segPut, NS, Nat.reduceAdd] at H)) | ((with_reducible apply wlL); (first | apply hw_load 0 rfl rfl H rfl | apply hw_load 1 rfl rfl H rfl | apply hw_load 2 rfl rfl H rfl | apply hw_load 3 rfl rfl H rfl); (focus (simp; done)); (focus (simp only [segV, seg, NS]; rfl))))
  refine (bList_any (H.ro _ (.tail _ (.head _))).1 (H.ro _ (.head _)).1 hl).mono ?_; rintro e w' ⟨s1, v1, L1, rfl, hG, H1⟩; obtain ⟨hs1, H⟩ := H.fresh H1; clear H1
  obtain ⟨b, c, pad, rfl, hc, rfl, hx, hp⟩ := hG.some hl0
  simp only [List.nil_append] at H
  go_wp2_with (first | ((first | ((with_reducible apply wlB); refine hw_box rfl rfl H ?_) | ((with_reducible apply wlA); refine hw_alloc rfl H ?_) | ((with_reducible apply wlS); first | refine hw_store 0 rfl rfl rfl H rfl rfl rfl (by simp) rfl ?_ | refine hw_store 1 rfl rfl rfl H rfl rfl rfl (by simp) rfl ?_ | refine hw_store 2 rfl rfl rfl H rfl rfl rfl (by simp) rfl ?_ | refine hw_store 3 rfl rfl rfl H rfl rfl rfl (by simp) rfl ?_)); clear H; intro w' H; (try simp only [Act.eval, Act.put, Value.cells, segV, seg, segPut, NS, Nat.reduceAdd] at H)) | ((with_reducible apply wlL); (first | apply hw_load 0 rfl rfl H rfl | apply hw_load 1 rfl rfl H rfl | apply hw_load 2 rfl rfl H rfl | apply hw_load 3 rfl rfl H rfl); (focus (simp; done)); (focus (simp only [segV, seg, NS]; rfl))))
  exact bodyPost_ret (res1 rfl (rv_tmp rfl)) rfl ⟨_, _, _, _, _, rfl, H.noR⟩
end
end Go.Proofs.YtccgpjhgfjfaoaaGreatDoor
/- idset.each and the small ones beside it. -/
namespace Go.Proofs.YtccgpjhgfjfaoaaGreatDoor
open Go.RowKit

theorem isId_any (id : Int) (w : World) : Calls Tryz.prog 50 #[.int .i64 id] w fun e w' => e = .returned (.bool (decide (0 ≤ id) && decide (id < 100))) ∧ w = w' := by
  go_enter Tryz.func50, Tryz.ntmps50
  go_wp2
  all_goals (go_ret; exact ⟨by simp [*]; try omega, rfl⟩)

theorem cleanF_any (a b i : Nat) (w : World) : Calls Tryz.prog 78 #[.int .u32 (wd a i), .int .u32 (wd b i)] w fun e w' => e = .returned (.int .u32 (wd (a &&& b) i)) ∧ w = w' := by
  go_enter Tryz.func78, Tryz.ntmps78
  go_wp2
  go_ret
  exact ⟨by rw [wd_and]; rfl, rfl⟩
theorem withinF_any (a b i : Nat) (w : World) : Calls Tryz.prog 230 #[.int .u32 (wd a i), .int .u32 (wd b i)] w fun e w' => e = .returned (.int .u32 (wd (a &&& b) i)) ∧ w = w' := by
  go_enter Tryz.func230, Tryz.ntmps230
  go_wp2
  go_ret
  exact ⟨by rw [wd_and]; rfl, rfl⟩
theorem unionF_any (a b i : Nat) (w : World) : Calls Tryz.prog 207 #[.int .u32 (wd a i), .int .u32 (wd b i)] w fun e w' => e = .returned (.int .u32 (wd (a ||| b) i)) ∧ w = w' := by
  go_enter Tryz.func207, Tryz.ntmps207
  go_wp2
  go_ret
  exact ⟨by rw [wd_or]; rfl, rfl⟩
theorem lessF_any (a b i : Nat) (w : World) : Calls Tryz.prog 210 #[.int .u32 (wd a i), .int .u32 (wd b i)] w fun e w' => e = .returned (.int .u32 (wd (lessN a b) i)) ∧ w = w' := by
  go_enter Tryz.func210, Tryz.ntmps210
  go_wp2
  go_ret
  exact ⟨by rw [wd_less]; rfl, rfl⟩

def mixW (f : Nat → Nat → Nat) (a b k i : Nat) : Value := .int .u32 (if i < k then wd (f a b) i else wd a i)
theorem mix_set (f : Nat → Nat → Nat) (a b k : Nat) (h : k < 4) :
    (#[mixW f a b k 0, mixW f a b k 1, mixW f a b k 2, mixW f a b k 3] : Array Value).setIfInBounds k (.int .u32 (wd (f a b) k)) = #[mixW f a b (k + 1) 0, mixW f a b (k + 1) 1, mixW f a b (k + 1) 2, mixW f a b (k + 1) 3] := by
  match k, h with | 0, _ => rfl | 1, _ => rfl | 2, _ => rfl | 3, _ => rfl

set_option maxRecDepth 100000 in
set_option maxHeartbeats 2000000 in
theorem each_any (fid : Nat) (f : Nat → Nat → Nat) (hcf : ∀ args w, (callFunc fid args).run Tryz.prog w = .ok (.enter fid args) w)
    (hF : ∀ a b i w, Calls Tryz.prog fid #[.int .u32 (wd a i), .int .u32 (wd b i)] w fun e w' => e = .returned (.int .u32 (wd (f a b) i)) ∧ w = w')
    (a b : Nat) (w : World) : Calls Tryz.prog 76 #[setV a, setV b, .func (.func fid) #[] #[]] w (Ret (setV (f a b)) w) := by
  go_enter Tryz.func76, Tryz.ntmps76
  go_wp2
  go_loopw [7, 8] (fun _ t wr => ∃ k : Nat, k ≤ 4 ∧ t = .int .i64 k ∧ Blk wr w.heap.size 38 #[mixW f a b k 0, mixW f a b k 1, mixW f a b k 2, mixW f a b k 3]
      ∧ Blk wr (w.heap.size + 1) 38 #[.int .u32 (wd b 0), .int .u32 (wd b 1), .int .u32 (wd b 2), .int .u32 (wd b 3)]
      ∧ Blk wr (w.heap.size + 1 + 1) 38 #[.int .u32 0, .int .u32 0, .int .u32 0, .int .u32 0] ∧ Below w.heap.size w wr) (fun _ t _ => 4 - (intOf t).toNat)
  case atStart =>
    refine ⟨0, by omega, rfl, ?_, ?_, ?_, ?_⟩
    · exact ((Blk.new w _ _).alloc _).alloc _
    · have := (Blk.new (w.alloc (.cells #[.int .u32 (wd a 0), .int .u32 (wd a 1), .int .u32 (wd a 2), .int .u32 (wd a 3)] 38)) 38 #[.int .u32 (wd b 0), .int .u32 (wd b 1), .int .u32 (wd b 2), .int .u32 (wd b 3)]).alloc (.cells #[.int .u32 0, .int .u32 0, .int .u32 0, .int .u32 0] 38)
      simpa using this
    · have := Blk.new ((w.alloc (.cells #[.int .u32 (wd a 0), .int .u32 (wd a 1), .int .u32 (wd a 2), .int .u32 (wd a 3)] 38)).alloc (.cells #[.int .u32 (wd b 0), .int .u32 (wd b 1), .int .u32 (wd b 2), .int .u32 (wd b 3)] 38)) 38 #[.int .u32 0, .int .u32 0, .int .u32 0, .int .u32 0]
      simpa using this
    · exact (((Below.refl _ _).alloc (by simp) _).alloc (by simp) _).alloc (by simp; omega) _
  case round =>
    obtain ⟨k, hk, rfl, hA, hB, hC, hb⟩ := hrel
    by_cases hlt : k < 4
    · have hAk : wr.cell? ⟨w.heap.size, k, none⟩ = some (.int .u32 (wd a k)) := by rw [hA.cell, four_at _ hlt]; simp [mixW]
      have hBk : wr.cell? ⟨w.heap.size + 1, k, none⟩ = some (.int .u32 (wd b k)) := by rw [hB.cell, four_at (fun i => Value.int .u32 (wd b i)) hlt]
      have hFk := hA.frozen k
      go_wp2
      go_region_with (first | (refine (hF _ _ _ _).mono ?_; rintro e w' ⟨rfl, rfl⟩))
      all_goals go_wp2
      all_goals
        go_roundw
        case rel => exact ⟨k + 1, by omega, by go_num, by rw [← mix_set f a b k hlt]; exact hA.drew.set k _, hB.drew.far (by simp) _, hC.drew.far (by simp; omega) _, hb.drew.setCell (by simp) _⟩
        case measure => simp [intOf]; omega
    · obtain rfl : k = 4 := by omega
      have h0 := hA.cell 0; have h1 := hA.cell 1; have h2 := hA.cell 2; have h3 := hA.cell 3
      have g0 := hC.cell 0; have g1 := hC.cell 1; have g2 := hC.cell 2; have g3 := hC.cell 3
      simp [mixW] at h0 h1 h2 h3 g0 g1 g2 g3
      have f0 := hC.frozen 0; have f1 := hC.frozen 1; have f2 := hC.frozen 2; have f3 := hC.frozen 3
      clear hA hB hC
      go_wp2
      exact bodyPost_ret (v := setV (f a b)) (by simp [results, Tryz.results76, go_sem, g0, g1, g2, g3]) rfl ⟨rfl, (((hb.setCell (by simp; omega) _).setCell (by simp; omega) _).setCell (by simp; omega) _).setCell (by simp; omega) _⟩
end Go.Proofs.YtccgpjhgfjfaoaaGreatDoor
/- idset: upTo, Clean and what calls them. -/
namespace Go.Proofs.YtccgpjhgfjfaoaaGreatDoor
open Go.RowKit

theorem up_word_fin : ∀ n : Fin 101, ∀ k : Fin 4, (((2 : Int) ^ (if (32 : Int) < (if ((n.1 : Int) - (k.1 : Int) * 32 < 0) then 0 else (n.1 : Int) - (k.1 : Int) * 32) then (32 : Int) else (if ((n.1 : Int) - (k.1 : Int) * 32 < 0) then 0 else (n.1 : Int) - (k.1 : Int) * 32)).toNat - 1) % 4294967296) = wd (2 ^ n.1 - 1) k.1 := by decide +kernel
theorem up_word (n k : Nat) (hn : n ≤ 100) (hk : k < 4) : (((2 : Int) ^ (if (32 : Int) < (if ((n : Int) - (k : Int) * 32 < 0) then 0 else (n : Int) - (k : Int) * 32) then (32 : Int) else (if ((n : Int) - (k : Int) * 32 < 0) then 0 else (n : Int) - (k : Int) * 32)).toNat - 1) % 4294967296) = wd (2 ^ n - 1) k :=
  up_word_fin ⟨n, by omega⟩ ⟨k, hk⟩
def mixU (n k i : Nat) : Value := .int .u32 (if i < k then wd (2 ^ n - 1) i else 0)
theorem mixU_set (n k : Nat) (h : k < 4) : (#[mixU n k 0, mixU n k 1, mixU n k 2, mixU n k 3] : Array Value).setIfInBounds k (.int .u32 (wd (2 ^ n - 1) k)) = #[mixU n (k + 1) 0, mixU n (k + 1) 1, mixU n (k + 1) 2, mixU n (k + 1) 3] := by
  match k, h with | 0, _ => rfl | 1, _ => rfl | 2, _ => rfl | 3, _ => rfl
set_option maxRecDepth 100000 in
set_option maxHeartbeats 2000000 in
theorem upTo_any (n : Nat) (hn : n ≤ 100) (w : World) : Calls Tryz.prog 77 #[.int .i64 n] w (Ret (setV (2 ^ n - 1)) w) := by
  go_enter Tryz.func77, Tryz.ntmps77
  go_wp2
  go_loopw [4, 5, 6] (fun _ _ t wr => ∃ k : Nat, k ≤ 4 ∧ t = .int .i64 k ∧ Blk wr (w.heap.size + 1) 38 #[mixU n k 0, mixU n k 1, mixU n k 2, mixU n k 3]
      ∧ Blk wr w.heap.size 38 #[.int .u32 0, .int .u32 0, .int .u32 0, .int .u32 0] ∧ Below w.heap.size w wr) (fun _ _ t _ => 4 - (intOf t).toNat)
  case atStart =>
    refine ⟨0, by omega, rfl, ?_, ?_, ?_⟩
    · have := Blk.new (w.alloc (.cells #[.int .u32 0, .int .u32 0, .int .u32 0, .int .u32 0] 38)) 38 #[.int .u32 0, .int .u32 0, .int .u32 0, .int .u32 0]
      simpa [mixU] using this
    · exact (Blk.new w _ _).alloc _
    · exact ((Below.refl _ _).alloc (by simp) _).alloc (by simp) _
  case round =>
    obtain ⟨k, hk, rfl, hA, hC, hb⟩ := hrel
    by_cases hlt : k < 4
    · have hAk : wr.cell? ⟨w.heap.size + 1, k, none⟩ = some (mixU n k k) := by rw [hA.cell, four_at (mixU n k) hlt]
      have hFk := hA.frozen k
      go_wp2
      rw [up_word n k hn hlt]
      exact ⟨⟨k + 1, by omega, by go_num, by rw [← mixU_set n k hlt]; exact hA.set k _, hC.far (by simp) _, hb.setCell (by simp) _⟩, by simp [intOf]; omega⟩
    · obtain rfl : k = 4 := by omega
      have h0 := hA.cell 0; have h1 := hA.cell 1; have h2 := hA.cell 2; have h3 := hA.cell 3
      have g0 := hC.cell 0; have g1 := hC.cell 1; have g2 := hC.cell 2; have g3 := hC.cell 3
      simp [mixU] at h0 h1 h2 h3 g0 g1 g2 g3
      have f0 := hC.frozen 0; have f1 := hC.frozen 1; have f2 := hC.frozen 2; have f3 := hC.frozen 3
      clear hA hC
      go_wp2
      exact bodyPost_ret (v := setV (2 ^ n - 1)) (by simp [results, Tryz.results77, go_sem, g0, g1, g2, g3]) rfl ⟨rfl, (((hb.setCell (by simp) _).setCell (by simp) _).setCell (by simp) _).setCell (by simp) _⟩

theorem mask100 (s : Nat) : s &&& 1267650600228229401496703205375 = s % 1267650600228229401496703205376 := Nat.and_two_pow_sub_one_eq_mod s 100
def cleanN (s : Nat) : Nat := s % 1267650600228229401496703205376

set_option maxRecDepth 100000 in
set_option maxHeartbeats 2000000 in
theorem Clean_any (s : Nat) (w : World) : Calls Tryz.prog 51 #[setV s] w (Ret (setV (cleanN s)) w) := by
  go_enter Tryz.func51, Tryz.ntmps51
  have H := Hp.start NoS w
  go_wp2_with (first | ((first | ((with_reducible apply wlB); refine hw_box rfl rfl H ?_) | ((with_reducible apply wlA); refine hw_alloc rfl H ?_) | ((with_reducible apply wlS); first | refine hw_store 0 rfl rfl rfl H rfl rfl rfl (by simp) rfl ?_ | refine hw_store 1 rfl rfl rfl H rfl rfl rfl (by simp) rfl ?_ | refine hw_store 2 rfl rfl rfl H rfl rfl rfl (by simp) rfl ?_ | refine hw_store 3 rfl rfl rfl H rfl rfl rfl (by simp) rfl ?_)); clear H; intro w' H; (try simp only [Act.eval, Act.put, Value.cells, segV, seg, segPut, NS, Nat.reduceAdd] at H)) | ((with_reducible apply wlL); (first | apply hw_load 0 rfl rfl H rfl | apply hw_load 1 rfl rfl H rfl | apply hw_load 2 rfl rfl H rfl | apply hw_load 3 rfl rfl H rfl); (focus (simp; done)); (focus (simp only [segV, seg, NS]; rfl))))
  (try simp only [Act.eval, Act.put, Value.cells, segV, seg, segPut, NS, Nat.reduceAdd])
  refine region_det 3 (HpX _ _ _ _ _) rfl (by kernel_rfl) ⟨_, Nat.le_refl _, H.drew⟩ ?_; clear H; simp only [List.take_succ_cons, List.take_zero, List.drop_succ_cons, List.drop_zero]
  apply det_op rfl; focus (rintro w' ⟨s1, hs1, H⟩; go_wp2_with (first | ((first | ((with_reducible apply wlB); refine hw_box rfl rfl H ?_) | ((with_reducible apply wlA); refine hw_alloc rfl H ?_) | ((with_reducible apply wlS); first | refine hw_store 0 rfl rfl rfl H rfl rfl rfl (by simp) rfl ?_ | refine hw_store 1 rfl rfl rfl H rfl rfl rfl (by simp) rfl ?_ | refine hw_store 2 rfl rfl rfl H rfl rfl rfl (by simp) rfl ?_ | refine hw_store 3 rfl rfl rfl H rfl rfl rfl (by simp) rfl ?_)); clear H; intro w' H; (try simp only [Act.eval, Act.put, Value.cells, segV, seg, segPut, NS, Nat.reduceAdd] at H)) | ((with_reducible apply wlL); (first | apply hw_load 0 rfl rfl H rfl | apply hw_load 1 rfl rfl H rfl | apply hw_load 2 rfl rfl H rfl | apply hw_load 3 rfl rfl H rfl); (focus (simp; done)); (focus (simp only [segV, seg, NS]; rfl)))); refine ⟨rfl, rfl, ?_, _, by omega, H⟩; (first | (simp only [SlotIs, Array.getD_eq_getD_getElem?, List.getElem?_toArray, List.getElem?_cons_succ, List.getElem?_cons_zero, Option.getD_some]; exact rfl) | exact rfl))
  apply det_op rfl; focus (rintro w' ⟨s1, hs1, H⟩; go_wp2_with (first | (go_at_call 77; refine (upTo_any 100 (by omega) _).mono ?_; rintro e w' ⟨rfl, hb⟩; obtain ⟨s2, hs2, H⟩ := H.call hb; clear hb)); refine ⟨rfl, rfl, ?_, _, by omega, H⟩; (first | (simp only [SlotIs, Array.getD_eq_getD_getElem?, List.getElem?_toArray, List.getElem?_cons_succ, List.getElem?_cons_zero, Option.getD_some]; exact rfl) | exact rfl))
  apply det_op rfl; focus (rintro w' ⟨s1, hs1, H⟩; go_wp2_with (first | (go_at_call 76; refine (each_any 78 (· &&& ·) (fun _ _ => by kernel_rfl) cleanF_any _ _ _).mono ?_; rintro e w' ⟨rfl, hb⟩; obtain ⟨s2, hs2, H⟩ := H.call hb; clear hb)); refine ⟨rfl, rfl, ?_, _, by omega, H⟩; (first | (simp only [SlotIs, Array.getD_eq_getD_getElem?, List.getElem?_toArray, List.getElem?_cons_succ, List.getElem?_cons_zero, Option.getD_some]; exact rfl) | exact rfl))
  rintro w' ⟨s1, hs1, H⟩; (try simp only [Act.eval, Act.put, Value.cells, segV, seg, segPut, NS, Nat.reduceAdd])
  go_wp2_with (first | ((first | ((with_reducible apply wlB); refine hw_box rfl rfl H ?_) | ((with_reducible apply wlA); refine hw_alloc rfl H ?_) | ((with_reducible apply wlS); first | refine hw_store 0 rfl rfl rfl H rfl rfl rfl (by simp) rfl ?_ | refine hw_store 1 rfl rfl rfl H rfl rfl rfl (by simp) rfl ?_ | refine hw_store 2 rfl rfl rfl H rfl rfl rfl (by simp) rfl ?_ | refine hw_store 3 rfl rfl rfl H rfl rfl rfl (by simp) rfl ?_)); clear H; intro w' H; (try simp only [Act.eval, Act.put, Value.cells, segV, seg, segPut, NS, Nat.reduceAdd] at H)) | ((with_reducible apply wlL); (first | apply hw_load 0 rfl rfl H rfl | apply hw_load 1 rfl rfl H rfl | apply hw_load 2 rfl rfl H rfl | apply hw_load 3 rfl rfl H rfl); (focus (simp; done)); (focus (simp only [segV, seg, NS]; rfl))))
  exact bodyPost_ret (res1 rfl (rv_cell 0 rfl H rfl (Nat.le_of_ble_eq_true rfl))) rfl ⟨by simp [segV, seg, cleanN, mask100], H.ret⟩

theorem word_fin : ∀ n : Fin 100, ∀ i : Fin 4, (if i.1 = n.1 / 32 then ((2 : Int) ^ (n.1 % 32) % 4294967296) else 0) = wd (2 ^ n.1) i.1 := by decide +kernel
theorem word_at (n : Nat) (hn : n < 100) : ((2 : Int) ^ (n % 32) % 4294967296) = wd (2 ^ n) (n / 32) := by
  have := word_fin ⟨n, hn⟩ ⟨n / 32, by omega⟩; simpa using this
theorem word_off (n i : Nat) (hn : n < 100) (hi : i < 4) (h : i ≠ n / 32) : wd (2 ^ n) i = 0 := by
  have := word_fin ⟨n, hn⟩ ⟨i, hi⟩; simp [h] at this; exact this.symm
theorem wd_or0 (s n i : Nat) (hn : n < 100) (hi : i < 4) (h : i ≠ n / 32) : wd (s ||| 2 ^ n) i = wd s i := by
  rw [← wd_or, word_off n i hn hi h]
  have := wd_or s 0 i
  simpa [wd] using this
theorem segV_set (s k : Nat) (h : k < 4) : segV false #[.int .u32 (wd s 0), .int .u32 (wd s 1), .int .u32 (wd s 2), .int .u32 (wd s 3)] k 1 = .int .u32 (wd s k) := by
  match k, h with | 0, _ => rfl | 1, _ => rfl | 2, _ => rfl | 3, _ => rfl
theorem with_put (s n : Nat) (hn : n < 100) : segPut #[.int .u32 (wd s 0), .int .u32 (wd s 1), .int .u32 (wd s 2), .int .u32 (wd s 3)] (n / 32) [.int .u32 (bits .or .u32 (wd s (n / 32)) (2 ^ (n % 32) % 4294967296))] =
    #[.int .u32 (wd (s ||| 2 ^ n) 0), .int .u32 (wd (s ||| 2 ^ n) 1), .int .u32 (wd (s ||| 2 ^ n) 2), .int .u32 (wd (s ||| 2 ^ n) 3)] := by
  rw [word_at n hn, wd_or]
  have h : n / 32 < 4 := by omega
  have o0 := wd_or0 s n 0 hn (by omega); have o1 := wd_or0 s n 1 hn (by omega); have o2 := wd_or0 s n 2 hn (by omega); have o3 := wd_or0 s n 3 hn (by omega)
  generalize n / 32 = k at *
  match k, h with
  | 0, _ => simp [segPut, o1, o2, o3]
  | 1, _ => simp [segPut, o0, o2, o3]
  | 2, _ => simp [segPut, o0, o1, o3]
  | 3, _ => simp [segPut, o0, o1, o2]

set_option maxRecDepth 100000 in
set_option maxHeartbeats 2000000 in
theorem With_ok (s n : Nat) (hn : n < 100) (w : World) : Calls Tryz.prog 27 #[setV s, .int .i64 n] w (Ret (.tuple #[setV (cleanN s ||| 2 ^ n), .int .i64 0]) w) := by
  have hd : decide ((n : Int) < 100) = true := by simp; omega
  go_enter Tryz.func27, Tryz.ntmps27
  have H := Hp.start NoS w
  go_wp2_with (first | ((first | ((with_reducible apply wlB); refine hw_box rfl rfl H ?_) | ((with_reducible apply wlA); refine hw_alloc rfl H ?_) | ((with_reducible apply wlS); first | refine hw_store 0 rfl rfl rfl H rfl rfl rfl (by simp) rfl ?_ | refine hw_store 1 rfl rfl rfl H rfl rfl rfl (by simp) rfl ?_ | refine hw_store 2 rfl rfl rfl H rfl rfl rfl (by simp) rfl ?_ | refine hw_store 3 rfl rfl rfl H rfl rfl rfl (by simp) rfl ?_)); clear H; intro w' H; (try simp only [Act.eval, Act.put, Value.cells, segV, seg, segPut, NS, Nat.reduceAdd] at H)) | ((with_reducible apply wlL); (first | apply hw_load 0 rfl rfl H rfl | apply hw_load 1 rfl rfl H rfl | apply hw_load 2 rfl rfl H rfl | apply hw_load 3 rfl rfl H rfl); (focus (simp; done)); (focus (simp only [segV, seg, NS]; rfl))) | (go_at_call 50; refine (isId_any _ _).mono ?_; rintro e w' ⟨rfl, rfl⟩) | (go_at_call 51; refine (Clean_any _ _).mono ?_; rintro e w' ⟨rfl, hb⟩; obtain ⟨s1, hs1, H⟩ := H.call hb; clear hb))
  refine region_det 8 (HpX _ _ _ _ _) rfl (by kernel_rfl) ⟨_, Nat.le_refl _, H.drew⟩ ?_; clear H; simp only [List.take_succ_cons, List.take_zero, List.drop_succ_cons, List.drop_zero]
  apply det_op rfl; focus (rintro w' ⟨s1, hs1, H⟩; go_wp2_with (first | fail); refine ⟨rfl, rfl, ?_, _, by omega, H⟩; (first | (simp only [SlotIs, Array.getD_eq_getD_getElem?, List.getElem?_toArray, List.getElem?_cons_succ, List.getElem?_cons_zero, Option.getD_some]; exact rfl) | exact rfl))
  apply det_op rfl; focus (rintro w' ⟨s1, hs1, H⟩; go_wp2_with (first | fail); refine ⟨rfl, rfl, ?_, _, by omega, H⟩; (first | (simp only [SlotIs, Array.getD_eq_getD_getElem?, List.getElem?_toArray, List.getElem?_cons_succ, List.getElem?_cons_zero, Option.getD_some]; exact rfl) | exact rfl))
  apply det_op rfl; focus (rintro w' ⟨s1, hs1, H⟩; go_wp2_with (first | fail); refine ⟨rfl, rfl, ?_, _, by omega, H⟩; (first | (simp only [SlotIs, Array.getD_eq_getD_getElem?, List.getElem?_toArray, List.getElem?_cons_succ, List.getElem?_cons_zero, Option.getD_some]; exact rfl) | exact rfl))
  apply det_op rfl; focus (rintro w' ⟨s1, hs1, H⟩; go_wp2_with (first | (apply hw_load 1 rfl rfl H rfl; (focus (simp; omega)); (focus (rw [segV_set _ _ (by omega)])))); refine ⟨rfl, rfl, ?_, _, by omega, H⟩; (first | (simp only [SlotIs, Array.getD_eq_getD_getElem?, List.getElem?_toArray, List.getElem?_cons_succ, List.getElem?_cons_zero, Option.getD_some]; exact rfl) | exact rfl))
  apply det_op rfl; focus (rintro w' ⟨s1, hs1, H⟩; go_wp2_with (first | fail); refine ⟨rfl, rfl, ?_, _, by omega, H⟩; (first | (simp only [SlotIs, Array.getD_eq_getD_getElem?, List.getElem?_toArray, List.getElem?_cons_succ, List.getElem?_cons_zero, Option.getD_some]; exact rfl) | exact rfl))
  apply det_op rfl; focus (rintro w' ⟨s1, hs1, H⟩; go_wp2_with (first | fail); refine ⟨rfl, rfl, ?_, _, by omega, H⟩; (first | (simp only [SlotIs, Array.getD_eq_getD_getElem?, List.getElem?_toArray, List.getElem?_cons_succ, List.getElem?_cons_zero, Option.getD_some]; exact rfl) | exact rfl))
  apply det_op rfl; focus (rintro w' ⟨s1, hs1, H⟩; go_wp2_with (first | fail); refine ⟨rfl, rfl, ?_, _, by omega, H⟩; (first | (simp only [SlotIs, Array.getD_eq_getD_getElem?, List.getElem?_toArray, List.getElem?_cons_succ, List.getElem?_cons_zero, Option.getD_some]; exact rfl) | exact rfl))
  apply det_op rfl; focus (rintro w' ⟨s1, hs1, H⟩; go_wp2_with (first | fail); refine ⟨rfl, rfl, ?_, _, by omega, H⟩; (first | (simp only [SlotIs, Array.getD_eq_getD_getElem?, List.getElem?_toArray, List.getElem?_cons_succ, List.getElem?_cons_zero, Option.getD_some]; exact rfl) | exact rfl))
  rintro w' ⟨s2, hs2, H⟩; (try simp only [Act.eval, Act.put, Value.cells, segV, seg, segPut, NS, Nat.reduceAdd])
  go_wp2_with (first | ((with_reducible show wpList _ _ _ (⟨_, .store _ _ _, _, _, _, _⟩ :: _) _ _); refine hw_store 1 rfl rfl rfl H rfl rfl rfl (by simp; omega) rfl ?_; clear H; intro w' H; rw [with_put _ _ hn] at H; (try simp only [Act.eval, Act.put, Value.cells, segV, seg, segPut, NS, Nat.reduceAdd] at H)) | ((first | ((with_reducible apply wlB); refine hw_box rfl rfl H ?_) | ((with_reducible apply wlA); refine hw_alloc rfl H ?_) | ((with_reducible apply wlS); first | refine hw_store 0 rfl rfl rfl H rfl rfl rfl (by simp) rfl ?_ | refine hw_store 1 rfl rfl rfl H rfl rfl rfl (by simp) rfl ?_ | refine hw_store 2 rfl rfl rfl H rfl rfl rfl (by simp) rfl ?_ | refine hw_store 3 rfl rfl rfl H rfl rfl rfl (by simp) rfl ?_)); clear H; intro w' H; (try simp only [Act.eval, Act.put, Value.cells, segV, seg, segPut, NS, Nat.reduceAdd] at H)) | ((with_reducible apply wlL); (first | apply hw_load 0 rfl rfl H rfl | apply hw_load 1 rfl rfl H rfl | apply hw_load 2 rfl rfl H rfl | apply hw_load 3 rfl rfl H rfl); (focus (simp; done)); (focus (simp only [segV, seg, NS]; rfl))))
  exact bodyPost_ret (res2 rfl (rv_cell 0 rfl H rfl (Nat.le_of_ble_eq_true rfl)) (rv_tmp rfl)) rfl ⟨by simp [segV, seg], H.ret⟩
set_option maxRecDepth 100000 in
set_option maxHeartbeats 2000000 in
theorem With_no (s : Nat) (id : Int) (h : id < 0 ∨ 100 ≤ id) (w : World) : Calls Tryz.prog 27 #[setV s, .int .i64 id] w (Ret (.tuple #[setV 0, .int .i64 30]) w) := by
  have hd : (decide (0 ≤ id) && decide (id < 100)) = false := by simp; omega
  go_enter Tryz.func27, Tryz.ntmps27
  have H := Hp.start NoS w
  go_wp2_with (first | ((first | ((with_reducible apply wlB); refine hw_box rfl rfl H ?_) | ((with_reducible apply wlA); refine hw_alloc rfl H ?_) | ((with_reducible apply wlS); first | refine hw_store 0 rfl rfl rfl H rfl rfl rfl (by simp) rfl ?_ | refine hw_store 1 rfl rfl rfl H rfl rfl rfl (by simp) rfl ?_ | refine hw_store 2 rfl rfl rfl H rfl rfl rfl (by simp) rfl ?_ | refine hw_store 3 rfl rfl rfl H rfl rfl rfl (by simp) rfl ?_)); clear H; intro w' H; (try simp only [Act.eval, Act.put, Value.cells, segV, seg, segPut, NS, Nat.reduceAdd] at H)) | ((with_reducible apply wlL); (first | apply hw_load 0 rfl rfl H rfl | apply hw_load 1 rfl rfl H rfl | apply hw_load 2 rfl rfl H rfl | apply hw_load 3 rfl rfl H rfl); (focus (simp; done)); (focus (simp only [segV, seg, NS]; rfl))) | (go_at_call 50; refine (isId_any _ _).mono ?_; rw [hd]; rintro e w' ⟨rfl, rfl⟩))
  exact bodyPost_ret (res2 rfl (rv_cell 0 rfl H rfl (Nat.le_of_ble_eq_true rfl)) (rv_tmp rfl)) rfl ⟨by simp [segV, seg, wd], H.ret⟩
end Go.Proofs.YtccgpjhgfjfaoaaGreatDoor
/- idset: Has, Within, Full, Union, Less. -/
namespace Go.Proofs.YtccgpjhgfjfaoaaGreatDoor
open Go.RowKit

set_option maxRecDepth 100000 in
theorem has_bit (s n : Nat) : (bits .and .u32 (wd s (n / 32) / 2 ^ (n % 32)) 1 == 1) = s.testBit n := by
  have e : wd s (n / 32) / 2 ^ (n % 32) = ((s >>> (32 * (n / 32)) % 4294967296 / 2 ^ (n % 32) : Nat) : Int) := by
    unfold wd
    rw [Int.natCast_ediv, Int.natCast_pow]; rfl
  have hlt : s >>> (32 * (n / 32)) % 4294967296 / 2 ^ (n % 32) < 4294967296 := Nat.lt_of_le_of_lt (Nat.div_le_self _ _) (Nat.mod_lt _ (by omega))
  have h1 := u32_and_nat _ 1 hlt (by omega)
  rw [e, show (1 : Int) = ((1 : Nat) : Int) from rfl, h1, Nat.and_one_is_mod]
  have h2 : (s >>> (32 * (n / 32)) % 2 ^ 32).testBit (n % 32) = s.testBit n := by
    rw [Nat.testBit_mod_two_pow, Nat.testBit_shiftRight]
    have : n % 32 < 32 := Nat.mod_lt _ (by omega)
    simp only [this, decide_true, Bool.true_and]
    congr 1
    omega
  rw [← h2, Nat.testBit_eq_decide_div_mod_eq]
  generalize s >>> (32 * (n / 32)) % 2 ^ 32 / 2 ^ (n % 32) % 2 = x
  show (((x : Int)) == ((1 : Nat) : Int)) = decide (x = 1)
  by_cases h : x = 1
  · simp [h]
  · simp [h]; omega
set_option maxRecDepth 100000 in
set_option maxHeartbeats 2000000 in
theorem Has_ok (s n : Nat) (hn : n < 100) (w : World) : Calls Tryz.prog 193 #[setV s, .int .i64 n] w (Ret (.bool (s.testBit n)) w) := by
  have hd : decide ((n : Int) < 100) = true := by simp; omega
  go_enter Tryz.func193, Tryz.ntmps193
  have H := Hp.start NoS w
  go_wp2_with (first | ((with_reducible apply wlB); refine hw_box rfl rfl H ?_; clear H; intro w' H; (try simp only [Act.eval, Act.put, Value.cells, segV, seg, segPut, NS, Nat.reduceAdd] at H)) | (go_at_call 50; refine (isId_any _ _).mono ?_; rintro e w' ⟨rfl, rfl⟩) | ((with_reducible show wpList _ _ _ (⟨_, .load _ _, _, _, _, _⟩ :: _) _ _); apply hw_load 0 rfl rfl H rfl; (focus (simp; omega)); (focus (rw [segV_set _ _ (by omega)]))))
  exact bodyPost_ret (res1 rfl (rv_tmp rfl)) rfl ⟨by rw [has_bit]; rfl, H.ret⟩
theorem Has_no (s : Nat) (id : Int) (h : id < 0 ∨ 100 ≤ id) (w : World) : Calls Tryz.prog 193 #[setV s, .int .i64 id] w (Ret (.bool false) w) := by
  have hd : (decide (0 ≤ id) && decide (id < 100)) = false := by simp; omega
  go_enter Tryz.func193, Tryz.ntmps193
  have H := Hp.start NoS w
  go_wp2_with (first | ((first | ((with_reducible apply wlB); refine hw_box rfl rfl H ?_) | ((with_reducible apply wlA); refine hw_alloc rfl H ?_) | ((with_reducible apply wlS); first | refine hw_store 0 rfl rfl rfl H rfl rfl rfl (by simp) rfl ?_ | refine hw_store 1 rfl rfl rfl H rfl rfl rfl (by simp) rfl ?_ | refine hw_store 2 rfl rfl rfl H rfl rfl rfl (by simp) rfl ?_ | refine hw_store 3 rfl rfl rfl H rfl rfl rfl (by simp) rfl ?_)); clear H; intro w' H; (try simp only [Act.eval, Act.put, Value.cells, segV, seg, segPut, NS, Nat.reduceAdd] at H)) | ((with_reducible apply wlL); (first | apply hw_load 0 rfl rfl H rfl | apply hw_load 1 rfl rfl H rfl | apply hw_load 2 rfl rfl H rfl | apply hw_load 3 rfl rfl H rfl); (focus (simp; done)); (focus (simp only [segV, seg, NS]; rfl))) | (go_at_call 50; refine (isId_any _ _).mono ?_; rw [hd]; rintro e w' ⟨rfl, rfl⟩))
  exact bodyPost_ret (res1 rfl (rv_tmp rfl)) rfl ⟨rfl, H.ret⟩
set_option maxRecDepth 100000 in
set_option maxHeartbeats 2000000 in
theorem Full_ok (n : Nat) (hn : n ≤ 100) (w : World) : Calls Tryz.prog 103 #[.int .i64 n] w (Ret (.tuple #[setV (2 ^ n - 1), .int .i64 0]) w) := by
  go_enter Tryz.func103, Tryz.ntmps103
  have H := Hp.start NoS w
  go_wp2_with (first | ((first | ((with_reducible apply wlB); refine hw_box rfl rfl H ?_) | ((with_reducible apply wlA); refine hw_alloc rfl H ?_) | ((with_reducible apply wlS); first | refine hw_store 0 rfl rfl rfl H rfl rfl rfl (by simp) rfl ?_ | refine hw_store 1 rfl rfl rfl H rfl rfl rfl (by simp) rfl ?_ | refine hw_store 2 rfl rfl rfl H rfl rfl rfl (by simp) rfl ?_ | refine hw_store 3 rfl rfl rfl H rfl rfl rfl (by simp) rfl ?_)); clear H; intro w' H; (try simp only [Act.eval, Act.put, Value.cells, segV, seg, segPut, NS, Nat.reduceAdd] at H)) | ((with_reducible apply wlL); (first | apply hw_load 0 rfl rfl H rfl | apply hw_load 1 rfl rfl H rfl | apply hw_load 2 rfl rfl H rfl | apply hw_load 3 rfl rfl H rfl); (focus (simp; done)); (focus (simp only [segV, seg, NS]; rfl))) | (go_at_call 77; refine (upTo_any _ hn _).mono ?_; rintro e w' ⟨rfl, hb⟩; obtain ⟨s1, hs1, H⟩ := H.call hb; clear hb))
  exact bodyPost_ret (res2 rfl (rv_cell 0 rfl H rfl (Nat.le_of_ble_eq_true rfl)) (rv_tmp rfl)) rfl ⟨by simp [segV, seg], H.ret⟩
set_option maxRecDepth 100000 in
set_option maxHeartbeats 2000000 in
theorem Union_any (s t : Nat) (w : World) : Calls Tryz.prog 165 #[setV s, setV t] w (Ret (setV (cleanN (s ||| t))) w) := by
  go_enter Tryz.func165, Tryz.ntmps165
  have H := Hp.start NoS w
  go_wp2_with (first | ((first | ((with_reducible apply wlB); refine hw_box rfl rfl H ?_) | ((with_reducible apply wlA); refine hw_alloc rfl H ?_) | ((with_reducible apply wlS); first | refine hw_store 0 rfl rfl rfl H rfl rfl rfl (by simp) rfl ?_ | refine hw_store 1 rfl rfl rfl H rfl rfl rfl (by simp) rfl ?_ | refine hw_store 2 rfl rfl rfl H rfl rfl rfl (by simp) rfl ?_ | refine hw_store 3 rfl rfl rfl H rfl rfl rfl (by simp) rfl ?_)); clear H; intro w' H; (try simp only [Act.eval, Act.put, Value.cells, segV, seg, segPut, NS, Nat.reduceAdd] at H)) | ((with_reducible apply wlL); (first | apply hw_load 0 rfl rfl H rfl | apply hw_load 1 rfl rfl H rfl | apply hw_load 2 rfl rfl H rfl | apply hw_load 3 rfl rfl H rfl); (focus (simp; done)); (focus (simp only [segV, seg, NS]; rfl))) | (go_at_call 76; refine (each_any 207 (· ||| ·) (fun _ _ => by kernel_rfl) unionF_any _ _ _).mono ?_; rintro e w' ⟨rfl, hb⟩; obtain ⟨s1, hs1, H⟩ := H.call hb; clear hb) | (go_at_call 51; refine (Clean_any _ _).mono ?_; rintro e w' ⟨rfl, hb⟩; obtain ⟨s2, hs2, H⟩ := H.call hb; clear hb))
  exact bodyPost_ret (res1 rfl (rv_cell 0 rfl H rfl (Nat.le_of_ble_eq_true rfl))) rfl ⟨by simp [segV, seg], H.ret⟩
set_option maxRecDepth 100000 in
set_option maxHeartbeats 2000000 in
theorem Less_any (s t : Nat) (w : World) : Calls Tryz.prog 169 #[setV s, setV t] w (Ret (setV (cleanN (lessN s t))) w) := by
  go_enter Tryz.func169, Tryz.ntmps169
  have H := Hp.start NoS w
  go_wp2_with (first | ((first | ((with_reducible apply wlB); refine hw_box rfl rfl H ?_) | ((with_reducible apply wlA); refine hw_alloc rfl H ?_) | ((with_reducible apply wlS); first | refine hw_store 0 rfl rfl rfl H rfl rfl rfl (by simp) rfl ?_ | refine hw_store 1 rfl rfl rfl H rfl rfl rfl (by simp) rfl ?_ | refine hw_store 2 rfl rfl rfl H rfl rfl rfl (by simp) rfl ?_ | refine hw_store 3 rfl rfl rfl H rfl rfl rfl (by simp) rfl ?_)); clear H; intro w' H; (try simp only [Act.eval, Act.put, Value.cells, segV, seg, segPut, NS, Nat.reduceAdd] at H)) | ((with_reducible apply wlL); (first | apply hw_load 0 rfl rfl H rfl | apply hw_load 1 rfl rfl H rfl | apply hw_load 2 rfl rfl H rfl | apply hw_load 3 rfl rfl H rfl); (focus (simp; done)); (focus (simp only [segV, seg, NS]; rfl))) | (go_at_call 76; refine (each_any 210 lessN (fun _ _ => by kernel_rfl) lessF_any _ _ _).mono ?_; rintro e w' ⟨rfl, hb⟩; obtain ⟨s1, hs1, H⟩ := H.call hb; clear hb) | (go_at_call 51; refine (Clean_any _ _).mono ?_; rintro e w' ⟨rfl, hb⟩; obtain ⟨s2, hs2, H⟩ := H.call hb; clear hb))
  exact bodyPost_ret (res1 rfl (rv_cell 0 rfl H rfl (Nat.le_of_ble_eq_true rfl))) rfl ⟨by simp [segV, seg], H.ret⟩
end Go.Proofs.YtccgpjhgfjfaoaaGreatDoor
/- tagbook: Suspects, News. -/
namespace Go.Proofs.YtccgpjhgfjfaoaaGreatDoor
open Go.RowKit Go.Shelf
attribute [local go_sem] Oper.semAt_some

abbrev setC (s : Nat) : Array Value := #[.int .u32 (wd s 0), .int .u32 (wd s 1), .int .u32 (wd s 2), .int .u32 (wd s 3)]
theorem setC0 : (#[.int .u32 0, .int .u32 0, .int .u32 0, .int .u32 0] : Array Value) = setC 0 := rfl
def withN (s : Nat) (id : Int) : Nat := if 0 ≤ id ∧ id < 100 then cleanN s ||| 2 ^ id.toNat else 0
def withE (id : Int) : Int := if 0 ≤ id ∧ id < 100 then 0 else 30
theorem With_any (s : Nat) (id : Int) (w : World) : Calls Tryz.prog 27 #[setV s, .int .i64 id] w (Ret (.tuple #[setV (withN s id), .int .i64 (withE id)]) w) := by
  by_cases h : 0 ≤ id ∧ id < 100
  · obtain ⟨n, rfl⟩ := Int.eq_ofNat_of_zero_le h.1
    have := With_ok s n (by omega) w
    simp only [withN, withE, if_pos h]
    exact this
  · have := With_no s id (by omega) w
    simp only [withN, withE, if_neg h]
    exact this
def suspN (l : List Ntc) : Nat := l.foldl (fun s x => if x.kind == 2 then withN s x.of else s) 0
theorem suspN_snoc (l : List Ntc) (x : Ntc) : suspN (l ++ [x]) = if x.kind == 2 then withN (suspN l) x.of else suspN l := by simp [suspN]
section
variable {w : World} {bk br : Nat} {l : List Ntc}
set_option maxRecDepth 100000 in
set_option maxHeartbeats 2000000 in
theorem Suspects_any (h1 : Blk w bk tBook (bookC br l.length)) (h2 : Blk w br tNtc (rowC l)) (hl : l.length ≤ 100) (hl0 : 0 < l.length) : Calls Tryz.prog 43 #[pV bk] w (Ret (setV (suspN l)) w) := by
  refine calls_of_marks Tryz.func43 rfl ?_
  simp only [Tryz.ntmps43, List.size_toArray, List.length_cons, List.length_nil, Nat.reduceAdd, Nat.reduceSub, Array.replicate_succ, Array.replicate_zero, List.push_toArray, List.append_toArray, List.nil_append, List.cons_append]
  have H := ((Hp.start NoS w).addR h1 id).addR h2 id
  go_wp2_with (first | ((first | ((with_reducible apply wlB); refine hw_box rfl rfl H ?_) | ((with_reducible apply wlA); refine hw_alloc rfl H ?_) | ((with_reducible apply wlS); first | refine hw_store 0 rfl rfl rfl H rfl rfl rfl (by simp) rfl ?_ | refine hw_store 1 rfl rfl rfl H rfl rfl rfl (by simp) rfl ?_ | refine hw_store 2 rfl rfl rfl H rfl rfl rfl (by simp) rfl ?_ | refine hw_store 3 rfl rfl rfl H rfl rfl rfl (by simp) rfl ?_)); clear H; intro w' H; (try simp only [Act.eval, Act.put, Value.cells, segV, seg, segPut, NS, Nat.reduceAdd] at H)) | ((with_reducible apply wlL); (first | apply hw_load 0 rfl rfl H rfl | apply hw_load 1 rfl rfl H rfl | apply hw_load 2 rfl rfl H rfl | apply hw_load 3 rfl rfl H rfl); (focus (simp; done)); (focus (simp only [segV, seg, NS]; rfl))))
  refine (bAll_any (H.ro _ (.tail _ (.head _))).1 (H.ro _ (.head _)).1 hl hl0).mono ?_; rintro e w' ⟨s1, q, b, c, pad, rfl, H1⟩; obtain ⟨hs1, H⟩ := H.fresh H1; clear H1
  simp only [List.cons_append, List.nil_append] at H
  go_wp2_with (first | ((first | ((with_reducible apply wlB); refine hw_box rfl rfl H ?_) | ((with_reducible apply wlA); refine hw_alloc rfl H ?_) | ((with_reducible apply wlS); first | refine hw_store 0 rfl rfl rfl H rfl rfl rfl (by simp) rfl ?_ | refine hw_store 1 rfl rfl rfl H rfl rfl rfl (by simp) rfl ?_ | refine hw_store 2 rfl rfl rfl H rfl rfl rfl (by simp) rfl ?_ | refine hw_store 3 rfl rfl rfl H rfl rfl rfl (by simp) rfl ?_)); clear H; intro w' H; (try simp only [Act.eval, Act.put, Value.cells, segV, seg, segPut, NS, Nat.reduceAdd] at H)) | ((with_reducible apply wlL); (first | apply hw_load 0 rfl rfl H rfl | apply hw_load 1 rfl rfl H rfl | apply hw_load 2 rfl rfl H rfl | apply hw_load 3 rfl rfl H rfl); (focus (simp; done)); (focus (simp only [segV, seg, NS]; rfl))))
  have HI := H.innerR (La := [_, _]) (Lb := [_, _]) (List.Perm.refl _)
  simp only [List.cons_append, List.nil_append] at HI
  refine wp_rangeHp (enc := fun x => #[ntcV x]) (xs := l) (gf := 99) (lb := #[pV q]) rfl (enters_of Tryz.func99 (by kernel_rfl) rfl) (fun _ => rfl) HI
    (All1_seq (HI.ro _ (.head _)).1 (HI.ro _ (.head _)).2.1 (HI.ro _ (.tail _ (.head _))).1 (HI.ro _ (.tail _ (.head _))).2.1 (seg_pre (flat_len encN_len l)) (by simp [flat_len encN_len]) (by omega))
    (fun pre Lc => Lc = [(w.heap.size + 1, 38, setC (suspN pre)), (w.heap.size, 38, setC 0)]) rfl ?_ ?_
  · rintro lr n pre x W Lc hn hx rfl H
    gi_wp2_with (first | (refine op_inR rfl ?_; (first | ((first | ((with_reducible apply wlB); refine hw_box rfl rfl H ?_) | ((with_reducible apply wlA); refine hw_alloc rfl H ?_) | ((with_reducible apply wlS); first | refine hw_store 0 rfl rfl rfl H rfl rfl rfl (by simp) rfl ?_ | refine hw_store 1 rfl rfl rfl H rfl rfl rfl (by simp) rfl ?_ | refine hw_store 2 rfl rfl rfl H rfl rfl rfl (by simp) rfl ?_ | refine hw_store 3 rfl rfl rfl H rfl rfl rfl (by simp) rfl ?_)); clear H; intro w' H; (try simp only [Act.eval, Act.put, Value.cells, segV, seg, segPut, NS, Nat.reduceAdd] at H)) | ((with_reducible apply wlL); (first | apply hw_load 0 rfl rfl H rfl | apply hw_load 1 rfl rfl H rfl | apply hw_load 2 rfl rfl H rfl | apply hw_load 3 rfl rfl H rfl); (focus (simp; done)); (focus (simp only [segV, seg, NS]; rfl)))); refine ⟨rfl, ?_⟩))
    refine ⟨_, _, H, ?_⟩
    clear H
    intro W2 H
    rcases Bool.eq_false_or_eq_true (x.kind == 2) with hk | hk
    · have hsn := Lib.hid (show suspN (pre ++ [x]) = withN (suspN pre) x.of by rw [suspN_snoc, if_pos hk])
      gi_wp2_with (first | (refine op_inR rfl ?_; (first | ((first | ((with_reducible apply wlB); refine hw_box rfl rfl H ?_) | ((with_reducible apply wlA); refine hw_alloc rfl H ?_) | ((with_reducible apply wlS); first | refine hw_store 0 rfl rfl rfl H rfl rfl rfl (by simp) rfl ?_ | refine hw_store 1 rfl rfl rfl H rfl rfl rfl (by simp) rfl ?_ | refine hw_store 2 rfl rfl rfl H rfl rfl rfl (by simp) rfl ?_ | refine hw_store 3 rfl rfl rfl H rfl rfl rfl (by simp) rfl ?_)); clear H; intro w' H; (try simp only [Act.eval, Act.put, Value.cells, segV, seg, segPut, NS, Nat.reduceAdd] at H)) | ((with_reducible apply wlL); (first | apply hw_load 0 rfl rfl H rfl | apply hw_load 1 rfl rfl H rfl | apply hw_load 2 rfl rfl H rfl | apply hw_load 3 rfl rfl H rfl); (focus (simp; done)); (focus (simp only [segV, seg, NS]; rfl)))); refine ⟨rfl, ?_⟩))
      refine ⟨trivial, fun _ => by omega, (CallsIn.inRound _ (callsIn_wide.2 (With_any _ _ _))).mono ?_⟩; rintro e w' ⟨rfl, hb⟩; obtain ⟨s2, hs2, H⟩ := H.call hb; clear hb
      gi_wp2_with (first | (refine op_inR rfl ?_; (first | ((first | ((with_reducible apply wlB); refine hw_box rfl rfl H ?_) | ((with_reducible apply wlA); refine hw_alloc rfl H ?_) | ((with_reducible apply wlS); first | refine hw_store 0 rfl rfl rfl H rfl rfl rfl (by simp) rfl ?_ | refine hw_store 1 rfl rfl rfl H rfl rfl rfl (by simp) rfl ?_ | refine hw_store 2 rfl rfl rfl H rfl rfl rfl (by simp) rfl ?_ | refine hw_store 3 rfl rfl rfl H rfl rfl rfl (by simp) rfl ?_)); clear H; intro w' H; (try simp only [Act.eval, Act.put, Value.cells, segV, seg, segPut, NS, Nat.reduceAdd] at H)) | ((with_reducible apply wlL); (first | apply hw_load 0 rfl rfl H rfl | apply hw_load 1 rfl rfl H rfl | apply hw_load 2 rfl rfl H rfl | apply hw_load 3 rfl rfl H rfl); (focus (simp; done)); (focus (simp only [segV, seg, NS]; rfl)))); refine ⟨rfl, ?_⟩))
      exact ⟨_, by rw [hsn.out]; exact H.drop1⟩
    · have hsn := Lib.hid (show suspN (pre ++ [x]) = suspN pre by rw [suspN_snoc, hk]; rfl)
      gi_wp2_with (first | (refine op_inR rfl ?_; (first | ((first | ((with_reducible apply wlB); refine hw_box rfl rfl H ?_) | ((with_reducible apply wlA); refine hw_alloc rfl H ?_) | ((with_reducible apply wlS); first | refine hw_store 0 rfl rfl rfl H rfl rfl rfl (by simp) rfl ?_ | refine hw_store 1 rfl rfl rfl H rfl rfl rfl (by simp) rfl ?_ | refine hw_store 2 rfl rfl rfl H rfl rfl rfl (by simp) rfl ?_ | refine hw_store 3 rfl rfl rfl H rfl rfl rfl (by simp) rfl ?_)); clear H; intro w' H; (try simp only [Act.eval, Act.put, Value.cells, segV, seg, segPut, NS, Nat.reduceAdd] at H)) | ((with_reducible apply wlL); (first | apply hw_load 0 rfl rfl H rfl | apply hw_load 1 rfl rfl H rfl | apply hw_load 2 rfl rfl H rfl | apply hw_load 3 rfl rfl H rfl); (focus (simp; done)); (focus (simp only [segV, seg, NS]; rfl)))); refine ⟨rfl, ?_⟩))
      exact ⟨_, by rw [hsn.out]; exact H.drop1⟩
  · rintro D W sz _ hD rfl HB hK
    have Hf := H
    clear H HI
    have H := HB.inner
    go_wp2_with (first | ((first | ((with_reducible apply wlB); refine hw_box rfl rfl H ?_) | ((with_reducible apply wlA); refine hw_alloc rfl H ?_) | ((with_reducible apply wlS); first | refine hw_store 0 rfl rfl rfl H rfl rfl rfl (by simp) rfl ?_ | refine hw_store 1 rfl rfl rfl H rfl rfl rfl (by simp) rfl ?_ | refine hw_store 2 rfl rfl rfl H rfl rfl rfl (by simp) rfl ?_ | refine hw_store 3 rfl rfl rfl H rfl rfl rfl (by simp) rfl ?_)); clear H; intro w' H; (try simp only [Act.eval, Act.put, Value.cells, segV, seg, segPut, NS, Nat.reduceAdd] at H)) | ((with_reducible apply wlL); (first | apply hw_load 0 rfl rfl H rfl | apply hw_load 1 rfl rfl H rfl | apply hw_load 2 rfl rfl H rfl | apply hw_load 3 rfl rfl H rfl); (focus (simp; done)); (focus (simp only [segV, seg, NS]; rfl))))
    have hK2 := H.still (H1 := HB) hK rfl
    have HO := (HB.outer H).putObj (o' := .deferred none) hK2 rfl hD
    refine marks_ret rfl hK2 (res1 rfl (rv_cell 1 rfl HO rfl (Nat.le_of_ble_eq_true rfl))) ⟨by simp [segV, seg], (Hf.join (List.Perm.refl _) HO).2.ret⟩
end
end Go.Proofs.YtccgpjhgfjfaoaaGreatDoor
/- Equality of notices and of sets. -/
namespace Go.Proofs.YtccgpjhgfjfaoaaGreatDoor
open Go.RowKit

theorem part_int {P : Program} {T : TypeId} (hk : ∀ w, (isAgg T).run P w = .ok false w) {xs : Array Value} {o : Nat} {v : Value} (h : xs[o]? = some v) (w : World) : (part T xs o).run P w = .ok v w := by
  simp [part, hk, h, go_sem]
theorem eqFields_ints {P : Program} {T : TypeId} {k k' : IntKind} (hT : P.underlying T = some (.int k')) (hk : ∀ w, (isAgg T).run P w = .ok false w) (d : Nat) (xs ys : Array Value) (w : World) : ∀ (fs : List Field) (l : List (Nat × Int × Int)),
    fs.map (fun f => (f.name == "_", f.type, f.offset)) = l.map (fun o => (false, T, o.1)) → (∀ o ∈ l, xs[o.1]? = some (.int k o.2.1) ∧ ys[o.1]? = some (.int k o.2.2)) →
    (Op.eqFields (d + 1) xs ys fs).run P w = .ok (l.all fun o => o.2.1 == o.2.2) w
  | [], [], _, _ => by simp [Op.eqFields]
  | [], _ :: _, h, _ => by simp at h
  | _ :: _, [], h, _ => by simp at h
  | f :: fs, o :: l, h, hv => by
    simp only [List.map_cons, List.cons.injEq, Prod.mk.injEq, beq_eq_false_iff_ne] at h
    obtain ⟨⟨h1, h2, h3⟩, h4⟩ := h
    have ih := eqFields_ints hT hk d xs ys w fs l h4 (fun o ho => hv o (List.mem_cons_of_mem _ ho))
    obtain ⟨hx, hy⟩ := hv o (.head _)
    simp only [Op.eqFields, h1, ne_eq, not_false_eq_true, if_true, h2, h3, Sem.run_bind, part_int hk hx, part_int hk hy, Result.andThen_ok, run_equalIn_int (P := P) _ d T k k' _ _ hT, List.all_cons]
    cases hb : (o.2.1 == o.2.2)
    · simp [go_sem]
    · simp [go_sem, ih]
theorem ntc_eqIn (x y : Ntc) (w : World) : (Op.equalIn 10000 128 (ntcV x) (ntcV y)).run Tryz.prog w = .ok (decide (x = y)) w := by
  rw [run_equalIn_struct w 9999 128 _ _ (by kernel_rfl) (by kernel_rfl), eqFields_ints (T := 3) (k := .i64) (k' := .i64) (by kernel_rfl) (fun _ => by kernel_rfl) 9998 _ _ w _ [(0, x.of, y.of), (1, x.tag, y.tag), (2, x.kind, y.kind)] (by kernel_rfl) (by simp)]
  obtain ⟨a, b, c⟩ := x
  obtain ⟨a', b', c'⟩ := y
  congr 1
  rw [Bool.eq_iff_iff]
  simp [and_assoc]
def eqS (s t : Nat) : Bool := (List.range 4).all fun i => wd s i == wd t i
theorem eqItems_ints {P : Program} {T : TypeId} {k k' : IntKind} (hT : P.underlying T = some (.int k')) (hk : ∀ w, (isAgg T).run P w = .ok false w) (d : Nat) (xs ys : Array Value) (w : World) (f g : Nat → Int) : ∀ (l : List Nat),
    (∀ i ∈ l, xs[i]? = some (.int k (f i)) ∧ ys[i]? = some (.int k (g i))) → (Op.eqItems (d + 1) T 1 xs ys l).run P w = .ok (l.all fun i => f i == g i) w
  | [], _ => by simp [Op.eqItems]
  | i :: l, hv => by
    have ih := eqItems_ints hT hk d xs ys w f g l (fun o ho => hv o (List.mem_cons_of_mem _ ho))
    obtain ⟨hx, hy⟩ := hv i (.head _)
    simp only [Op.eqItems, Nat.mul_one, Sem.run_bind, part_int hk hx, part_int hk hy, Result.andThen_ok, run_equalIn_int (P := P) _ d T k k' _ _ hT, List.all_cons]
    cases hb : (f i == g i)
    · simp [go_sem]
    · simp [go_sem, ih]
theorem set_eqIn (s t : Nat) (w : World) : (Op.equalIn 10000 38 (setV s) (setV t)).run Tryz.prog w = .ok (eqS s t) w := by
  obtain ⟨i, hi⟩ : ∃ i, Tryz.prog.info? 36 = some i := Option.isSome_iff_exists.1 (by kernel_rfl)
  have hc : Tryz.prog.cellsOf 36 = 1 := by kernel_rfl
  rw [run_equalIn_array w 9999 (n := 4) _ _ (by kernel_rfl) hi, hc, eqItems_ints (T := 36) (k := .u32) (k' := .u32) (by kernel_rfl) (fun _ => by kernel_rfl) 9998 _ _ w (wd s) (wd t) (List.range 4) ?_]
  · rfl
  · intro j hj
    have : j < 4 := List.mem_range.1 hj
    match j, this with | 0, _ => exact ⟨rfl, rfl⟩ | 1, _ => exact ⟨rfl, rfl⟩ | 2, _ => exact ⟨rfl, rfl⟩ | 3, _ => exact ⟨rfl, rfl⟩
section
variable {P : Program} {ops : Array Oper} {Q : Exit → Act → World → Prop} {rest : List Oper} {a : Act} {w : World} {d : Tmp} {ty t : TypeId} {pos : String} {after : Array Edge} {g : Option (Nat × Bool)}
/-- == and != of two aggregates. -/
theorem hw_eqA {x y : Operand} {xs ys : Array Value} {b : Bool} (he : ∀ w, (Op.equalIn 10000 t (.agg xs) (.agg ys)).run P w = .ok b w) (hgt : P.eqGuardType P.depth t = false) (hg : Region.wanted ⟨some d, .binOp .eql t x y t, ty, pos, after, g⟩ (yielded ops a.tmps) = true)
    (hx : evL a x = some (.agg xs)) (hy : evL a y = some (.agg ys)) (h : wpList P ops Q rest (a.put (some d) (.bool b)) w) : wpList P ops Q (⟨some d, .binOp .eql t x y t, ty, pos, after, g⟩ :: rest) a w := by
  refine wpList_step fun K hK => ?_
  rw [if_pos hg]
  unfold Oper.wp
  simp only [execOp, evL_eval hx, evL_eval hy, run_eqGuard_agg w .eql t x y _ _ hgt, run_eql_struct, he, Sem.run_bind, Sem.run_pure, Result.andThen, Oper.upon]
  exact hK _ _ h
theorem hw_neA {x y : Operand} {xs ys : Array Value} {b : Bool} (he : ∀ w, (Op.equalIn 10000 t (.agg xs) (.agg ys)).run P w = .ok b w) (hgt : P.eqGuardType P.depth t = false) (hg : Region.wanted ⟨some d, .binOp .neq t x y t, ty, pos, after, g⟩ (yielded ops a.tmps) = true)
    (hx : evL a x = some (.agg xs)) (hy : evL a y = some (.agg ys)) (h : wpList P ops Q rest (a.put (some d) (.bool !b)) w) : wpList P ops Q (⟨some d, .binOp .neq t x y t, ty, pos, after, g⟩ :: rest) a w := by
  refine wpList_step fun K hK => ?_
  rw [if_pos hg]
  unfold Oper.wp
  simp only [execOp, evL_eval hx, evL_eval hy, run_eqGuard_agg w .neq t x y _ _ hgt, run_neq_struct, he, Sem.run_bind, Sem.run_pure, Result.andThen, Oper.upon]
  exact hK _ _ h
end
def upN (n : Int) : Nat := 2 ^ (if n < 0 then 0 else if 100 < n then 100 else n).toNat
def withinB (s : Nat) (n : Int) : Bool := eqS (s % upN n) s
def WithinP (s : Nat) (n : Int) (m : Nat) : Prop := ∀ w, Calls Tryz.prog 202 #[setV s, .int .i64 n] w (Ret (.bool (eqS (s % 2 ^ m) s)) w)
set_option maxRecDepth 100000 in
set_option maxHeartbeats 2000000 in
theorem Within_lo (s : Nat) (n : Int) (h : n < 0) : WithinP s n 0 := by
  intro w
  go_enter Tryz.func202, Tryz.ntmps202
  have H := Hp.start NoS w
  go_wp2_with (first | ((first | ((with_reducible apply wlB); refine hw_box rfl rfl H ?_) | ((with_reducible apply wlA); refine hw_alloc rfl H ?_) | ((with_reducible apply wlS); first | refine hw_store 0 rfl rfl rfl H rfl rfl rfl (by simp) rfl ?_ | refine hw_store 1 rfl rfl rfl H rfl rfl rfl (by simp) rfl ?_ | refine hw_store 2 rfl rfl rfl H rfl rfl rfl (by simp) rfl ?_ | refine hw_store 3 rfl rfl rfl H rfl rfl rfl (by simp) rfl ?_)); clear H; intro w' H; (try simp only [Act.eval, Act.put, Value.cells, segV, seg, segPut, NS, Nat.reduceAdd] at H)) | ((with_reducible apply wlL); (first | apply hw_load 0 rfl rfl H rfl | apply hw_load 1 rfl rfl H rfl | apply hw_load 2 rfl rfl H rfl | apply hw_load 3 rfl rfl H rfl); (focus (simp; done)); (focus (simp only [segV, seg, NS]; rfl))))
  (try simp only [Act.eval, Act.put, Value.cells, segV, seg, segPut, NS, Nat.reduceAdd])
  refine region_det 8 (HpX _ _ _ _ _) rfl (by kernel_rfl) ⟨_, Nat.le_refl _, H.drew⟩ ?_; clear H; simp only [List.take_succ_cons, List.take_zero, List.drop_succ_cons, List.drop_zero]
  repeat (first | (apply det_op rfl; (focus (rintro w' ⟨s1, hs1, H⟩; go_wp2_with (first | ((with_reducible apply wlL); apply hw_load 0 rfl rfl H rfl; (focus (simp; done)); (focus (simp only [segV, seg, NS]; rfl))) | (go_at_call 77; refine (upTo_any 0 (by omega) _).mono ?_; rintro e w' ⟨rfl, hb⟩; obtain ⟨s2, hs2, H⟩ := H.call hb; clear hb) | (go_at_call 76; refine (each_any 230 (· &&& ·) (fun _ _ => by kernel_rfl) withinF_any _ _ _).mono ?_; rintro e w' ⟨rfl, hb⟩; obtain ⟨s3, hs3, H⟩ := H.call hb; clear hb) | ((with_reducible show wpList _ _ _ (⟨_, .binOp .eql _ _ _ _, _, _, _, _⟩ :: _) _ _); refine hw_eqA (set_eqIn _ _) (by kernel_rfl) rfl rfl rfl ?_)); refine ⟨rfl, rfl, ?_, _, by omega, H⟩; (first | (simp only [SlotIs, Array.getD_eq_getD_getElem?, List.getElem?_toArray, List.getElem?_cons_succ, List.getElem?_cons_zero, Option.getD_some]; exact rfl) | exact rfl))); (try simp only [Act.put, List.setIfInBounds_toArray, List.set_cons_zero, List.set_cons_succ])) | (apply det_skip rfl; (try simp only [Act.put, List.setIfInBounds_toArray, List.set_cons_zero, List.set_cons_succ])))
  rintro w' ⟨s4, hs4, H⟩; (try simp only [Act.eval, Act.put, Value.cells, segV, seg, segPut, NS, Nat.reduceAdd])
  go_wp2_with (first | ((first | ((with_reducible apply wlB); refine hw_box rfl rfl H ?_) | ((with_reducible apply wlA); refine hw_alloc rfl H ?_) | ((with_reducible apply wlS); first | refine hw_store 0 rfl rfl rfl H rfl rfl rfl (by simp) rfl ?_ | refine hw_store 1 rfl rfl rfl H rfl rfl rfl (by simp) rfl ?_ | refine hw_store 2 rfl rfl rfl H rfl rfl rfl (by simp) rfl ?_ | refine hw_store 3 rfl rfl rfl H rfl rfl rfl (by simp) rfl ?_)); clear H; intro w' H; (try simp only [Act.eval, Act.put, Value.cells, segV, seg, segPut, NS, Nat.reduceAdd] at H)) | ((with_reducible apply wlL); (first | apply hw_load 0 rfl rfl H rfl | apply hw_load 1 rfl rfl H rfl | apply hw_load 2 rfl rfl H rfl | apply hw_load 3 rfl rfl H rfl); (focus (simp; done)); (focus (simp only [segV, seg, NS]; rfl))))
  exact bodyPost_ret (res1 rfl (rv_tmp rfl)) rfl ⟨by first | rfl | (simp [Nat.mod_one]; done) | (rw [← Nat.and_two_pow_sub_one_eq_mod]; rfl), H.ret⟩
set_option maxRecDepth 100000 in
set_option maxHeartbeats 2000000 in
theorem Within_hi (s : Nat) (n : Int) (h : 100 < n) : WithinP s n 100 := by
  intro w
  go_enter Tryz.func202, Tryz.ntmps202
  have H := Hp.start NoS w
  go_wp2_with (first | ((first | ((with_reducible apply wlB); refine hw_box rfl rfl H ?_) | ((with_reducible apply wlA); refine hw_alloc rfl H ?_) | ((with_reducible apply wlS); first | refine hw_store 0 rfl rfl rfl H rfl rfl rfl (by simp) rfl ?_ | refine hw_store 1 rfl rfl rfl H rfl rfl rfl (by simp) rfl ?_ | refine hw_store 2 rfl rfl rfl H rfl rfl rfl (by simp) rfl ?_ | refine hw_store 3 rfl rfl rfl H rfl rfl rfl (by simp) rfl ?_)); clear H; intro w' H; (try simp only [Act.eval, Act.put, Value.cells, segV, seg, segPut, NS, Nat.reduceAdd] at H)) | ((with_reducible apply wlL); (first | apply hw_load 0 rfl rfl H rfl | apply hw_load 1 rfl rfl H rfl | apply hw_load 2 rfl rfl H rfl | apply hw_load 3 rfl rfl H rfl); (focus (simp; done)); (focus (simp only [segV, seg, NS]; rfl))))
  (try simp only [Act.eval, Act.put, Value.cells, segV, seg, segPut, NS, Nat.reduceAdd])
  refine region_det 8 (HpX _ _ _ _ _) rfl (by kernel_rfl) ⟨_, Nat.le_refl _, H.drew⟩ ?_; clear H; simp only [List.take_succ_cons, List.take_zero, List.drop_succ_cons, List.drop_zero]
  repeat (first | (apply det_op rfl; (focus (rintro w' ⟨s1, hs1, H⟩; go_wp2_with (first | ((with_reducible apply wlL); apply hw_load 0 rfl rfl H rfl; (focus (simp; done)); (focus (simp only [segV, seg, NS]; rfl))) | (go_at_call 77; refine (upTo_any 100 (by omega) _).mono ?_; rintro e w' ⟨rfl, hb⟩; obtain ⟨s2, hs2, H⟩ := H.call hb; clear hb) | (go_at_call 76; refine (each_any 230 (· &&& ·) (fun _ _ => by kernel_rfl) withinF_any _ _ _).mono ?_; rintro e w' ⟨rfl, hb⟩; obtain ⟨s3, hs3, H⟩ := H.call hb; clear hb) | ((with_reducible show wpList _ _ _ (⟨_, .binOp .eql _ _ _ _, _, _, _, _⟩ :: _) _ _); refine hw_eqA (set_eqIn _ _) (by kernel_rfl) rfl rfl rfl ?_)); refine ⟨rfl, rfl, ?_, _, by omega, H⟩; (first | (simp only [SlotIs, Array.getD_eq_getD_getElem?, List.getElem?_toArray, List.getElem?_cons_succ, List.getElem?_cons_zero, Option.getD_some]; exact rfl) | exact rfl))); (try simp only [Act.put, List.setIfInBounds_toArray, List.set_cons_zero, List.set_cons_succ])) | (apply det_skip rfl; (try simp only [Act.put, List.setIfInBounds_toArray, List.set_cons_zero, List.set_cons_succ])))
  rintro w' ⟨s4, hs4, H⟩; (try simp only [Act.eval, Act.put, Value.cells, segV, seg, segPut, NS, Nat.reduceAdd])
  go_wp2_with (first | ((first | ((with_reducible apply wlB); refine hw_box rfl rfl H ?_) | ((with_reducible apply wlA); refine hw_alloc rfl H ?_) | ((with_reducible apply wlS); first | refine hw_store 0 rfl rfl rfl H rfl rfl rfl (by simp) rfl ?_ | refine hw_store 1 rfl rfl rfl H rfl rfl rfl (by simp) rfl ?_ | refine hw_store 2 rfl rfl rfl H rfl rfl rfl (by simp) rfl ?_ | refine hw_store 3 rfl rfl rfl H rfl rfl rfl (by simp) rfl ?_)); clear H; intro w' H; (try simp only [Act.eval, Act.put, Value.cells, segV, seg, segPut, NS, Nat.reduceAdd] at H)) | ((with_reducible apply wlL); (first | apply hw_load 0 rfl rfl H rfl | apply hw_load 1 rfl rfl H rfl | apply hw_load 2 rfl rfl H rfl | apply hw_load 3 rfl rfl H rfl); (focus (simp; done)); (focus (simp only [segV, seg, NS]; rfl))))
  exact bodyPost_ret (res1 rfl (rv_tmp rfl)) rfl ⟨by first | rfl | (simp [Nat.mod_one]; done) | (rw [← Nat.and_two_pow_sub_one_eq_mod]; rfl), H.ret⟩
set_option maxRecDepth 100000 in
set_option maxHeartbeats 2000000 in
theorem Within_mid (s : Nat) (n : Nat) (h : n ≤ 100) : WithinP s n n := by
  intro w
  go_enter Tryz.func202, Tryz.ntmps202
  have H := Hp.start NoS w
  go_wp2_with (first | ((first | ((with_reducible apply wlB); refine hw_box rfl rfl H ?_) | ((with_reducible apply wlA); refine hw_alloc rfl H ?_) | ((with_reducible apply wlS); first | refine hw_store 0 rfl rfl rfl H rfl rfl rfl (by simp) rfl ?_ | refine hw_store 1 rfl rfl rfl H rfl rfl rfl (by simp) rfl ?_ | refine hw_store 2 rfl rfl rfl H rfl rfl rfl (by simp) rfl ?_ | refine hw_store 3 rfl rfl rfl H rfl rfl rfl (by simp) rfl ?_)); clear H; intro w' H; (try simp only [Act.eval, Act.put, Value.cells, segV, seg, segPut, NS, Nat.reduceAdd] at H)) | ((with_reducible apply wlL); (first | apply hw_load 0 rfl rfl H rfl | apply hw_load 1 rfl rfl H rfl | apply hw_load 2 rfl rfl H rfl | apply hw_load 3 rfl rfl H rfl); (focus (simp; done)); (focus (simp only [segV, seg, NS]; rfl))))
  (try simp only [Act.eval, Act.put, Value.cells, segV, seg, segPut, NS, Nat.reduceAdd])
  refine region_det 8 (HpX _ _ _ _ _) rfl (by kernel_rfl) ⟨_, Nat.le_refl _, H.drew⟩ ?_; clear H; simp only [List.take_succ_cons, List.take_zero, List.drop_succ_cons, List.drop_zero]
  repeat (first | (apply det_op rfl; (focus (rintro w' ⟨s1, hs1, H⟩; go_wp2_with (first | ((with_reducible apply wlL); apply hw_load 0 rfl rfl H rfl; (focus (simp; done)); (focus (simp only [segV, seg, NS]; rfl))) | (go_at_call 77; refine (upTo_any n (by omega) _).mono ?_; rintro e w' ⟨rfl, hb⟩; obtain ⟨s2, hs2, H⟩ := H.call hb; clear hb) | (go_at_call 76; refine (each_any 230 (· &&& ·) (fun _ _ => by kernel_rfl) withinF_any _ _ _).mono ?_; rintro e w' ⟨rfl, hb⟩; obtain ⟨s3, hs3, H⟩ := H.call hb; clear hb) | ((with_reducible show wpList _ _ _ (⟨_, .binOp .eql _ _ _ _, _, _, _, _⟩ :: _) _ _); refine hw_eqA (set_eqIn _ _) (by kernel_rfl) rfl rfl rfl ?_)); refine ⟨rfl, rfl, ?_, _, by omega, H⟩; (first | (simp only [SlotIs, Array.getD_eq_getD_getElem?, List.getElem?_toArray, List.getElem?_cons_succ, List.getElem?_cons_zero, Option.getD_some]; exact rfl) | exact rfl))); (try simp only [Act.put, List.setIfInBounds_toArray, List.set_cons_zero, List.set_cons_succ])) | (apply det_skip rfl; (try simp only [Act.put, List.setIfInBounds_toArray, List.set_cons_zero, List.set_cons_succ])))
  rintro w' ⟨s4, hs4, H⟩; (try simp only [Act.eval, Act.put, Value.cells, segV, seg, segPut, NS, Nat.reduceAdd])
  go_wp2_with (first | ((first | ((with_reducible apply wlB); refine hw_box rfl rfl H ?_) | ((with_reducible apply wlA); refine hw_alloc rfl H ?_) | ((with_reducible apply wlS); first | refine hw_store 0 rfl rfl rfl H rfl rfl rfl (by simp) rfl ?_ | refine hw_store 1 rfl rfl rfl H rfl rfl rfl (by simp) rfl ?_ | refine hw_store 2 rfl rfl rfl H rfl rfl rfl (by simp) rfl ?_ | refine hw_store 3 rfl rfl rfl H rfl rfl rfl (by simp) rfl ?_)); clear H; intro w' H; (try simp only [Act.eval, Act.put, Value.cells, segV, seg, segPut, NS, Nat.reduceAdd] at H)) | ((with_reducible apply wlL); (first | apply hw_load 0 rfl rfl H rfl | apply hw_load 1 rfl rfl H rfl | apply hw_load 2 rfl rfl H rfl | apply hw_load 3 rfl rfl H rfl); (focus (simp; done)); (focus (simp only [segV, seg, NS]; rfl))))
  exact bodyPost_ret (res1 rfl (rv_tmp rfl)) rfl ⟨by first | rfl | (simp [Nat.mod_one]; done) | (rw [← Nat.and_two_pow_sub_one_eq_mod]; rfl), H.ret⟩
theorem Within_any (s : Nat) (n : Int) (w : World) : Calls Tryz.prog 202 #[setV s, .int .i64 n] w (Ret (.bool (withinB s n)) w) := by
  unfold withinB upN
  by_cases h : n < 0
  · rw [if_pos h]; exact Within_lo s n h w
  · rw [if_neg h]
    by_cases h2 : 100 < n
    · rw [if_pos h2]; exact Within_hi s n h2 w
    · rw [if_neg h2]
      obtain ⟨m, rfl⟩ := Int.eq_ofNat_of_zero_le (show 0 ≤ n by omega)
      exact Within_mid s m (by omega) w
end Go.Proofs.YtccgpjhgfjfaoaaGreatDoor
/- tagbook: News. -/
namespace Go.Proofs.YtccgpjhgfjfaoaaGreatDoor
open Go.RowKit Go.Shelf
attribute [local go_sem] Oper.semAt_some

def isNews (x : Ntc) : Bool := !decide (x = freshN x.of)
def newsN (l : List Ntc) : List Ntc := l.filter isNews
theorem newsN_snoc (l : List Ntc) (x : Ntc) : newsN (l ++ [x]) = if isNews x then newsN l ++ [x] else newsN l := by
  simp only [newsN, List.filter_append, List.filter_cons, List.filter_nil]; split <;> simp
theorem newsN_len (l : List Ntc) : (newsN l).length ≤ l.length := List.length_filter_le _ _
def NewsI (t3 : Nat) (pre : List Ntc) (Lc : List Bk) : Prop := ∃ v L1, GL tNtc 3 v (newsN pre).length ((newsN pre).flatMap encN) L1 ∧ Lc = (t3, 39, #[v]) :: L1
section
variable {w : World} {bk br : Nat} {l : List Ntc}
set_option maxRecDepth 100000 in
set_option maxHeartbeats 2000000 in
theorem News_any (h1 : Blk w bk tBook (bookC br l.length)) (h2 : Blk w br tNtc (rowC l)) (hl : l.length ≤ 100) (hl0 : 0 < l.length) : Calls Tryz.prog 162 #[pV bk] w
    (fun e w' => ∃ sz v L, e = .returned v ∧ GL tNtc 3 v (newsN l).length ((newsN l).flatMap encN) L ∧ Hp NoS w w' sz L []) := by
  refine calls_of_marks Tryz.func162 rfl ?_
  simp only [Tryz.ntmps162, List.size_toArray, List.length_cons, List.length_nil, Nat.reduceAdd, Nat.reduceSub, Array.replicate_succ, Array.replicate_zero, List.push_toArray, List.append_toArray, List.nil_append, List.cons_append]
  have H := ((Hp.start NoS w).addR h1 id).addR h2 id
  go_wp2_with (first | ((first | ((with_reducible apply wlB); refine hw_box rfl rfl H ?_) | ((with_reducible apply wlA); refine hw_alloc rfl H ?_) | ((with_reducible apply wlS); first | refine hw_store 0 rfl rfl rfl H rfl rfl rfl (by simp) rfl ?_ | refine hw_store 1 rfl rfl rfl H rfl rfl rfl (by simp) rfl ?_ | refine hw_store 2 rfl rfl rfl H rfl rfl rfl (by simp) rfl ?_ | refine hw_store 3 rfl rfl rfl H rfl rfl rfl (by simp) rfl ?_)); clear H; intro w' H; (try simp only [Act.eval, Act.put, Value.cells, segV, seg, segPut, NS, Nat.reduceAdd] at H)) | ((with_reducible apply wlL); (first | apply hw_load 0 rfl rfl H rfl | apply hw_load 1 rfl rfl H rfl | apply hw_load 2 rfl rfl H rfl | apply hw_load 3 rfl rfl H rfl); (focus (simp; done)); (focus (simp only [segV, seg, NS]; rfl))))
  refine (bAll_any (H.ro _ (.tail _ (.head _))).1 (H.ro _ (.head _)).1 hl hl0).mono ?_; rintro e w' ⟨s1, q, b, c, pad, rfl, H1⟩; obtain ⟨hs1, H⟩ := H.fresh H1; clear H1
  simp only [List.cons_append, List.nil_append] at H
  go_wp2_with (first | ((first | ((with_reducible apply wlB); refine hw_box rfl rfl H ?_) | ((with_reducible apply wlA); refine hw_alloc rfl H ?_) | ((with_reducible apply wlS); first | refine hw_store 0 rfl rfl rfl H rfl rfl rfl (by simp) rfl ?_ | refine hw_store 1 rfl rfl rfl H rfl rfl rfl (by simp) rfl ?_ | refine hw_store 2 rfl rfl rfl H rfl rfl rfl (by simp) rfl ?_ | refine hw_store 3 rfl rfl rfl H rfl rfl rfl (by simp) rfl ?_)); clear H; intro w' H; (try simp only [Act.eval, Act.put, Value.cells, segV, seg, segPut, NS, Nat.reduceAdd] at H)) | ((with_reducible apply wlL); (first | apply hw_load 0 rfl rfl H rfl | apply hw_load 1 rfl rfl H rfl | apply hw_load 2 rfl rfl H rfl | apply hw_load 3 rfl rfl H rfl); (focus (simp; done)); (focus (simp only [segV, seg, NS]; rfl))))
  have HI := H.innerR (La := [_]) (Lb := [_, _]) (List.Perm.refl _)
  simp only [List.cons_append, List.nil_append] at HI
  refine wp_rangeHp (enc := fun x => #[ntcV x]) (xs := l) (gf := 99) (lb := #[pV q]) rfl (enters_of Tryz.func99 (by kernel_rfl) rfl) (fun _ => rfl) HI
    (All1_seq (HI.ro _ (.head _)).1 (HI.ro _ (.head _)).2.1 (HI.ro _ (.tail _ (.head _))).1 (HI.ro _ (.tail _ (.head _))).2.1 (seg_pre (flat_len encN_len l)) (by simp [flat_len encN_len]) (by omega))
    (NewsI w.heap.size) ⟨_, _, .nil, rfl⟩ ?_ ?_
  · rintro lr n pre x W Lc hn ⟨post, hx⟩ ⟨v, L1, hG, rfl⟩ H
    have hlen : pre.length < 100 := by rw [hx] at hl; simp at hl; omega
    clear hx
    gi_wp2_with (first | (refine op_inR rfl ?_; (first | ((first | ((with_reducible apply wlB); refine hw_box rfl rfl H ?_) | ((with_reducible apply wlA); refine hw_alloc rfl H ?_) | ((with_reducible apply wlS); first | refine hw_store 0 rfl rfl rfl H rfl rfl rfl (by simp) rfl ?_ | refine hw_store 1 rfl rfl rfl H rfl rfl rfl (by simp) rfl ?_ | refine hw_store 2 rfl rfl rfl H rfl rfl rfl (by simp) rfl ?_ | refine hw_store 3 rfl rfl rfl H rfl rfl rfl (by simp) rfl ?_)); clear H; intro w' H; (try simp only [Act.eval, Act.put, Value.cells, segV, seg, segPut, NS, Nat.reduceAdd] at H)) | ((with_reducible apply wlL); (first | apply hw_load 0 rfl rfl H rfl | apply hw_load 1 rfl rfl H rfl | apply hw_load 2 rfl rfl H rfl | apply hw_load 3 rfl rfl H rfl); (focus (simp; done)); (focus (simp only [segV, seg, NS]; rfl)))); refine ⟨rfl, ?_⟩))
    refine ⟨_, _, H, ?_⟩
    clear H
    intro W2 H
    refine wpIn_block ?_
    refine wpIn_seq ?_
    refine wpIn_region_det 5 (HpX _ _ _ _ _) rfl (by kernel_rfl) (by kernel_rfl) ⟨_, Nat.le_refl _, H.drew⟩ ?_; clear H; simp only [List.take_succ_cons, List.take_zero, List.drop_succ_cons, List.drop_zero]
    repeat (first | (apply det_op rfl; (focus (rintro w' ⟨s1, hs1, H⟩; go_wp2_with (first | ((with_reducible apply wlL); apply hw_load 0 rfl rfl H rfl; (focus (simp; done)); (focus (simp only [segV, seg, NS]; rfl))) | (go_at_call 159; refine (Fresh_any _ _).mono ?_; rintro e w' ⟨rfl, hb⟩; obtain ⟨s2, hs2, H⟩ := H.call hb; clear hb) | ((with_reducible show wpList _ _ _ (⟨_, .binOp .neq _ _ _ _, _, _, _, _⟩ :: _) _ _); refine hw_neA (ntc_eqIn _ _) (by kernel_rfl) rfl rfl rfl ?_)); refine ⟨rfl, rfl, ?_, _, by omega, H⟩; (first | (simp only [SlotIs, Array.getD_eq_getD_getElem?, List.getElem?_toArray, List.getElem?_cons_succ, List.getElem?_cons_zero, Option.getD_some]; exact rfl) | exact rfl))); (try simp only [Act.put, List.setIfInBounds_toArray, List.set_cons_zero, List.set_cons_succ])) | (apply det_skip rfl; (try simp only [Act.put, List.setIfInBounds_toArray, List.set_cons_zero, List.set_cons_succ])))
    rintro w' ⟨s4, hs4, H⟩; (try simp only [Act.eval, Act.put, Value.cells, segV, seg, segPut, NS, Nat.reduceAdd])
    refine ⟨rfl, ?_⟩
    have hn0 := newsN_len pre
    rcases Bool.eq_false_or_eq_true (isNews x) with hk | hk
    · have hsn := Lib.hid (show newsN (pre ++ [x]) = newsN pre ++ [x] by rw [newsN_snoc, if_pos hk])
      refine wpIn_cond_true (by simp [Act.eval, Act.put, isNews] at hk ⊢; exact hk) ?_
      refine wpIn_regL (by kernel_rfl) ?_
      go_wp2_with (first | ((with_reducible show wpList _ _ _ (⟨_, .buildSlice _ 1 _, _, _, _, _⟩ :: _) _ _); refine hw_build1 (e := tNtc) (size := 3) rfl rfl rfl rfl (by decide) H ?_; clear H; intro w' H; (try simp only [Act.eval, Act.put, Value.cells, segV, seg, segPut, NS, Nat.reduceAdd] at H)) | ((with_reducible show wpList _ _ _ (⟨_, .call { callee := .builtin .append, args := _, argTypes := _ }, _, _, _, _⟩ :: _) _ _); (apply hw_append (L0 := _) rfl rfl rfl H hG (pL3 (X := L1)) rfl (fun h => by cases h) (cells_of (n := 3) (H.blk _ (.head _)) rfl) rfl (Nat.le_trans (m := 200) (by omega) (by decide)) (by omega)); clear H; intro v' w' sz' L1' hle HG' hnil H; obtain ⟨A', c', rfl⟩ := HG'.isSl; (try simp only [Act.eval, Act.put, Value.cells, segV, seg, segPut, NS, Nat.reduceAdd] at H)) | ((first | ((with_reducible apply wlB); refine hw_box rfl rfl H ?_) | ((with_reducible apply wlA); refine hw_alloc rfl H ?_) | ((with_reducible apply wlS); first | refine hw_store 0 rfl rfl rfl H rfl rfl rfl (by simp) rfl ?_ | refine hw_store 1 rfl rfl rfl H rfl rfl rfl (by simp) rfl ?_ | refine hw_store 2 rfl rfl rfl H rfl rfl rfl (by simp) rfl ?_ | refine hw_store 3 rfl rfl rfl H rfl rfl rfl (by simp) rfl ?_)); clear H; intro w' H; (try simp only [Act.eval, Act.put, Value.cells, segV, seg, segPut, NS, Nat.reduceAdd] at H)) | ((with_reducible apply wlL); (first | apply hw_load 0 rfl rfl H rfl | apply hw_load 1 rfl rfl H rfl | apply hw_load 2 rfl rfl H rfl | apply hw_load 3 rfl rfl H rfl); (focus (simp; done)); (focus (simp only [segV, seg, NS]; rfl))))
      exact ⟨rfl, _, _, ⟨_, _, HG'.cast (by rw [hsn.out]; simp) (by rw [hsn.out]; simp [encN, seg]), rfl⟩, H.drop1.drop1⟩
    · have hsn := Lib.hid (show newsN (pre ++ [x]) = newsN pre by rw [newsN_snoc, hk]; rfl)
      refine wpIn_cond_false (by simp [Act.eval, Act.put, isNews] at hk ⊢; exact hk) ?_
      refine wpIn_skip ?_
      exact ⟨rfl, _, _, by rw [show NewsI w.heap.size (pre ++ [x]) _ = NewsI w.heap.size pre _ by unfold NewsI; rw [hsn.out]]; exact ⟨_, _, hG, rfl⟩, H.drop1⟩
  · rintro D W sz _ hD ⟨v, L1, hG, rfl⟩ HB hK
    have Hf := H
    clear H HI
    have H := HB.inner
    go_wp2_with (first | ((first | ((with_reducible apply wlB); refine hw_box rfl rfl H ?_) | ((with_reducible apply wlA); refine hw_alloc rfl H ?_) | ((with_reducible apply wlS); first | refine hw_store 0 rfl rfl rfl H rfl rfl rfl (by simp) rfl ?_ | refine hw_store 1 rfl rfl rfl H rfl rfl rfl (by simp) rfl ?_ | refine hw_store 2 rfl rfl rfl H rfl rfl rfl (by simp) rfl ?_ | refine hw_store 3 rfl rfl rfl H rfl rfl rfl (by simp) rfl ?_)); clear H; intro w' H; (try simp only [Act.eval, Act.put, Value.cells, segV, seg, segPut, NS, Nat.reduceAdd] at H)) | ((with_reducible apply wlL); (first | apply hw_load 0 rfl rfl H rfl | apply hw_load 1 rfl rfl H rfl | apply hw_load 2 rfl rfl H rfl | apply hw_load 3 rfl rfl H rfl); (focus (simp; done)); (focus (simp only [segV, seg, NS]; rfl))))
    have hK2 := H.still (H1 := HB) hK rfl
    have HO := (HB.outer H).putObj (o' := .deferred none) hK2 rfl hD
    refine marks_ret rfl hK2 (res1 rfl (rv_tmp rfl)) ⟨_, _, _, rfl, hG, (Hf.join (List.Perm.refl _) HO).2.noR.drop1.front⟩
set_option maxRecDepth 100000 in
set_option maxHeartbeats 2000000 in
theorem Ride_any (h1 : Blk w bk tBook (bookC br l.length)) (h2 : Blk w br tNtc (rowC l)) (hl : l.length ≤ 100) (hl0 : 0 < l.length) : Calls Tryz.prog 110 #[pV bk] w
    (fun e w' => ∃ sz v L, e = .returned v ∧ GL tNtc 3 v (newsN l).length ((newsN l).flatMap encN) L ∧ Hp NoS w w' sz L []) := by
  go_enter Tryz.func110, Tryz.ntmps110
  have H := ((Hp.start NoS w).addR h1 id).addR h2 id
  go_wp2_with (first | ((first | ((with_reducible apply wlB); refine hw_box rfl rfl H ?_) | ((with_reducible apply wlA); refine hw_alloc rfl H ?_) | ((with_reducible apply wlS); first | refine hw_store 0 rfl rfl rfl H rfl rfl rfl (by simp) rfl ?_ | refine hw_store 1 rfl rfl rfl H rfl rfl rfl (by simp) rfl ?_ | refine hw_store 2 rfl rfl rfl H rfl rfl rfl (by simp) rfl ?_ | refine hw_store 3 rfl rfl rfl H rfl rfl rfl (by simp) rfl ?_)); clear H; intro w' H; (try simp only [Act.eval, Act.put, Value.cells, segV, seg, segPut, NS, Nat.reduceAdd] at H)) | ((with_reducible apply wlL); (first | apply hw_load 0 rfl rfl H rfl | apply hw_load 1 rfl rfl H rfl | apply hw_load 2 rfl rfl H rfl | apply hw_load 3 rfl rfl H rfl); (focus (simp; done)); (focus (simp only [segV, seg, NS]; rfl))))
  refine (News_any (H.ro _ (.tail _ (.head _))).1 (H.ro _ (.head _)).1 hl hl0).mono ?_; rintro e w' ⟨s1, v1, L1, rfl, hG, H1⟩; obtain ⟨hs1, H⟩ := H.fresh H1; clear H1
  go_wp2_with (first | ((first | ((with_reducible apply wlB); refine hw_box rfl rfl H ?_) | ((with_reducible apply wlA); refine hw_alloc rfl H ?_) | ((with_reducible apply wlS); first | refine hw_store 0 rfl rfl rfl H rfl rfl rfl (by simp) rfl ?_ | refine hw_store 1 rfl rfl rfl H rfl rfl rfl (by simp) rfl ?_ | refine hw_store 2 rfl rfl rfl H rfl rfl rfl (by simp) rfl ?_ | refine hw_store 3 rfl rfl rfl H rfl rfl rfl (by simp) rfl ?_)); clear H; intro w' H; (try simp only [Act.eval, Act.put, Value.cells, segV, seg, segPut, NS, Nat.reduceAdd] at H)) | ((with_reducible apply wlL); (first | apply hw_load 0 rfl rfl H rfl | apply hw_load 1 rfl rfl H rfl | apply hw_load 2 rfl rfl H rfl | apply hw_load 3 rfl rfl H rfl); (focus (simp; done)); (focus (simp only [segV, seg, NS]; rfl))))
  exact bodyPost_ret (res1 rfl (rv_tmp rfl)) rfl ⟨_, _, _, rfl, hG, H.noR⟩
end
end Go.Proofs.YtccgpjhgfjfaoaaGreatDoor
/- tally: its block, and the row of sets. -/
namespace Go.Proofs.YtccgpjhgfjfaoaaGreatDoor
open Go.RowKit

structure Tly where
  n : Int
  need : Int
  round : Int
  reps : Nat
  heards : List Nat
abbrev tTally : TypeId := 123
abbrev tSet : TypeId := 38
def encS (s : Nat) : List Value := [.int .u32 (wd s 0), .int .u32 (wd s 1), .int .u32 (wd s 2), .int .u32 (wd s 3)]
theorem encS_len (s : Nat) : (encS s).length = 4 := rfl
abbrev tallyC (T : Tly) (v : Value) : Array Value := #[.int .i64 T.n, .int .i64 T.need, .int .i64 T.round, .int .u32 (wd T.reps 0), .int .u32 (wd T.reps 1), .int .u32 (wd T.reps 2), .int .u32 (wd T.reps 3), v]
def TlyIs (T : Tly) (bt : Nat) (L : List Bk) : Prop := ∃ v L1, GL tSet 4 v T.heards.length (T.heards.flatMap encS) L1 ∧ L = (bt, tTally, tallyC T v) :: L1
def Tly.add (T : Tly) (q : Int) (h : Nat) : Tly := { T with reps := withN T.reps q, heards := T.heards ++ [h] }
/-- The call returns v; the blocks L have become some that P tells of. -/
def UpdO (L : List Bk) (P : List Bk → Prop) (v : Value) (w : World) : Ending → World → Prop := fun e w' => ∃ sz L', e = .returned v ∧ P L' ∧ Hp (InL L) w w' sz L' []
section
variable {w : World} {bt : Nat} {T : Tly} {L : List Bk}
set_option maxRecDepth 100000 in
set_option maxHeartbeats 2000000 in
theorem tadd_any (hI : TlyIs T bt L) (H0 : Own w L) (hl : T.heards.length ≤ 1000) (q : Int) (h : Nat) : Calls Tryz.prog 203 #[pV bt, .int .i64 q, setV h] w (UpdO L (TlyIs (T.add q h) bt) (.tuple #[]) w) := by
  obtain ⟨v, L1, hG, rfl⟩ := hI
  go_enter Tryz.func203, Tryz.ntmps203
  have H := H0
  unfold Own at H
  go_wp2_with (first | ((first | ((with_reducible apply wlB); refine hw_box rfl rfl H ?_) | ((with_reducible apply wlA); refine hw_alloc rfl H ?_) | ((with_reducible apply wlS); first | refine hw_store 0 rfl rfl rfl H rfl rfl rfl (by simp) rfl ?_ | refine hw_store 1 rfl rfl rfl H rfl rfl rfl (by simp) rfl ?_ | refine hw_store 2 rfl rfl rfl H rfl rfl rfl (by simp) rfl ?_ | refine hw_store 3 rfl rfl rfl H rfl rfl rfl (by simp) rfl ?_)); clear H; intro w' H; (try simp only [Act.eval, Act.put, Value.cells, segV, seg, segPut, NS, Nat.reduceAdd] at H)) | ((with_reducible apply wlL); (first | apply hw_load 0 rfl rfl H rfl | apply hw_load 1 rfl rfl H rfl | apply hw_load 2 rfl rfl H rfl | apply hw_load 3 rfl rfl H rfl); (focus (simp; done)); (focus (simp only [segV, seg, NS]; rfl))))
  refine (With_any _ _ _).mono ?_; rintro e w' ⟨rfl, hb⟩; obtain ⟨s1, hs1, H⟩ := H.call hb; clear hb
  go_wp2_with (first | ((first | ((with_reducible apply wlB); refine hw_box rfl rfl H ?_) | ((with_reducible apply wlA); refine hw_alloc rfl H ?_) | ((with_reducible apply wlS); first | refine hw_store 0 rfl rfl rfl H rfl rfl rfl (by simp) rfl ?_ | refine hw_store 1 rfl rfl rfl H rfl rfl rfl (by simp) rfl ?_ | refine hw_store 2 rfl rfl rfl H rfl rfl rfl (by simp) rfl ?_ | refine hw_store 3 rfl rfl rfl H rfl rfl rfl (by simp) rfl ?_)); clear H; intro w' H; (try simp only [Act.eval, Act.put, Value.cells, segV, seg, segPut, NS, Nat.reduceAdd] at H)) | ((with_reducible apply wlL); (first | apply hw_load 0 rfl rfl H rfl | apply hw_load 1 rfl rfl H rfl | apply hw_load 2 rfl rfl H rfl | apply hw_load 3 rfl rfl H rfl); (focus (simp; done)); (focus (simp only [segV, seg, NS]; rfl))))
  (try simp only [Act.eval, Act.put, Value.cells, segV, seg, segPut, NS, Nat.reduceAdd])
  refine region_mkP 7 6 0 (tSet) (setC h) H rfl (by kernel_rfl) ?_; clear H; simp only [List.take_succ_cons, List.take_zero, List.drop_succ_cons, List.drop_zero]
  repeat (first | (apply detS_op (by decide) rfl; (focus (rintro e0 w' H; unfold HpM at H; go_wp2_with (first | ((with_reducible apply wlL); apply hw_load 0 rfl rfl H rfl; (focus (simp; done)); (focus (simp only [segV, seg, NS]; rfl))) | ((with_reducible apply wlL); apply hw_load 1 rfl rfl H rfl; (focus (simp; done)); (focus (simp only [segV, seg, NS]; rfl)))); refine ⟨rfl, rfl, ?_, H⟩; (first | (simp only [SlotIs, Array.getD_eq_getD_getElem?, List.getElem?_toArray, List.getElem?_cons_succ, List.getElem?_cons_zero, Option.getD_some]; exact rfl) | exact rfl))); (try simp only [Act.put, List.setIfInBounds_toArray, List.set_cons_zero, List.set_cons_succ])) | (apply detS_st (by decide) rfl; (focus (rintro w' H; replace H := H.start; go_wp2_with (first | ((with_reducible show wpList _ _ _ (⟨_, .buildSlice _ 1 _, _, _, _, _⟩ :: _) _ _); refine hw_build1 (e := tSet) (size := 4) rfl rfl rfl rfl (by decide) H ?_; clear H; intro w' H; (try simp only [Act.eval, Act.put, Value.cells, segV, seg, segPut, NS, Nat.reduceAdd] at H))); refine ⟨rfl, rfl, ?_, H.mkd⟩; (first | (simp only [SlotIs, Array.getD_eq_getD_getElem?, List.getElem?_toArray, List.getElem?_cons_succ, List.getElem?_cons_zero, Option.getD_some]; exact rfl) | exact rfl))); (try simp only [Act.put, List.setIfInBounds_toArray, List.set_cons_zero, List.set_cons_succ])) | (apply detS_skip (by decide) rfl; (try simp only [Act.put, List.setIfInBounds_toArray, List.set_cons_zero, List.set_cons_succ])))
  intro w' H; simp only [List.cons_append, List.nil_append] at H; (try simp only [Act.eval, Act.put, Value.cells, segV, seg, segPut, NS, Nat.reduceAdd])
  go_wp2_with (first | ((with_reducible show wpList _ _ _ (⟨_, .call { callee := .builtin .append, args := _, argTypes := _ }, _, _, _, _⟩ :: _) _ _); (apply hw_append (L0 := _) rfl rfl rfl H hG (pF2 (X := L1)) rfl (fun h => by cases h) (cells_of (n := 4) (H.blk (s1, tSet, setC h) (by simp)) rfl) rfl (Nat.le_trans (m := 2000) (by omega) (by decide)) (by omega)); clear H; intro v' w' sz' L1' hle HG' hnil H; obtain ⟨A', c', rfl⟩ := HG'.isSl; (try simp only [Act.eval, Act.put, Value.cells, segV, seg, segPut, NS, Nat.reduceAdd] at H)) | ((with_reducible apply wlS); refine hw_store 1 rfl rfl rfl H rfl rfl rfl (by simp) rfl ?_; clear H; intro w' H; (try simp only [Act.eval, Act.put, Value.cells, segV, seg, segPut, NS, Nat.reduceAdd] at H)))
  refine ⟨rfl, bodyPost_end (v := .tuple #[]) (res0 rfl) rfl ?_⟩
  exact ⟨_, _, rfl, ⟨_, L1', HG'.cast (by simp [Tly.add]) (by simp [Tly.add, encS, seg]), rfl⟩, H.drop1.sub (.cons_cons _ (.cons _ (List.Sublist.refl _)))⟩
end
end Go.Proofs.YtccgpjhgfjfaoaaGreatDoor
/- tally: New, and what is read. -/
namespace Go.Proofs.YtccgpjhgfjfaoaaGreatDoor
open Go.RowKit

theorem wd0 (k : Nat) : wd 0 k = 0 := by simp [wd]
theorem tallyC0 (n need round : Int) (v : Value) : tallyC ⟨n, need, round, 0, []⟩ v = #[.int .i64 n, .int .i64 need, .int .i64 round, .int .u32 0, .int .u32 0, .int .u32 0, .int .u32 0, v] := by simp [tallyC, wd0]
section
variable {w : World} {bt : Nat} {T : Tly} {v : Value}
set_option maxRecDepth 100000 in
set_option maxHeartbeats 2000000 in
theorem tRound_any (hB : Blk w bt tTally (tallyC T v)) : Calls Tryz.prog 41 #[pV bt] w (Ret (.int .i64 T.round) w) := by
  go_enter Tryz.func41, Tryz.ntmps41
  have H := (Hp.start NoS w).addR hB id
  go_wp2_with (first | ((with_reducible apply wlL); apply hw_loadR 0 rfl rfl H rfl; (focus (simp; done)); (focus (simp only [segV, seg, NS]; rfl))))
  exact bodyPost_ret (res1 rfl (rv_tmp rfl)) rfl ⟨rfl, H.ret⟩
set_option maxRecDepth 100000 in
set_option maxHeartbeats 2000000 in
theorem tNeed_any (hB : Blk w bt tTally (tallyC T v)) : Calls Tryz.prog 108 #[pV bt] w (Ret (.int .i64 T.need) w) := by
  go_enter Tryz.func108, Tryz.ntmps108
  have H := (Hp.start NoS w).addR hB id
  go_wp2_with (first | ((with_reducible apply wlL); apply hw_loadR 0 rfl rfl H rfl; (focus (simp; done)); (focus (simp only [segV, seg, NS]; rfl))))
  exact bodyPost_ret (res1 rfl (rv_tmp rfl)) rfl ⟨rfl, H.ret⟩
set_option maxRecDepth 100000 in
set_option maxHeartbeats 2000000 in
theorem tlist_any (hB : Blk w bt tTally (tallyC T v)) : Calls Tryz.prog 161 #[pV bt] w (Ret v w) := by
  go_enter Tryz.func161, Tryz.ntmps161
  have H := (Hp.start NoS w).addR hB id
  go_wp2_with (first | ((with_reducible apply wlL); apply hw_loadR 0 rfl rfl H rfl; (focus (simp; done)); (focus (simp only [segV, seg, NS]; rfl))))
  exact bodyPost_ret (res1 rfl (rv_tmp rfl)) rfl ⟨rfl, H.ret⟩
set_option maxRecDepth 100000 in
set_option maxHeartbeats 2000000 in
theorem tHave_any {A : Option Addr} {m c : Nat} (hB : Blk w bt tTally (tallyC T (.slice A m c))) : Calls Tryz.prog 109 #[pV bt] w (Ret (.int .i64 m) w) := by
  go_enter Tryz.func109, Tryz.ntmps109
  have H := (Hp.start NoS w).addR hB id
  go_wp2_with (first | (go_at_call 161; refine (tlist_any (H.ro _ (.head _)).1).mono ?_; rintro e w' ⟨rfl, hb⟩; obtain ⟨s1, hs1, H⟩ := H.call hb; clear hb))
  exact bodyPost_ret (res1 rfl (rv_tmp rfl)) rfl ⟨rfl, H.ret⟩
def readyB (need : Int) (m : Nat) : Bool := decide (0 < need) && decide ((m : Int) = need)
set_option maxRecDepth 100000 in
set_option maxHeartbeats 2000000 in
theorem tReady_any {A : Option Addr} {m c : Nat} (hB : Blk w bt tTally (tallyC T (.slice A m c))) : Calls Tryz.prog 79 #[pV bt] w (Ret (.bool (readyB T.need m)) w) := by
  by_cases hn : 0 < T.need
  · have hR : readyB T.need m = ((m : Int) == T.need) := by unfold readyB; rw [decide_eq_true hn]; rfl
    have HR := Lib.hid hR
    clear hR
    go_enter Tryz.func79, Tryz.ntmps79
    have H := (Hp.start NoS w).addR hB id
    go_wp2_with (first | (go_at_call 108; refine (tNeed_any (H.ro _ (.head _)).1).mono ?_; rintro e w' ⟨rfl, hb⟩; obtain ⟨s1, hs1, H⟩ := H.call hb; clear hb) | (go_at_call 109; refine (tHave_any (H.ro _ (.head _)).1).mono ?_; rintro e w' ⟨rfl, hb⟩; obtain ⟨s2, hs2, H⟩ := H.call hb; clear hb))
    exact bodyPost_ret (res1 rfl (rv_tmp rfl)) rfl ⟨by rw [HR.out]; rfl, H.ret⟩
  · have HR := Lib.hid (show readyB T.need m = false by unfold readyB; rw [decide_eq_false hn]; rfl)
    have hn' : T.need ≤ 0 := by omega
    go_enter Tryz.func79, Tryz.ntmps79
    have H := (Hp.start NoS w).addR hB id
    go_wp2_with (first | (go_at_call 108; refine (tNeed_any (H.ro _ (.head _)).1).mono ?_; rintro e w' ⟨rfl, hb⟩; obtain ⟨s1, hs1, H⟩ := H.call hb; clear hb) | (go_at_call 109; refine (tHave_any (H.ro _ (.head _)).1).mono ?_; rintro e w' ⟨rfl, hb⟩; obtain ⟨s2, hs2, H⟩ := H.call hb; clear hb))
    exact bodyPost_ret (res1 rfl (rv_tmp rfl)) rfl ⟨by rw [HR.out]; rfl, H.ret⟩
theorem setV_of_eqS {s t : Nat} (h : eqS s t = true) : setV s = setV t := by
  simp only [eqS, List.all_eq_true, List.mem_range, beq_iff_eq] at h
  have h0 := h 0 (by omega); have h1 := h 1 (by omega); have h2 := h 2 (by omega); have h3 := h 3 (by omega)
  show Value.agg #[_, _, _, _] = Value.agg #[_, _, _, _]
  rw [h0, h1, h2, h3]
set_option maxRecDepth 100000 in
set_option maxHeartbeats 2000000 in
theorem tRepliers_any (hB : Blk w bt tTally (tallyC T v)) : Calls Tryz.prog 44 #[pV bt] w (Ret (setV T.reps) w) := by
  rcases Bool.eq_false_or_eq_true (eqS T.reps 0) with hq | hq
  · have hV := Lib.hid (setV_of_eqS hq)
    have HQ := Lib.hid hq
    clear hq
    go_enter Tryz.func44, Tryz.ntmps44
    have H := (Hp.start NoS w).addR hB id
    go_wp2_with (first | ((with_reducible show wpList _ _ _ (⟨_, .binOp .eql _ _ _ _, _, _, _, _⟩ :: _) _ _); refine hw_eqA (b := eqS T.reps 0) (set_eqIn T.reps 0) (by kernel_rfl) rfl rfl rfl ?_; rw [HQ.out]) | ((with_reducible apply wlL); apply hw_loadR 0 rfl rfl H rfl; (focus (simp; done)); (focus (simp only [segV, seg, NS]; rfl))) | ((first | ((with_reducible apply wlB); refine hw_box rfl rfl H ?_) | ((with_reducible apply wlA); refine hw_alloc rfl H ?_) | ((with_reducible apply wlS); first | refine hw_store 0 rfl rfl rfl H rfl rfl rfl (by simp) rfl ?_ | refine hw_store 1 rfl rfl rfl H rfl rfl rfl (by simp) rfl ?_ | refine hw_store 2 rfl rfl rfl H rfl rfl rfl (by simp) rfl ?_ | refine hw_store 3 rfl rfl rfl H rfl rfl rfl (by simp) rfl ?_)); clear H; intro w' H; (try simp only [Act.eval, Act.put, Value.cells, segV, seg, segPut, NS, Nat.reduceAdd] at H)) | ((with_reducible apply wlL); (first | apply hw_load 0 rfl rfl H rfl | apply hw_load 1 rfl rfl H rfl | apply hw_load 2 rfl rfl H rfl | apply hw_load 3 rfl rfl H rfl); (focus (simp; done)); (focus (simp only [segV, seg, NS]; rfl))))
    exact bodyPost_ret (res1 rfl (rv_cell 0 rfl H rfl (Nat.le_of_ble_eq_true rfl))) rfl ⟨by rw [hV.out]; simp [segV, seg, wd0], H.ret⟩
  · skip
    have HQ := Lib.hid hq
    clear hq
    go_enter Tryz.func44, Tryz.ntmps44
    have H := (Hp.start NoS w).addR hB id
    go_wp2_with (first | ((with_reducible show wpList _ _ _ (⟨_, .binOp .eql _ _ _ _, _, _, _, _⟩ :: _) _ _); refine hw_eqA (b := eqS T.reps 0) (set_eqIn T.reps 0) (by kernel_rfl) rfl rfl rfl ?_; rw [HQ.out]) | ((with_reducible apply wlL); apply hw_loadR 0 rfl rfl H rfl; (focus (simp; done)); (focus (simp only [segV, seg, NS]; rfl))) | ((first | ((with_reducible apply wlB); refine hw_box rfl rfl H ?_) | ((with_reducible apply wlA); refine hw_alloc rfl H ?_) | ((with_reducible apply wlS); first | refine hw_store 0 rfl rfl rfl H rfl rfl rfl (by simp) rfl ?_ | refine hw_store 1 rfl rfl rfl H rfl rfl rfl (by simp) rfl ?_ | refine hw_store 2 rfl rfl rfl H rfl rfl rfl (by simp) rfl ?_ | refine hw_store 3 rfl rfl rfl H rfl rfl rfl (by simp) rfl ?_)); clear H; intro w' H; (try simp only [Act.eval, Act.put, Value.cells, segV, seg, segPut, NS, Nat.reduceAdd] at H)) | ((with_reducible apply wlL); (first | apply hw_load 0 rfl rfl H rfl | apply hw_load 1 rfl rfl H rfl | apply hw_load 2 rfl rfl H rfl | apply hw_load 3 rfl rfl H rfl); (focus (simp; done)); (focus (simp only [segV, seg, NS]; rfl))))
    exact bodyPost_ret (res1 rfl (rv_cell 0 rfl H rfl (Nat.le_of_ble_eq_true rfl))) rfl ⟨by simp [segV, seg], H.ret⟩
def tlyNew (n f self round : Int) (own : Nat) : Tly := (⟨n, n - f, round, 0, []⟩ : Tly).add self own
set_option maxRecDepth 100000 in
set_option maxHeartbeats 2000000 in
theorem tNew_ok (n f self round : Int) (own : Nat) (hn : 1 ≤ n) (hn1 : n ≤ 100) (hf0 : 0 ≤ f) (hf1 : f < n) (hs0 : 0 ≤ self) (hs1 : self < n) (hr0 : 1 ≤ round) (hr1 : round ≤ 1099511627775) (hw : withinB own n = true) (w : World) :
    Calls Tryz.prog 160 #[.int .i64 n, .int .i64 f, .int .i64 self, .int .i64 round, setV own] w (fun e w' => ∃ sz bt L, e = .returned (.tuple #[pV bt, .int .i64 0]) ∧ TlyIs (tlyNew n f self round own) bt L ∧ Hp NoS w w' sz L []) := by
  go_enter Tryz.func160, Tryz.ntmps160
  have H := Hp.start NoS w
  go_wp2_with (first | ((first | ((with_reducible apply wlB); refine hw_box rfl rfl H ?_) | ((with_reducible apply wlA); refine hw_alloc rfl H ?_) | ((with_reducible apply wlS); first | refine hw_store 0 rfl rfl rfl H rfl rfl rfl (by simp) rfl ?_ | refine hw_store 1 rfl rfl rfl H rfl rfl rfl (by simp) rfl ?_ | refine hw_store 2 rfl rfl rfl H rfl rfl rfl (by simp) rfl ?_ | refine hw_store 3 rfl rfl rfl H rfl rfl rfl (by simp) rfl ?_)); clear H; intro w' H; (try simp only [Act.eval, Act.put, Value.cells, segV, seg, segPut, NS, Nat.reduceAdd] at H)) | ((with_reducible apply wlL); (first | apply hw_load 0 rfl rfl H rfl | apply hw_load 1 rfl rfl H rfl | apply hw_load 2 rfl rfl H rfl | apply hw_load 3 rfl rfl H rfl); (focus (simp; done)); (focus (simp only [segV, seg, NS]; rfl))))
  refine (Within_any own n _).mono ?_; rw [hw]; rintro e w' ⟨rfl, hb⟩; obtain ⟨s1, hs1, H⟩ := H.call hb; clear hb
  go_wp2_with (first | ((first | ((with_reducible apply wlB); refine hw_box rfl rfl H ?_) | ((with_reducible apply wlA); refine hw_alloc rfl H ?_) | ((with_reducible apply wlS); first | refine hw_store 0 rfl rfl rfl H rfl rfl rfl (by simp) rfl ?_ | refine hw_store 1 rfl rfl rfl H rfl rfl rfl (by simp) rfl ?_ | refine hw_store 2 rfl rfl rfl H rfl rfl rfl (by simp) rfl ?_ | refine hw_store 3 rfl rfl rfl H rfl rfl rfl (by simp) rfl ?_)); clear H; intro w' H; (try simp only [Act.eval, Act.put, Value.cells, segV, seg, segPut, NS, Nat.reduceAdd] at H)) | ((with_reducible apply wlL); (first | apply hw_load 0 rfl rfl H rfl | apply hw_load 1 rfl rfl H rfl | apply hw_load 2 rfl rfl H rfl | apply hw_load 3 rfl rfl H rfl); (focus (simp; done)); (focus (simp only [segV, seg, NS]; rfl))))
  rw [← tallyC0] at H
  refine (tadd_any (T := ⟨n, n - f, round, 0, []⟩) ⟨.slice none 0 0, [], .nil, rfl⟩ (H.part (Lb := [(w.heap.size, tSet, setC own)]) (by exact List.Perm.refl _)) (by simp) _ _).mono ?_; rintro e w' ⟨s2, L2, rfl, hT, H1⟩; obtain ⟨hs2, H⟩ := H.join (Lb := [(w.heap.size, tSet, setC own)]) (by exact List.Perm.refl _) H1; clear H1
  go_wp2_with (first | ((first | ((with_reducible apply wlB); refine hw_box rfl rfl H ?_) | ((with_reducible apply wlA); refine hw_alloc rfl H ?_) | ((with_reducible apply wlS); first | refine hw_store 0 rfl rfl rfl H rfl rfl rfl (by simp) rfl ?_ | refine hw_store 1 rfl rfl rfl H rfl rfl rfl (by simp) rfl ?_ | refine hw_store 2 rfl rfl rfl H rfl rfl rfl (by simp) rfl ?_ | refine hw_store 3 rfl rfl rfl H rfl rfl rfl (by simp) rfl ?_)); clear H; intro w' H; (try simp only [Act.eval, Act.put, Value.cells, segV, seg, segPut, NS, Nat.reduceAdd] at H)) | ((with_reducible apply wlL); (first | apply hw_load 0 rfl rfl H rfl | apply hw_load 1 rfl rfl H rfl | apply hw_load 2 rfl rfl H rfl | apply hw_load 3 rfl rfl H rfl); (focus (simp; done)); (focus (simp only [segV, seg, NS]; rfl))))
  exact bodyPost_ret (res2 rfl (rv_tmp rfl) (rv_tmp rfl)) rfl ⟨_, _, _, rfl, hT, H.front⟩
end
end Go.Proofs.YtccgpjhgfjfaoaaGreatDoor
/- slot: numbers as bytes. -/
namespace Go.Proofs.YtccgpjhgfjfaoaaGreatDoor
open Go.RowKit

def beB (n x : Nat) : List UInt8 := (List.range n).map fun i => UInt8.ofNat (x / 2 ^ (8 * (n - 1 - i)))
theorem beB_len (n x : Nat) : (beB n x).length = n := by simp [beB]
def takeFrom (x : Nat) : List UInt8 → Nat
  | [] => x
  | c :: r => if 281474976710656 ≤ x then 72057594037927936 else takeFrom (x * 256 + c.toNat) r
def S1 (b : Nat) : Nat → Prop := fun k => k = b
theorem segPut_size (cs : Array Value) (o : Nat) (vs : List Value) (h : o + vs.length ≤ cs.size) : (segPut cs o vs).size = cs.size := by
  simp [segPut]; omega
theorem segPut_snoc (cs : Array Value) (o k : Nat) (A : List Value) (v : Value) (hA : A.length = k) (h : o + k + 1 ≤ cs.size) : segPut (segPut cs o A) (o + k) [v] = segPut cs o (A ++ [v]) := by
  subst hA
  unfold segPut
  simp only [List.length_append, List.length_cons, List.length_nil]
  congr 1
  have h1 : (cs.toList.take o ++ A).length = o + A.length := by simp; omega
  rw [← h1, List.take_left, h1, ← Nat.add_assoc, ← List.drop_drop (i := 0 + 1) (j := o + A.length)]
  rw [← h1, List.drop_left, h1, List.drop_drop]
  simp [Nat.add_assoc]
theorem seg_at {cs : Array Value} {o n : Nat} {vs : List Value} (h : seg cs o n = vs) (k : Nat) (hk : k < vs.length) : segV false cs (o + k) 1 = vs[k] := by
  subst h
  have hk' := hk
  simp only [seg, List.length_take, List.length_drop, Array.length_toList] at hk'
  simp only [segV, seg, Bool.false_eq_true, if_false, List.getElem_take, List.getElem_drop]
  rw [List.drop_eq_getElem_cons (by simp; omega)]
  simp
theorem seg_lt {cs : Array Value} {o n k : Nat} {vs : List Value} (h : seg cs o n = vs) (hk : k < vs.length) : o + k + 1 ≤ cs.size := by
  subst h
  simp only [seg, List.length_take, List.length_drop, Array.length_toList] at hk
  omega
theorem i64_or_nat (a b : Nat) (ha : a < 9223372036854775808) (hb : b < 9223372036854775808) : bits .or .i64 (a : Int) (b : Int) = ((a ||| b : Nat) : Int) := by
  have hx : a ||| b < 2 ^ 63 := Nat.or_lt_two_pow (by omega) (by omega)
  have h1 : (BitVec.ofInt 64 (a : Int)).toNat = a := by
    rw [BitVec.ofInt_natCast, BitVec.toNat_ofNat]; exact Nat.mod_eq_of_lt (by omega)
  have h2 : (BitVec.ofInt 64 (b : Int)).toNat = b := by
    rw [BitVec.ofInt_natCast, BitVec.toNat_ofNat]; exact Nat.mod_eq_of_lt (by omega)
  show IntKind.i64.wrap ((BitVec.ofInt 64 (a : Int) ||| BitVec.ofInt 64 (b : Int)).toNat : Int) = _
  rw [BitVec.toNat_or, h1, h2]
  rw [IntKind.wrap_i64]
  omega
theorem wrap64_id {x : Int} (h0 : -9223372036854775808 ≤ x) (h1 : x < 9223372036854775808) : wrap64 x = x := by unfold wrap64; omega
theorem or_join (y c : Nat) (hy : y < 281474976710656) (hc : c < 256) : bits .or .i64 (wrap64 ((y : Int) * 256)) (c : Int) = ((y * 256 + c : Nat) : Int) := by
  rw [wrap64_id (by omega) (by omega), show ((y : Int) * 256) = ((y * 256 : Nat) : Int) by omega, i64_or_nat _ _ (by omega) (by omega), nat_join 8 _ _ (by omega) (by omega)]
section
variable {w : World} {b o n c : Nat} {t : TypeId} {cs : Array Value}
set_option maxRecDepth 100000 in
set_option maxHeartbeats 2000000 in
theorem put_any (hB : Blk w b t cs) (hb : o + n ≤ cs.size) (hn : n ≤ 8) (x : Nat) (hx : x < 9223372036854775808) :
    Calls Tryz.prog 237 #[.slice (some ⟨b, o, none⟩) n c, .int .i64 x] w (fun e w' => ∃ sz, e = .returned (.tuple #[]) ∧ Hp (S1 b) w w' sz [(b, t, segPut cs o ((beB n x).map bv))] []) := by
  go_enter Tryz.func237, Tryz.ntmps237
  have H : Hp (S1 b) w w w.heap.size [(b, t, cs)] [] := Hp.own1 w hB
  go_wp2
  go_loopw [4, 7] (fun _ i wr => ∃ (k sz : Nat), k ≤ n ∧ i = .int .i64 k ∧ Hp (S1 b) w wr sz [(b, t, segPut cs o (((beB n x).take k).map bv))] []) (fun _ i _ => n - (intOf i).toNat)
  case atStart => exact ⟨0, _, Nat.zero_le _, rfl, by simpa [segPut] using H⟩
  case round =>
    obtain ⟨k, sz, hk, rfl, H⟩ := hrel
    by_cases hlt : k < n
    · have hbd : o + k + 1 ≤ (segPut cs o (((beB n x).take k).map bv)).size := by rw [segPut_size _ _ _ (by simp [beB_len]; omega)]; omega
      have hv : bv ((beB n x)[k]'(by rw [beB_len]; exact hlt)) = .int .u8 ((x : Int) / 2 ^ (8 * (n - 1 - k)) % 256) := by
        simp [beB, bv, UInt8.toNat_ofNat']
      have hst : segPut (segPut cs o (((beB n x).take k).map bv)) (o + k) [.int .u8 ((x : Int) / 2 ^ (8 * (n - 1 - k)) % 256)] = segPut cs o (((beB n x).take (k + 1)).map bv) := by
        rw [← hv, List.take_succ_eq_append_getElem (by rw [beB_len]; exact hlt), List.map_append]
        exact segPut_snoc _ _ _ _ _ (by simp [beB_len]; omega) (by omega)
      have HB := Lib.hid hbd; have HS := Lib.hid hst; clear hbd hst hv
      go_wp2_with (first | ((with_reducible show wpList _ _ _ (⟨_, .store _ _ _, _, _, _, _⟩ :: _) _ _); (refine hw_store 0 rfl rfl rfl H rfl (vs := [_]) rfl rfl HB.out rfl ?_); clear H; intro w' H; rw [List.set_cons_zero, HS.out] at H))
      all_goals exact ⟨⟨k + 1, _, by omega, by go_num, H⟩, by simp [intOf]; omega⟩
    · obtain rfl : k = n := by omega
      go_wp2
      rw [List.take_of_length_le (by simp [beB_len])] at H
      exact bodyPost_end (v := .tuple #[]) (res0 rfl) rfl ⟨_, rfl, H⟩
set_option maxRecDepth 100000 in
set_option maxHeartbeats 2000000 in
theorem take_any {l : List UInt8} (hB : Blk w b t cs) (hs : seg cs o l.length = l.map bv) (hl : l.length ≤ 1000) :
    Calls Tryz.prog 234 #[.slice (some ⟨b, o, none⟩) l.length c] w (Ret (.int .i64 (takeFrom 0 l)) w) := by
  go_enter Tryz.func234, Tryz.ntmps234
  have H := (Hp.start NoS w).addR hB id
  go_wp2
  go_loopw [3, 5, 8] (fun x _ i wr => ∃ (k sz y : Nat), k ≤ l.length ∧ i = .int .i64 k ∧ x = .int .i64 y ∧ takeFrom 0 l = takeFrom y (l.drop k) ∧ Hp NoS w wr sz [] [(b, t, cs)]) (fun _ _ i _ => l.length - (intOf i).toNat)
  case atStart => exact ⟨0, _, 0, Nat.zero_le _, rfl, rfl, rfl, H⟩
  case round =>
    obtain ⟨k, sz, y, hk, rfl, rfl, hy, H⟩ := hrel
    by_cases hlt : k < l.length
    · have hv := seg_at hs k (by simpa using hlt)
      rw [List.getElem_map] at hv
      have hbd : o + k + 1 ≤ cs.size := seg_lt hs (by simpa using hlt)
      have hd : takeFrom y (l.drop k) = if 281474976710656 ≤ y then 72057594037927936 else takeFrom (y * 256 + l[k].toNat) (l.drop (k + 1)) := by rw [List.drop_eq_getElem_cons hlt]; rfl
      have hc := UInt8.toNat_lt l[k]
      have HV := Lib.hid hv; have HD := Lib.hid (hy.trans hd); have HB := Lib.hid hbd; clear hv hy hd hs hbd
      by_cases h48 : 281474976710656 ≤ y
      · have hdd : decide ((281474976710656 : Int) ≤ (y : Int)) = true := by simp; omega
        go_wp2_with (first | ((with_reducible show wpList _ _ _ (⟨_, .load _ _, _, _, _, _⟩ :: _) _ _); (apply hw_loadR 0 rfl rfl H rfl; (focus exact HB.out); (focus exact HV.out))))
        exact bodyPost_ret (res1 rfl (rv_tmp rfl)) rfl ⟨by rw [HD.out, if_pos h48]; rfl, H.ret⟩
      have hdd : decide ((281474976710656 : Int) ≤ (y : Int)) = false := by simp; omega
      have H48 := Lib.hid h48; clear h48
      go_wp2_with (first | ((with_reducible show wpList _ _ _ (⟨_, .load _ _, _, _, _, _⟩ :: _) _ _); (apply hw_loadR 0 rfl rfl H rfl; (focus exact HB.out); (focus exact HV.out))))
      have e := or_join y (l[k].toNat) (by have := H48.out; omega) (by omega)
      refine ⟨⟨k + 1, _, y * 256 + l[k].toNat, by omega, by go_num, by rw [e], ?_, H⟩, by simp [intOf]; omega⟩
      rw [HD.out, if_neg H48.out]
    · obtain rfl : k = l.length := by omega
      go_wp2
      exact bodyPost_ret (res1 rfl (rv_tmp rfl)) rfl ⟨by rw [hy, List.drop_length]; rfl, H.ret⟩
end
end Go.Proofs.YtccgpjhgfjfaoaaGreatDoor
/- wire: put, Sum, check. -/
namespace Go.Proofs.YtccgpjhgfjfaoaaGreatDoor
open Go.RowKit

abbrev tU8 : TypeId := 5
section
variable {w : World} {v : Value} {L1 : List Bk}
set_option maxRecDepth 100000 in
set_option maxHeartbeats 2000000 in
theorem wput_any {m : Nat} {xs : List Value} (hG0 : GL tU8 1 v m xs L1) (H0 : Own w L1) (hm : m ≤ 100000) (n : Nat) (hn : n ≤ 8) (x : Nat) (hx : x < 9223372036854775808) :
    Calls Tryz.prog 205 #[v, .int .i64 x, .int .i64 n] w (fun e w' => ∃ sz v' L', e = .returned v' ∧ GL tU8 1 v' (m + n) (xs ++ (beB n x).map bv) L' ∧ Hp (InL L1) w w' sz L' []) := by
  go_enter Tryz.func205, Tryz.ntmps205
  have H := H0
  unfold Own at H
  go_wp2_with (first | ((first | ((with_reducible apply wlB); refine hw_box rfl rfl H ?_) | ((with_reducible apply wlA); refine hw_alloc rfl H ?_) | ((with_reducible apply wlS); first | refine hw_store 0 rfl rfl rfl H rfl rfl rfl (by simp) rfl ?_ | refine hw_store 1 rfl rfl rfl H rfl rfl rfl (by simp) rfl ?_ | refine hw_store 2 rfl rfl rfl H rfl rfl rfl (by simp) rfl ?_ | refine hw_store 3 rfl rfl rfl H rfl rfl rfl (by simp) rfl ?_)); clear H; intro w' H; (try simp only [Act.eval, Act.put, Value.cells, segV, seg, segPut, NS, Nat.reduceAdd] at H)) | ((with_reducible apply wlL); (first | apply hw_load 0 rfl rfl H rfl | apply hw_load 1 rfl rfl H rfl | apply hw_load 2 rfl rfl H rfl | apply hw_load 3 rfl rfl H rfl); (focus (simp; done)); (focus (simp only [segV, seg, NS]; rfl))))
  go_loopw [0, 7] (fun b i wr => ∃ (j sz : Nat) (L : List Bk), j ≤ n ∧ i = .int .i64 ((j : Int) - 1) ∧ GL tU8 1 b (m + (n - j)) (xs ++ ((beB n x).take (n - j)).map bv) L ∧ Hp (InL L1) w wr sz L []) (fun _ i _ => (intOf i + 1).toNat)
  case atStart => exact ⟨n, _, L1, Nat.le_refl _, rfl, by simpa using hG0, H⟩
  case round =>
    clear H
    obtain ⟨j, sz, L, hj, rfl, hG, H⟩ := hrel
    cases j with
    | zero =>
      go_wp2
      exact bodyPost_ret (res1 rfl (rv_tmp rfl)) rfl ⟨_, _, _, rfl, by rw [Nat.sub_zero, List.take_of_length_le (Nat.le_of_eq (beB_len _ _))] at hG; exact hG, H⟩
    | succ j =>
      rw [show ((j + 1 : Nat) : Int) - 1 = (j : Int) by omega]
      have hj8 : j < 8 := by omega
      go_wp2_with (first | ((with_reducible show wpList _ _ _ (⟨_, .buildSlice _ 1 _, _, _, _, _⟩ :: _) _ _); refine hw_build1 (e := tU8) (size := 1) rfl rfl rfl rfl (by decide) H ?_; clear H; intro w' H; (try simp only [Act.eval, Act.put, Value.cells, segV, seg, segPut, NS, Nat.reduceAdd] at H)) | ((with_reducible show wpList _ _ _ (⟨_, .call { callee := .builtin .append, args := _, argTypes := _ }, _, _, _, _⟩ :: _) _ _); (apply hw_append (L0 := [_]) rfl rfl rfl H hG (pL1 (X := L)) rfl (fun h => by cases h) (cells_of (n := 1) (H.blk _ (.head _)) rfl) rfl (Nat.le_trans (m := 100010) (by omega) (by decide)) (by omega)); clear H; intro v' w' sz' L1' hle HG' hnil H; obtain ⟨A', c', rfl⟩ := HG'.isSl; (try simp only [Act.eval, Act.put, Value.cells, segV, seg, segPut, NS, Nat.reduceAdd] at H)))
      refine ⟨⟨j, _, L1', by omega, rfl, HG'.cast (by omega) ?_, H.drop1⟩, by simp [intOf]⟩
      rw [show n - j = (n - (j + 1)) + 1 by omega, List.take_succ_eq_append_getElem (by rw [beB_len]; omega), List.map_append, ← List.append_assoc]
      congr 1
      show [Value.int .u8 ((x : Int) / 2 ^ (8 * j) % 256)] = [bv _]
      have e : (beB n x)[n - (j + 1)]'(by rw [beB_len]; omega) = UInt8.ofNat (x / 2 ^ (8 * j)) := by
        simp only [beB, List.getElem_map, List.getElem_range]
        rw [show n - 1 - (n - (j + 1)) = j by omega]
      rw [e]
      simp [bv, UInt8.toNat_ofNat']
end
def sumStep (a : Nat × Nat) (x : UInt8) : Nat × Nat := ((a.1 + x.toNat) % 65521, (a.2 + (a.1 + x.toNat) % 65521) % 65521)
def sumB (l : List UInt8) : Nat := (l.foldl sumStep (1, 0)).2 * 65536 + (l.foldl sumStep (1, 0)).1
theorem sumStep_lt (a : Nat × Nat) (x : UInt8) : (sumStep a x).1 < 65521 ∧ (sumStep a x).2 < 65521 := ⟨Nat.mod_lt _ (by decide), Nat.mod_lt _ (by decide)⟩
theorem sumF_lt : ∀ (l : List UInt8) (a : Nat × Nat), a.1 < 65521 → a.2 < 65521 → (l.foldl sumStep a).1 < 65521 ∧ (l.foldl sumStep a).2 < 65521
  | [], _, h1, h2 => ⟨h1, h2⟩
  | x :: l, a, _, _ => sumF_lt l _ (sumStep_lt a x).1 (sumStep_lt a x).2
theorem sumB_lt (l : List UInt8) : sumB l < 4294967296 := by
  have := sumF_lt l (1, 0) (by decide) (by decide)
  unfold sumB; omega
section
variable {w : World} {b o c : Nat} {t : TypeId} {cs : Array Value} {l : List UInt8}
set_option maxRecDepth 100000 in
set_option maxHeartbeats 2000000 in
theorem Sum_any (hB : Blk w b t cs) (hs : seg cs o l.length = l.map bv) (hl : l.length ≤ 100000) : Calls Tryz.prog 181 #[.slice (some ⟨b, o, none⟩) l.length c] w (Ret (.int .i64 (sumB l)) w) := by
  go_enter Tryz.func181, Tryz.ntmps181
  have H := (Hp.start NoS w).addR hB id
  go_wp2
  go_loopw [3, 4, 9] (fun p q i wr => ∃ (k sz : Nat), k ≤ l.length ∧ i = .int .i64 k ∧ p = .int .i64 ((l.take k).foldl sumStep (1, 0)).1 ∧ q = .int .i64 ((l.take k).foldl sumStep (1, 0)).2 ∧ Hp NoS w wr sz [] [(b, t, cs)]) (fun _ _ i _ => l.length - (intOf i).toNat)
  case atStart => exact ⟨0, _, Nat.zero_le _, rfl, rfl, rfl, H⟩
  case round =>
    clear H
    obtain ⟨k, sz, hk, rfl, rfl, rfl, H⟩ := hrel
    have hlt0 := sumF_lt (l.take k) (1, 0) (by decide) (by decide)
    by_cases hlt : k < l.length
    · have hv := seg_at hs k (by simpa using hlt)
      rw [List.getElem_map] at hv
      have hbd : o + k + 1 ≤ cs.size := seg_lt hs (by simpa using hlt)
      have hc := UInt8.toNat_lt l[k]
      have hst : (l.take (k + 1)).foldl sumStep (1, 0) = sumStep ((l.take k).foldl sumStep (1, 0)) l[k] := by rw [List.take_succ_eq_append_getElem hlt, List.foldl_append]; rfl
      have HV := Lib.hid hv; have HB := Lib.hid hbd; have HS := Lib.hid hst; clear hv hbd hst
      generalize (l.take k).foldl sumStep (1, 0) = a at *
      obtain ⟨p, q⟩ := a
      simp only at hlt0 ⊢
      obtain ⟨hp, hq⟩ := hlt0
      go_wp2_with (first | ((with_reducible show wpList _ _ _ (⟨_, .load _ _, _, _, _, _⟩ :: _) _ _); (apply hw_loadR 0 rfl rfl H rfl; (focus exact HB.out); (focus exact HV.out))))
      exact ⟨⟨k + 1, _, by omega, by go_num, by rw [HS.out]; simp [sumStep], by rw [HS.out]; simp [sumStep], H⟩, by simp [intOf]; omega⟩
    · obtain rfl : k = l.length := by omega
      rw [List.take_length] at hlt0 ⊢
      have hu : sumB l = (l.foldl sumStep (1, 0)).2 * 65536 + (l.foldl sumStep (1, 0)).1 := rfl
      have HU := Lib.hid hu; clear hu
      generalize l.foldl sumStep (1, 0) = a at *
      obtain ⟨p, q⟩ := a
      simp only at hlt0 ⊢
      obtain ⟨hp, hq⟩ := hlt0
      go_wp2
      exact bodyPost_ret (res1 rfl (rv_tmp rfl)) rfl ⟨by rw [HU.out]; exact congrArg (fun z => Ending.returned (Value.int .i64 z)) (by omega), H.ret⟩
end
/-- v is a slice with these notices. -/
def NewsAt (w : World) (v : Value) (l : List Ntc) : Prop := (v = .slice none 0 0 ∧ l = []) ∨ ∃ b cap t bl, v = .slice (some ⟨b, 0, none⟩) l.length cap ∧ Blk w b t bl ∧ seg bl 0 (l.length * 3) = l.flatMap encN ∧ 0 + l.length * 3 ≤ bl.size
theorem GL.news {S : Nat → Prop} {w0 w : World} {sz : Nat} {L R : List Bk} {v : Value} {l : List Ntc} {L1 : List Bk} (h : GL tNtc 3 v l.length (l.flatMap encN) L1) (H : Hp S w0 w sz L R) (hs : ∀ x ∈ L1, x ∈ L) : NewsAt w v l := by
  rcases Nat.eq_zero_or_pos l.length with hl | hl
  · have hn : l = [] := List.eq_nil_of_length_eq_zero hl
    subst hn
    generalize hm : ([] : List Ntc).length = m at h
    cases h with
    | nil => exact .inl ⟨rfl, rfl⟩
    | row b _ cap _ pad hx hc hm2 hp => exact .inr ⟨b, cap, tNtc, _, by rw [hm], H.blk _ (hs _ (.head _)), by simp [seg], by simp⟩
  · obtain ⟨b, cap, pad, rfl, hc, rfl, hx, hp⟩ := h.some hl
    exact .inr ⟨b, cap, tNtc, _, rfl, H.blk _ (hs _ (.head _)), seg_pre (flat_len encN_len l), by simp [flat_len encN_len]⟩
theorem NewsAt.step {w w' : World} {v : Value} {l : List Ntc} (h : NewsAt w v l) (hk : Below w.heap.size w w') : NewsAt w' v l := by
  rcases h with h | ⟨b, cap, t, bl, h1, h2, h3⟩
  · exact .inl h
  · exact .inr ⟨b, cap, t, bl, h1, h2.call hk, h3⟩
theorem Rising_at {v : Value} {l : List Ntc} {w : World} (h : NewsAt w v l) (hl : l.length ≤ 1048576) (n : Int) : Calls Tryz.prog 231 #[.int .i64 n, v] w (Ret (.bool (risingFrom n (-1) l)) w) := by
  rcases h with ⟨rfl, rfl⟩ | ⟨b, cap, t, bl, rfl, h2, h3, h4⟩
  · exact Rising_nil n w
  · exact Rising_some n l b 0 cap t bl w h2 h3 h4 hl
structure Frm where
  n : Int
  kind : Int
  from_ : Int
  round : Int
  heard : Nat
abbrev formV (f : Frm) (v : Value) : Value := .agg #[.int .i64 f.n, .int .i64 f.kind, .int .i64 f.from_, .int .i64 f.round, .int .u32 (wd f.heard 0), .int .u32 (wd f.heard 1), .int .u32 (wd f.heard 2), .int .u32 (wd f.heard 3), v]
structure okFrm (f : Frm) (l : List Ntc) : Prop where
  n1 : 1 ≤ f.n
  n2 : f.n ≤ 100
  f0 : 0 ≤ f.from_
  f1 : f.from_ < f.n
  r1 : 1 ≤ f.round
  r2 : f.round ≤ 1099511627775
  hw : withinB f.heard f.n = true
  nr : risingFrom f.n (-1) l = true
  nl : l.length ≤ 100
instance iWire1_1 : Ty Tryz.prog 248 true 9 := ⟨fun _ => by kernel_rfl, fun _ => by kernel_rfl, fun h => by cases h⟩
set_option maxRecDepth 100000 in
set_option maxHeartbeats 2000000 in
theorem check_ok {f : Frm} {l : List Ntc} (ok : okFrm f l) {A : Option Addr} {m c : Nat} {w : World} (hN : NewsAt w (.slice A m c) l) : Calls Tryz.prog 204 #[formV f (.slice A m c)] w (Ret (.int .i64 0) w) := by
  obtain ⟨n1, n2, f0, f1, r1, r2, hw, nr, nl⟩ := ok
  have HW := Lib.hid hw
  have HR := Lib.hid nr
  clear hw nr
  have d1 : decide (f.n < 1) = false := by simp; omega
  have d2 : decide (100 < f.n) = false := by simp; omega
  have d3 : decide (f.from_ < 0) = false := by simp; omega
  have d4 : decide (f.n ≤ f.from_) = false := by simp; omega
  have d5 : decide (f.round < 1) = false := by simp; omega
  have d6 : decide (1099511627775 < f.round) = false := by simp; omega
  go_enter Tryz.func204, Tryz.ntmps204
  have H := Hp.start NoS w
  go_wp2_with (first | ((first | ((with_reducible apply wlB); refine hw_box rfl rfl H ?_) | ((with_reducible apply wlA); refine hw_alloc rfl H ?_) | ((with_reducible apply wlS); first | refine hw_store 0 rfl rfl rfl H rfl rfl rfl (by simp) rfl ?_ | refine hw_store 1 rfl rfl rfl H rfl rfl rfl (by simp) rfl ?_ | refine hw_store 2 rfl rfl rfl H rfl rfl rfl (by simp) rfl ?_ | refine hw_store 3 rfl rfl rfl H rfl rfl rfl (by simp) rfl ?_)); clear H; intro w' H; (try simp only [Act.eval, Act.put, Value.cells, segV, seg, segPut, NS, Nat.reduceAdd] at H)) | ((with_reducible apply wlL); (first | apply hw_load 0 rfl rfl H rfl | apply hw_load 1 rfl rfl H rfl | apply hw_load 2 rfl rfl H rfl | apply hw_load 3 rfl rfl H rfl); (focus (simp; done)); (focus (simp only [segV, seg, NS]; rfl))) )
  refine (Within_any f.heard f.n _).mono ?_; rw [HW.out]; rintro e w' ⟨rfl, hb⟩; obtain ⟨s1, hs1, H⟩ := H.call hb; clear hb
  go_wp2_with (first | ((first | ((with_reducible apply wlB); refine hw_box rfl rfl H ?_) | ((with_reducible apply wlA); refine hw_alloc rfl H ?_) | ((with_reducible apply wlS); first | refine hw_store 0 rfl rfl rfl H rfl rfl rfl (by simp) rfl ?_ | refine hw_store 1 rfl rfl rfl H rfl rfl rfl (by simp) rfl ?_ | refine hw_store 2 rfl rfl rfl H rfl rfl rfl (by simp) rfl ?_ | refine hw_store 3 rfl rfl rfl H rfl rfl rfl (by simp) rfl ?_)); clear H; intro w' H; (try simp only [Act.eval, Act.put, Value.cells, segV, seg, segPut, NS, Nat.reduceAdd] at H)) | ((with_reducible apply wlL); (first | apply hw_load 0 rfl rfl H rfl | apply hw_load 1 rfl rfl H rfl | apply hw_load 2 rfl rfl H rfl | apply hw_load 3 rfl rfl H rfl); (focus (simp; done)); (focus (simp only [segV, seg, NS]; rfl))))
  refine (Rising_at (hN.step H.ret) (by omega) f.n).mono ?_; rw [HR.out]; rintro e w' ⟨rfl, hb⟩; obtain ⟨s2, hs2, H⟩ := H.call hb; clear hb
  go_wp2_with (first | ((first | ((with_reducible apply wlB); refine hw_box rfl rfl H ?_) | ((with_reducible apply wlA); refine hw_alloc rfl H ?_) | ((with_reducible apply wlS); first | refine hw_store 0 rfl rfl rfl H rfl rfl rfl (by simp) rfl ?_ | refine hw_store 1 rfl rfl rfl H rfl rfl rfl (by simp) rfl ?_ | refine hw_store 2 rfl rfl rfl H rfl rfl rfl (by simp) rfl ?_ | refine hw_store 3 rfl rfl rfl H rfl rfl rfl (by simp) rfl ?_)); clear H; intro w' H; (try simp only [Act.eval, Act.put, Value.cells, segV, seg, segPut, NS, Nat.reduceAdd] at H)) | ((with_reducible apply wlL); (first | apply hw_load 0 rfl rfl H rfl | apply hw_load 1 rfl rfl H rfl | apply hw_load 2 rfl rfl H rfl | apply hw_load 3 rfl rfl H rfl); (focus (simp; done)); (focus (simp only [segV, seg, NS]; rfl))))
  exact bodyPost_ret (res1 rfl (rv_tmp rfl)) rfl ⟨rfl, H.ret⟩
end Go.Proofs.YtccgpjhgfjfaoaaGreatDoor
/- A drawn region in which some operations (ks, one behind the other) turn the memory and yield values that are not fixed: the state of type σ tells how far it has come, and what has come. -/
namespace Go.Proofs.YtccgpjhgfjfaoaaGreatDoor
open Go

section
variable {P : Program} {ops : Array Oper} {Q : Exit → Act → World → Prop} {n : Nat}
theorem upon_movedR {o : Oper} {a b : Act} {R : Value → World → Prop} (hs : a.tmps.size = b.tmps.size) (hd : a.defers = b.defers) (r : Result Next)
    (h : o.upon P a (fun a' w' => ∃ u, a' = a.put o.dst u ∧ R u w') (fun _ _ _ => False) r) : o.upon P b (fun b' w' => ∃ u, b' = b.put o.dst u ∧ R u w') Q r := by
  cases r with
  | ok x w' =>
    cases x <;> simp only [Oper.upon] at h ⊢
    case value u => obtain ⟨v, h1, h2⟩ := h; exact ⟨v, put_same hs h1, h2⟩
    case skip => obtain ⟨v, h1, h2⟩ := h; exact ⟨v, put_same hs h1, h2⟩
    case defer d =>
      obtain ⟨v, h1, h2⟩ := h
      have h1 := congrArg Act.defers h1
      rw [put_defers, put_defers] at h1
      exact absurd (congrArg List.length h1) (by simp)
    case enter f args =>
      refine Calls.mono h fun e w'' he => ?_
      cases e with
      | returned u => obtain ⟨v, h1, h2⟩ := he; exact ⟨v, put_same hs h1, h2⟩
      | panicked c => exact he.elim
      | outgrown => obtain ⟨_, _, h⟩ := he; exact h.elim
    case row row args => exact Rows.mono h fun u w'' he => by obtain ⟨v, h1, h2⟩ := he; exact ⟨v, put_same hs h1, h2⟩
  | halt x w' =>
    cases x <;> simp only [Oper.upon] at h ⊢
theorem wp_moved {o : Oper} {R : Value → World → Prop} {a b : Act} {i : Nat} {w : World} {K : Act → World → Prop} (ho : ops[i]? = some o) (hsel : ∀ cs b, o.op ≠ .select cs b) (hs : a.tmps.size = b.tmps.size) (hdf : a.defers = b.defers)
    (hag : ∀ t, t ∈ o.looksAt ops → a.tmps[t]? = b.tmps[t]?) (h : (Region.wanted o (yielded ops a.tmps) = true ∧ o.wp P a w (fun a' w' => ∃ u, a' = a.put o.dst u ∧ R u w') (fun _ _ _ => False)) ∨ (Region.wanted o (yielded ops a.tmps) = false ∧ R undef w))
    (hK : ∀ u w', R u w' → K (b.put o.dst u) w') : wpOp P ops Q i K b w := by
  have hex : execOp b.eval o = execOp a.eval o := execOp_congr o hsel fun x hx => by
    cases x with
    | tmp t =>
      have ht : t ∈ o.looksAt ops := List.mem_append_left _ (List.mem_filterMap.2 ⟨.tmp t, by simpa using hx, rfl⟩)
      have := hag t ht
      simp only [Act.eval, Array.getD_eq_getD_getElem?, this]
    | _ => rfl
  have hwt : Region.wanted o (yielded ops b.tmps) = Region.wanted o (yielded ops a.tmps) := by
    unfold Region.wanted
    cases hg : o.guard with
    | none => rfl
    | some gw =>
      obtain ⟨g, want⟩ := gw
      have hy : yielded ops b.tmps g = yielded ops a.tmps g := by
        unfold yielded
        cases hd : (ops[g]?).bind (·.dst) with
        | none => rfl
        | some d =>
          have ht : d ∈ o.looksAt ops := List.mem_append_right _ (by simp [hg, hd])
          simp only [Option.bind_some, hag d ht]
      simp only [hy]
  unfold wpOp
  simp only [ho, hwt]
  rcases h with ⟨hw, h1⟩ | ⟨hw, h1⟩
  · rw [if_pos hw]
    refine .inl ?_
    unfold Oper.wp at h1 ⊢
    rw [hex]
    have h2 := upon_movedR (P := P) (Q := Q) hs hdf _ h1
    have h3 : o.wp P b w (fun b' w' => ∃ u, b' = b.put o.dst u ∧ R u w') Q := by unfold Oper.wp; rw [hex]; exact h2
    have h4 := Oper.wp_mono (K' := K) (fun b' w' hb => by obtain ⟨u, rfl, hu⟩ := hb; exact hK u w' hu) h3
    unfold Oper.wp at h4
    rw [hex] at h4
    exact h4
  · rw [hw]
    simp only [Bool.false_eq_true, if_false]
    exact hK undef w h1
end
section
variable {σ : Type} (P : Program) (ops : Array Oper) (J : σ → World → Prop) (lev : σ → Nat) (adv : σ → σ → Prop)
/-- Operation o, which waits for the first nd of the turning ones, yields V and turns nothing. -/
def DetG (o : Oper) (nd : Nat) (A : σ → Act) (V : σ → Value) : Prop :=
  (∀ st, nd ≤ lev st → ∀ w, J st w → (Region.wanted o (yielded ops (A st).tmps) = true ∧ o.wp P (A st) w (fun a' w' => ∃ u, a' = (A st).put o.dst u ∧ (u = V st ∧ J st w')) (fun _ _ _ => False)) ∨ (Region.wanted o (yielded ops (A st).tmps) = false ∧ (undef = V st ∧ J st w))) ∧
  (∀ st st', nd ≤ lev st → adv st st' → V st' = V st)
/-- Operation o is the turning one number q. -/
def StgG (o : Oper) (q : Nat) (A : σ → Act) (V : σ → Value) : Prop :=
  (∀ st, lev st = q → ∀ w, J st w → Region.wanted o (yielded ops (A st).tmps) = true ∧ o.wp P (A st) w (fun a' w' => ∃ u, a' = (A st).put o.dst u ∧ ∃ st', lev st' = q + 1 ∧ adv st st' ∧ u = V st' ∧ J st' w') (fun _ _ _ => False)) ∧
  (∀ st st', q + 1 ≤ lev st → adv st st' → V st' = V st)
def wpG (ks : List Nat) (need : Nat → Nat) (fin : (σ → Act) → Prop) : List Oper → Nat → (σ → Act) → Prop
  | [], _, A => fin A
  | o :: rest, i, A => ∃ V : σ → Value, ((∀ q, ks[q]? = some i → StgG P ops J lev adv o q A V) ∧ (i ∉ ks → DetG P ops J lev adv o (need i) A V)) ∧ wpG ks need fin rest (i + 1) (fun st => (A st).put o.dst (V st))
end
def detGB (ops : Array Oper) (n : Nat) (ks : List Nat) (need : Nat → Nat) : Bool :=
  detB ops n && ks.all (fun k => decide (k < n)) && (List.range ks.length).all (fun q => match ks[q]?, ks[q + 1]? with | some i, some i' => i != i' && decide (i < i') && reachB ops 8 i' i | _, _ => true) &&
  (List.range n).all (fun j => match need j with | 0 => true | q + 1 => match ks[q]? with | some k => j == k || reachB ops 8 j k | none => false) &&
  (List.range ks.length).all (fun q => match ks[q]? with | some k => need k == q + 1 | none => true)
structure DetSpecG (ops : Array Oper) (n : Nat) (ks : List Nat) (need : Nat → Nat) : Prop where
  base : DetSpec ops n
  lt : ∀ k ∈ ks, k < n
  order : ∀ q i i', ks[q]? = some i → ks[q + 1]? = some i' → i < i' ∧ reachB ops 8 i' i = true
  needs : ∀ j q, j < n → need j = q + 1 → ∃ k, ks[q]? = some k ∧ (j = k ∨ reachB ops 8 j k = true)
  own : ∀ q k, ks[q]? = some k → need k = q + 1
theorem DetSpecG.of {ops : Array Oper} {n : Nat} {ks : List Nat} {need : Nat → Nat} (h : detGB ops n ks need = true) : DetSpecG ops n ks need := by
  simp only [detGB, Bool.and_eq_true] at h
  obtain ⟨⟨⟨⟨h1, h2⟩, h3⟩, h4⟩, h5⟩ := h
  simp only [List.all_eq_true, List.mem_range, decide_eq_true_eq] at h2 h3 h4 h5
  refine ⟨DetSpec.of h1, h2, fun q i i' hi hi' => ?_, fun j q hj hn => ?_, fun q k hk => ?_⟩
  · have := h3 q (List.getElem?_eq_some_iff.1 hi).1
    simp only [hi, hi', Bool.and_eq_true, decide_eq_true_eq] at this
    exact ⟨this.1.2, this.2⟩
  · have := h4 j hj
    rw [hn] at this
    simp only at this
    cases hk : ks[q]? with
    | none => rw [hk] at this; cases this
    | some k =>
      rw [hk] at this
      simp only [Bool.or_eq_true, beq_iff_eq] at this
      exact ⟨k, rfl, this⟩
  · have := h5 q (List.getElem?_eq_some_iff.1 hk).1
    simp only [hk, beq_iff_eq] at this
    exact this
theorem DetSpecG.lt_of {ops : Array Oper} {n : Nat} {ks : List Nat} {need : Nat → Nat} (S : DetSpecG ops n ks need) {q q' i i' : Nat} (hi : ks[q]? = some i) (hi' : ks[q']? = some i') (h : q < q') : i < i' := by
  induction q' generalizing i' with
  | zero => omega
  | succ q' ih =>
    have hl : q' < ks.length := by have := (List.getElem?_eq_some_iff.1 hi').1; omega
    have hm : ks[q']? = some ks[q'] := by simp [hl]
    have := (S.order q' _ _ hm hi').1
    rcases Nat.lt_or_ge q q' with h1 | h1
    · exact Nat.lt_trans (ih hm h1) this
    · obtain rfl : q = q' := by omega
      rw [hi] at hm
      rw [Option.some.inj hm]; exact this
theorem DetSpecG.inj {ops : Array Oper} {n : Nat} {ks : List Nat} {need : Nat → Nat} (S : DetSpecG ops n ks need) {q q' i : Nat} (hi : ks[q]? = some i) (hi' : ks[q']? = some i) : q = q' := by
  rcases Nat.lt_trichotomy q q' with h | h | h
  · exact absurd (S.lt_of hi hi' h) (by omega)
  · exact h
  · exact absurd (S.lt_of hi' hi h) (by omega)
section
variable {P : Program} {ops : Array Oper} {Q : Exit → Act → World → Prop} {n : Nat} {σ : Type} {J : σ → World → Prop} {lev : σ → Nat} {adv : σ → σ → Prop} {ks : List Nat} {need : Nat → Nat}
theorem any_detG (SG : DetSpecG ops n ks need) (V : Nat → σ → Value) (a : Act) (hst : ∀ i o q, i < n → ops[i]? = some o → ks[q]? = some i → StgG P ops J lev adv o q (fun st => stg ops (fun j => V j st) a i) (V i)) (hdet : ∀ i o, i < n → ops[i]? = some o → i ∉ ks → DetG P ops J lev adv o (need i) (fun st => stg ops (fun j => V j st) a i) (V i))
    (hfin : ∀ st w, lev st = ks.length → J st w → wpList P ops Q (ops.toList.drop n) (stg ops (fun j => V j st) a n) w) :
    ∀ (m : Nat) (U : List Nat) (listed : Array Bool) (b : Act) (w : World) (st : σ), U.length = m → U.Nodup → (∀ i, i ∈ U ↔ i < n ∧ listed.getD i true = false) →
      HeadInv .any ops n listed → DetInv ops n (fun j => V j st) a listed b → lev st ≤ ks.length → (∀ q k, ks[q]? = some k → (listed.getD k false = true ↔ q < lev st)) → J st w → wpAny P .any ops Q (m + (ops.size - n)) listed b w := by
  have S := SG.base
  intro m
  induction m with
  | zero =>
    intro U listed b w st hl hnd hU hinv hb hle hlv hI
    have hnil : U = [] := List.eq_nil_of_length_eq_zero hl
    subst hnil
    have hdone : ∀ i, i < n → listed.getD i true = true := fun i hi => by
      cases h : listed.getD i true with
      | true => rfl
      | false => exact absurd ((hU i).2 ⟨hi, h⟩) (by simp)
    have hlist : listed = (Array.range ops.size).map fun i => decide (i < n) := by
      apply Array.ext
      · simp [hinv.size]
      · intro i h1 h2
        have hi : i < ops.size := by rw [← hinv.size]; exact h1
        by_cases hin : i < n
        · have := hdone i hin
          rw [Array.getD_eq_getD_getElem?, Array.getElem?_eq_getElem h1] at this
          simpa [hin] using this
        · have := hinv.tail i (by omega) hi
          rw [Array.getD_eq_getD_getElem?, Array.getElem?_eq_getElem h1] at this
          simpa [hin] using this
    have hbe : b = stg ops (fun j => V j st) a n := by
      have ht : b.tmps = (stg ops (fun j => V j st) a n).tmps := by
        apply Array.ext_getElem?
        intro t
        by_cases hx : ∃ j, j < n ∧ dstOf ops j = some t
        · obtain ⟨j, hj, hd⟩ := hx
          refine hb.done j t hj hd ?_
          have hjs : j < listed.size := by rw [hinv.size]; have := S.le; omega
          have := hdone j hj
          rw [Array.getD_eq_getD_getElem?, Array.getElem?_eq_getElem hjs] at this ⊢
          simpa using this
        · have hx' : ∀ j, j < n → dstOf ops j ≠ some t := fun j hj hd => hx ⟨j, hj, hd⟩
          rw [hb.other t hx', stg_ne (fun j => V j st) a t n hx']
      have hd : b.defers = (stg ops (fun j => V j st) a n).defers := by rw [hb.defers, stg_defers]
      cases b; cases hc : stg ops (fun j => V j st) a n; rw [hc] at ht hd; simp only at ht hd; rw [ht, hd]
    have hlev : lev st = ks.length := by
      apply Nat.le_antisymm hle
      apply Nat.le_of_not_lt
      intro h
      have hk : ks[lev st]? = some ks[lev st] := by simp [h]
      have hkn := SG.lt _ (List.mem_of_getElem? hk)
      have hks : ks[lev st] < listed.size := by rw [hinv.size]; have := S.le; omega
      have h1 := hdone _ hkn
      have h2 : listed.getD ks[lev st] false = true := by
        rw [Array.getD_eq_getD_getElem?, Array.getElem?_eq_getElem hks] at h1 ⊢
        simpa using h1
      exact absurd ((hlv _ _ hk).1 h2) (by omega)
    subst hlist hbe
    have hsz : (ops.toList.drop n).length = ops.size - n := by simp
    have := wpAny_of_seq (P := P) (md := .any) (ops := ops) (Q' := Q) (ops.toList.drop n) n _ (stg ops (fun j => V j st) a n) w (fun j => by simp [List.getElem?_drop]) (by rw [hsz]; exact S.seq) (hfin st w hlev hI)
    rw [hsz] at this
    rw [Nat.zero_add]
    exact this
  | succ m ih =>
    intro U listed b w st hl hnd hU hinv hb hle hlv hI
    have hex : ∃ i, i < n ∧ listed.getD i true = false := by
      cases U with
      | nil => simp at hl
      | cons i U => exact ⟨i, (hU i).1 (by simp)⟩
    have hfloat : ∀ t, t ∈ Region.ready .any ops listed → t < n := fun t ht => by
      rcases Nat.lt_or_ge t n with h | h
      · exact h
      · rcases S.tail with e | ⟨hs, hc⟩
        · obtain ⟨_, o, ho, _⟩ := mem_ready.1 ht
          have := (Array.getElem?_eq_some_iff.1 ho).1
          omega
        · obtain ⟨i, hi, hun⟩ := hex
          rcases Nat.lt_or_ge n ops.size with hn | hn
          · exact absurd ht (tail_waits hs hc hn hinv _ i rfl hi hun t h)
          · obtain ⟨_, o, ho, _⟩ := mem_ready.1 ht
            have := (Array.getElem?_eq_some_iff.1 ho).1
            omega
    have hne : Region.ready .any ops listed ≠ [] := by
      have key : ∀ i, i < n → listed.getD i true = false → ∃ j, j ∈ Region.ready .any ops listed := by
        intro i
        induction i using Nat.strongRecOn with
        | _ i ihi =>
          intro hi hun
          have ho : ops[i]? = some (ops[i]'(by have := S.le; omega)) := by simp [show i < ops.size by have := S.le; omega]
          by_cases hall : ∀ e ∈ (ops[i]'(by have := S.le; omega)).after, Region.binds .any e = true → listed.getD e.on false = true
          · exact ⟨i, mem_ready.2 ⟨hun, _, ho, hall⟩⟩
          · have : ∃ e, e ∈ (ops[i]'(by have := S.le; omega)).after ∧ Region.binds .any e = true ∧ ¬ listed.getD e.on false = true := by
              apply Classical.byContradiction
              intro hc
              exact hall fun e he hb => Classical.byContradiction fun h => hc ⟨e, he, hb, h⟩
            obtain ⟨e, he, hbd, hl⟩ := this
            have hlt := S.edges i _ hi ho e he hbd
            refine ihi e.on hlt (by omega) ?_
            have hsz : e.on < listed.size := by rw [hinv.size]; have := S.le; omega
            rw [Array.getD_eq_getD_getElem?, Array.getElem?_eq_getElem hsz] at hl ⊢
            simpa using hl
      obtain ⟨i, hi, hun⟩ := hex
      obtain ⟨j, hj⟩ := key i hi hun
      intro h; rw [h] at hj; cases hj
    rw [show m + 1 + (ops.size - n) = (m + (ops.size - n)) + 1 by omega]
    refine ⟨fun h => absurd h hne, fun i hi => ?_⟩
    have hin := hfloat i hi
    obtain ⟨hun, o, ho, hall⟩ := mem_ready.1 hi
    have hdst : dstOf ops i = o.dst := by simp [dstOf, ho]
    have hag : ∀ t, t ∈ o.looksAt ops → (stg ops (fun j => V j st) a i).tmps[t]? = b.tmps[t]? := fun t ht => by
      by_cases hx : ∃ k, k < n ∧ dstOf ops k = some t
      · obtain ⟨k, hk, hd⟩ := hx
        obtain ⟨hki, hw⟩ := S.looks i o k t hin ho hd ht
        obtain ⟨oj, hoj, e, he, hbd, heo⟩ := Region.waitsFor_spec hw
        rw [ho] at hoj
        obtain rfl := Option.some.inj hoj
        have hlk : listed.getD k false = true := heo ▸ hall e he hbd
        rw [hb.done k t hk hd hlk, stg_eq (fun j => V j st) a t k hd i hki (fun j hj hne => S.uniq j k t (by omega) hk (Ne.symm hne) hd),
          stg_eq (fun j => V j st) a t k hd n hk (fun j hj hne => S.uniq j k t hj hk (Ne.symm hne) hd)]
      · have hx' : ∀ j, j < n → dstOf ops j ≠ some t := fun j hj hd => hx ⟨j, hj, hd⟩
        rw [hb.other t hx', stg_ne (fun j => V j st) a t i fun j hj => hx' j (by omega)]
    have hisz : i < listed.size := by rw [hinv.size]; have := S.le; omega
    have hneed : ∀ j, j < n → listed.getD j false = true → need j ≤ lev st := fun j hj hlj => by
      cases hn : need j with
      | zero => omega
      | succ q =>
        obtain ⟨k, hk, hjk⟩ := SG.needs j q hj hn
        have hlk : listed.getD k false = true := by
          rcases hjk with rfl | hr
          · exact hlj
          · have hoj : ops[j]? = some (ops[j]'(by have := S.le; omega)) := by simp [show j < ops.size by have := S.le; omega]
            exact reachB_listed hinv.closed 8 j k _ hoj (hinv.closed j _ hoj hlj) hr
        have := (hlv q k hk).1 hlk
        omega
    have hstep : ∀ u w' st', u = V i st' → (∀ j, j < n → listed.getD j false = true → V j st' = V j st) → lev st' ≤ ks.length → (∀ q k, ks[q]? = some k → ((listed.setIfInBounds i true).getD k false = true ↔ q < lev st')) → J st' w' → wpAny P .any ops Q (m + (ops.size - n)) (listed.setIfInBounds i true) (b.put o.dst u) w' := by
      rintro u w' st' rfl hsame hle' hlv' hJ'
      refine ih (U.erase i) _ _ _ st' (by rw [List.length_erase_of_mem ((hU i).2 ⟨hin, hun⟩), hl]; rfl) (hnd.erase i) (fun j => ?_) (hinv.set hi hin) ⟨?_, ?_, ?_, ?_⟩ hle' hlv' hJ'
      · rw [hnd.mem_erase_iff, hU]
        by_cases e : j = i
        · subst e
          have hsz : j < listed.size := by rw [hinv.size]; have := S.le; omega
          simp [Array.getElem?_setIfInBounds, hsz]
        · simp [Array.getElem?_setIfInBounds_ne (Ne.symm e), e]
      · rw [put_size, hb.size]
      · rw [put_defers, hb.defers]
      · intro j t hj hd hlj
        by_cases e : j = i
        · subst e
          rw [hdst] at hd
          rw [hd, put_get_eq, hb.size, stg_eq (fun j => V j st') a t j (hdst.trans hd) n hj (fun k hk hne => S.uniq k j t hk hj (Ne.symm hne) (hdst.trans hd))]
        · have hne : o.dst ≠ some t := by rw [← hdst]; exact S.uniq i j t hin hj e hd
          rw [put_get_ne _ _ hne]
          rw [Array.getD_eq_getD_getElem?, Array.getElem?_setIfInBounds_ne (Ne.symm e), ← Array.getD_eq_getD_getElem?] at hlj
          rw [hb.done j t hj hd hlj, stg_eq (fun j => V j st) a t j hd n hj (fun k hk hne => S.uniq k j t hk hj (Ne.symm hne) hd), stg_eq (fun j => V j st') a t j hd n hj (fun k hk hne => S.uniq k j t hk hj (Ne.symm hne) hd), hsame j hj hlj]
      · intro t ht
        have hne : o.dst ≠ some t := by rw [← hdst]; exact ht i hin
        rw [put_get_ne _ _ hne]
        exact hb.other t ht
    have hmv := fun R K h hK => wp_moved (P := P) (Q := Q) (R := R) (K := K) (w := w) ho (Region.noSelect_spec S.sel i o · · ho) ((stg_size (fun j => V j st) a i).trans hb.size.symm) ((stg_defers (fun j => V j st) a i).trans hb.defers.symm) hag h hK
    by_cases hik : i ∈ ks
    · obtain ⟨q, hq⟩ := List.mem_iff_getElem?.1 hik
      have hnl : ¬ listed.getD i false = true := by rw [getD_both hun]; simp
      have hlev : lev st = q := by
        have h1 : ¬ q < lev st := fun h => hnl ((hlv q i hq).2 h)
        cases q with
        | zero => omega
        | succ q =>
          have hl' : q < ks.length := by have := (List.getElem?_eq_some_iff.1 hq).1; omega
          have hk' : ks[q]? = some ks[q] := by simp [hl']
          have := (hlv q _ hk').1 (reachB_listed hinv.closed 8 i _ o ho hall (SG.order q _ _ hk' hq).2)
          omega
      obtain ⟨hs1, hs2⟩ := hst i o q hin ho hq
      refine hmv _ _ (.inl (hs1 st hlev w hI)) ?_
      rintro u w' ⟨st', hl', hadv, hu, hJ'⟩
      refine hstep u w' st' hu (fun j hj hlj => ?_) (by rw [hl']; have := (List.getElem?_eq_some_iff.1 hq).1; omega) (fun q' k' hk' => ?_) hJ'
      · by_cases hjk : j ∈ ks
        · obtain ⟨q2, hq2⟩ := List.mem_iff_getElem?.1 hjk
          have hoj : ops[j]? = some (ops[j]'(by have := S.le; omega)) := by simp [show j < ops.size by have := S.le; omega]
          exact (hst j _ q2 hj hoj hq2).2 st st' (by have := (hlv q2 j hq2).1 hlj; omega) hadv
        · have hoj : ops[j]? = some (ops[j]'(by have := S.le; omega)) := by simp [show j < ops.size by have := S.le; omega]
          exact (hdet j _ hj hoj hjk).2 st st' (hneed j hj hlj) hadv
      · by_cases e : k' = i
        · subst e
          obtain rfl := SG.inj hk' hq
          rw [hl']
          simp [hisz]
        · rw [Array.getD_eq_getD_getElem?, Array.getElem?_setIfInBounds_ne (Ne.symm e), ← Array.getD_eq_getD_getElem?, hlv q' k' hk', hl', hlev]
          have hne : q' ≠ q := fun e' => e (by rw [e', hq] at hk'; exact (Option.some.inj hk').symm)
          omega
    · have hnd' : need i ≤ lev st := by
        cases hn : need i with
        | zero => omega
        | succ q =>
          obtain ⟨k, hk, hjk⟩ := SG.needs i q hin hn
          have hlk : listed.getD k false = true := by
            rcases hjk with rfl | hr
            · exact absurd (List.mem_of_getElem? hk) hik
            · exact reachB_listed hinv.closed 8 i k o ho hall hr
          have := (hlv q k hk).1 hlk
          omega
      refine hmv _ _ ((hdet i o hin ho hik).1 st hnd' w hI) ?_
      rintro u w' ⟨hu, hJ'⟩
      refine hstep u w' st hu (fun _ _ _ => rfl) hle (fun q' k' hk' => ?_) hJ'
      have e : k' ≠ i := fun e => hik (e ▸ List.mem_of_getElem? hk')
      rw [Array.getD_eq_getD_getElem?, Array.getElem?_setIfInBounds_ne (Ne.symm e), ← Array.getD_eq_getD_getElem?, hlv q' k' hk']

end
section
variable {P : Program} {ops : Array Oper} {Q : Exit → Act → World → Prop} {n : Nat} {σ : Type} {J : σ → World → Prop} {lev : σ → Nat} {adv : σ → σ → Prop} {ks : List Nat} {need : Nat → Nat}
theorem wpG_values {fin : (σ → Act) → Prop} : ∀ (l : List Oper) (m : Nat) (A : σ → Act), (∀ j, j < l.length → l[j]? = ops[m + j]?) → wpG P ops J lev adv ks need fin l m A →
    ∃ V : Nat → σ → Value, ∀ (c : Nat → σ → Act), c 0 = A → (∀ j, j < l.length → c (j + 1) = fun st => (c j st).put (dstOf ops (m + j)) (V j st)) →
      (∀ j o, j < l.length → ops[m + j]? = some o → ((∀ q, ks[q]? = some (m + j) → StgG P ops J lev adv o q (c j) (V j)) ∧ (m + j ∉ ks → DetG P ops J lev adv o (need (m + j)) (c j) (V j)))) ∧ fin (c l.length)
  | [], m, A, _, h => ⟨fun _ _ => undef, fun c hc _ => ⟨fun j o hj => absurd hj (by simp), by rw [show c ([] : List Oper).length = A from hc]; exact h⟩⟩
  | o :: l, m, A, hl, h => by
    obtain ⟨V0, hv, hr⟩ := h
    obtain ⟨V, hV⟩ := wpG_values l (m + 1) _ (fun j hj => by have := hl (j + 1) (by simp; omega); simpa [Nat.add_assoc, Nat.add_comm 1 j] using this) hr
    have h0 : ops[m]? = some o := by simpa using (hl 0 (by simp)).symm
    refine ⟨fun j => match j with | 0 => V0 | j + 1 => V j, fun c hc hs => ?_⟩
    have h1 := hV (fun j => c (j + 1)) (by rw [hs 0 (by simp), hc]; simp [dstOf, h0]) (fun j hj => by
      have := hs (j + 1) (by simp; omega)
      rw [this]
      simp only [Nat.add_assoc, Nat.add_comm 1 j])
    refine ⟨fun j o' hj ho' => ?_, ?_⟩
    · cases j with
      | zero =>
        have : o' = o := by have h2 := ho'; simp only [Nat.add_zero, h0] at h2; exact (Option.some.inj h2).symm
        rw [hc, this]
        exact hv
      | succ j =>
        have := h1.1 j o' (by simp at hj; omega) (by rw [← ho']; congr 1; omega)
        rw [show m + (j + 1) = m + 1 + j by omega]
        exact this
    · exact h1.2
theorem region_G {id : Nat} {a : Act} {w : World} {l : List Oper} (n : Nat) (ks : List Nat) (need : Nat → Nat) (st0 : σ) (hm : P.follows .mixedOrders = true) (hB : detGB l.toArray n ks need = true) (h0 : lev st0 = 0) (hJ : J st0 w.drew)
    (h : wpG P l.toArray J lev adv ks need (fun A => ∀ st w', lev st = ks.length → J st w' → wpList P l.toArray Q (l.drop n) (A st) w') (l.take n) 0 (fun _ => a)) : (Code.region id l.toArray true).wp P Q a w := by
  have SG := DetSpecG.of hB
  have S := SG.base
  have hn : n ≤ l.length := by simpa using S.le
  have hlen : (l.take n).length = n := by simp; omega
  obtain ⟨V, hV⟩ := wpG_values (ops := l.toArray) (l.take n) 0 (fun _ => a) (fun j hj => by rw [hlen] at hj; simp [hj]) h
  obtain ⟨h1, h2⟩ := hV (fun j st => stg l.toArray (fun j => V j st) a j) rfl (fun j _ => by simp [stg])
  rw [hlen] at h1 h2
  refine wp_region_any hm ?_
  have inv0 : HeadInv .any l.toArray n (Array.replicate l.toArray.size false) :=
    ⟨by simp, fun j oj _ hl => (by rw [getD_replicate_false] at hl; cases hl), fun t _ ht => getD_in (by simpa using ht) (getD_replicate_false _ _)⟩
  have := any_detG (P := P) (Q := Q) SG V a (fun i o q hi ho hq => (h1 i o hi (by simpa using ho)).1 q (by simpa using hq)) (fun i o hi ho hik => by have := (h1 i o hi (by simpa using ho)).2 (by simpa using hik); simpa using this) (fun st w' hl hj => by simpa using h2 st w' hl hj)
    n (List.range n) (Array.replicate l.toArray.size false) a w.drew st0
    (by simp) List.nodup_range (fun i => by
      simp only [List.mem_range]
      constructor
      · intro hi; exact ⟨hi, getD_in (by simp; omega) (getD_replicate_false _ _)⟩
      · exact fun h => h.1) inv0 ⟨rfl, rfl, fun j t _ _ hl => (by rw [getD_replicate_false] at hl; cases hl), fun _ _ => rfl⟩ (by omega) (fun q k _ => by rw [getD_replicate_false]; simp [h0]) hJ
  have hs := S.le
  rw [show n + (l.toArray.size - n) = l.toArray.size by omega] at this
  exact this
variable {fin : (σ → Act) → Prop} {rest : List Oper} {A : σ → Act} {V : σ → Value} {dst : Option Tmp} {op : Op} {ty : TypeId} {pos : String} {after : Array Edge} {i q : Nat}
theorem detG_op (hik : i ∉ ks) (h : ∀ st, need i ≤ lev st → ∀ w, J st w → wpList P #[] (DetQ (A st).defers dst (V st) (J st)) [⟨dst, op, ty, pos, after, none⟩] (A st) w) (hp : ∀ st st', need i ≤ lev st → adv st st' → V st' = V st)
    (hr : wpG P ops J lev adv ks need fin rest (i + 1) (fun st => (A st).put dst (V st))) : wpG P ops J lev adv ks need fin (⟨dst, op, ty, pos, after, none⟩ :: rest) i A := by
  refine ⟨V, ⟨fun q hq => absurd (List.mem_of_getElem? hq) hik, fun _ => ⟨fun st hl w hJ => ?_, hp⟩⟩, hr⟩
  have := (det2_of (P := P) (ops := ops) (I := J st) (J := J st) (a := A st) (v := V st) (g := none) (by simp [Region.wanted]) (h st hl)).2 w hJ
  exact .inl ⟨by simp [Region.wanted], Oper.wp_mono (fun a' w' hh => ⟨V st, hh.1, rfl, hh.2⟩) this⟩
def StgQ (J : σ → World → Prop) (lev : σ → Nat) (adv : σ → σ → Prop) (st : σ) (q : Nat) (ds : List Deferred) (dst : Option Tmp) (V : σ → Value) : Exit → Act → World → Prop := fun e a' w' => e = .normal ∧ a'.defers = ds ∧ ∃ st', lev st' = q + 1 ∧ adv st st' ∧ SlotIs a' dst (V st') ∧ J st' w'
theorem stgG_op (hik : ks[q]? = some i) (hnd : ∀ q', ks[q']? = some i → q' = q) (h : ∀ st, lev st = q → ∀ w, J st w → wpList P #[] (StgQ J lev adv st q (A st).defers dst V) [⟨dst, op, ty, pos, after, none⟩] (A st) w) (hp : ∀ st st', q + 1 ≤ lev st → adv st st' → V st' = V st)
    (hr : wpG P ops J lev adv ks need fin rest (i + 1) (fun st => (A st).put dst (V st))) : wpG P ops J lev adv ks need fin (⟨dst, op, ty, pos, after, none⟩ :: rest) i A := by
  refine ⟨V, ⟨fun q' hq' => ?_, fun hn => absurd (List.mem_of_getElem? hik) hn⟩, hr⟩
  obtain rfl := hnd q' hq'
  refine ⟨fun st hl w hJ => ⟨by simp [Region.wanted], ?_⟩, hp⟩
  have h1 := h st hl w hJ
  unfold wpList at h1
  rw [if_pos (by simp [Region.wanted])] at h1
  rcases h1 with h1 | ⟨_, a1, w1, h1⟩
  · have h2 : Oper.wp P ⟨dst, op, ty, pos, after, none⟩ (A st) w (wpList P #[] (StgQ J lev adv st q' (A st).defers dst V) []) (StgQ J lev adv st q' (A st).defers dst V) := h1
    unfold Oper.wp at h2 ⊢
    generalize (execOp (A st).eval ⟨dst, op, ty, pos, after, none⟩).run P w = r at h2 ⊢
    have fin : ∀ u w', (StgQ J lev adv st q' (A st).defers dst V) .normal ((A st).put dst u) w' → ∃ u', (A st).put dst u = (A st).put dst u' ∧ ∃ st', lev st' = q' + 1 ∧ adv st st' ∧ u' = V st' ∧ J st' w' := fun u w' hh => by
      obtain ⟨_, _, st', h3, h4, h5, h6⟩ := hh
      exact ⟨V st', put_of_slot h5, st', h3, h4, rfl, h6⟩
    cases r with
    | ok x w' =>
      cases x <;> simp only [Oper.upon, wpList] at h2 ⊢
      case value u => exact fin _ _ h2
      case skip => exact fin _ _ h2
      case defer dd => exact absurd (congrArg List.length h2.2.1) (by rw [put_defers]; simp)
      case enter f args =>
        refine Calls.mono h2 fun e w'' he => ?_
        cases e with
        | returned u => exact fin _ _ he
        | panicked c => exact absurd he.1 (by simp)
        | outgrown => obtain ⟨_, _, h⟩ := he; exact absurd h.1 (by simp)
      case row row args => exact Rows.mono h2 fun u w'' he => fin _ _ he
    | halt x w' =>
      cases x <;> simp only [Oper.upon, StgQ] at h2 ⊢
      case panic u => exact absurd h2.1 (by simp)
  · exact absurd h1.1 (by simp)
end
/-! ### the state as a list of what has come: values, and the blocks that they bear -/
abbrev St := List (Value × List Bk)
def vq (st : St) (q : Nat) : Value := ((st.reverse[q]?).map (·.1)).getD undef
def advS (st st' : St) : Prop := st' = st ∨ ∃ x, st' = x :: st
theorem vq_adv {st st' : St} {q : Nat} (h : q + 1 ≤ st.length) (ha : advS st st') : vq st' q = vq st q := by
  rcases ha with rfl | ⟨x, rfl⟩
  · rfl
  · simp [vq, List.getElem?_append, show q < st.length by omega]
theorem vq_top (x : Value × List Bk) (st : St) : vq (x :: st) st.length = x.1 := by simp [vq]
def JS (S : Nat → Prop) (w0 : World) (sz : Nat) (L R : List Bk) (F : St → Prop) (Lof : St → List Bk) (st : St) (w : World) : Prop := F st ∧ ∃ s, sz ≤ s ∧ Hp S w0 w s (L ++ Lof st) R
def tupAt (v : Value) (k : Nat) : Value := match v with | .tuple xs => xs.getD k undef | _ => undef
section
variable {P : Program} {ops : Array Oper} {J : St → World → Prop} {ks : List Nat} {need : Nat → Nat} {fin : (St → Act) → Prop} {rest : List Oper} {A : St → Act} {dst : Option Tmp} {ty : TypeId} {pos : String} {after : Array Edge} {i q t k : Nat}
theorem detG_extract (hik : i ∉ ks) (hq : q + 1 ≤ need i) (ht : ∀ st, evL (A st) (.tmp t) = some (vq st q)) (hF : ∀ st w, need i ≤ st.length → J st w → ∃ xs, vq st q = .tuple xs ∧ k < xs.size)
    (hr : wpG P ops J List.length advS ks need fin rest (i + 1) (fun st => (A st).put dst (tupAt (vq st q) k))) : wpG P ops J List.length advS ks need fin (⟨dst, .extract (.tmp t) k, ty, pos, after, none⟩ :: rest) i A := by
  refine ⟨fun st => tupAt (vq st q) k, ⟨fun q hq => absurd (List.mem_of_getElem? hq) hik, fun _ => ⟨fun st hl w hJ => .inl ⟨by simp [Region.wanted], ?_⟩, fun st st' hl ha => by show tupAt _ _ = tupAt _ _; rw [vq_adv (by omega) ha]⟩⟩, hr⟩
  obtain ⟨xs, hx, hk⟩ := hF st w hl hJ
  have he := evL_eval (ht st)
  rw [hx] at he
  have hg : xs[k]? = some xs[k] := by simp [hk]
  unfold Oper.wp
  have hrun : (execOp (A st).eval ⟨dst, .extract (.tmp t) k, ty, pos, after, none⟩).run P w = .ok (.value xs[k]) w := by
    revert he
    generalize (A st).eval = ρ
    intro he
    simp [execOp, he, go_sem, hg, hk]
  rw [hrun]
  exact ⟨xs[k], rfl, by show _ = tupAt _ _; rw [hx]; simp [tupAt, hk], hJ⟩
end
theorem region_GS {P : Program} {Q : Exit → Act → World → Prop} {S : Nat → Prop} {w0 w : World} {sz : Nat} {L R : List Bk} {id : Nat} {a : Act} {l : List Oper} (n : Nat) (ks : List Nat) (need : Nat → Nat) (F : St → Prop) (Lof : St → List Bk) (H : Hp S w0 w sz L R) (hF : F []) (hL : Lof [] = []) (hm : P.follows .mixedOrders = true) (hB : detGB l.toArray n ks need = true)
    (h : wpG P l.toArray (JS S w0 sz L R F Lof) List.length advS ks need (fun A => ∀ st w', st.length = ks.length → JS S w0 sz L R F Lof st w' → wpList P l.toArray Q (l.drop n) (A st) w') (l.take n) 0 (fun _ => a)) : (Code.region id l.toArray true).wp P Q a w :=
  region_G n ks need ([] : St) hm hB rfl ⟨hF, _, Nat.le_refl _, by rw [hL, List.append_nil]; exact H.drew⟩ h
theorem region_GS0 {P : Program} {Q : Exit → Act → World → Prop} {S : Nat → Prop} {w0 w : World} {sz : Nat} {R : List Bk} {id : Nat} {a : Act} {l : List Oper} (n : Nat) (ks : List Nat) (need : Nat → Nat) (F : St → Prop) (Lof : St → List Bk) (H : Hp S w0 w sz (Lof []) R) (hF : F []) (hm : P.follows .mixedOrders = true) (hB : detGB l.toArray n ks need = true)
    (h : wpG P l.toArray (JS S w0 sz [] R F Lof) List.length advS ks need (fun A => ∀ st w', st.length = ks.length → JS S w0 sz [] R F Lof st w' → wpList P l.toArray Q (l.drop n) (A st) w') (l.take n) 0 (fun _ => a)) : (Code.region id l.toArray true).wp P Q a w :=
  region_G n ks need ([] : St) hm hB rfl ⟨hF, _, Nat.le_refl _, by rw [List.nil_append]; exact H.drew⟩ h
theorem nth2a {k k' : Nat} (h : k ≠ k') : ∀ q' : Nat, ([k, k'] : List Nat)[q']? = some k → q' = 0
  | 0, _ => rfl
  | 1, h' => absurd (Option.some.inj h').symm h
  | _ + 2, h => by simp at h
theorem nth2b {k k' : Nat} (h : k ≠ k') : ∀ q' : Nat, ([k, k'] : List Nat)[q']? = some k' → q' = 1
  | 0, h' => absurd (Option.some.inj h') h
  | 1, _ => rfl
  | _ + 2, h => by simp at h
end Go.Proofs.YtccgpjhgfjfaoaaGreatDoor
/- wire: the bytes of a query without news. -/
namespace Go.Proofs.YtccgpjhgfjfaoaaGreatDoor
open Go.RowKit

def query0 (n from_ round : Nat) : List UInt8 :=
  let b := [101, 115, 1, UInt8.ofNat n, UInt8.ofNat from_] ++ beB 5 round ++ beB 1 0
  b ++ beB 4 (sumB b)
instance iWire2_1 : Ty Tryz.prog 185 true 3 := ⟨fun _ => by kernel_rfl, fun _ => by kernel_rfl, fun h => by cases h⟩
theorem fill5 (v0 v1 v2 v3 v4 : Int) (z : Array Value) (hz : z.size = 5 * 1) : Instr.fill (fun i => some (i * 1, 1)) z [(0, .int .u8 v0), (1, .int .u8 v1), (2, .int .u8 v2), (3, .int .u8 v3), (4, .int .u8 v4)] = some #[.int .u8 v0, .int .u8 v1, .int .u8 v2, .int .u8 v3, .int .u8 v4] := by
  rcases z with ⟨l⟩
  match l, hz with
  | [a, b, c, d, e], _ => rfl
theorem QKind_any (v : Value) (w : World) : Calls Tryz.prog 163 #[v] w (Ret (.int .i64 1) w) := by
  go_enter Tryz.func163, Tryz.ntmps163
  have H := Hp.start NoS w
  go_wp2_with (first | ((first | ((with_reducible apply wlB); refine hw_box rfl rfl H ?_) | ((with_reducible apply wlA); refine hw_alloc rfl H ?_) | ((with_reducible apply wlS); first | refine hw_store 0 rfl rfl rfl H rfl rfl rfl (by simp) rfl ?_ | refine hw_store 1 rfl rfl rfl H rfl rfl rfl (by simp) rfl ?_ | refine hw_store 2 rfl rfl rfl H rfl rfl rfl (by simp) rfl ?_ | refine hw_store 3 rfl rfl rfl H rfl rfl rfl (by simp) rfl ?_)); clear H; intro w' H; (try simp only [Act.eval, Act.put, Value.cells, segV, seg, segPut, NS, Nat.reduceAdd] at H)) | ((with_reducible apply wlL); (first | apply hw_load 0 rfl rfl H rfl | apply hw_load 1 rfl rfl H rfl | apply hw_load 2 rfl rfl H rfl | apply hw_load 3 rfl rfl H rfl); (focus (simp; done)); (focus (simp only [segV, seg, NS]; rfl))))
  exact bodyPost_ret (res1 rfl (rv_tmp rfl)) rfl ⟨rfl, H.ret⟩
set_option maxRecDepth 100000 in
set_option maxHeartbeats 2000000 in
theorem bytes0 (n from_ round : Nat) (n1 : 1 ≤ n) (n2 : n ≤ 100) (f1 : from_ < n) (r1 : 1 ≤ round) (r2 : round ≤ 1099511627775) {A : Option Addr} {c : Nat} {w : World} (hNN : NewsAt w (.slice A 0 c) []) :
    Calls Tryz.prog 164 #[formV ⟨n, 1, from_, round, 0⟩ (.slice A 0 c)] w (fun e w' => ∃ sz v L, e = .returned (.tuple #[v, .int .i64 0]) ∧ GL tU8 1 v 15 ((query0 n from_ round).map bv) L ∧ Hp NoS w w' sz L []) := by
  have ok : okFrm ⟨n, 1, from_, round, 0⟩ [] := ⟨by simp only; omega, by simp only; omega, by simp only; omega, by simp only; omega, by simp only; omega, by simp only; omega, by simp [withinB, eqS], rfl, by simp⟩
  go_enter Tryz.func164, Tryz.ntmps164
  have H := Hp.start NoS w
  go_wp2_with (first | ((first | ((with_reducible apply wlB); refine hw_box rfl rfl H ?_) | ((with_reducible apply wlA); refine hw_alloc rfl H ?_) | ((with_reducible apply wlS); first | refine hw_store 0 rfl rfl rfl H rfl rfl rfl (by simp) rfl ?_ | refine hw_store 1 rfl rfl rfl H rfl rfl rfl (by simp) rfl ?_ | refine hw_store 2 rfl rfl rfl H rfl rfl rfl (by simp) rfl ?_ | refine hw_store 3 rfl rfl rfl H rfl rfl rfl (by simp) rfl ?_)); clear H; intro w' H; (try simp only [Act.eval, Act.put, Value.cells, segV, seg, segPut, NS, Nat.reduceAdd] at H)) | ((with_reducible apply wlL); (first | apply hw_load 0 rfl rfl H rfl | apply hw_load 1 rfl rfl H rfl | apply hw_load 2 rfl rfl H rfl | apply hw_load 3 rfl rfl H rfl); (focus (simp; done)); (focus (simp only [segV, seg, NS]; rfl))))
  refine (check_ok (f := ⟨n, 1, from_, round, 0⟩) ok (hNN.step H.ret)).mono ?_; rintro e w' ⟨rfl, hb⟩; obtain ⟨s1, hs1, H⟩ := H.call hb; clear hb
  go_wp2_with (first | ((with_reducible show wpList _ _ _ (⟨_, .buildSlice _ 5 _, _, _, _, _⟩ :: _) _ _); refine hw_build (e := tU8) (size := 1) rfl (pv := #[(0, .int .u8 101), (1, .int .u8 115), (2, .int .u8 1), (3, .int .u8 n), (4, .int .u8 from_)]) (by simp [Act.eval, Act.put]) (by decide) (fill5 _ _ _ _ _) H ?_; clear H; intro w' H; (try simp only [Act.eval, Act.put, Value.cells, segV, seg, segPut, NS, Nat.reduceAdd] at H)) | ((first | ((with_reducible apply wlB); refine hw_box rfl rfl H ?_) | ((with_reducible apply wlA); refine hw_alloc rfl H ?_) | ((with_reducible apply wlS); first | refine hw_store 0 rfl rfl rfl H rfl rfl rfl (by simp) rfl ?_ | refine hw_store 1 rfl rfl rfl H rfl rfl rfl (by simp) rfl ?_ | refine hw_store 2 rfl rfl rfl H rfl rfl rfl (by simp) rfl ?_ | refine hw_store 3 rfl rfl rfl H rfl rfl rfl (by simp) rfl ?_)); clear H; intro w' H; (try simp only [Act.eval, Act.put, Value.cells, segV, seg, segPut, NS, Nat.reduceAdd] at H)) | ((with_reducible apply wlL); (first | apply hw_load 0 rfl rfl H rfl | apply hw_load 1 rfl rfl H rfl | apply hw_load 2 rfl rfl H rfl | apply hw_load 3 rfl rfl H rfl); (focus (simp; done)); (focus (simp only [segV, seg, NS]; rfl))))
  have hG : GL tU8 1 (.slice (some ⟨s1, 0, none⟩) 5 5) 5 (List.map bv [101, 115, 1, UInt8.ofNat n, UInt8.ofNat from_]) [(s1, tU8, (List.map bv [101, 115, 1, UInt8.ofNat n, UInt8.ofNat from_] ++ []).toArray)] := .row _ 5 5 _ [] rfl (by decide) (by decide) rfl
  have hn8 : (UInt8.ofNat n).toNat = n := by simp [UInt8.toNat_ofNat']; omega
  have hf8 : (UInt8.ofNat from_).toNat = from_ := by simp [UInt8.toNat_ofNat']; omega
  rw [show (#[.int .u8 101, .int .u8 115, .int .u8 1, .int .u8 (n : Int), .int .u8 (from_ : Int)] : Array Value) = (List.map bv [101, 115, 1, UInt8.ofNat n, UInt8.ofNat from_] ++ []).toArray by simp [bv, hn8, hf8]] at H
  replace H := H.perm (List.Perm.swap _ _ _)
  refine (wput_any hG (H.part (pL1 (X := [_]))) (by decide) 5 (by decide) (round) (by omega)).mono ?_; rintro e w' ⟨s9, v9, L9, rfl, hG9, H1⟩; replace H := (H.join (pL1 (X := _)) H1).2.perm List.perm_append_comm; clear H1; obtain ⟨A9, c9, rfl⟩ := hG9.isSl; simp only [List.cons_append, List.nil_append] at H
  clear hG
  go_wp2_with (first | ((with_reducible apply wlL); apply hw_load 0 rfl rfl H rfl; (focus (simp; done)); (focus (simp only [segV, seg, NS]; rfl))))
  refine (wput_any hG9 (H.part (pL1 (X := L9))) (by decide) 1 (by decide) (0) (by decide)).mono ?_; rintro e w' ⟨s9, v9, L9, rfl, hG9, H1⟩; replace H := (H.join (pL1 (X := _)) H1).2.perm List.perm_append_comm; clear H1; obtain ⟨A9, c9, rfl⟩ := hG9.isSl; simp only [List.cons_append, List.nil_append] at H
  go_wp2_with (first | ((with_reducible apply wlL); apply hw_load 0 rfl rfl H rfl; (focus (simp; done)); (focus (simp only [segV, seg, NS]; rfl))))
  refine wp_loop_rounds 1 ?_
  rw [rounds_succ]
  go_wp2_with (first | ((with_reducible apply wlL); apply hw_load 0 rfl rfl H rfl; (focus (simp; done)); (focus (simp only [segV, seg, NS]; rfl))))
  rw [← List.map_append, ← List.map_append] at hG9
  have hQ : query0 n from_ round = ([101, 115, 1, UInt8.ofNat n, UInt8.ofNat from_] ++ beB 5 round ++ beB 1 0) ++ beB 4 (sumB ([101, 115, 1, UInt8.ofNat n, UInt8.ofNat from_] ++ beB 5 round ++ beB 1 0)) := rfl
  have hlB : ([101, 115, 1, UInt8.ofNat n, UInt8.ofNat from_] ++ beB 5 round ++ beB 1 0).length = 11 := by simp [beB_len]
  have HQ := Lib.hid hQ
  clear hQ
  generalize ([101, 115, 1, UInt8.ofNat n, UInt8.ofNat from_] ++ beB 5 round ++ beB 1 0 : List UInt8) = B at *
  have HL := Lib.hid hlB
  clear hlB hn8 hf8
  obtain ⟨bb, cap, pad, he, hcap, rfl, hl, hp⟩ := hG9.some (by decide)
  cases he
  have hS := Sum_any (c := c9) (l := B) (H.blk _ (.tail _ (.head _))) (by rw [HL.out]; exact seg_pre (n := 11) (by rw [List.length_map, HL.out])) (by rw [HL.out]; decide)
  rw [HL.out] at hS
  refine hS.mono ?_; rintro e w' ⟨rfl, hb⟩; obtain ⟨s8, hs8, H⟩ := H.call hb; clear hb hS hl hp
  go_wp2_with (first | ((with_reducible apply wlL); apply hw_load 0 rfl rfl H rfl; (focus (simp; done)); (focus (simp only [segV, seg, NS]; rfl))))
  refine (wput_any hG9 (H.part (pL1 (X := [_]))) (by decide) 4 (by decide) (sumB B) (by (have := sumB_lt B; omega))).mono ?_; rintro e w' ⟨s9, v9, L9, rfl, hG9, H1⟩; replace H := (H.join (pL1 (X := _)) H1).2.perm List.perm_append_comm; clear H1; obtain ⟨A9, c9, rfl⟩ := hG9.isSl; simp only [List.cons_append, List.nil_append] at H
  go_wp2_with (first | ((with_reducible apply wlL); apply hw_load 0 rfl rfl H rfl; (focus (simp; done)); (focus (simp only [segV, seg, NS]; rfl))))
  exact bodyPost_ret (res2 rfl (rv_tmp rfl) (rv_tmp rfl)) rfl ⟨_, _, _, rfl, by rw [HQ.out, List.map_append]; exact hG9, H.drop1⟩
/-- What a call of Bytes has yielded. -/
def QF (B : List UInt8) : St → Prop
  | [] => True
  | [(u, L1)] => ∃ v, u = .tuple #[v, .int .i64 0] ∧ GL tU8 1 v B.length (B.map bv) L1
  | _ => False
theorem QF.tup {B : List UInt8} {st : St} (hF : QF B st) (h : 1 ≤ st.length) : ∃ v L1, st = [(.tuple #[v, .int .i64 0], L1)] ∧ GL tU8 1 v B.length (B.map bv) L1 := by
  match st, hF with
  | [(u, L1)], hF => obtain ⟨v, rfl, hg⟩ := hF; exact ⟨v, L1, rfl, hg⟩
theorem nth1 {k : Nat} : ∀ q' : Nat, ([k] : List Nat)[q']? = some k → q' = 0
  | 0, _ => rfl
  | _ + 1, h => by simp at h
theorem query0_len (n from_ round : Nat) : (query0 n from_ round).length = 15 := by simp [query0, beB_len]
def topL : St → List Bk
  | [] => []
  | (_, L1) :: _ => L1
set_option maxRecDepth 100000 in
set_option maxHeartbeats 2000000 in
theorem Query0_any (n from_ round : Nat) (n1 : 1 ≤ n) (n2 : n ≤ 100) (f1 : from_ < n) (r1 : 1 ≤ round) (r2 : round ≤ 1099511627775) {A : Option Addr} {c : Nat} {w : World} (hN : NewsAt w (.slice A 0 c) []) :
    Calls Tryz.prog 111 #[.agg #[.int .i64 from_, .int .i64 round, .slice A 0 c], .int .i64 n] w (fun e w' => ∃ sz v L, e = .returned (.tuple #[v, .int .i64 0]) ∧ GL tU8 1 v 15 ((query0 n from_ round).map bv) L ∧ Hp NoS w w' sz L []) := by
  go_enter Tryz.func111, Tryz.ntmps111
  have H := Hp.start NoS w
  go_wp2_with (first | ((first | ((with_reducible apply wlB); refine hw_box rfl rfl H ?_) | ((with_reducible apply wlA); refine hw_alloc rfl H ?_) | ((with_reducible apply wlS); first | refine hw_store 0 rfl rfl rfl H rfl rfl rfl (by simp) rfl ?_ | refine hw_store 1 rfl rfl rfl H rfl rfl rfl (by simp) rfl ?_ | refine hw_store 2 rfl rfl rfl H rfl rfl rfl (by simp) rfl ?_ | refine hw_store 3 rfl rfl rfl H rfl rfl rfl (by simp) rfl ?_)); clear H; intro w' H; (try simp only [Act.eval, Act.put, Value.cells, segV, seg, segPut, NS, Nat.reduceAdd] at H)) | ((with_reducible apply wlL); (first | apply hw_load 0 rfl rfl H rfl | apply hw_load 1 rfl rfl H rfl | apply hw_load 2 rfl rfl H rfl | apply hw_load 3 rfl rfl H rfl); (focus (simp; done)); (focus (simp only [segV, seg, NS]; rfl))))
  (try simp only [Act.eval, Act.put, Value.cells, segV, seg, segPut, NS, Nat.reduceAdd])
  refine region_GS 13 [10] (fun i => if 10 ≤ i then 1 else 0) (QF (query0 n from_ round)) topL H trivial rfl rfl (by kernel_rfl) ?_; clear H; simp only [List.take_succ_cons, List.take_zero, List.drop_succ_cons, List.drop_zero]
  repeat (first | (apply detG_op (by decide); (focus (rintro st hlv w' ⟨hF, s1, hs1, H⟩; go_wp2_with (first | ((with_reducible apply wlL); apply hw_load 0 rfl rfl H rfl; (focus (simp; done)); (focus (simp only [segV, seg, NS]; rfl))) | (go_at_call 163; refine (QKind_any _ _).mono ?_; rintro e w' ⟨rfl, hb⟩; obtain ⟨s2, hs2, H⟩ := H.call hb; clear hb)); refine ⟨rfl, rfl, ?_, hF, _, by omega, H⟩; (first | (simp only [SlotIs, Array.getD_eq_getD_getElem?, List.getElem?_toArray, List.getElem?_cons_succ, List.getElem?_cons_zero, Option.getD_some]; exact rfl) | exact rfl))); (focus (intros; rfl)); (try simp only [Act.put, List.setIfInBounds_toArray, List.set_cons_zero, List.set_cons_succ])))
  apply stgG_op (q := 0) (V := fun st => vq st 0) rfl nth1 (h := ?_) (hp := fun st st' hl ha => vq_adv hl ha) (hr := ?_)
  · rintro st hlv w' ⟨hF, s1, hs1, H⟩
    obtain rfl := List.eq_nil_of_length_eq_zero hlv
    simp only [topL, List.append_nil] at H
    go_wp2_with (first | ((first | ((with_reducible apply wlB); refine hw_box rfl rfl H ?_) | ((with_reducible apply wlA); refine hw_alloc rfl H ?_) | ((with_reducible apply wlS); first | refine hw_store 0 rfl rfl rfl H rfl rfl rfl (by simp) rfl ?_ | refine hw_store 1 rfl rfl rfl H rfl rfl rfl (by simp) rfl ?_ | refine hw_store 2 rfl rfl rfl H rfl rfl rfl (by simp) rfl ?_ | refine hw_store 3 rfl rfl rfl H rfl rfl rfl (by simp) rfl ?_)); clear H; intro w' H; (try simp only [Act.eval, Act.put, Value.cells, segV, seg, segPut, NS, Nat.reduceAdd] at H)) | ((with_reducible apply wlL); (first | apply hw_load 0 rfl rfl H rfl | apply hw_load 1 rfl rfl H rfl | apply hw_load 2 rfl rfl H rfl | apply hw_load 3 rfl rfl H rfl); (focus (simp; done)); (focus (simp only [segV, seg, NS]; rfl))))
    have hbb := bytes0 n from_ round n1 n2 f1 r1 r2 (hN.step H.ret)
    simp only [formV, wd0] at hbb
    refine hbb.mono ?_; clear hbb; rintro e w' ⟨s4, v4, L4, rfl, hG, H1⟩; obtain ⟨hs4, H⟩ := H.fresh H1; clear H1
    go_wp2_with (first | ((first | ((with_reducible apply wlB); refine hw_box rfl rfl H ?_) | ((with_reducible apply wlA); refine hw_alloc rfl H ?_) | ((with_reducible apply wlS); first | refine hw_store 0 rfl rfl rfl H rfl rfl rfl (by simp) rfl ?_ | refine hw_store 1 rfl rfl rfl H rfl rfl rfl (by simp) rfl ?_ | refine hw_store 2 rfl rfl rfl H rfl rfl rfl (by simp) rfl ?_ | refine hw_store 3 rfl rfl rfl H rfl rfl rfl (by simp) rfl ?_)); clear H; intro w' H; (try simp only [Act.eval, Act.put, Value.cells, segV, seg, segPut, NS, Nat.reduceAdd] at H)) | ((with_reducible apply wlL); (first | apply hw_load 0 rfl rfl H rfl | apply hw_load 1 rfl rfl H rfl | apply hw_load 2 rfl rfl H rfl | apply hw_load 3 rfl rfl H rfl); (focus (simp; done)); (focus (simp only [segV, seg, NS]; rfl))))
    exact ⟨rfl, rfl, [(_, L4)], rfl, .inr ⟨_, rfl⟩, rfl, ⟨v4, rfl, by rw [query0_len]; exact hG⟩, _, by omega, H⟩
  (try simp only [Act.put, List.setIfInBounds_toArray, List.set_cons_zero, List.set_cons_succ])
  apply detG_extract (q := 0) (by decide) (by decide) (fun _ => rfl) (hF := fun st w hl ⟨hF, _⟩ => by obtain ⟨v, L1, rfl, _⟩ := hF.tup hl; exact ⟨_, rfl, by simp⟩) (hr := ?_)
  (try simp only [Act.put, List.setIfInBounds_toArray, List.set_cons_zero, List.set_cons_succ])
  apply detG_extract (q := 0) (by decide) (by decide) (fun _ => rfl) (hF := fun st w hl ⟨hF, _⟩ => by obtain ⟨v, L1, rfl, _⟩ := hF.tup hl; exact ⟨_, rfl, by simp⟩) (hr := ?_)
  (try simp only [Act.put, List.setIfInBounds_toArray, List.set_cons_zero, List.set_cons_succ])
  rintro st w' hl ⟨hF, s5, hs5, H⟩
  obtain ⟨v, L1, rfl, hG⟩ := hF.tup (Nat.le_of_eq hl.symm)
  rw [query0_len] at hG
  go_wp2_with (first | ((first | ((with_reducible apply wlB); refine hw_box rfl rfl H ?_) | ((with_reducible apply wlA); refine hw_alloc rfl H ?_) | ((with_reducible apply wlS); first | refine hw_store 0 rfl rfl rfl H rfl rfl rfl (by simp) rfl ?_ | refine hw_store 1 rfl rfl rfl H rfl rfl rfl (by simp) rfl ?_ | refine hw_store 2 rfl rfl rfl H rfl rfl rfl (by simp) rfl ?_ | refine hw_store 3 rfl rfl rfl H rfl rfl rfl (by simp) rfl ?_)); clear H; intro w' H; (try simp only [Act.eval, Act.put, Value.cells, segV, seg, segPut, NS, Nat.reduceAdd] at H)) | ((with_reducible apply wlL); (first | apply hw_load 0 rfl rfl H rfl | apply hw_load 1 rfl rfl H rfl | apply hw_load 2 rfl rfl H rfl | apply hw_load 3 rfl rfl H rfl); (focus (simp; done)); (focus (simp only [segV, seg, NS]; rfl))))
  exact bodyPost_ret (res2 rfl (rv_tmp rfl) (rv_tmp rfl)) rfl ⟨_, _, _, rfl, hG, H.drop1⟩
end Go.Proofs.YtccgpjhgfjfaoaaGreatDoor
