/- Part 1 of the proof: Base, Region, Bits, Hw, Notice, Slc, Grow, Mk, Comp, Disk, Disk2, Clone, Disk3, Disk4, Sub, RangeF, RangeY, Iter1, RegionS. -/
import Derived.Test.YtccgpjhgfjfaoaaGreatDoorProg
import Derived.WalkKit
import Derived.Outline
import Derived.WalkLawsBesides
import Derived.Deep.RegionHeld3
import Derived.Deep.RegionWith
import Derived.BigRegion
import Derived.Deep.QuietTactic
import Derived.BigQuiet
import Derived.Lib.Hide
import Derived.OwnWalk
import Derived.StillTailTactics
import Derived.Deep.DeepFit
import Derived.Deep.Light
import Derived.Deep.DeepCutAuto
import Derived.Deep.CutBlock
import Derived.StillTail
import Derived.Laws.BitsAllLaws
import Derived.Laws.CopyRow
import Derived.Laws.Cells
import Derived.Maps.AppendAt
import Derived.WalkSpells
import Derived.RangeFuncNested
import Derived.RangeFuncBound
import Derived.RangeFuncCalls
import Derived.RangeFuncLeaves
import Derived.Shelf.Abstract
import Derived.OrdersIn
import Derived.OwnWalkIn
import Derived.TacticsInMore
import Derived.LoopNIn
import Derived.LoopIn
set_option linter.unusedSimpArgs false
set_option linter.unusedVariables false
/- Words that all walks of this place use: a call that only makes memory ('Ret'), what stays below a block number. -/
namespace Go.Proofs.YtccgpjhgfjfaoaaGreatDoor
open Go.RowKit

@[simp] theorem lts2 (n : Nat) : n < n + 1 + 1 := by omega
@[simp] theorem lts3 (n : Nat) : n < n + 1 + 1 + 1 := by omega
@[simp] theorem lts4 (n : Nat) : n < n + 1 + 1 + 1 + 1 := by omega
@[simp] theorem lts5 (n : Nat) : n < n + 1 + 1 + 1 + 1 + 1 := by omega
@[simp] theorem lts6 (n : Nat) : n < n + 1 + 1 + 1 + 1 + 1 + 1 := by omega
@[simp] theorem lts7 (n : Nat) : n < n + 1 + 1 + 1 + 1 + 1 + 1 + 1 := by omega
@[simp] theorem lts8 (n : Nat) : n < n + 1 + 1 + 1 + 1 + 1 + 1 + 1 + 1 := by omega
@[simp] theorem lts9 (n : Nat) : n < n + 1 + 1 + 1 + 1 + 1 + 1 + 1 + 1 + 1 := by omega
@[simp] theorem lts10 (n : Nat) : n < n + 1 + 1 + 1 + 1 + 1 + 1 + 1 + 1 + 1 + 1 := by omega
@[simp] theorem lts11 (n : Nat) : n < n + 1 + 1 + 1 + 1 + 1 + 1 + 1 + 1 + 1 + 1 + 1 := by omega

/-- The call returns v, and has at most made memory. -/
def Ret (v : Value) (w : World) : Ending → World → Prop := fun e w' => e = .returned v ∧ Below w.heap.size w w'

theorem Below.call {B : Nat} {w w1 w2 : World} (h : Below B w w1) (hb : Below w1.heap.size w1 w2) (hB : B ≤ w1.heap.size) : Below B w w2 := h.trans (hb.mono hB)

theorem _root_.Go.RowKit.Below.lt {B n : Nat} {w w1 : World} (hb : Below B w w1) (h : n < w.heap.size) : n < w1.heap.size := Nat.lt_of_lt_of_le h hb.size
theorem bcell {W w1 : World} (hb : Below W.heap.size W w1) : (∀ b o, b < W.heap.size → w1.cell? ⟨b, o, none⟩ = W.cell? ⟨b, o, none⟩) ∧ (∀ b o, b < W.heap.size → w1.frozen? ⟨b, o, none⟩ = W.frozen? ⟨b, o, none⟩) :=
  ⟨fun b o h => hb.cell (p := ⟨b, o, none⟩) h, fun b o h => hb.frozen (p := ⟨b, o, none⟩) h⟩

/-- Block b is just these cells, none of them frozen. -/
def Blk (w : World) (b : Nat) (t : TypeId) (cs : Array Value) : Prop := w.heap[b]? = some (.cells cs t (0, 0))
section
variable {w w' : World} {b : Nat} {t : TypeId} {cs : Array Value}
theorem Blk.lt (h : Blk w b t cs) : b < w.heap.size := by
  unfold Blk at h
  rcases Nat.lt_or_ge b w.heap.size with hl | hg
  · exact hl
  · rw [Array.getElem?_eq_none hg] at h; cases h
theorem Blk.cell (h : Blk w b t cs) (i : Nat) : w.cell? ⟨b, i, none⟩ = cs[i]? := by unfold Blk at h; simp [World.cell?, h]
theorem Blk.frozen (h : Blk w b t cs) (i : Nat) : w.frozen? ⟨b, i, none⟩ = false := by unfold Blk at h; simp [World.frozen?, h]
theorem Blk.new (w : World) (t : TypeId) (cs : Array Value) : Blk (w.alloc (.cells cs t)) w.heap.size t cs := by
  unfold Blk World.alloc; simp
theorem Blk.eq {cs' : Array Value} (h : Blk w b t cs) (e : cs = cs') : Blk w b t cs' := e ▸ h
theorem Blk.new' (h : b = w.heap.size) : Blk (w.alloc (.cells cs t)) b t cs := by rw [h]; exact Blk.new w t cs
theorem Blk.drew (h : Blk w b t cs) : Blk w.drew b t cs := h
theorem Blk.drewN (h : Blk w b t cs) (n : Nat) : Blk (w.drewN n) b t cs := h
theorem Blk.alloc (h : Blk w b t cs) (o : Obj) : Blk (w.alloc o) b t cs := (Below.heap_alloc w o b h.lt).trans h
theorem Blk.set (h : Blk w b t cs) (i : Nat) (v : Value) : Blk (w.setCell ⟨b, i, none⟩ v) b t (cs.setIfInBounds i v) := by
  unfold Blk at h ⊢
  simp [World.setCell, Array.getElem?_modify, h]
theorem Blk.far (h : Blk w b t cs) {p : Addr} (hp : b ≠ p.block) (v : Value) : Blk (w.setCell p v) b t cs := (Below.heap_setCell w p v b hp).trans h
theorem Blk.below {B : Nat} (h : Blk w b t cs) (hb : Below B w w') (hl : b < B) : Blk w' b t cs := (hb.block b hl).trans h
theorem Blk.call (h : Blk w b t cs) (hb : Below w.heap.size w w') : Blk w' b t cs := h.below hb h.lt
theorem Blk.grown {row : Option Nat} (h : Blk w b t cs) (hb : w.grownBy w' row) (hne : some b ≠ row) : Blk w' b t cs := (hb.block b h.lt hne).trans h
theorem Blk.ne {b' : Nat} {t' : TypeId} {cs' : Array Value} (h : Blk w b t cs) (h' : Blk w b' t' cs') (hne : t ≠ t') : b ≠ b' := by
  rintro rfl
  unfold Blk at h h'
  rw [h] at h'
  simp only [Option.some.injEq, Obj.cells.injEq] at h'
  exact hne h'.2.1
end
theorem four_at (v : Nat → Value) {k : Nat} (h : k < 4) : (#[v 0, v 1, v 2, v 3] : Array Value)[k]? = some (v k) := by
  match k, h with | 0, _ => rfl | 1, _ => rfl | 2, _ => rfl | 3, _ => rfl
end Go.Proofs.YtccgpjhgfjfaoaaGreatDoor
/- A region that draws its order, whose first n operations yield fixed values in every world that meets I and keep I, and whose other operations wait for all that stands ahead of them: it goes as in the order of the text. -/
namespace Go.Proofs.YtccgpjhgfjfaoaaGreatDoor
open Go

/-- In every world that meets I operation o yields v, and I holds behind it. -/
def DetOp (P : Program) (ops : Array Oper) (I : World → Prop) (o : Oper) (v : Value) (a : Act) : Prop :=
  (Region.wanted o (yielded ops a.tmps) = true ∧ ∀ w, I w → o.wp P a w (fun a' w' => a' = a.put o.dst v ∧ I w') (fun _ _ _ => False)) ∨
  (Region.wanted o (yielded ops a.tmps) = false ∧ v = undef)

def wpDet (P : Program) (ops : Array Oper) (I : World → Prop) (fin : Act → Prop) : List Oper → Act → Prop
  | [], a => fin a
  | o :: rest, a => ∃ v, DetOp P ops I o v a ∧ wpDet P ops I fin rest (a.put o.dst v)

def dstOf (ops : Array Oper) (i : Nat) : Option Tmp := (ops[i]?).bind (·.dst)

/-- The check, by reckoning: of the first n operations. -/
def detB (ops : Array Oper) (n : Nat) : Bool :=
  Region.noSelect ops && decide (n ≤ ops.size) &&
  (List.range n).all (fun i => match ops[i]? with
    | none => false
    | some o => o.after.all (fun e => !Region.binds .any e || decide (e.on < i)) &&
      (List.range ops.size).all (fun j => match dstOf ops j with
        | none => true
        | some d => (!(o.looksAt ops).contains d || (decide (j < i) && Region.waitsFor .any ops i j)) && (j == i || decide (n ≤ j) || dstOf ops i != some d))) &&
  (decide (n = ops.size) || (Region.sinkB .any ops n && Region.chainB .any ops n)) &&
  Region.seqB .any ops (ops.size - n) n ((Array.range ops.size).map fun i => decide (i < n))

section
variable {P : Program} {ops : Array Oper} {Q : Exit → Act → World → Prop} {I : World → Prop} {n : Nat}

def stg (ops : Array Oper) (vs : Nat → Value) (a : Act) : Nat → Act
  | 0 => a
  | i + 1 => (stg ops vs a i).put (dstOf ops i) (vs i)

theorem put_size (a : Act) (d : Option Tmp) (v : Value) : (a.put d v).tmps.size = a.tmps.size := by cases d <;> simp [Act.put]
theorem put_defers (a : Act) (d : Option Tmp) (v : Value) : (a.put d v).defers = a.defers := by cases d <;> rfl
theorem put_get_ne (a : Act) {d : Option Tmp} (v : Value) {t : Tmp} (h : d ≠ some t) : (a.put d v).tmps[t]? = a.tmps[t]? := by
  cases d with
  | none => rfl
  | some e =>
    have : e ≠ t := fun e' => h (e' ▸ rfl)
    simp [Act.put, Array.getElem?_setIfInBounds_ne this]
theorem put_get_eq (a : Act) (v : Value) (t : Tmp) : (a.put (some t) v).tmps[t]? = if t < a.tmps.size then some v else none := by
  simp [Act.put, Array.getElem?_setIfInBounds]
theorem stg_size (vs : Nat → Value) (a : Act) : ∀ i, (stg ops vs a i).tmps.size = a.tmps.size
  | 0 => rfl
  | i + 1 => (put_size _ _ _).trans (stg_size vs a i)
theorem stg_defers (vs : Nat → Value) (a : Act) : ∀ i, (stg ops vs a i).defers = a.defers
  | 0 => rfl
  | i + 1 => (put_defers _ _ _).trans (stg_defers vs a i)
theorem stg_ne (vs : Nat → Value) (a : Act) (t : Tmp) : ∀ i, (∀ j, j < i → dstOf ops j ≠ some t) → (stg ops vs a i).tmps[t]? = a.tmps[t]?
  | 0, _ => rfl
  | i + 1, h => (put_get_ne _ _ (h i (by omega))).trans (stg_ne vs a t i fun j hj => h j (by omega))
theorem stg_eq (vs : Nat → Value) (a : Act) (t : Tmp) (j : Nat) (hd : dstOf ops j = some t) : ∀ i, j < i → (∀ k, k < i → k ≠ j → dstOf ops k ≠ some t) →
    (stg ops vs a i).tmps[t]? = if t < a.tmps.size then some (vs j) else none
  | i + 1, hj, hu => by
    by_cases e : i = j
    · subst e
      show ((stg ops vs a i).put (dstOf ops i) (vs i)).tmps[t]? = _
      rw [hd, put_get_eq, stg_size]
    · show ((stg ops vs a i).put (dstOf ops i) (vs i)).tmps[t]? = _
      rw [put_get_ne _ _ (hu i (by omega) e)]
      exact stg_eq vs a t j hd i (by omega) fun k hk => hu k (by omega)

theorem put_same {a b : Act} {d : Option Tmp} {u v : Value} (hs : a.tmps.size = b.tmps.size) (h : a.put d u = a.put d v) : b.put d u = b.put d v := by
  cases d with
  | none => rfl
  | some t =>
    by_cases ht : t < a.tmps.size
    · have h1 : (a.put (some t) u).tmps[t]? = (a.put (some t) v).tmps[t]? := by rw [h]
      rw [put_get_eq, put_get_eq, if_pos ht, if_pos ht] at h1
      rw [Option.some.inj h1]
    · have hb : ¬ t < b.tmps.size := by rw [← hs]; exact ht
      simp [Act.put, Array.setIfInBounds_eq_of_size_le (Nat.le_of_not_lt hb)]

/-- What an operation comes to hangs on its operands alone. -/
theorem upon_moved {o : Oper} {a b : Act} {v : Value} (hs : a.tmps.size = b.tmps.size) (hd : a.defers = b.defers) (r : Result Next)
    (h : o.upon P a (fun a' w' => a' = a.put o.dst v ∧ I w') (fun _ _ _ => False) r) : o.upon P b (fun b' w' => b' = b.put o.dst v ∧ I w') Q r := by
  cases r with
  | ok x w' =>
    cases x <;> simp only [Oper.upon] at h ⊢
    case value u => exact ⟨put_same hs h.1, h.2⟩
    case skip => exact ⟨put_same hs h.1, h.2⟩
    case defer d =>
      have h1 := congrArg Act.defers h.1
      rw [put_defers, put_defers] at h1
      exact absurd (congrArg List.length h1) (by simp)
    case enter f args =>
      refine Calls.mono h fun e w'' he => ?_
      cases e with
      | returned u => exact ⟨put_same hs he.1, he.2⟩
      | panicked c => exact he.elim
      | outgrown => obtain ⟨_, _, h⟩ := he; exact h.elim
    case row row args => exact Rows.mono h fun u w'' he => ⟨put_same hs he.1, he.2⟩
  | halt x w' =>
    cases x <;> simp only [Oper.upon] at h ⊢

theorem DetOp.moved {o : Oper} {v : Value} {a b : Act} {i : Nat} (ho : ops[i]? = some o) (hsel : ∀ cs b, o.op ≠ .select cs b) (hs : a.tmps.size = b.tmps.size) (hdf : a.defers = b.defers)
    (hag : ∀ t, t ∈ o.looksAt ops → a.tmps[t]? = b.tmps[t]?) (h : DetOp P ops I o v a) {w : World} (hI : I w) {K : Act → World → Prop}
    (hK : ∀ w', I w' → K (b.put o.dst v) w') : wpOp P ops Q i K b w := by
  have hex : execOp b.eval o = execOp a.eval o := execOp_congr o hsel fun x hx => by
    cases x with
    | tmp t =>
      have ht : t ∈ o.looksAt ops := List.mem_append_left _ (List.mem_filterMap.2 ⟨.tmp t, by simpa using hx, rfl⟩)
      have := hag t ht
      simp only [Act.eval, Array.getD_eq_getD_getElem?, this]
    | _ => rfl
  have hwt : Region.wanted o (yielded ops b.tmps) = Region.wanted o (yielded ops a.tmps) := by
    unfold Region.wanted
    cases hg : o.guard with
    | none => rfl
    | some gw =>
      obtain ⟨g, want⟩ := gw
      have hy : yielded ops b.tmps g = yielded ops a.tmps g := by
        unfold yielded
        cases hd : (ops[g]?).bind (·.dst) with
        | none => rfl
        | some d =>
          have ht : d ∈ o.looksAt ops := List.mem_append_right _ (by simp [hg, hd])
          simp only [Option.bind_some, hag d ht]
      simp only [hy]
  unfold wpOp
  simp only [ho, hwt]
  rcases h with ⟨hw, hrun⟩ | ⟨hw, rfl⟩
  · rw [if_pos hw]
    refine .inl ?_
    have h1 := hrun w hI
    unfold Oper.wp at h1 ⊢
    rw [hex]
    have h2 := upon_moved (P := P) (Q := Q) (I := I) hs hdf _ h1
    have h3 : o.wp P b w (fun b' w' => b' = b.put o.dst v ∧ I w') Q := by unfold Oper.wp; rw [hex]; exact h2
    have h4 := Oper.wp_mono (K' := K) (fun b' w' hb => by rw [hb.1]; exact hK w' hb.2) h3
    unfold Oper.wp at h4
    rw [hex] at h4
    exact h4
  · rw [hw]
    simp only [Bool.false_eq_true, if_false]
    exact hK w hI

structure DetInv (ops : Array Oper) (n : Nat) (vs : Nat → Value) (a : Act) (listed : Array Bool) (b : Act) : Prop where
  size : b.tmps.size = a.tmps.size
  defers : b.defers = a.defers
  done : ∀ j t, j < n → dstOf ops j = some t → listed.getD j false = true → b.tmps[t]? = (stg ops vs a n).tmps[t]?
  other : ∀ t, (∀ j, j < n → dstOf ops j ≠ some t) → b.tmps[t]? = a.tmps[t]?

structure DetSpec (ops : Array Oper) (n : Nat) : Prop where
  sel : Region.noSelect ops = true
  le : n ≤ ops.size
  edges : ∀ i o, i < n → ops[i]? = some o → ∀ e ∈ o.after, Region.binds .any e = true → e.on < i
  looks : ∀ i o j d, i < n → ops[i]? = some o → dstOf ops j = some d → d ∈ o.looksAt ops → j < i ∧ Region.waitsFor .any ops i j = true
  uniq : ∀ i j d, i < n → j < n → j ≠ i → dstOf ops j = some d → dstOf ops i ≠ some d
  tail : n = ops.size ∨ (Region.sinkB .any ops n = true ∧ Region.chainB .any ops n = true)
  seq : Region.seqB .any ops (ops.size - n) n ((Array.range ops.size).map fun i => decide (i < n)) = true

theorem DetSpec.of (h : detB ops n = true) : DetSpec ops n := by
  simp only [detB, Bool.and_eq_true, decide_eq_true_eq, Bool.or_eq_true, List.all_eq_true, List.mem_range] at h
  obtain ⟨⟨⟨⟨h1, h2⟩, h3⟩, h4⟩, h5⟩ := h
  refine ⟨h1, h2, fun i o hi ho e he hb => ?_, fun i o j d hi ho hd hl => ?_, fun i j d hi hj hne hd => ?_, h4, h5⟩
  · have := h3 i hi
    simp only [ho, Bool.and_eq_true] at this
    have h6 := Array.all_eq_true'.1 this.1 e he
    simpa [hb] using h6
  · have := h3 i hi
    simp only [ho, Bool.and_eq_true, List.all_eq_true, List.mem_range] at this
    have hj : j < ops.size := by
      rcases Nat.lt_or_ge j ops.size with h | h
      · exact h
      · simp [dstOf, Array.getElem?_eq_none h] at hd
    have h6 := this.2 j hj
    simp only [hd, Bool.and_eq_true, Bool.or_eq_true] at h6
    rcases h6.1 with h7 | h7
    · simp only [Bool.not_eq_true', List.contains_eq_mem, decide_eq_false_iff_not] at h7
      exact absurd hl h7
    · simpa using h7
  · have ho : ∃ o, ops[i]? = some o := ⟨ops[i]'(by omega), by simp [show i < ops.size by omega]⟩
    obtain ⟨o, ho⟩ := ho
    have := h3 i hi
    simp only [ho, Bool.and_eq_true, List.all_eq_true, List.mem_range] at this
    have h6 := this.2 j (by omega)
    simp only [hd, Bool.and_eq_true, Bool.or_eq_true] at h6
    rcases h6.2 with (h7 | h7) | h7
    · exact absurd (by simpa using h7) hne
    · simp at h7; omega
    · simpa using h7

theorem any_det (S : DetSpec ops n) (vs : Nat → Value) (a : Act) (hdet : ∀ i o, i < n → ops[i]? = some o → DetOp P ops I o (vs i) (stg ops vs a i))
    (hfin : ∀ w, I w → wpList P ops Q (ops.toList.drop n) (stg ops vs a n) w) :
    ∀ (m : Nat) (U : List Nat) (listed : Array Bool) (b : Act) (w : World), U.length = m → U.Nodup → (∀ i, i ∈ U ↔ i < n ∧ listed.getD i true = false) →
      HeadInv .any ops n listed → DetInv ops n vs a listed b → I w → wpAny P .any ops Q (m + (ops.size - n)) listed b w := by
  intro m
  induction m with
  | zero =>
    intro U listed b w hl hnd hU hinv hb hI
    have hnil : U = [] := List.eq_nil_of_length_eq_zero hl
    subst hnil
    have hdone : ∀ i, i < n → listed.getD i true = true := fun i hi => by
      cases h : listed.getD i true with
      | true => rfl
      | false => exact absurd ((hU i).2 ⟨hi, h⟩) (by simp)
    have hlist : listed = (Array.range ops.size).map fun i => decide (i < n) := by
      apply Array.ext
      · simp [hinv.size]
      · intro i h1 h2
        have hi : i < ops.size := by rw [← hinv.size]; exact h1
        by_cases hin : i < n
        · have := hdone i hin
          rw [Array.getD_eq_getD_getElem?, Array.getElem?_eq_getElem h1] at this
          simpa [hin] using this
        · have := hinv.tail i (by omega) hi
          rw [Array.getD_eq_getD_getElem?, Array.getElem?_eq_getElem h1] at this
          simpa [hin] using this
    have hbe : b = stg ops vs a n := by
      have ht : b.tmps = (stg ops vs a n).tmps := by
        apply Array.ext_getElem?
        intro t
        by_cases hx : ∃ j, j < n ∧ dstOf ops j = some t
        · obtain ⟨j, hj, hd⟩ := hx
          refine hb.done j t hj hd ?_
          have hjs : j < listed.size := by rw [hinv.size]; have := S.le; omega
          have := hdone j hj
          rw [Array.getD_eq_getD_getElem?, Array.getElem?_eq_getElem hjs] at this ⊢
          simpa using this
        · have hx' : ∀ j, j < n → dstOf ops j ≠ some t := fun j hj hd => hx ⟨j, hj, hd⟩
          rw [hb.other t hx', stg_ne vs a t n hx']
      have hd : b.defers = (stg ops vs a n).defers := by rw [hb.defers, stg_defers]
      cases b; cases hc : stg ops vs a n; rw [hc] at ht hd; simp only at ht hd; rw [ht, hd]
    subst hlist hbe
    have hsz : (ops.toList.drop n).length = ops.size - n := by simp
    have := wpAny_of_seq (P := P) (md := .any) (ops := ops) (Q' := Q) (ops.toList.drop n) n _ (stg ops vs a n) w (fun j => by simp [List.getElem?_drop]) (by rw [hsz]; exact S.seq) (hfin w hI)
    rw [hsz] at this
    rw [Nat.zero_add]
    exact this
  | succ m ih =>
    intro U listed b w hl hnd hU hinv hb hI
    have hex : ∃ i, i < n ∧ listed.getD i true = false := by
      cases U with
      | nil => simp at hl
      | cons i U => exact ⟨i, (hU i).1 (by simp)⟩
    have hfloat : ∀ t, t ∈ Region.ready .any ops listed → t < n := fun t ht => by
      rcases Nat.lt_or_ge t n with h | h
      · exact h
      · rcases S.tail with e | ⟨hs, hc⟩
        · obtain ⟨_, o, ho, _⟩ := mem_ready.1 ht
          have := (Array.getElem?_eq_some_iff.1 ho).1
          omega
        · obtain ⟨i, hi, hun⟩ := hex
          rcases Nat.lt_or_ge n ops.size with hn | hn
          · exact absurd ht (tail_waits hs hc hn hinv _ i rfl hi hun t h)
          · obtain ⟨_, o, ho, _⟩ := mem_ready.1 ht
            have := (Array.getElem?_eq_some_iff.1 ho).1
            omega
    have hne : Region.ready .any ops listed ≠ [] := by
      have key : ∀ i, i < n → listed.getD i true = false → ∃ j, j ∈ Region.ready .any ops listed := by
        intro i
        induction i using Nat.strongRecOn with
        | _ i ihi =>
          intro hi hun
          have ho : ops[i]? = some (ops[i]'(by have := S.le; omega)) := by simp [show i < ops.size by have := S.le; omega]
          by_cases hall : ∀ e ∈ (ops[i]'(by have := S.le; omega)).after, Region.binds .any e = true → listed.getD e.on false = true
          · exact ⟨i, mem_ready.2 ⟨hun, _, ho, hall⟩⟩
          · have : ∃ e, e ∈ (ops[i]'(by have := S.le; omega)).after ∧ Region.binds .any e = true ∧ ¬ listed.getD e.on false = true := by
              apply Classical.byContradiction
              intro hc
              exact hall fun e he hb => Classical.byContradiction fun h => hc ⟨e, he, hb, h⟩
            obtain ⟨e, he, hbd, hl⟩ := this
            have hlt := S.edges i _ hi ho e he hbd
            refine ihi e.on hlt (by omega) ?_
            have hsz : e.on < listed.size := by rw [hinv.size]; have := S.le; omega
            rw [Array.getD_eq_getD_getElem?, Array.getElem?_eq_getElem hsz] at hl ⊢
            simpa using hl
      obtain ⟨i, hi, hun⟩ := hex
      obtain ⟨j, hj⟩ := key i hi hun
      intro h; rw [h] at hj; cases hj
    rw [show m + 1 + (ops.size - n) = (m + (ops.size - n)) + 1 by omega]
    refine ⟨fun h => absurd h hne, fun i hi => ?_⟩
    have hin := hfloat i hi
    obtain ⟨hun, o, ho, hall⟩ := mem_ready.1 hi
    have hdst : dstOf ops i = o.dst := by simp [dstOf, ho]
    have hag : ∀ t, t ∈ o.looksAt ops → (stg ops vs a i).tmps[t]? = b.tmps[t]? := fun t ht => by
      by_cases hx : ∃ k, k < n ∧ dstOf ops k = some t
      · obtain ⟨k, hk, hd⟩ := hx
        obtain ⟨hki, hw⟩ := S.looks i o k t hin ho hd ht
        obtain ⟨oj, hoj, e, he, hbd, heo⟩ := Region.waitsFor_spec hw
        rw [ho] at hoj
        obtain rfl := Option.some.inj hoj
        have hlk : listed.getD k false = true := heo ▸ hall e he hbd
        rw [hb.done k t hk hd hlk, stg_eq vs a t k hd i hki (fun j hj hne => S.uniq j k t (by omega) hk (Ne.symm hne) hd),
          stg_eq vs a t k hd n hk (fun j hj hne => S.uniq j k t hj hk (Ne.symm hne) hd)]
      · have hx' : ∀ j, j < n → dstOf ops j ≠ some t := fun j hj hd => hx ⟨j, hj, hd⟩
        rw [hb.other t hx', stg_ne vs a t i fun j hj => hx' j (by omega)]
    refine DetOp.moved ho (Region.noSelect_spec S.sel i o · · ho) ((stg_size vs a i).trans hb.size.symm) ((stg_defers vs a i).trans hb.defers.symm) hag (hdet i o hin ho) hI fun w' hI' => ?_
    refine ih (U.erase i) _ _ _ (by rw [List.length_erase_of_mem ((hU i).2 ⟨hin, hun⟩), hl]; rfl) (hnd.erase i) (fun j => ?_) (hinv.set hi hin) ⟨?_, ?_, ?_, ?_⟩ hI'
    · rw [hnd.mem_erase_iff, hU]
      by_cases e : j = i
      · subst e
        have hsz : j < listed.size := by rw [hinv.size]; have := S.le; omega
        simp [Array.getElem?_setIfInBounds, hsz]
      · simp [Array.getElem?_setIfInBounds_ne (Ne.symm e), e]
    · rw [put_size, hb.size]
    · rw [put_defers, hb.defers]
    · intro j t hj hd hlj
      by_cases e : j = i
      · subst e
        rw [hdst] at hd
        rw [hd, put_get_eq, hb.size, stg_eq vs a t j (hdst.trans hd) n hj (fun k hk hne => S.uniq k j t hk hj (Ne.symm hne) (hdst.trans hd))]
      · have hne : o.dst ≠ some t := by rw [← hdst]; exact S.uniq i j t hin hj e hd
        rw [put_get_ne _ _ hne]
        refine hb.done j t hj hd ?_
        rw [Array.getD_eq_getD_getElem?, Array.getElem?_setIfInBounds_ne (Ne.symm e), ← Array.getD_eq_getD_getElem?] at hlj
        exact hlj
    · intro t ht
      have hne : o.dst ≠ some t := by rw [← hdst]; exact ht i hin
      rw [put_get_ne _ _ hne]
      exact hb.other t ht

theorem wpDet_values {fin : Act → Prop} : ∀ (l : List Oper) (k : Nat) (a : Act), (∀ j, j < l.length → l[j]? = ops[k + j]?) → wpDet P ops I fin l a →
    ∃ vs : Nat → Value, ∀ (c : Nat → Act), c 0 = a → (∀ j, j < l.length → c (j + 1) = (c j).put (dstOf ops (k + j)) (vs j)) →
      (∀ j o, j < l.length → ops[k + j]? = some o → DetOp P ops I o (vs j) (c j)) ∧ fin (c l.length)
  | [], k, a, _, h => ⟨fun _ => undef, fun c hc _ => ⟨fun j o hj => absurd hj (by simp), by rw [show c ([] : List Oper).length = a from hc]; exact h⟩⟩
  | o :: l, k, a, hl, h => by
    obtain ⟨v, hv, hr⟩ := h
    obtain ⟨vs, hvs⟩ := wpDet_values l (k + 1) _ (fun j hj => by have := hl (j + 1) (by simp; omega); simpa [Nat.add_assoc, Nat.add_comm 1 j] using this) hr
    have h0 : ops[k]? = some o := by simpa using (hl 0 (by simp)).symm
    refine ⟨fun j => match j with | 0 => v | j + 1 => vs j, fun c hc hs => ?_⟩
    have h1 := hvs (fun j => c (j + 1)) (by rw [hs 0 (by simp), hc]; simp [dstOf, h0]) (fun j hj => by
      have := hs (j + 1) (by simp; omega)
      rw [this]
      simp only [Nat.add_assoc, Nat.add_comm 1 j])
    refine ⟨fun j o' hj ho' => ?_, ?_⟩
    · cases j with
      | zero =>
        have : o' = o := by have h2 := ho'; simp only [Nat.add_zero, h0] at h2; exact (Option.some.inj h2).symm
        rw [hc, this]
        exact hv
      | succ j =>
        exact h1.1 j o' (by simp at hj; omega) (by rw [← ho']; congr 1; omega)
    · exact h1.2

/-- **A drawn region by the order of its text.** -/
theorem region_det {id : Nat} {a : Act} {w : World} {l : List Oper} (n : Nat) (I : World → Prop) (hm : P.follows .mixedOrders = true) (hB : detB l.toArray n = true) (hI : I w.drew)
    (h : wpDet P l.toArray I (fun a' => ∀ w', I w' → wpList P l.toArray Q (l.drop n) a' w') (l.take n) a) : (Code.region id l.toArray true).wp P Q a w := by
  have S := DetSpec.of hB
  have hn : n ≤ l.length := by simpa using S.le
  have hlen : (l.take n).length = n := by simp; omega
  obtain ⟨vs, hvs⟩ := wpDet_values (ops := l.toArray) (l.take n) 0 a (fun j hj => by rw [hlen] at hj; simp [hj]) h
  obtain ⟨h1, h2⟩ := hvs (stg l.toArray vs a) rfl (fun j _ => by simp [stg])
  rw [hlen] at h1 h2
  refine wp_region_any hm ?_
  have inv0 : HeadInv .any l.toArray n (Array.replicate l.toArray.size false) :=
    ⟨by simp, fun j oj _ hl => (by rw [getD_replicate_false] at hl; cases hl), fun t _ ht => getD_in (by simpa using ht) (getD_replicate_false _ _)⟩
  have := any_det (P := P) (Q := Q) (I := I) S vs a (fun i o hi ho => h1 i o hi (by simpa using ho)) (by simpa using h2) n (List.range n) (Array.replicate l.toArray.size false) a w.drew
    (by simp) List.nodup_range (fun i => by
      simp only [List.mem_range]
      constructor
      · intro hi; exact ⟨hi, getD_in (by simp; omega) (getD_replicate_false _ _)⟩
      · exact fun h => h.1) inv0 ⟨rfl, rfl, fun j t _ _ hl => (by rw [getD_replicate_false] at hl; cases hl), fun _ _ => rfl⟩ hI
  have hs := S.le
  rw [show n + (l.toArray.size - n) = l.toArray.size by omega] at this
  exact this
end
end Go.Proofs.YtccgpjhgfjfaoaaGreatDoor
/- Sets of ids as numbers, word by word: pure. -/
namespace Go.Proofs.YtccgpjhgfjfaoaaGreatDoor
open Go

/-- word i of a set -/
def wd (s i : Nat) : Int := ((s >>> (32 * i) % 4294967296 : Nat) : Int)
theorem wd_nonneg (s i : Nat) : 0 ≤ wd s i := by unfold wd; omega
theorem wd_lt (s i : Nat) : wd s i < 4294967296 := by unfold wd; omega
abbrev setV (s : Nat) : Value := .agg #[.int .u32 (wd s 0), .int .u32 (wd s 1), .int .u32 (wd s 2), .int .u32 (wd s 3)]
def lessN (a b : Nat) : Nat := a ^^^ (a &&& b)

theorem wd_and (a b i : Nat) : bits .and .u32 (wd a i) (wd b i) = wd (a &&& b) i := by
  unfold wd
  rw [u32_and_nat _ _ (by omega) (by omega), Nat.shiftRight_and_distrib]
  congr 1
  exact (Nat.and_mod_two_pow (n := 32)).symm
theorem wd_or (a b i : Nat) : bits .or .u32 (wd a i) (wd b i) = wd (a ||| b) i := by
  unfold wd
  rw [u32_or_nat _ _ (by omega) (by omega), Nat.shiftRight_or_distrib]
  congr 1
  exact (Nat.or_mod_two_pow (n := 32)).symm
theorem wd_less (a b i : Nat) : bits .andNot .u32 (wd a i) (wd b i) = wd (lessN a b) i := by
  unfold wd lessN
  rw [u32_andNot_nat _ _ (by omega) (by omega), Nat.shiftRight_xor_distrib, Nat.shiftRight_and_distrib]
  congr 1
  apply Nat.eq_of_testBit_eq
  intro j
  have h : 4294967295 - b >>> (32 * i) % 4294967296 = 2 ^ 32 - (b >>> (32 * i) % 4294967296 + 1) := by omega
  rw [h]
  have h2 : (4294967296 : Nat) = 2 ^ 32 := rfl
  rw [Nat.testBit_and, Nat.testBit_two_pow_sub_succ (by omega), h2]
  simp only [Nat.testBit_mod_two_pow, Nat.testBit_xor, Nat.testBit_and]
  by_cases hj : j < 32 <;> simp [hj]
  generalize a.testBit (32 * i + j) = x
  generalize b.testBit (32 * i + j) = y
  cases x <;> cases y <;> rfl
theorem wd_eq_iff {a b : Nat} (ha : a < 2 ^ 128) (hb : b < 2 ^ 128) : (wd a 0 = wd b 0 ∧ wd a 1 = wd b 1 ∧ wd a 2 = wd b 2 ∧ wd a 3 = wd b 3) ↔ a = b := by
  unfold wd
  simp only [Nat.shiftRight_eq_div_pow]
  constructor
  · rintro ⟨h0, h1, h2, h3⟩
    norm_cast at h0 h1 h2 h3
    omega
  · rintro rfl; exact ⟨rfl, rfl, rfl, rfl⟩
theorem wd_of (w0 w1 w2 w3 : Nat) (h0 : w0 < 4294967296) (h1 : w1 < 4294967296) (h2 : w2 < 4294967296) (h3 : w3 < 4294967296) :
    ∃ s, s < 2 ^ 128 ∧ wd s 0 = w0 ∧ wd s 1 = w1 ∧ wd s 2 = w2 ∧ wd s 3 = w3 := by
  refine ⟨w0 + 2 ^ 32 * w1 + 2 ^ 64 * w2 + 2 ^ 96 * w3, ?_, ?_, ?_, ?_, ?_⟩ <;> (try unfold wd) <;> (try simp only [Nat.shiftRight_eq_div_pow]) <;> (try norm_cast) <;> omega
end Go.Proofs.YtccgpjhgfjfaoaaGreatDoor
/- What is known of the memory as one list of blocks; rules for the operations that make, read and write blocks. -/
namespace Go.Proofs.YtccgpjhgfjfaoaaGreatDoor
open Go.RowKit

/-- What reduces a list that is written out. -/
theorem NS : (∀ {α : Type} {h : Decidable True} (t e : α), @ite α True h t e = t) ∧ (∀ {α : Type} {h : Decidable False} (t e : α), @ite α False h t e = e) ∧ ((false = true) = False)
    ∧ (∀ {α : Type} (xs : Array α) (i : Nat) (d : α), xs.getD i d = xs[i]?.getD d) ∧ (∀ {α : Type} (xs : List α) (i : Nat), xs.toArray[i]? = xs[i]?) ∧ (∀ {α : Type} (a : α) (l : List α), (a :: l)[0]? = some a) ∧ (∀ {α : Type} (a : α) (l : List α) (i : Nat), (a :: l)[i + 1]? = l[i]?)
    ∧ (∀ {α : Type} (a d : α), (some a).getD d = a) ∧ (∀ {α : Type} (l : List α) (i : Nat) (a : α), l.toArray.setIfInBounds i a = (l.set i a).toArray) ∧ (∀ {α : Type} (a b : α) (l : List α), (a :: l).set 0 b = b :: l) ∧ (∀ {α : Type} (a b : α) (l : List α) (n : Nat), (a :: l).set (n + 1) b = a :: l.set n b)
    ∧ (∀ {α : Type} (l : List α), l.drop 0 = l) ∧ (∀ {α : Type} (a : α) (l : List α) (n : Nat), (a :: l).drop (n + 1) = l.drop n) ∧ (∀ {α : Type} (l : List α), l.take 0 = []) ∧ (∀ {α : Type} (a : α) (l : List α) (n : Nat), (a :: l).take (n + 1) = a :: l.take n)
    ∧ (∀ {α : Type} (a d : α) (l : List α), (a :: l).headD d = a) ∧ (∀ {α : Type} (a : α) (l m : List α), (a :: l) ++ m = a :: (l ++ m)) ∧ (∀ {α : Type} (l : List α), [] ++ l = l) ∧ (∀ {α : Type} (a : α) (l : List α), (a :: l).length = l.length + 1) ∧ (∀ {α : Type}, ([] : List α).length = 0) ∧ (∀ n : Nat, 0 + n = n) := by
  refine ⟨?_, ?_, ?_, ?_, ?_, ?_, ?_, ?_, ?_, ?_, ?_, ?_, ?_, ?_, ?_, ?_, ?_, ?_, ?_, ?_, ?_⟩ <;> intros <;> simp
section
variable {P : Program} {ops : Array Oper} {Q : Exit → Act → World → Prop} {rest : List Oper} {a : Act} {w : World} {d : Option Tmp} {ty T : TypeId} {pos : String} {after : Array Edge} {g : Option (Nat × Bool)} {x y : Operand}
theorem wlB (h : wpList P ops Q (⟨d, .box T x, ty, pos, after, g⟩ :: rest) a w) : wpList P ops Q (⟨d, .box T x, ty, pos, after, g⟩ :: rest) a w := h
theorem wlA (h : wpList P ops Q (⟨d, .alloc T, ty, pos, after, g⟩ :: rest) a w) : wpList P ops Q (⟨d, .alloc T, ty, pos, after, g⟩ :: rest) a w := h
theorem wlL (h : wpList P ops Q (⟨d, .load T x, ty, pos, after, g⟩ :: rest) a w) : wpList P ops Q (⟨d, .load T x, ty, pos, after, g⟩ :: rest) a w := h
theorem wlS (h : wpList P ops Q (⟨d, .store T x y, ty, pos, after, g⟩ :: rest) a w) : wpList P ops Q (⟨d, .store T x y, ty, pos, after, g⟩ :: rest) a w := h
end
/-- From w to w' nothing that was there has turned, but what S names. -/
structure Keeps (S : Nat → Prop) (w w' : World) : Prop where
  os : w'.os = w.os
  tape : w'.tape = w.tape
  output : w'.output = w.output
  size : w.heap.size ≤ w'.heap.size
  block : ∀ k, k < w.heap.size → ¬ S k → w'.heap[k]? = w.heap[k]?

def NoS : Nat → Prop := fun _ => False
theorem Keeps.refl (S : Nat → Prop) (w : World) : Keeps S w w := ⟨rfl, rfl, rfl, Nat.le_refl _, fun _ _ _ => rfl⟩
theorem Keeps.below {w w' : World} (h : Keeps NoS w w') : Below w.heap.size w w' := ⟨h.os, h.tape, h.output, h.size, fun k hk => h.block k hk id⟩
theorem Keeps.of_below {w w' : World} (S : Nat → Prop) (h : Below w.heap.size w w') : Keeps S w w' := ⟨h.os, h.tape, h.output, h.size, fun k hk _ => h.block k hk⟩
theorem Keeps.trans {S : Nat → Prop} {a b c : World} (h : Keeps S a b) (k : Keeps S b c) : Keeps S a c :=
  ⟨k.os.trans h.os, k.tape.trans h.tape, k.output.trans h.output, Nat.le_trans h.size k.size, fun i hi hs => (k.block i (Nat.lt_of_lt_of_le hi h.size) hs).trans (h.block i hi hs)⟩
/-- A later step may turn what S' names beyond S, if that was made since. -/
theorem Keeps.step {S S' : Nat → Prop} {a b c : World} (h : Keeps S a b) (k : Keeps S' b c) (hS : ∀ i, S' i → S i ∨ a.heap.size ≤ i) : Keeps S a c :=
  ⟨k.os.trans h.os, k.tape.trans h.tape, k.output.trans h.output, Nat.le_trans h.size k.size, fun i hi hs =>
    (k.block i (Nat.lt_of_lt_of_le hi h.size) fun h' => (hS i h').elim hs fun h2 => by omega).trans (h.block i hi hs)⟩
theorem Keeps.blk {S : Nat → Prop} {w w' : World} {b : Nat} {t : TypeId} {cs : Array Value} (h : Keeps S w w') (hb : Blk w b t cs) (hs : ¬ S b) : Blk w' b t cs := (h.block b hb.lt hs).trans hb

/-- A block of the list: its number, its elements' type, its cells. -/
abbrev Bk := Nat × TypeId × Array Value

structure Hp (S : Nat → Prop) (w0 w : World) (sz : Nat) (L R : List Bk) : Prop where
  keep : Keeps S w0 w
  size : w.heap.size = sz
  blk : ∀ x ∈ L, Blk w x.1 x.2.1 x.2.2
  own : ∀ x ∈ L, S x.1 ∨ w0.heap.size ≤ x.1
  nodup : (L.map (·.1)).Nodup
  ro : ∀ x ∈ R, Blk w x.1 x.2.1 x.2.2 ∧ ¬ S x.1 ∧ x.1 < w0.heap.size

section
variable {S : Nat → Prop} {w0 w w' : World} {sz : Nat} {L R : List Bk}

theorem Hp.lt (H : Hp S w0 w sz L R) {x : Bk} (hx : x ∈ L) : x.1 < sz := by have := (H.blk x hx).lt; rw [H.size] at this; exact this
theorem Hp.le (H : Hp S w0 w sz L R) : w0.heap.size ≤ sz := by have := H.keep.size; rw [H.size] at this; exact this
theorem Hp.start (S : Nat → Prop) (w : World) : Hp S w w w.heap.size [] [] :=
  ⟨Keeps.refl _ _, rfl, fun _ h => (by cases h), fun _ h => (by cases h), List.nodup_nil, fun _ h => (by cases h)⟩
theorem Hp.drew (H : Hp S w0 w sz L R) : Hp S w0 w.drew sz L R := ⟨⟨H.keep.os, H.keep.tape, H.keep.output, H.keep.size, H.keep.block⟩, H.size, H.blk, H.own, H.nodup, H.ro⟩
theorem Hp.drewN (H : Hp S w0 w sz L R) (n : Nat) : Hp S w0 (w.drewN n) sz L R := ⟨⟨H.keep.os, H.keep.tape, H.keep.output, H.keep.size, H.keep.block⟩, H.size, H.blk, H.own, H.nodup, H.ro⟩

/-- A new block. -/
theorem Hp.alloc (H : Hp S w0 w sz L R) (t : TypeId) (cs : Array Value) : Hp S w0 (w.alloc (.cells cs t)) (sz + 1) ((sz, t, cs) :: L) R := by
  have hsz : (w.alloc (.cells cs t)).heap.size = w.heap.size + 1 := by simp
  refine ⟨H.keep.trans ⟨rfl, rfl, rfl, by rw [hsz]; omega, fun k hk _ => Below.heap_alloc w _ k hk⟩, by rw [hsz, H.size], ?_, ?_, ?_, fun x hx => ?_⟩
  · intro x hx
    rcases List.mem_cons.1 hx with rfl | hx
    · exact Blk.new' H.size.symm
    · exact (H.blk x hx).alloc _
  · intro x hx
    rcases List.mem_cons.1 hx with rfl | hx
    · exact .inr H.le
    · exact H.own x hx
  · simp only [List.map_cons, List.nodup_cons]
    refine ⟨fun h => ?_, H.nodup⟩
    obtain ⟨x, hx, he⟩ := List.mem_map.1 h
    have h1 := H.lt hx
    rw [he] at h1
    exact Nat.lt_irrefl _ h1
  · obtain ⟨h1, h2, h3⟩ := H.ro x hx
    exact ⟨h1.alloc _, h2, h3⟩
/-- A call that at most makes memory. -/
theorem Hp.call (H : Hp S w0 w sz L R) (hb : Below w.heap.size w w') : ∃ sz', sz ≤ sz' ∧ Hp S w0 w' sz' L R := by
  refine ⟨w'.heap.size, by have := hb.size; rw [H.size] at this; exact this, H.keep.trans (Keeps.of_below S hb), rfl, fun x hx => (H.blk x hx).call hb, H.own, H.nodup, fun x hx => ?_⟩
  obtain ⟨h1, h2, h3⟩ := H.ro x hx
  exact ⟨h1.call hb, h2, h3⟩
/-- The block at place j is written. -/
theorem Hp.put (H : Hp S w0 w sz L R) (j : Nat) {b : Nat} {t : TypeId} {cs : Array Value} (hj : L[j]? = some (b, t, cs)) (cs' : Array Value) : Hp S w0 (w.setRow b cs') sz (L.set j (b, t, cs')) R := by
  have hm : (b, t, cs) ∈ L := List.mem_of_getElem? hj
  have hB := H.blk _ hm
  have hown := H.own _ hm
  have hblk : Blk (w.setRow b cs') b t cs' := setRow_heap w b cs cs' t (0, 0) hB
  have hoth : ∀ k, k ≠ b → (w.setRow b cs').heap[k]? = w.heap[k]? := fun k hk => by
    simp only [World.setRow, Array.getElem?_modify]
    rw [if_neg (Ne.symm hk)]
  have hsz : (w.setRow b cs').heap.size = w.heap.size := by simp [World.setRow]
  have hmap : (L.set j (b, t, cs')).map (·.1) = L.map (·.1) := by
    rw [List.map_set]
    apply List.ext_getElem?
    intro i
    rw [List.getElem?_set]
    by_cases e : j = i
    · subst e
      obtain ⟨hl, _⟩ := List.getElem?_eq_some_iff.1 hj
      obtain ⟨_, hj'⟩ := List.getElem?_eq_some_iff.1 hj
      simp [hl, List.getElem?_map, hj']
    · simp [e]
  refine ⟨H.keep.step (S' := fun k => k = b) ⟨rfl, rfl, rfl, by rw [hsz]; exact Nat.le_refl _, fun k _ hk => hoth k hk⟩ (fun i hi => by rw [hi]; exact hown), by rw [hsz, H.size], ?_, ?_, by rw [hmap]; exact H.nodup, fun x hx => ?_⟩
  · intro x hx
    obtain ⟨i, hi⟩ := List.mem_iff_getElem?.1 hx
    rw [List.getElem?_set] at hi
    by_cases e : j = i
    · subst e
      simp only [if_true] at hi
      split at hi
      · obtain rfl := Option.some.inj hi
        exact hblk
      · cases hi
    · rw [if_neg e] at hi
      have hxL := List.mem_of_getElem? hi
      have hne : x.1 ≠ b := fun hxb => by
        have h1 : (L.map (·.1))[i]? = some b := by simp [hi, hxb]
        have h2 : (L.map (·.1))[j]? = some b := by simp [hj]
        obtain ⟨hl1, h1'⟩ := List.getElem?_eq_some_iff.1 h1
        obtain ⟨hl2, h2'⟩ := List.getElem?_eq_some_iff.1 h2
        exact e ((List.getElem_inj H.nodup).1 (h2'.trans h1'.symm))
      exact (hoth x.1 hne).trans (H.blk x hxL)
  · intro x hx
    have : x.1 ∈ L.map (·.1) := by rw [← hmap]; exact List.mem_map_of_mem hx
    obtain ⟨y, hy, he⟩ := List.mem_map.1 this
    rw [← he]; exact H.own y hy
  · obtain ⟨h1, h2, h3⟩ := H.ro x hx
    have hne : x.1 ≠ b := fun e => by
      rcases hown with h | h
      · exact h2 (e ▸ h)
      · simp only at h; omega
    exact ⟨(hoth x.1 hne).trans h1, h2, h3⟩
theorem Hp.ret (H : Hp NoS w0 w sz L R) : Below w0.heap.size w0 w := H.keep.below

/-! ### types, loads and stores -/
class Ty (P : Program) (T : TypeId) (agg : outParam Bool) (n : outParam Nat) : Prop where
  kind : ∀ w, (isAgg T).run P w = .ok agg w
  size : ∀ w, (sizeOf T).run P w = .ok n w
  one : agg = false → n = 1

class ZeroV (P : Program) (T : TypeId) (z : outParam Value) : Prop where
  zero : ∀ w, (zeroValue T).run P w = .ok z w

def seg (cs : Array Value) (o n : Nat) : List Value := (cs.toList.drop o).take n
def segPut (cs : Array Value) (o : Nat) (vs : List Value) : Array Value := (cs.toList.take o ++ vs ++ cs.toList.drop (o + vs.length)).toArray
def segV (agg : Bool) (cs : Array Value) (o n : Nat) : Value := if agg then .agg (seg cs o n).toArray else (seg cs o n).headD undef

theorem addr_add (b o i : Nat) : (⟨b, o, none⟩ : Addr).add i = ⟨b, o + i, none⟩ := by unfold Addr.add; split <;> simp_all

variable {P : Program} {T t : TypeId} {agg : Bool} {n b o : Nat} {cs : Array Value}
theorem run_loadVar_blk (hT : Ty P T agg n) (hB : Blk w b t cs) (hl : o + n ≤ cs.size) : (loadVar T ⟨b, o, none⟩).run P w = .ok (segV agg cs o n) w := by
  have hlen : (seg cs o n).length = n := by simp [seg]; omega
  have hc := run_loadCells_list (P := P) w ⟨b, o, none⟩ (seg cs o n) (fun j v hj => by
    rw [addr_add, hB.cell]
    unfold seg at hj
    rw [List.getElem?_take] at hj
    split at hj
    · simpa using hj
    · cases hj)
  rw [hlen] at hc
  cases hag : agg with
  | true =>
    subst hag
    simp only [loadVar, Sem.run_bind, hT.kind, Result.andThen_ok, if_true, hT.size, hc, segV]
    rfl
  | false =>
    subst hag
    obtain rfl := hT.one rfl
    have hcell : w.cell? ⟨b, o, none⟩ = some ((seg cs o 1).headD undef) := by
      rw [hB.cell]
      have ho : o < cs.size := by omega
      simp [seg, List.drop_eq_getElem_cons (l := cs.toList) (i := o) (by simpa using ho), ho]
    simp only [loadVar, Sem.run_bind, hT.kind, Result.andThen_ok, segV, Bool.false_eq_true, if_false]
    simp [load, Sem.run, hcell]
theorem run_storeVar_blk {v : Value} {vs : List Value} (hT : Ty P T agg n) (hB : Blk w b t cs) (hv : v.cells = vs.toArray) (hn : vs.length = n) (hl : o + n ≤ cs.size) (h1 : ∀ x ∈ vs, x.oneCell' = true) :
    (storeVar T ⟨b, o, none⟩ v).run P w = .ok () (w.setRow b (segPut cs o vs)) := by
  have h := run_storeCells_at (P := P) b o t vs 0 cs w hB (by omega) h1
  simp only [storeVar, Sem.run_bind, hT.size, Result.andThen_ok, hv, List.size_toArray, hn, ne_eq, not_true_eq_false, if_false]
  simpa [segPut] using h

/-! ### rules of the walk -/
variable {ops : Array Oper} {Q : Exit → Act → World → Prop} {rest : List Oper} {a : Act} {d : Tmp} {ty : TypeId} {pos : String} {after : Array Edge} {g : Option (Nat × Bool)}

/-- An operand's value, reckoned along the list. -/
def evL (a : Act) : Operand → Option Value
  | .tmp t => a.tmps.toList[t]?
  | .const v => some v
  | .global g => some (.pointer (some ⟨g, 0, none⟩))
  | .func f => some (.func (.func f) #[] #[])
theorem evL_eval {x : Operand} {v : Value} (h : evL a x = some v) : a.eval x = v := by
  cases x with
  | tmp t =>
    simp only [evL, Array.getElem?_toList] at h
    simp [Act.eval, h]
  | _ => simpa [evL, Act.eval] using h
theorem hw_box {x : Operand} {v : Value} (hg : Region.wanted ⟨some d, .box T x, ty, pos, after, g⟩ (yielded ops a.tmps) = true) (hx : evL a x = some v) (H : Hp S w0 w sz L R)
    (h : ∀ w', Hp S w0 w' (sz + 1) ((sz, T, v.cells) :: L) R → wpList P ops Q rest (a.put (some d) (.pointer (some ⟨sz, 0, none⟩))) w') :
    wpList P ops Q (⟨some d, .box T x, ty, pos, after, g⟩ :: rest) a w := by
  refine wpList_step fun K hK => ?_
  rw [if_pos hg]
  unfold Oper.wp
  simp only [execOp, evL_eval hx, Instr.box, newVar, newRow, newObj, Sem.run_bind, Sem.run, Result.andThen, Oper.upon, H.size]
  exact hK _ _ (h _ (H.alloc T v.cells))
theorem hw_alloc {z : Value} (hg : Region.wanted ⟨some d, .alloc T, ty, pos, after, g⟩ (yielded ops a.tmps) = true) [hz : ZeroV P T z] (H : Hp S w0 w sz L R)
    (h : ∀ w', Hp S w0 w' (sz + 1) ((sz, T, z.cells) :: L) R → wpList P ops Q rest (a.put (some d) (.pointer (some ⟨sz, 0, none⟩))) w') :
    wpList P ops Q (⟨some d, .alloc T, ty, pos, after, g⟩ :: rest) a w := by
  refine wpList_step fun K hK => ?_
  rw [if_pos hg]
  unfold Oper.wp
  simp only [execOp, Instr.alloc, hz.zero, newVar, newRow, newObj, Sem.run_bind, Sem.run, Result.andThen, Oper.upon, H.size]
  exact hK _ _ (h _ (H.alloc T z.cells))
theorem hw_loadB {x : Operand} (hg : Region.wanted ⟨some d, .load T x, ty, pos, after, g⟩ (yielded ops a.tmps) = true) (hx : evL a x = some (.pointer (some ⟨b, o, none⟩))) (hB : Blk w b t cs) [hT : Ty P T agg n] (hl : o + n ≤ cs.size) {v : Value} (he : segV agg cs o n = v)
    (h : wpList P ops Q rest (a.put (some d) v) w) : wpList P ops Q (⟨some d, .load T x, ty, pos, after, g⟩ :: rest) a w := by
  subst he
  refine wpList_step fun K hK => ?_
  rw [if_pos hg]
  unfold Oper.wp
  simp only [execOp, evL_eval hx, Instr.loadAt, Instr.sureAddr, Sem.run_bind, Sem.run_pure, Result.andThen, run_loadVar_blk hT hB hl, Oper.upon]
  exact hK _ _ h
theorem hw_load {x : Operand} (j : Nat) (hg : Region.wanted ⟨some d, .load T x, ty, pos, after, g⟩ (yielded ops a.tmps) = true) (hx : evL a x = some (.pointer (some ⟨b, o, none⟩))) (H : Hp S w0 w sz L R) (hj : L[j]? = some (b, t, cs)) [hT : Ty P T agg n] (hl : o + n ≤ cs.size) {v : Value} (he : segV agg cs o n = v)
    (h : wpList P ops Q rest (a.put (some d) v) w) : wpList P ops Q (⟨some d, .load T x, ty, pos, after, g⟩ :: rest) a w :=
  hw_loadB hg hx (H.blk _ (List.mem_of_getElem? hj)) hl he h
theorem hw_loadR {x : Operand} (j : Nat) (hg : Region.wanted ⟨some d, .load T x, ty, pos, after, g⟩ (yielded ops a.tmps) = true) (hx : evL a x = some (.pointer (some ⟨b, o, none⟩))) (H : Hp S w0 w sz L R) (hj : R[j]? = some (b, t, cs)) [hT : Ty P T agg n] (hl : o + n ≤ cs.size) {v : Value} (he : segV agg cs o n = v)
    (h : wpList P ops Q rest (a.put (some d) v) w) : wpList P ops Q (⟨some d, .load T x, ty, pos, after, g⟩ :: rest) a w :=
  hw_loadB hg hx (H.ro _ (List.mem_of_getElem? hj)).1 hl he h
theorem hw_store {x y : Operand} {v : Value} {vs : List Value} (j : Nat) (hg : Region.wanted ⟨none, .store T x y, ty, pos, after, g⟩ (yielded ops a.tmps) = true) (hx : evL a x = some (.pointer (some ⟨b, o, none⟩))) (hy : evL a y = some v) (H : Hp S w0 w sz L R) (hj : L[j]? = some (b, t, cs)) [hT : Ty P T agg n]
    (hv : v.cells = vs.toArray) (hn : vs.length = n) (hl : o + n ≤ cs.size) (h1 : vs.all Value.oneCell' = true)
    (h : ∀ w', Hp S w0 w' sz (L.set j (b, t, segPut cs o vs)) R → wpList P ops Q rest a w') : wpList P ops Q (⟨none, .store T x y, ty, pos, after, g⟩ :: rest) a w := by
  refine wpList_step fun K hK => ?_
  rw [if_pos hg]
  unfold Oper.wp
  simp only [execOp, evL_eval hx, evL_eval hy, Instr.storeAt, Instr.sureAddr, Sem.run_bind, Sem.run_pure, Result.andThen, run_storeVar_blk hT (H.blk _ (List.mem_of_getElem? hj)) hv hn hl (by simpa using h1), Oper.upon]
  exact hK _ _ (h _ (H.put j hj _))
end

/-- A guard that is not decided: two ways. -/
theorem hw_guard {P : Program} {ops : Array Oper} {Q : Exit → Act → World → Prop} {rest : List Oper} {a : Act} {w : World} {dst : Option Tmp} {op : Op} {ty : TypeId} {pos : String} {after : Array Edge} {j : Nat} {want b : Bool}
    (hy : yielded ops a.tmps j = some b) (h1 : b = want → wpList P ops Q (⟨dst, op, ty, pos, after, none⟩ :: rest) a w) (h2 : b = !want → wpList P ops Q rest (a.put dst undef) w) :
    wpList P ops Q (⟨dst, op, ty, pos, after, some (j, want)⟩ :: rest) a w := by
  by_cases hb : b = want
  · have h := h1 hb
    unfold wpList at h ⊢
    rw [if_pos (by simp [Region.wanted])] at h
    rw [if_pos (by simp [Region.wanted, hy, hb])]
    exact h
  · have hb' : b = !want := by cases b <;> cases want <;> simp_all
    have h := h2 hb'
    unfold wpList
    rw [if_neg (by simp only [Region.wanted, hy]; simp [hb])]
    exact h

section
variable {P : Program} {ops : Array Oper} {Q : Exit → Act → World → Prop} {rest : List Oper} {a : Act} {w : World} {dst : Option Tmp} {op : Op} {ty : TypeId} {pos : String} {after : Array Edge} {j : Nat} {b : Bool}
theorem hw_guardT (hy : yielded ops a.tmps j = some b) (h1 : b = true → wpList P ops Q (⟨dst, op, ty, pos, after, none⟩ :: rest) a w) (h2 : b = false → wpList P ops Q rest (a.put dst undef) w) :
    wpList P ops Q (⟨dst, op, ty, pos, after, some (j, true)⟩ :: rest) a w := hw_guard hy h1 h2
theorem hw_guardF (hy : yielded ops a.tmps j = some b) (h1 : b = false → wpList P ops Q (⟨dst, op, ty, pos, after, none⟩ :: rest) a w) (h2 : b = true → wpList P ops Q rest (a.put dst undef) w) :
    wpList P ops Q (⟨dst, op, ty, pos, after, some (j, false)⟩ :: rest) a w := hw_guard hy h1 h2
end

/-! ### an operation of a drawn region -/
def SlotIs (a : Act) (dst : Option Tmp) (v : Value) : Prop := match dst with | some d => a.tmps.getD d undef = v | none => undef = v
def DetQ (ds : List Deferred) (dst : Option Tmp) (v : Value) (I : World → Prop) : Exit → Act → World → Prop := fun e a' w' => e = .normal ∧ a'.defers = ds ∧ SlotIs a' dst v ∧ I w'
theorem put_of_slot {a : Act} {dst : Option Tmp} {u v : Value} (h : SlotIs (a.put dst u) dst v) : a.put dst u = a.put dst v := by
  cases dst with
  | none => rfl
  | some d =>
    by_cases hd : d < a.tmps.size
    · have : u = v := by
        simp only [SlotIs, Array.getD_eq_getD_getElem?] at h
        rw [put_get_eq, if_pos hd] at h
        exact h
      rw [this]
    · simp [Act.put, Array.setIfInBounds_eq_of_size_le (Nat.le_of_not_lt hd)]
section
variable {P : Program} {ops : Array Oper} {I : World → Prop} {fin : Act → Prop} {rest : List Oper} {a : Act} {v : Value} {dst : Option Tmp} {op : Op} {ty : TypeId} {pos : String} {after : Array Edge} {g : Option (Nat × Bool)}
theorem det_op (hw : Region.wanted ⟨dst, op, ty, pos, after, g⟩ (yielded ops a.tmps) = true)
    (h : ∀ w, I w → wpList P #[] (DetQ a.defers dst v I) [⟨dst, op, ty, pos, after, none⟩] a w)
    (hr : wpDet P ops I fin rest (a.put dst v)) : wpDet P ops I fin (⟨dst, op, ty, pos, after, g⟩ :: rest) a := by
  refine ⟨v, .inl ⟨hw, fun w hI => ?_⟩, hr⟩
  have h1 := h w hI
  unfold wpList at h1
  rw [if_pos (by simp [Region.wanted])] at h1
  rcases h1 with h1 | ⟨_, a1, w1, h1⟩
  · have h2 : Oper.wp P ⟨dst, op, ty, pos, after, g⟩ a w (wpList P #[] (DetQ a.defers dst v I) []) (DetQ a.defers dst v I) := h1
    unfold Oper.wp at h2 ⊢
    generalize (execOp a.eval ⟨dst, op, ty, pos, after, g⟩).run P w = r at h2 ⊢
    cases r with
    | ok n w' =>
      cases n <;> simp only [Oper.upon, wpList, DetQ] at h2 ⊢
      case value u => exact ⟨put_of_slot h2.2.2.1, h2.2.2.2⟩
      case skip => exact ⟨put_of_slot h2.2.2.1, h2.2.2.2⟩
      case defer dd => exact absurd (congrArg List.length h2.2.1) (by rw [put_defers]; simp)
      case enter f args =>
        refine Calls.mono h2 fun e w'' he => ?_
        cases e with
        | returned u => exact ⟨put_of_slot he.2.2.1, he.2.2.2⟩
        | panicked c => exact absurd he.1 (by simp)
        | outgrown => obtain ⟨_, _, h⟩ := he; exact absurd h.1 (by simp)
      case row row args => exact Rows.mono h2 fun u w'' he => ⟨put_of_slot he.2.2.1, he.2.2.2⟩
    | halt x w' =>
      cases x <;> simp only [Oper.upon, DetQ] at h2 ⊢
      case panic u => exact absurd h2.1 (by simp)
  · exact absurd h1.1 (by simp)
theorem det_skip (hw : Region.wanted ⟨dst, op, ty, pos, after, g⟩ (yielded ops a.tmps) = false)
    (hr : wpDet P ops I fin rest (a.put dst undef)) : wpDet P ops I fin (⟨dst, op, ty, pos, after, g⟩ :: rest) a := ⟨undef, .inr ⟨hw, rfl⟩, hr⟩
end
/-- Nothing but new blocks since: the list stands. -/
def HpX (S : Nat → Prop) (w0 : World) (s0 : Nat) (L R : List Bk) (w : World) : Prop := ∃ s, s0 ≤ s ∧ Hp S w0 w s L R

/-! ### results -/
section
variable {P : Program} {fn : Func} {a : Act} {w w0 : World} {S : Nat → Prop} {sz : Nat} {L R : List Bk} {T t : TypeId} {agg : Bool} {n b o : Nat} {cs : Array Value} {v v1 v2 v3 v4 : Value} {r1 r2 r3 r4 : ResultVar}
def resF (tmps : Array Value) : ResultVar → Sem Value
  | .tmp t => pure (tmps.getD t undef)
  | .cell p t => do loadVar t (← asAddr (tmps.getD p undef))
theorem results_eq (fn : Func) (tmps : Array Value) : results fn tmps = (do
    let vs ← fn.results.mapM (resF tmps)
    pure (if h : vs.size = 1 then vs[0] else .tuple vs)) := rfl
def RV (P : Program) (a : Act) (w : World) (r : ResultVar) (v : Value) : Prop := (resF a.tmps r).run P w = .ok v w
theorem rv_tmp {u : Tmp} (h : a.tmps.getD u undef = v) : RV P a w (.tmp u) v := by simp [RV, resF, Sem.run, h]
theorem rv_cell {p : Tmp} (j : Nat) (hp : a.tmps.getD p undef = .pointer (some ⟨b, o, none⟩)) (H : Hp S w0 w sz L R) (hj : L[j]? = some (b, t, cs)) [hT : Ty P T agg n] (hl : o + n ≤ cs.size) : RV P a w (.cell p T) (segV agg cs o n) := by
  simp only [RV, resF, hp, asAddr, Sem.run_bind, Sem.run_pure, Result.andThen, run_loadVar_blk hT (H.blk _ (List.mem_of_getElem? hj)) hl]
theorem res0 (h : fn.results = #[]) : (results fn a.tmps).run P w = .ok (.tuple #[]) w := by
  rw [results_eq, h]; simp
theorem res1 (h : fn.results = #[r1]) (h1 : RV P a w r1 v1) : (results fn a.tmps).run P w = .ok v1 w := by
  rw [results_eq, h]
  unfold RV at h1
  simp [Sem.run_bind, h1, Result.andThen]
theorem res2 (h : fn.results = #[r1, r2]) (h1 : RV P a w r1 v1) (h2 : RV P a w r2 v2) : (results fn a.tmps).run P w = .ok (.tuple #[v1, v2]) w := by
  rw [results_eq, h]
  unfold RV at h1 h2
  simp [Sem.run_bind, h1, h2, Result.andThen]
theorem res3 (h : fn.results = #[r1, r2, r3]) (h1 : RV P a w r1 v1) (h2 : RV P a w r2 v2) (h3 : RV P a w r3 v3) : (results fn a.tmps).run P w = .ok (.tuple #[v1, v2, v3]) w := by
  rw [results_eq, h]
  unfold RV at h1 h2 h3
  simp [Sem.run_bind, h1, h2, h3, Result.andThen]
theorem res4 (h : fn.results = #[r1, r2, r3, r4]) (h1 : RV P a w r1 v1) (h2 : RV P a w r2 v2) (h3 : RV P a w r3 v3) (h4 : RV P a w r4 v4) : (results fn a.tmps).run P w = .ok (.tuple #[v1, v2, v3, v4]) w := by
  rw [results_eq, h]
  unfold RV at h1 h2 h3 h4
  simp [Sem.run_bind, h1, h2, h3, h4, Result.andThen]
end

/-! ### the types of this program -/
instance : Ty Tryz.prog 38 true 4 := ⟨fun _ => by kernel_rfl, fun _ => by kernel_rfl, fun h => by cases h⟩
instance : Ty Tryz.prog 36 false 1 := ⟨fun _ => by kernel_rfl, fun _ => by kernel_rfl, fun _ => rfl⟩
instance : Ty Tryz.prog 3 false 1 := ⟨fun _ => by kernel_rfl, fun _ => by kernel_rfl, fun _ => rfl⟩
instance : ZeroV Tryz.prog 38 (.agg #[.int .u32 0, .int .u32 0, .int .u32 0, .int .u32 0]) := ⟨fun _ => by kernel_rfl⟩
end Go.Proofs.YtccgpjhgfjfaoaaGreatDoor
/- notice: what is said of a node. -/
namespace Go.Proofs.YtccgpjhgfjfaoaaGreatDoor
open Go.RowKit

structure Ntc where
  of : Int
  tag : Int
  kind : Int
  deriving DecidableEq
abbrev ntcV (x : Ntc) : Value := .agg #[.int .i64 x.of, .int .i64 x.tag, .int .i64 x.kind]
def isTagB (t : Int) : Bool := decide (0 ≤ t ∧ t ≤ 1048576)
def isKindB (k : Int) : Bool := decide (k = 1 ∨ k = 2)
def validB (n : Int) (x : Ntc) : Bool := decide (1 ≤ n ∧ n ≤ 100 ∧ 0 ≤ x.of ∧ x.of < n) && isTagB x.tag && isKindB x.kind
def rankN (x : Ntc) : Int := if isTagB x.tag then (if x.kind = 1 then 2 * x.tag else if x.kind = 2 then 2 * x.tag + 1 else -1) else -1
def beatsB (a b : Ntc) : Bool := decide (a.of = b.of) && decide (0 ≤ rankN b) && decide (rankN b < rankN a)
def freshN (i : Int) : Ntc := ⟨i, 0, 1⟩

instance : Ty Tryz.prog 128 true 3 := ⟨fun _ => by kernel_rfl, fun _ => by kernel_rfl, fun h => by cases h⟩
instance : ZeroV Tryz.prog 128 (.agg #[.int .i64 0, .int .i64 0, .int .i64 0]) := ⟨fun _ => by kernel_rfl⟩

theorem isTag_any (t : Int) (w : World) : Calls Tryz.prog 182 #[.int .i64 t] w fun e w' => e = .returned (.bool (isTagB t)) ∧ w = w' := by
  go_enter Tryz.func182, Tryz.ntmps182
  go_wp2
  all_goals (go_ret; exact ⟨by simp [isTagB, *]; try omega, rfl⟩)
theorem isKind_any (t : Int) (w : World) : Calls Tryz.prog 183 #[.int .i64 t] w fun e w' => e = .returned (.bool (isKindB t)) ∧ w = w' := by
  go_enter Tryz.func183, Tryz.ntmps183
  go_wp2
  all_goals (go_ret; exact ⟨by simp [isKindB, *]; try (first | omega | (rw [Bool.eq_iff_iff]; simp; omega)), rfl⟩)
theorem Fresh_any (i : Int) (w : World) : Calls Tryz.prog 159 #[.int .i64 i] w (Ret (ntcV (freshN i)) w) := by
  go_enter Tryz.func159, Tryz.ntmps159
  have H := Hp.start NoS w
  go_wp2_with (first | ((first | ((with_reducible apply wlB); refine hw_box rfl rfl H ?_) | ((with_reducible apply wlA); refine hw_alloc rfl H ?_) | ((with_reducible apply wlS); first | refine hw_store 0 rfl rfl rfl H rfl rfl rfl (by simp) rfl ?_ | refine hw_store 1 rfl rfl rfl H rfl rfl rfl (by simp) rfl ?_ | refine hw_store 2 rfl rfl rfl H rfl rfl rfl (by simp) rfl ?_ | refine hw_store 3 rfl rfl rfl H rfl rfl rfl (by simp) rfl ?_)); clear H; intro w' H; (try simp only [Act.eval, Act.put, Value.cells, segV, seg, segPut, NS, Nat.reduceAdd] at H)) | ((with_reducible apply wlL); (first | apply hw_load 0 rfl rfl H rfl | apply hw_load 1 rfl rfl H rfl | apply hw_load 2 rfl rfl H rfl | apply hw_load 3 rfl rfl H rfl); (focus (simp; done)); (focus (simp only [segV, seg, NS]; rfl))))
  exact bodyPost_ret (res1 rfl (rv_cell 0 rfl H rfl (Nat.le_of_ble_eq_true rfl))) rfl ⟨by simp [segV, seg, freshN], H.ret⟩
set_option maxRecDepth 100000 in
set_option maxHeartbeats 2000000 in
theorem Rank_any (x : Ntc) (w : World) : Calls Tryz.prog 211 #[ntcV x] w (Ret (.int .i64 (rankN x)) w) := by
  go_enter Tryz.func211, Tryz.ntmps211
  have H := Hp.start NoS w
  go_wp2_with (first | ((first | ((with_reducible apply wlB); refine hw_box rfl rfl H ?_) | ((with_reducible apply wlA); refine hw_alloc rfl H ?_) | ((with_reducible apply wlS); first | refine hw_store 0 rfl rfl rfl H rfl rfl rfl (by simp) rfl ?_ | refine hw_store 1 rfl rfl rfl H rfl rfl rfl (by simp) rfl ?_ | refine hw_store 2 rfl rfl rfl H rfl rfl rfl (by simp) rfl ?_ | refine hw_store 3 rfl rfl rfl H rfl rfl rfl (by simp) rfl ?_)); clear H; intro w' H; (try simp only [Act.eval, Act.put, Value.cells, segV, seg, segPut, NS, Nat.reduceAdd] at H)) | ((with_reducible apply wlL); (first | apply hw_load 0 rfl rfl H rfl | apply hw_load 1 rfl rfl H rfl | apply hw_load 2 rfl rfl H rfl | apply hw_load 3 rfl rfl H rfl); (focus (simp; done)); (focus (simp only [segV, seg, NS]; rfl))) | (go_at_call 182; refine (isTag_any _ _).mono ?_; rintro e w' ⟨rfl, rfl⟩))
  all_goals (refine bodyPost_ret (res1 rfl (rv_tmp rfl)) rfl ⟨?_, H.ret⟩; go_light; simp only [Ending.returned.injEq]; first | (show Value.int _ _ = Value.int _ _; congr 1; simp_all [rankN, isTagB, wrap64]; try omega))
set_option maxRecDepth 100000 in
set_option maxHeartbeats 2000000 in
theorem Valid_any (n : Int) (x : Ntc) (w : World) : Calls Tryz.prog 122 #[.int .i64 n, ntcV x] w (Ret (.bool (validB n x)) w) := by
  go_enter Tryz.func122, Tryz.ntmps122
  have H := Hp.start NoS w
  go_wp2_with (first | ((first | ((with_reducible apply wlB); refine hw_box rfl rfl H ?_) | ((with_reducible apply wlA); refine hw_alloc rfl H ?_) | ((with_reducible apply wlS); first | refine hw_store 0 rfl rfl rfl H rfl rfl rfl (by simp) rfl ?_ | refine hw_store 1 rfl rfl rfl H rfl rfl rfl (by simp) rfl ?_ | refine hw_store 2 rfl rfl rfl H rfl rfl rfl (by simp) rfl ?_ | refine hw_store 3 rfl rfl rfl H rfl rfl rfl (by simp) rfl ?_)); clear H; intro w' H; (try simp only [Act.eval, Act.put, Value.cells, segV, seg, segPut, NS, Nat.reduceAdd] at H)) | ((with_reducible apply wlL); (first | apply hw_load 0 rfl rfl H rfl | apply hw_load 1 rfl rfl H rfl | apply hw_load 2 rfl rfl H rfl | apply hw_load 3 rfl rfl H rfl); (focus (simp; done)); (focus (simp only [segV, seg, NS]; rfl))) | (go_at_call 182; refine (isTag_any _ _).mono ?_; rintro e w' ⟨rfl, rfl⟩) | (go_at_call 183; refine (isKind_any _ _).mono ?_; rintro e w' ⟨rfl, rfl⟩))
  all_goals (refine bodyPost_ret (res1 rfl (rv_tmp rfl)) rfl ⟨?_, H.ret⟩; go_light; simp only [Ending.returned.injEq]; show Value.bool _ = Value.bool _; congr 1; simp_all [validB]; try omega)
set_option maxRecDepth 100000 in
set_option maxHeartbeats 2000000 in
theorem Beats_tt (x y : Ntc) (w : World) (h1 : (x.of == y.of) = true) (h2 : decide (0 ≤ rankN y) = true) : Calls Tryz.prog 171 #[ntcV x, ntcV y] w (Ret (.bool (beatsB x y)) w) := by
  go_enter Tryz.func171, Tryz.ntmps171
  have H := Hp.start NoS w
  go_wp2_with (first | ((first | ((with_reducible apply wlB); refine hw_box rfl rfl H ?_) | ((with_reducible apply wlA); refine hw_alloc rfl H ?_) | ((with_reducible apply wlS); first | refine hw_store 0 rfl rfl rfl H rfl rfl rfl (by simp) rfl ?_ | refine hw_store 1 rfl rfl rfl H rfl rfl rfl (by simp) rfl ?_ | refine hw_store 2 rfl rfl rfl H rfl rfl rfl (by simp) rfl ?_ | refine hw_store 3 rfl rfl rfl H rfl rfl rfl (by simp) rfl ?_)); clear H; intro w' H; (try simp only [Act.eval, Act.put, Value.cells, segV, seg, segPut, NS, Nat.reduceAdd] at H)) | ((with_reducible apply wlL); (first | apply hw_load 0 rfl rfl H rfl | apply hw_load 1 rfl rfl H rfl | apply hw_load 2 rfl rfl H rfl | apply hw_load 3 rfl rfl H rfl); (focus (simp; done)); (focus (simp only [segV, seg, NS]; rfl))))
  (try simp only [Act.eval, Act.put, Value.cells, segV, seg, segPut, NS, Nat.reduceAdd])
  refine region_det 17 (HpX _ _ _ _ _) rfl (by kernel_rfl) ⟨_, Nat.le_refl _, H.drew⟩ ?_; clear H; simp only [List.take_succ_cons, List.take_zero, List.drop_succ_cons, List.drop_zero]
  repeat (first | (apply det_op rfl; (focus (rintro w' ⟨s1, hs1, H⟩; go_wp2_with (first | ((first | ((with_reducible apply wlB); refine hw_box rfl rfl H ?_) | ((with_reducible apply wlA); refine hw_alloc rfl H ?_) | ((with_reducible apply wlS); first | refine hw_store 0 rfl rfl rfl H rfl rfl rfl (by simp) rfl ?_ | refine hw_store 1 rfl rfl rfl H rfl rfl rfl (by simp) rfl ?_ | refine hw_store 2 rfl rfl rfl H rfl rfl rfl (by simp) rfl ?_ | refine hw_store 3 rfl rfl rfl H rfl rfl rfl (by simp) rfl ?_)); clear H; intro w' H; (try simp only [Act.eval, Act.put, Value.cells, segV, seg, segPut, NS, Nat.reduceAdd] at H)) | ((with_reducible apply wlL); (first | apply hw_load 0 rfl rfl H rfl | apply hw_load 1 rfl rfl H rfl | apply hw_load 2 rfl rfl H rfl | apply hw_load 3 rfl rfl H rfl); (focus (simp; done)); (focus (simp only [segV, seg, NS]; rfl))) | (go_at_call 211; refine (Rank_any _ _).mono ?_; rintro e w' ⟨rfl, hb⟩; obtain ⟨s2, hs2, H⟩ := H.call hb; clear hb)); refine ⟨rfl, rfl, ?_, _, by omega, H⟩; (first | (simp only [SlotIs, Array.getD_eq_getD_getElem?, List.getElem?_toArray, List.getElem?_cons_succ, List.getElem?_cons_zero, Option.getD_some]; exact rfl) | exact rfl))); (try simp only [Act.put, List.setIfInBounds_toArray, List.set_cons_zero, List.set_cons_succ])) | (apply det_skip rfl; (try simp only [Act.put, List.setIfInBounds_toArray, List.set_cons_zero, List.set_cons_succ])))
  rintro w' ⟨s1, hs1, H⟩; (try simp only [Act.eval, Act.put, Value.cells, segV, seg, segPut, NS, Nat.reduceAdd])
  go_wp2
  refine bodyPost_ret (res1 rfl (rv_tmp rfl)) rfl ⟨?_, H.ret⟩
  go_light
  simp_all [beatsB]
  try (intro _; omega)
set_option maxRecDepth 100000 in
set_option maxHeartbeats 2000000 in
theorem Beats_tf (x y : Ntc) (w : World) (h1 : (x.of == y.of) = true) (h2 : decide (0 ≤ rankN y) = false) : Calls Tryz.prog 171 #[ntcV x, ntcV y] w (Ret (.bool (beatsB x y)) w) := by
  go_enter Tryz.func171, Tryz.ntmps171
  have H := Hp.start NoS w
  go_wp2_with (first | ((first | ((with_reducible apply wlB); refine hw_box rfl rfl H ?_) | ((with_reducible apply wlA); refine hw_alloc rfl H ?_) | ((with_reducible apply wlS); first | refine hw_store 0 rfl rfl rfl H rfl rfl rfl (by simp) rfl ?_ | refine hw_store 1 rfl rfl rfl H rfl rfl rfl (by simp) rfl ?_ | refine hw_store 2 rfl rfl rfl H rfl rfl rfl (by simp) rfl ?_ | refine hw_store 3 rfl rfl rfl H rfl rfl rfl (by simp) rfl ?_)); clear H; intro w' H; (try simp only [Act.eval, Act.put, Value.cells, segV, seg, segPut, NS, Nat.reduceAdd] at H)) | ((with_reducible apply wlL); (first | apply hw_load 0 rfl rfl H rfl | apply hw_load 1 rfl rfl H rfl | apply hw_load 2 rfl rfl H rfl | apply hw_load 3 rfl rfl H rfl); (focus (simp; done)); (focus (simp only [segV, seg, NS]; rfl))))
  (try simp only [Act.eval, Act.put, Value.cells, segV, seg, segPut, NS, Nat.reduceAdd])
  refine region_det 17 (HpX _ _ _ _ _) rfl (by kernel_rfl) ⟨_, Nat.le_refl _, H.drew⟩ ?_; clear H; simp only [List.take_succ_cons, List.take_zero, List.drop_succ_cons, List.drop_zero]
  repeat (first | (apply det_op rfl; (focus (rintro w' ⟨s1, hs1, H⟩; go_wp2_with (first | ((first | ((with_reducible apply wlB); refine hw_box rfl rfl H ?_) | ((with_reducible apply wlA); refine hw_alloc rfl H ?_) | ((with_reducible apply wlS); first | refine hw_store 0 rfl rfl rfl H rfl rfl rfl (by simp) rfl ?_ | refine hw_store 1 rfl rfl rfl H rfl rfl rfl (by simp) rfl ?_ | refine hw_store 2 rfl rfl rfl H rfl rfl rfl (by simp) rfl ?_ | refine hw_store 3 rfl rfl rfl H rfl rfl rfl (by simp) rfl ?_)); clear H; intro w' H; (try simp only [Act.eval, Act.put, Value.cells, segV, seg, segPut, NS, Nat.reduceAdd] at H)) | ((with_reducible apply wlL); (first | apply hw_load 0 rfl rfl H rfl | apply hw_load 1 rfl rfl H rfl | apply hw_load 2 rfl rfl H rfl | apply hw_load 3 rfl rfl H rfl); (focus (simp; done)); (focus (simp only [segV, seg, NS]; rfl))) | (go_at_call 211; refine (Rank_any _ _).mono ?_; rintro e w' ⟨rfl, hb⟩; obtain ⟨s2, hs2, H⟩ := H.call hb; clear hb)); refine ⟨rfl, rfl, ?_, _, by omega, H⟩; (first | (simp only [SlotIs, Array.getD_eq_getD_getElem?, List.getElem?_toArray, List.getElem?_cons_succ, List.getElem?_cons_zero, Option.getD_some]; exact rfl) | exact rfl))); (try simp only [Act.put, List.setIfInBounds_toArray, List.set_cons_zero, List.set_cons_succ])) | (apply det_skip rfl; (try simp only [Act.put, List.setIfInBounds_toArray, List.set_cons_zero, List.set_cons_succ])))
  rintro w' ⟨s1, hs1, H⟩; (try simp only [Act.eval, Act.put, Value.cells, segV, seg, segPut, NS, Nat.reduceAdd])
  go_wp2
  refine bodyPost_ret (res1 rfl (rv_tmp rfl)) rfl ⟨?_, H.ret⟩
  go_light
  simp_all [beatsB]
  try (intro _; omega)
set_option maxRecDepth 100000 in
set_option maxHeartbeats 2000000 in
theorem Beats_ff (x y : Ntc) (w : World) (h1 : (x.of == y.of) = false) : Calls Tryz.prog 171 #[ntcV x, ntcV y] w (Ret (.bool (beatsB x y)) w) := by
  go_enter Tryz.func171, Tryz.ntmps171
  have H := Hp.start NoS w
  go_wp2_with (first | ((first | ((with_reducible apply wlB); refine hw_box rfl rfl H ?_) | ((with_reducible apply wlA); refine hw_alloc rfl H ?_) | ((with_reducible apply wlS); first | refine hw_store 0 rfl rfl rfl H rfl rfl rfl (by simp) rfl ?_ | refine hw_store 1 rfl rfl rfl H rfl rfl rfl (by simp) rfl ?_ | refine hw_store 2 rfl rfl rfl H rfl rfl rfl (by simp) rfl ?_ | refine hw_store 3 rfl rfl rfl H rfl rfl rfl (by simp) rfl ?_)); clear H; intro w' H; (try simp only [Act.eval, Act.put, Value.cells, segV, seg, segPut, NS, Nat.reduceAdd] at H)) | ((with_reducible apply wlL); (first | apply hw_load 0 rfl rfl H rfl | apply hw_load 1 rfl rfl H rfl | apply hw_load 2 rfl rfl H rfl | apply hw_load 3 rfl rfl H rfl); (focus (simp; done)); (focus (simp only [segV, seg, NS]; rfl))))
  (try simp only [Act.eval, Act.put, Value.cells, segV, seg, segPut, NS, Nat.reduceAdd])
  refine region_det 17 (HpX _ _ _ _ _) rfl (by kernel_rfl) ⟨_, Nat.le_refl _, H.drew⟩ ?_; clear H; simp only [List.take_succ_cons, List.take_zero, List.drop_succ_cons, List.drop_zero]
  repeat (first | (apply det_op rfl; (focus (rintro w' ⟨s1, hs1, H⟩; go_wp2_with (first | ((first | ((with_reducible apply wlB); refine hw_box rfl rfl H ?_) | ((with_reducible apply wlA); refine hw_alloc rfl H ?_) | ((with_reducible apply wlS); first | refine hw_store 0 rfl rfl rfl H rfl rfl rfl (by simp) rfl ?_ | refine hw_store 1 rfl rfl rfl H rfl rfl rfl (by simp) rfl ?_ | refine hw_store 2 rfl rfl rfl H rfl rfl rfl (by simp) rfl ?_ | refine hw_store 3 rfl rfl rfl H rfl rfl rfl (by simp) rfl ?_)); clear H; intro w' H; (try simp only [Act.eval, Act.put, Value.cells, segV, seg, segPut, NS, Nat.reduceAdd] at H)) | ((with_reducible apply wlL); (first | apply hw_load 0 rfl rfl H rfl | apply hw_load 1 rfl rfl H rfl | apply hw_load 2 rfl rfl H rfl | apply hw_load 3 rfl rfl H rfl); (focus (simp; done)); (focus (simp only [segV, seg, NS]; rfl))) | (go_at_call 211; refine (Rank_any _ _).mono ?_; rintro e w' ⟨rfl, hb⟩; obtain ⟨s2, hs2, H⟩ := H.call hb; clear hb)); refine ⟨rfl, rfl, ?_, _, by omega, H⟩; (first | (simp only [SlotIs, Array.getD_eq_getD_getElem?, List.getElem?_toArray, List.getElem?_cons_succ, List.getElem?_cons_zero, Option.getD_some]; exact rfl) | exact rfl))); (try simp only [Act.put, List.setIfInBounds_toArray, List.set_cons_zero, List.set_cons_succ])) | (apply det_skip rfl; (try simp only [Act.put, List.setIfInBounds_toArray, List.set_cons_zero, List.set_cons_succ])))
  rintro w' ⟨s1, hs1, H⟩; (try simp only [Act.eval, Act.put, Value.cells, segV, seg, segPut, NS, Nat.reduceAdd])
  go_wp2
  refine bodyPost_ret (res1 rfl (rv_tmp rfl)) rfl ⟨?_, H.ret⟩
  go_light
  simp_all [beatsB]
  try (intro _; omega)
theorem Beats_any (x y : Ntc) (w : World) : Calls Tryz.prog 171 #[ntcV x, ntcV y] w (Ret (.bool (beatsB x y)) w) := by
  rcases Bool.eq_false_or_eq_true (x.of == y.of) with h1 | h1
  · rcases Bool.eq_false_or_eq_true (decide (0 ≤ rankN y)) with h2 | h2
    · exact Beats_tt x y w h1 h2
    · exact Beats_tf x y w h1 h2
  · exact Beats_ff x y w h1
def replyN (x : Ntc) : Ntc × Int := if 0 ≤ rankN x ∧ x.kind = 2 then (if x.tag = 1048576 then (⟨0, 0, 0⟩, 120) else (⟨x.of, x.tag + 1, 1⟩, 0)) else (⟨0, 0, 0⟩, 50)
theorem tag_of_rank {x : Ntc} (h : 0 ≤ rankN x) : 0 ≤ x.tag ∧ x.tag ≤ 1048576 := by
  unfold rankN at h
  split at h
  · rename_i ht; simpa [isTagB] using ht
  · omega
theorem reply_neg {x : Ntc} (h : ¬ 0 ≤ rankN x) : replyN x = (⟨0, 0, 0⟩, 50) := by unfold replyN; rw [if_neg (fun h' => h h'.1)]
theorem wrap_tag (x : Ntc) (h : 0 ≤ rankN x) : wrap64 (x.tag + 1) = x.tag + 1 := by
  have := tag_of_rank h
  unfold wrap64; omega
set_option maxRecDepth 100000 in
set_option maxHeartbeats 2000000 in
theorem Reply_any (x : Ntc) (w : World) : Calls Tryz.prog 232 #[ntcV x] w (Ret (.tuple #[ntcV (replyN x).1, .int .i64 (replyN x).2]) w) := by
  go_enter Tryz.func232, Tryz.ntmps232
  have H := Hp.start NoS w
  go_wp2_with (first | ((first | ((with_reducible apply wlB); refine hw_box rfl rfl H ?_) | ((with_reducible apply wlA); refine hw_alloc rfl H ?_) | ((with_reducible apply wlS); first | refine hw_store 0 rfl rfl rfl H rfl rfl rfl (by simp) rfl ?_ | refine hw_store 1 rfl rfl rfl H rfl rfl rfl (by simp) rfl ?_ | refine hw_store 2 rfl rfl rfl H rfl rfl rfl (by simp) rfl ?_ | refine hw_store 3 rfl rfl rfl H rfl rfl rfl (by simp) rfl ?_)); clear H; intro w' H; (try simp only [Act.eval, Act.put, Value.cells, segV, seg, segPut, NS, Nat.reduceAdd] at H)) | ((with_reducible apply wlL); (first | apply hw_load 0 rfl rfl H rfl | apply hw_load 1 rfl rfl H rfl | apply hw_load 2 rfl rfl H rfl | apply hw_load 3 rfl rfl H rfl); (focus (simp; done)); (focus (simp only [segV, seg, NS]; rfl))) | ((with_reducible show wpList _ _ _ (⟨_, _, _, _, _, some _⟩ :: _) _ _); (first | refine hw_guardT rfl ?_ ?_ | refine hw_guardF rfl ?_ ?_) <;> (intro hgd; first | (exact absurd hgd (by decide)) | (cases hgd; done) | (cases hgd) | ((try simp only [hgd]); (try simp at hgd)))) | (go_at_call 211; refine (Rank_any _ _).mono ?_; rintro e w' ⟨rfl, hb⟩; obtain ⟨s1, hs1, H⟩ := H.call hb; clear hb))
  all_goals (refine bodyPost_ret (res2 rfl (rv_cell 0 rfl H rfl (Nat.le_of_ble_eq_true rfl)) (rv_tmp rfl)) rfl ⟨?_, H.ret⟩; go_light; have hw := wrap_tag x; clear H; by_cases hr : 0 ≤ rankN x <;> first | omega | (rw [reply_neg hr]; simp [segV, seg]; done) | (simp_all [segV, seg, replyN]; done) | (simp_all [segV, seg, replyN]; omega))
end Go.Proofs.YtccgpjhgfjfaoaaGreatDoor
/- Slices that are read. -/
namespace Go.Proofs.YtccgpjhgfjfaoaaGreatDoor
open Go.RowKit

/-- The slice value v has the n-cell elements of l (encoded by enc). -/
inductive Sl {α : Type} (enc : α → List Value) (n : Nat) (l : List α) : Value → Nat → Nat → TypeId → Array Value → Nat → Prop where
  | mk (b o cap : Nat) (t : TypeId) (bl : Array Value) (h : seg bl o (l.length * n) = l.flatMap enc) (hc : l.length ≤ cap) (hb : o + l.length * n ≤ bl.size) (hcap : o + cap * n ≤ bl.size) : Sl enc n l (.slice (some ⟨b, o, none⟩) l.length cap) b o t bl cap

theorem flat_drop {α : Type} {enc : α → List Value} {n : Nat} (hn : ∀ x, (enc x).length = n) : ∀ (l : List α) (k : Nat), (l.flatMap enc).drop (k * n) = (l.drop k).flatMap enc
  | _, 0 => by simp
  | [], k + 1 => by simp
  | x :: l, k + 1 => by
    rw [List.flatMap_cons, List.drop_succ_cons, ← flat_drop hn l k, show (k + 1) * n = (enc x).length + k * n by rw [hn x, Nat.add_mul]; omega, List.drop_append]
    simp
theorem flat_len {α : Type} {enc : α → List Value} {n : Nat} (hn : ∀ x, (enc x).length = n) : ∀ (l : List α), (l.flatMap enc).length = l.length * n
  | [] => by simp
  | x :: l => by rw [List.flatMap_cons, List.length_append, hn, flat_len hn l, List.length_cons, Nat.add_mul]; omega
theorem seg_elem {α : Type} {enc : α → List Value} {n : Nat} (hn : ∀ x, (enc x).length = n) {l : List α} {bl : Array Value} {o : Nat} (h : seg bl o (l.length * n) = l.flatMap enc) (k : Nat) (hk : k < l.length) :
    seg bl (o + k * n) n = enc l[k] := by
  have h1 : (l.flatMap enc).drop (k * n) = enc l[k] ++ (l.drop (k + 1)).flatMap enc := by
    rw [flat_drop hn, List.drop_eq_getElem_cons hk, List.flatMap_cons]
  have h2 : seg bl (o + k * n) n = ((seg bl o (l.length * n)).drop (k * n)).take n := by
    unfold seg
    rw [List.drop_take, List.take_take, List.drop_drop]
    congr 1
    have : (k + 1) * n ≤ l.length * n := Nat.mul_le_mul_right n hk
    rw [Nat.add_mul] at this
    omega
  rw [h2, h, h1, List.take_append_of_le_length (by rw [hn]; exact Nat.le_refl _), List.take_of_length_le (by rw [hn]; exact Nat.le_refl _)]
theorem seg_bound {n k len o sz : Nat} (h : o + len * n ≤ sz) (hk : k < len) : o + k * n + n ≤ sz := by
  have : (k + 1) * n ≤ len * n := Nat.mul_le_mul_right n hk
  rw [Nat.add_mul] at this
  omega
section
variable {S : Nat → Prop} {w0 w : World} {sz : Nat} {L R : List Bk} {x : Bk}
theorem Hp.drop1 (H : Hp S w0 w sz (x :: L) R) : Hp S w0 w sz L R :=
  ⟨H.keep, H.size, fun y hy => H.blk y (List.mem_cons_of_mem _ hy), fun y hy => H.own y (List.mem_cons_of_mem _ hy), (List.nodup_cons.1 H.nodup).2, H.ro⟩
theorem Hp.addR (H : Hp S w0 w sz L R) {b : Nat} {t : TypeId} {cs : Array Value} (hb : Blk w0 b t cs) (hs : ¬ S b) : Hp S w0 w sz L ((b, t, cs) :: R) :=
  ⟨H.keep, H.size, H.blk, H.own, H.nodup, fun y hy => by
    rcases List.mem_cons.1 hy with rfl | hy
    · exact ⟨H.keep.blk hb hs, hs, hb.lt⟩
    · exact H.ro y hy⟩
end
def encN (x : Ntc) : List Value := [.int .i64 x.of, .int .i64 x.tag, .int .i64 x.kind]
theorem encN_len (x : Ntc) : (encN x).length = 3 := rfl

def risingFrom (n last : Int) : List Ntc → Bool
  | [] => true
  | x :: r => validB n x && decide (last < x.of) && risingFrom n x.of r
set_option maxRecDepth 100000 in
set_option maxHeartbeats 2000000 in
theorem Rising_some (n : Int) (l : List Ntc) (b o cap : Nat) (t : TypeId) (bl : Array Value) (w : World) (hB : Blk w b t bl) (h : seg bl o (l.length * 3) = l.flatMap encN) (hb : o + l.length * 3 ≤ bl.size) (hl : l.length ≤ 1048576) :
    Calls Tryz.prog 231 #[.int .i64 n, .slice (some ⟨b, o, none⟩) l.length cap] w (Ret (.bool (risingFrom n (-1) l)) w) := by
  go_enter Tryz.func231, Tryz.ntmps231
  have H := (Hp.start NoS w).addR hB id
  go_wp2_with (first | ((first | ((with_reducible apply wlB); refine hw_box rfl rfl H ?_) | ((with_reducible apply wlA); refine hw_alloc rfl H ?_) | ((with_reducible apply wlS); first | refine hw_store 0 rfl rfl rfl H rfl rfl rfl (by simp) rfl ?_ | refine hw_store 1 rfl rfl rfl H rfl rfl rfl (by simp) rfl ?_ | refine hw_store 2 rfl rfl rfl H rfl rfl rfl (by simp) rfl ?_ | refine hw_store 3 rfl rfl rfl H rfl rfl rfl (by simp) rfl ?_)); clear H; intro w' H; (try simp only [Act.eval, Act.put, Value.cells, segV, seg, segPut, NS, Nat.reduceAdd] at H)) | ((with_reducible apply wlL); (first | apply hw_load 0 rfl rfl H rfl | apply hw_load 1 rfl rfl H rfl | apply hw_load 2 rfl rfl H rfl | apply hw_load 3 rfl rfl H rfl); (focus (simp; done)); (focus (simp only [segV, seg, NS]; rfl))))
  go_loopw [5, 7, 10] (fun last _ t wr => ∃ (k sz : Nat) (la : Int), k ≤ l.length ∧ t = .int .i64 k ∧ last = .int .i64 la ∧ risingFrom n (-1) l = risingFrom n la (l.drop k) ∧ ∃ t', Hp NoS w wr sz [] [(b, t', bl)]) (fun _ _ t _ => l.length - (intOf t).toNat)
  case atStart => exact ⟨0, _, -1, Nat.zero_le _, rfl, rfl, rfl, _, H⟩
  case round =>
    obtain ⟨k, sz, la, hk, rfl, rfl, hr, t', H⟩ := hrel
    by_cases hlt : k < l.length
    · have hs := seg_elem encN_len h k hlt
      have hbd := seg_bound hb hlt
      have hv : segV true bl (o + k * 3) 3 = ntcV l[k] := by simp only [segV, if_true]; rw [hs]; rfl
      have hstep : risingFrom n la (l.drop k) = (validB n l[k] && decide (la < l[k].of) && risingFrom n l[k].of (l.drop (k + 1))) := by rw [List.drop_eq_getElem_cons hlt]; rfl
      have HV := Lib.hid hv; have HR := Lib.hid (hr.trans hstep); clear hs hr hv hstep; clear h hb hB
      go_wp2_with (first | ((with_reducible show wpList _ _ _ (⟨_, .load _ _, _, _, _, _⟩ :: _) _ _); apply hw_loadR 0 rfl rfl H rfl; (focus exact hbd); (focus exact HV.out)) | ((first | ((with_reducible apply wlB); refine hw_box rfl rfl H ?_) | ((with_reducible apply wlA); refine hw_alloc rfl H ?_) | ((with_reducible apply wlS); first | refine hw_store 0 rfl rfl rfl H rfl rfl rfl (by simp) rfl ?_ | refine hw_store 1 rfl rfl rfl H rfl rfl rfl (by simp) rfl ?_ | refine hw_store 2 rfl rfl rfl H rfl rfl rfl (by simp) rfl ?_ | refine hw_store 3 rfl rfl rfl H rfl rfl rfl (by simp) rfl ?_)); clear H; intro w' H; (try simp only [Act.eval, Act.put, Value.cells, segV, seg, segPut, NS, Nat.reduceAdd] at H)) | ((with_reducible apply wlL); (first | apply hw_load 0 rfl rfl H rfl | apply hw_load 1 rfl rfl H rfl | apply hw_load 2 rfl rfl H rfl | apply hw_load 3 rfl rfl H rfl); (focus (simp; done)); (focus (simp only [segV, seg, NS]; rfl))) | ((with_reducible show wpList _ _ _ (⟨_, _, _, _, _, some _⟩ :: _) _ _); (first | refine hw_guardT rfl ?_ ?_ | refine hw_guardF rfl ?_ ?_) <;> (intro hgd; first | (exact absurd hgd (by decide)) | (cases hgd; done) | (cases hgd) | ((try simp only [hgd]); (try simp at hgd)))) | (go_at_call 122; refine (Valid_any _ _ _).mono ?_; rintro e w' ⟨rfl, hb⟩; obtain ⟨s1, hs1, H⟩ := H.call hb; clear hb))
      · refine bodyPost_ret (res1 rfl (rv_tmp rfl)) rfl ⟨?_, H.ret⟩
        rw [HR.out]; go_light; simp [*]; try (intro _; omega)
      · refine ⟨⟨k + 1, _, l[k].of, by omega, by go_num, rfl, ?_, _, H.drop1⟩, by simp [intOf]; omega⟩
        rw [HR.out]; go_light; simp [*]; try (intro _; omega)
      · refine bodyPost_ret (res1 rfl (rv_tmp rfl)) rfl ⟨?_, H.ret⟩
        rw [HR.out]; go_light; simp [*]; try (intro _; omega)
    · obtain rfl : k = l.length := by omega
      go_wp2
      refine bodyPost_ret (res1 rfl (rv_tmp rfl)) rfl ⟨?_, H.ret⟩
      rw [hr, List.drop_length]; rfl
set_option maxRecDepth 100000 in
set_option maxHeartbeats 2000000 in
theorem Rising_nil (n : Int) (w : World) : Calls Tryz.prog 231 #[.int .i64 n, .slice none 0 0] w (Ret (.bool true) w) := by
  go_enter Tryz.func231, Tryz.ntmps231
  have H := Hp.start NoS w
  go_wp2_with (first | ((first | ((with_reducible apply wlB); refine hw_box rfl rfl H ?_) | ((with_reducible apply wlA); refine hw_alloc rfl H ?_) | ((with_reducible apply wlS); first | refine hw_store 0 rfl rfl rfl H rfl rfl rfl (by simp) rfl ?_ | refine hw_store 1 rfl rfl rfl H rfl rfl rfl (by simp) rfl ?_ | refine hw_store 2 rfl rfl rfl H rfl rfl rfl (by simp) rfl ?_ | refine hw_store 3 rfl rfl rfl H rfl rfl rfl (by simp) rfl ?_)); clear H; intro w' H; (try simp only [Act.eval, Act.put, Value.cells, segV, seg, segPut, NS, Nat.reduceAdd] at H)) | ((with_reducible apply wlL); (first | apply hw_load 0 rfl rfl H rfl | apply hw_load 1 rfl rfl H rfl | apply hw_load 2 rfl rfl H rfl | apply hw_load 3 rfl rfl H rfl); (focus (simp; done)); (focus (simp only [segV, seg, NS]; rfl))))
  refine wp_loop_rounds 1 ?_
  rw [rounds_succ]
  go_wp2
  exact bodyPost_ret (res1 rfl (rv_tmp rfl)) rfl ⟨rfl, H.ret⟩
end Go.Proofs.YtccgpjhgfjfaoaaGreatDoor
/- Slices of the call's own that grow by append. -/
namespace Go.Proofs.YtccgpjhgfjfaoaaGreatDoor
open Go.RowKit

/-- v is a slice with n elements (of 'size' cells each: xs) whose block, if any, is L1. -/
inductive GL (e : TypeId) (size : Nat) : Value → Nat → List Value → List Bk → Prop where
  | nil : GL e size (.slice none 0 0) 0 [] []
  | row (b n cap : Nat) (xs pad : List Value) (h : xs.length = n * size) (hc : n ≤ cap) (hm : cap ≤ maxLen) (hs : xs.length + pad.length = cap * size) : GL e size (.slice (some ⟨b, 0, none⟩) n cap) n xs [(b, e, (xs ++ pad).toArray)]

class SlT (P : Program) (t : TypeId) (e : outParam TypeId) (size bytes : outParam Nat) : Prop where
  under : P.underlying t = some (.slice e)
  info : ∃ i z, P.info? e = some i ∧ i.zero = some z ∧ i.size = size ∧ i.bytes = bytes ∧ z.cells.size = size
  pos : 0 < size

section
variable {S : Nat → Prop} {w0 w w' : World} {sz : Nat} {L L0 L1 R : List Bk} {e : TypeId} {size n : Nat} {v : Value} {xs : List Value}

theorem Hp.perm (H : Hp S w0 w sz L R) (h : L.Perm L0) : Hp S w0 w sz L0 R :=
  ⟨H.keep, H.size, fun x hx => H.blk x (h.mem_iff.2 hx), fun x hx => H.own x (h.mem_iff.2 hx), (h.map _).nodup_iff.1 H.nodup, H.ro⟩
theorem GL.len (h : GL e size v n xs L1) : xs.length = n * size := by cases h <;> simp_all
theorem GL.owns (h : GL e size v n xs L1) (H : Hp S w0 w sz (L1 ++ L0) R) : w.ownsRow 0 e size v n xs := by
  cases h with
  | nil => exact World.ownsRow_nil _ _ _ _
  | row b _ cap _ pad h hc hm hs =>
    have hB := H.blk (b, e, (xs ++ pad).toArray) (by simp)
    exact ⟨h, .inr ⟨b, cap, _, rfl, Nat.zero_le _, hB, hc, hm, by simpa using hs, by simp [← h]⟩⟩
theorem Hp.grown (H : Hp S w0 w sz (L1 ++ L0) R) (hG : GL e size v n xs L1) {v' : Value} {n' : Nat} {xs' : List Value} (hown : w'.ownsRow 0 e size v' n' xs') (hg : w.grownBy w' v.ownBlock)
    (hat : v'.ownBlock = v.ownBlock ∨ v'.ownBlock = some w.heap.size) : ∃ sz' L1', sz ≤ sz' ∧ GL e size v' n' xs' L1' ∧ Hp S w0 w' sz' (L0 ++ L1') R := by
  have hne : ∀ x ∈ L0, some x.1 ≠ v.ownBlock := fun x hx he => by
    cases hG with
    | nil => simp [Value.ownBlock] at he
    | row b _ cap _ pad =>
      have : x.1 = b := by simpa [Value.ownBlock] using he
      have hn := H.nodup
      simp only [List.cons_append, List.nil_append, List.map_cons, List.nodup_cons] at hn
      exact hn.1 (List.mem_map.2 ⟨x, hx, this⟩)
  have hown0 : ∀ b, v.ownBlock = some b → (S b ∨ w0.heap.size ≤ b) ∧ b < w.heap.size := fun b hb => by
    cases hG with
    | nil => simp [Value.ownBlock] at hb
    | row b' _ cap _ pad =>
      have : b' = b := by simpa [Value.ownBlock] using hb
      subst this
      exact ⟨H.own (b', e, (xs ++ pad).toArray) (by simp), (H.blk (b', e, (xs ++ pad).toArray) (by simp)).lt⟩
  have hkeep : Keeps S w0 w' := H.keep.step (S' := fun k => some k = v.ownBlock) ⟨hg.os, hg.tape, hg.output, hg.size, fun k hk hs => hg.block k hk hs⟩ (fun i hi => (hown0 i hi.symm).1)
  have hL0 : ∀ x ∈ L0, Blk w' x.1 x.2.1 x.2.2 := fun x hx => (hg.block x.1 (H.blk x (by simp [hx])).lt (hne x hx)).trans (H.blk x (by simp [hx]))
  have hro : ∀ x ∈ R, Blk w' x.1 x.2.1 x.2.2 ∧ ¬ S x.1 ∧ x.1 < w0.heap.size := fun x hx => by
    obtain ⟨h1, h2, h3⟩ := H.ro x hx
    refine ⟨(hg.block x.1 h1.lt fun he => ?_).trans h1, h2, h3⟩
    rcases (hown0 x.1 he.symm).1 with h | h
    · exact h2 h
    · omega
  have hsz : sz ≤ w'.heap.size := by have := hg.size; rw [H.size] at this; exact this
  have hnd0 : (L0.map (·.1)).Nodup := by have := H.nodup; rw [List.map_append] at this; exact (List.nodup_append.1 this).2.1
  obtain ⟨hlen, ⟨rfl, rfl⟩ | ⟨g, cap, cur, rfl, _, hcur, hc, hm, hcs, htk⟩⟩ := hown
  · have : xs' = [] := List.eq_nil_of_length_eq_zero (by simpa using hlen)
    subst this
    exact ⟨w'.heap.size, [], hsz, .nil, hkeep, rfl, by simpa using hL0, fun x hx => H.own x (by simp at hx; simp [hx]), by simpa using hnd0, hro⟩
  · have hcur' : cur = (xs' ++ cur.toList.drop (n' * size)).toArray := by
      apply Array.ext'
      simp [← htk]
    have hnew : (S g ∨ w0.heap.size ≤ g) ∧ ∀ x ∈ L0, x.1 ≠ g := by
      rcases hat with h | h
      · have h' : v.ownBlock = some g := by rw [← h]; rfl
        exact ⟨(hown0 g h').1, fun x hx he => hne x hx (by rw [he, h'])⟩
      · have h' : g = w.heap.size := by simpa [Value.ownBlock] using h
        subst h'
        exact ⟨.inr H.keep.size, fun x hx he => by have := (H.blk x (by simp [hx])).lt; omega⟩
    refine ⟨w'.heap.size, [(g, e, (xs' ++ cur.toList.drop (n' * size)).toArray)], hsz, .row g n' cap xs' _ hlen hc hm ?_, hkeep, rfl, ?_, ?_, ?_, hro⟩
    · have := congrArg Array.size hcur'
      rw [hcs] at this
      simpa using this.symm
    · intro x hx
      rcases List.mem_append.1 hx with h | h
      · exact hL0 x h
      · obtain rfl := List.mem_singleton.1 h
        show w'.heap[g]? = _
        rw [hcur, ← hcur']
    · intro x hx
      rcases List.mem_append.1 hx with h | h
      · exact H.own x (by simp [h])
      · obtain rfl := List.mem_singleton.1 h
        exact hnew.1
    · rw [List.map_append, List.nodup_append]
      refine ⟨hnd0, by simp, ?_⟩
      intro a ha b hb
      obtain ⟨x, hx, rfl⟩ := List.mem_map.1 ha
      simp only [List.map_cons, List.map_nil, List.mem_singleton] at hb
      subst hb
      exact hnew.2 x hx

variable {P : Program} {ops : Array Oper} {Q : Exit → Act → World → Prop} {rest : List Oper} {a : Act} {d : Option Tmp} {ty t : TypeId} {pos : String} {after : Array Edge} {g : Option (Nat × Bool)}
theorem hw_append {s x : Operand} {bytes : Nat} [hT : SlT P t e size bytes] (L0 : List Bk)
    (hg : Region.wanted ⟨d, .call { callee := .builtin .append, args := #[s, x], argTypes := #[t, t] }, ty, pos, after, g⟩ (yielded ops a.tmps) = true)
    (hs : evL a s = some v) {A : Option Addr} {m c : Nat} (hx : evL a x = some (.slice A m c)) (H : Hp S w0 w sz L R) (hG : GL e size v n xs L1) (hL : L.Perm (L1 ++ L0))
    {news : List Value} (hn : news.length = m * size) (hA : A = none → m = 0 ∧ c = 0) (hc : ∀ ad, A = some ad → ∀ j u, news[j]? = some u → w.cell? (ad.add j) = some u) (h1 : news.all Value.oneCell' = true)
    (hb1 : n + m ≤ maxLen) (hb2 : (n + m) * bytes ≤ 140737488355328)
    (h : ∀ v' w' sz' L1', sz ≤ sz' → GL e size v' (n + m) (xs ++ news) L1' → (v' = .slice none 0 0 ↔ v = .slice none 0 0 ∧ m = 0) → Hp S w0 w' sz' (L0 ++ L1') R → wpList P ops Q rest (a.put d v') w') :
    wpList P ops Q (⟨d, .call { callee := .builtin .append, args := #[s, x], argTypes := #[t, t] }, ty, pos, after, g⟩ :: rest) a w := by
  obtain ⟨i, z, hi, hz, hsize, hby, hzs⟩ := hT.info
  have H1 := H.perm hL
  have hown := hG.owns H1
  have key : ∃ v' w', (Builtin.append_ #[t, t] ty #[v, .slice A m c]).run P w = .ok v' w' ∧ w'.ownsRow 0 e size v' (n + m) (xs ++ news) ∧ w.grownBy w' v.ownBlock ∧ (v' = .slice none 0 0 ↔ v = .slice none 0 0 ∧ m = 0) ∧
      (v'.ownBlock = v.ownBlock ∨ v'.ownBlock = some w.heap.size) := by
    cases A with
    | none =>
      obtain ⟨rfl, rfl⟩ := hA rfl
      have : news = [] := List.eq_nil_of_length_eq_zero (by simpa using hn)
      subst this
      exact ⟨v, w, run_append_owned_none w 0 t ty e i size hT.under hi v n xs hown, by simpa using hown, World.grownBy.refl w _, by simp, .inl rfl⟩
    | some ad =>
      obtain ⟨v', w', hr, h2, h3, h4, h5⟩ := run_append_own_at (P := P) w 0 t ty e i z size bytes hT.under hi hz hsize hby hzs hT.pos v n xs hown ad m c news hn (hc ad rfl) (by simpa using h1) hb1 hb2 (Nat.zero_le _)
      exact ⟨v', w', hr, h2, h3, h4, h5⟩
  obtain ⟨v', w', hr, h2, h3, h4, h5⟩ := key
  obtain ⟨sz', L1', hle, hG', H'⟩ := H1.grown hG h2 h3 h5
  refine wpList_step fun K hK => ?_
  rw [if_pos hg]
  unfold Oper.wp
  simp only [execOp, resolve, invoke, builtin, Sem.run_bind, Sem.run_pure, Result.andThen, List.map_toArray, List.map_cons, List.map_nil, evL_eval hs, evL_eval hx, hr, Oper.upon]
  exact hK _ _ (h v' w' sz' L1' hle hG' h4 H')
end
end Go.Proofs.YtccgpjhgfjfaoaaGreatDoor
/- Slices that are built and made; copy. -/
namespace Go.Proofs.YtccgpjhgfjfaoaaGreatDoor
open Go.RowKit

section
variable {S : Nat → Prop} {w0 w w' : World} {sz : Nat} {L L0 L1 R : List Bk} {e : TypeId} {size n bytes : Nat} {v : Value} {xs : List Value}
variable {P : Program} {ops : Array Oper} {Q : Exit → Act → World → Prop} {rest : List Oper} {a : Act} {d : Tmp} {ty t : TypeId} {pos : String} {after : Array Edge} {g : Option (Nat × Bool)}

theorem set_all (cs : Array Value) : ∀ (l : List Value) (k : Nat) (pre : List Value) (z : Array Value), z.size = pre.length + l.length → (∀ i, i < pre.length → z[i]? = pre[i]?) → pre.length = k →
    ((l.zipIdx k).foldl (fun cs (c, j) => cs.setIfInBounds (0 + j) c) z) = (pre ++ l).toArray
  | [], k, pre, z, hz, hp, _ => by
    simp only [List.zipIdx_nil, List.foldl_nil, List.append_nil]
    apply Array.ext_getElem?
    intro i
    by_cases hi : i < pre.length
    · rw [hp i hi]; simp
    · simp at hz
      rw [Array.getElem?_eq_none (by omega)]
      simp; omega
  | c :: l, k, pre, z, hz, hp, hk => by
    simp only [List.zipIdx_cons, List.foldl_cons]
    rw [set_all cs l (k + 1) (pre ++ [c]) (z.setIfInBounds (0 + k) c) (by simp at hz ⊢; omega) (fun i hi => ?_) (by simp; omega)]
    · simp
    · simp at hi
      rw [Array.getElem?_setIfInBounds]
      by_cases he : 0 + k = i
      · subst he
        simp at hz
        rw [if_pos rfl, if_pos (by omega), List.getElem?_append_right (by omega)]
        simp [hk]
      · rw [if_neg he, hp i (by omega), List.getElem?_append_left (by omega)]
theorem fill_one {z : Array Value} {v : Value} {size : Nat} (hz : z.size = size) (hv : v.cells.size = size) : Instr.fill (fun i => some (i * size, size)) z [(0, v)] = some v.cells := by
  simp only [Instr.fill, Nat.zero_mul, hv, ne_eq, not_true_eq_false, Nat.zero_add, hz, gt_iff_lt, Nat.lt_irrefl, decide_false, Bool.or_self, Bool.false_eq_true, if_false]
  have h := set_all #[] v.cells.toList 0 [] z (by simp [hz, hv]) (fun i hi => absurd hi (by simp)) rfl
  simp only [List.nil_append] at h
  have e : (v.cells.zipIdx.foldl (fun cs (x : Value × Nat) => cs.setIfInBounds (0 + x.2) x.1) z) = ((v.cells.toList.zipIdx 0).foldl (fun cs (x : Value × Nat) => cs.setIfInBounds (0 + x.2) x.1) z) := by
    rw [← Array.foldl_toList]; simp
  simpa using e.trans h

/-- Every place of the new row is written: one, two or five elements of one cell; one element of any size. -/
theorem run_buildSlice (hT : SlT P t e size bytes) (len : Nat) (parts : Array (Nat × Value)) (cells : Array Value) (w : World) (hlen : len * size ≤ 16777216)
    (hf : ∀ z : Array Value, z.size = len * size → Instr.fill (fun i => some (i * size, size)) z parts.toList = some cells) :
    (Instr.buildSlice t len parts).run P w = .ok (.slice (some ⟨w.heap.size, 0, none⟩) len len) (w.alloc (.cells cells e)) := by
  obtain ⟨i, z, hi, hz, hsize, hby, hzs⟩ := hT.info
  have h1 : ∀ w, (underlying t).run P w = .ok (.slice e) w := fun w => run_underlying hT.under w
  have h2 : ∀ w, (sizeOf e).run P w = .ok size w := fun w => by simp [sizeOf, typeInfo, hi, hsize]
  have h3 : ∀ w, (zeroValue e).run P w = .ok z w := fun w => by simp [zeroValue, typeInfo, hi, hz]
  unfold Instr.buildSlice
  simp only [Sem.run_bind, h1, Result.andThen, h2]
  rw [if_neg (by simp only [Nat.reducePow]; omega)]
  by_cases h0 : len * size = 0
  · simp only [h0, if_true, Sem.run_pure, Sem.run_bind, Result.andThen]
    rw [hf _ (by simp [h0])]
    simp only [newRow, newObj, Sem.run_bind, Sem.run_pure, Sem.run, Result.andThen]
    rfl
  · simp only [h0, if_false, Sem.run_bind, h3, Sem.run_pure, Result.andThen]
    rw [hf _ (by simp)]
    simp only [newRow, newObj, Sem.run_bind, Sem.run_pure, Sem.run, Result.andThen]
    rfl
theorem hw_build {len : Nat} {parts : Array (Nat × Operand)} [hT : SlT P t e size bytes] (hg : Region.wanted ⟨some d, .buildSlice t len parts, ty, pos, after, g⟩ (yielded ops a.tmps) = true)
    {pv : Array (Nat × Value)} (hp : parts.map (fun (i, x) => (i, a.eval x)) = pv) {cells : Array Value} (hlen : len * size ≤ 16777216)
    (hf : ∀ z : Array Value, z.size = len * size → Instr.fill (fun i => some (i * size, size)) z pv.toList = some cells) (H : Hp S w0 w sz L R)
    (h : ∀ w', Hp S w0 w' (sz + 1) ((sz, e, cells) :: L) R → wpList P ops Q rest (a.put (some d) (.slice (some ⟨sz, 0, none⟩) len len)) w') :
    wpList P ops Q (⟨some d, .buildSlice t len parts, ty, pos, after, g⟩ :: rest) a w := by
  refine wpList_step fun K hK => ?_
  rw [if_pos hg]
  unfold Oper.wp
  simp only [execOp, hp, Sem.run_bind, run_buildSlice hT len pv cells w hlen hf, Sem.run_pure, Result.andThen, Oper.upon, H.size]
  exact hK _ _ (h _ (H.alloc e cells))
theorem hw_build1 {x : Operand} [hT : SlT P t e size bytes] (hg : Region.wanted ⟨some d, .buildSlice t 1 #[(0, x)], ty, pos, after, g⟩ (yielded ops a.tmps) = true)
    {v : Value} (hx : evL a x = some v) {cs : Array Value} (hv : v.cells = cs) (hs : cs.size = size) (hle : size ≤ 1000) (H : Hp S w0 w sz L R)
    (h : ∀ w', Hp S w0 w' (sz + 1) ((sz, e, cs) :: L) R → wpList P ops Q rest (a.put (some d) (.slice (some ⟨sz, 0, none⟩) 1 1)) w') :
    wpList P ops Q (⟨some d, .buildSlice t 1 #[(0, x)], ty, pos, after, g⟩ :: rest) a w := by
  subst hv
  refine hw_build (hT := hT) hg (pv := #[(0, v)]) (by simp [evL_eval hx]) (by omega) (fun z hz => ?_) H h
  simpa using fill_one (by simpa using hz) hs
theorem hw_build0 [hT : SlT P t e size bytes] (hg : Region.wanted ⟨some d, .buildSlice t 0 #[], ty, pos, after, g⟩ (yielded ops a.tmps) = true) (H : Hp S w0 w sz L R)
    (h : ∀ w', Hp S w0 w' (sz + 1) ((sz, e, #[]) :: L) R → wpList P ops Q rest (a.put (some d) (.slice (some ⟨sz, 0, none⟩) 0 0)) w') :
    wpList P ops Q (⟨some d, .buildSlice t 0 #[], ty, pos, after, g⟩ :: rest) a w := by
  refine hw_build (hT := hT) hg (pv := #[]) (by simp) (by omega) (fun z hz => ?_) H h
  have : z = #[] := Array.eq_empty_of_size_eq_zero (by simpa using hz)
  subst this
  rfl

/-- make([]T, n). -/
theorem hw_make {l c : Operand} {kl kc : IntKind} {n : Nat} [hT : SlT P t e size bytes] {z : Value} [hz : ZeroV P e z] (hg : Region.wanted ⟨some d, .makeSlice t l c, ty, pos, after, g⟩ (yielded ops a.tmps) = true)
    (hl : evL a l = some (.int kl (n : Int))) (hc : evL a c = some (.int kc (n : Int))) (hb1 : bytes * n ≤ 140737488355328) (hb2 : n ≤ maxLen) (H : Hp S w0 w sz L R)
    (h : ∀ w' sz', sz < sz' → Hp S w0 w' sz' ((sz, e, madeCells z.cells (n * size)) :: L) R → wpList P ops Q rest (a.put (some d) (.slice (some ⟨sz, 0, none⟩) n n)) w') :
    wpList P ops Q (⟨some d, .makeSlice t l c, ty, pos, after, g⟩ :: rest) a w := by
  obtain ⟨i, z', hi, hz', hsize, hby, hzs⟩ := hT.info
  have hzz : z' = z := by
    have := hz.zero w
    simp [zeroValue, typeInfo, hi, hz'] at this
    exact this
  subst hzz
  obtain ⟨w', hrun, hown, hgr⟩ := run_make_full (P := P) w w.heap.size t e i z' size hT.under hi hz' hsize kl kc n (by rw [hby]; omega) hb2 (Nat.le_refl _)
  obtain ⟨hlen, ⟨hv, _⟩ | ⟨g', cap, cur, hv, hge, hcur, hcap, hm, hcs, htk⟩⟩ := hown
  · cases hv
  simp only [Value.slice.injEq, Option.some.injEq, Addr.mk.injEq] at hv
  obtain ⟨⟨rfl, _, _⟩, _, rfl⟩ := hv
  have hce : cur = madeCells z'.cells (n * size) := by
    apply Array.ext'
    rw [← htk, List.take_of_length_le (by simp [hcs])]
  subst hce
  have hlt : w.heap.size < w'.heap.size := (Array.getElem?_eq_some_iff.1 hcur).1
  have H' : Hp S w0 w' w'.heap.size ((sz, e, madeCells z'.cells (n * size)) :: L) R := by
    rw [← H.size]
    refine ⟨H.keep.trans ⟨hgr.os, hgr.tape, hgr.output, hgr.size, fun k hk _ => hgr.block k hk (by simp)⟩, rfl, ?_, ?_, ?_, fun x hx => ?_⟩
    · intro x hx
      rcases List.mem_cons.1 hx with rfl | hx
      · exact hcur
      · exact (hgr.block x.1 (H.blk x hx).lt (by simp)).trans (H.blk x hx)
    · intro x hx
      rcases List.mem_cons.1 hx with rfl | hx
      · exact .inr H.keep.size
      · exact H.own x hx
    · simp only [List.map_cons, List.nodup_cons]
      refine ⟨fun h => ?_, H.nodup⟩
      obtain ⟨x, hx, he⟩ := List.mem_map.1 h
      have := (H.blk x hx).lt
      omega
    · obtain ⟨h1, h2, h3⟩ := H.ro x hx
      exact ⟨(hgr.block x.1 h1.lt (by simp)).trans h1, h2, h3⟩
  refine wpList_step fun K hK => ?_
  rw [if_pos hg]
  unfold Oper.wp
  simp only [execOp, evL_eval hl, evL_eval hc, hrun, Sem.run_bind, Sem.run_pure, Result.andThen, Oper.upon]
  rw [H.size]
  exact hK _ _ (h _ _ (by rw [← H.size]; exact hlt) H')
/-- make([]T, 0, n). -/
theorem hw_make0 {l c : Operand} {kl kc : IntKind} {n : Nat} [hT : SlT P t e size bytes] (hg : Region.wanted ⟨some d, .makeSlice t l c, ty, pos, after, g⟩ (yielded ops a.tmps) = true)
    (hl : evL a l = some (.int kl 0)) (hc : evL a c = some (.int kc (n : Int))) (hb1 : bytes * n ≤ 140737488355328) (hb2 : n ≤ maxLen) (H : Hp S w0 w sz L R)
    (h : ∀ w' sz' L1, sz < sz' → GL e size (.slice (some ⟨sz, 0, none⟩) 0 n) 0 [] L1 → Hp S w0 w' sz' (L ++ L1) R → wpList P ops Q rest (a.put (some d) (.slice (some ⟨sz, 0, none⟩) 0 n)) w') :
    wpList P ops Q (⟨some d, .makeSlice t l c, ty, pos, after, g⟩ :: rest) a w := by
  obtain ⟨i, z', hi, hz', hsize, hby, hzs⟩ := hT.info
  obtain ⟨w', hrun, hown, hgr⟩ := run_make_own (P := P) w w.heap.size t e i z' size hT.under hi hz' hsize kl kc n (by rw [hby]; omega) hb2 (Nat.le_refl _)
  have hlt : w.heap.size < w'.heap.size := (hown.lt w.heap.size rfl).2
  have hown0 : w'.ownsRow 0 e size (.slice (some ⟨w.heap.size, 0, none⟩) 0 n) 0 [] := by
    obtain ⟨h1, ⟨hv, _⟩ | ⟨g', cap, cur, hv, hge, hr⟩⟩ := hown
    · cases hv
    · exact ⟨h1, .inr ⟨g', cap, cur, hv, Nat.zero_le _, hr⟩⟩
  obtain ⟨sz', L1', hle, hG, H'⟩ := Hp.grown (L1 := []) (L0 := L) (v := .slice none 0 0) (n := 0) (xs := []) (e := e) (size := size) H .nil hown0 hgr (.inr rfl)
  have hlt' : sz < sz' := by have := H'.size; rw [← H.size, ← this]; exact hlt
  refine wpList_step fun K hK => ?_
  rw [if_pos hg]
  unfold Oper.wp
  simp only [execOp, evL_eval hl, evL_eval hc, hrun, Sem.run_bind, Sem.run_pure, Result.andThen, Oper.upon]
  rw [H.size] at hG ⊢
  exact hK _ _ (h _ _ _ hlt' hG H')

/-- copy into a known block. -/
theorem hw_copy {x y : Operand} {tx ty' : TypeId} {b o dl dc m : Nat} {A : Option Addr} {sl sc : Nat} {tb : TypeId} {cs : Array Value} {dst : Option Tmp} (j : Nat) [hT : SlT P tx e size bytes]
    (hg : Region.wanted ⟨dst, .call { callee := .builtin .copy, args := #[x, y], argTypes := #[tx, ty'] }, ty, pos, after, g⟩ (yielded ops a.tmps) = true)
    (hx : evL a x = some (.slice (some ⟨b, o, none⟩) dl dc)) (hy : evL a y = some (.slice A sl sc)) (H : Hp S w0 w sz L R) (hj : L[j]? = some (b, tb, cs)) (hm : Nat.min sl dl = m)
    {news : List Value} (hn : news.length = m * size) (hA : A = none → sl = 0) (hc : ∀ ad, A = some ad → ∀ j u, news[j]? = some u → w.cell? (ad.add j) = some u) (h1 : news.all Value.oneCell' = true) (hfit : o + m * size ≤ cs.size)
    (h : ∀ w', Hp S w0 w' sz (L.set j (b, tb, segPut cs o news)) R → wpList P ops Q rest (a.put dst (goInt m)) w') :
    wpList P ops Q (⟨dst, .call { callee := .builtin .copy, args := #[x, y], argTypes := #[tx, ty'] }, ty, pos, after, g⟩ :: rest) a w := by
  obtain ⟨i, z', hi, hz', hsize, hby, hzs⟩ := hT.info
  have hB := H.blk _ (List.mem_of_getElem? hj)
  have h2 : ∀ w, (sizeOf e).run P w = .ok size w := fun w => by simp [sizeOf, typeInfo, hi, hsize]
  have hfc : (Builtin.firstCells size m (.slice A sl sc)).run P w = .ok news.toArray w := by
    cases A with
    | none =>
      have : sl = 0 := hA rfl
      subst this
      have hm0 : m = 0 := by rw [← hm]; exact Nat.min_eq_left (Nat.zero_le _)
      subst hm0
      have : news = [] := List.eq_nil_of_length_eq_zero (by simpa using hn)
      subst this
      simp [Builtin.firstCells]
    | some ad =>
      have := run_loadCells_list (P := P) w ad news (hc ad rfl)
      simp only [Builtin.firstCells, Nat.mul_comm m size, ← hn]
      rw [Nat.mul_comm] at hn
      rw [← hn]
      exact this
  have hst := run_storeCells_at (P := P) b o tb news 0 cs w hB (by omega) (by simpa using h1)
  refine wpList_step fun K hK => ?_
  rw [if_pos hg]
  unfold Oper.wp
  have hrun : (Builtin.copy_ #[tx, ty'] ty #[.slice (some ⟨b, o, none⟩) dl dc, .slice A sl sc]).run P w = .ok (goInt m) (w.setRow b (segPut cs o news)) := by
    simp only [Builtin.copy_, Builtin.lenOf, Sem.run_bind, Sem.run_pure, Result.andThen, run_underlying hT.under, h2]
    simp only [hm, hfc, List.getElem?_toArray, List.getElem?_cons_zero, List.getElem?_cons_succ, Sem.run_bind, Sem.run_pure, Result.andThen, run_underlying hT.under, h2]
    simp only [Nat.add_zero] at hst
    rw [hst]
    simp [segPut]
  simp only [execOp, resolve, invoke, builtin, Sem.run_bind, Sem.run_pure, Result.andThen, List.map_toArray, List.map_cons, List.map_nil, evL_eval hx, evL_eval hy, hrun, Oper.upon]
  exact hK _ _ (h _ (H.put j hj _))
end
end Go.Proofs.YtccgpjhgfjfaoaaGreatDoor
/- A callee's memory joined to the caller's. -/
namespace Go.Proofs.YtccgpjhgfjfaoaaGreatDoor
open Go.RowKit

/-- What the callee leaves (list L', since w), in the place of the part La of what the caller knows. -/
theorem Hp.trans {S Sf : Nat → Prop} {w0 w w' : World} {sz sz' : Nat} {L La Lb L' R R' : List Bk} (H : Hp S w0 w sz L R) (hL : L.Perm (La ++ Lb)) (H' : Hp Sf w w' sz' L' R') (hf : ∀ k, Sf k → k ∈ La.map (·.1)) :
    sz ≤ sz' ∧ Hp S w0 w' sz' (Lb ++ L') R := by
  have H1 := H.perm hL
  have hnd := H1.nodup
  rw [List.map_append, List.nodup_append] at hnd
  obtain ⟨hna, hnb, hdis⟩ := hnd
  have hownS : ∀ k, Sf k → S k ∨ w0.heap.size ≤ k := fun k hk => by
    obtain ⟨x, hx, rfl⟩ := List.mem_map.1 (hf k hk)
    exact H1.own x (by simp [hx])
  have hle : w.heap.size ≤ w'.heap.size := H'.keep.size
  have hsz : sz ≤ sz' := by rw [← H.size, ← H'.size]; exact hle
  refine ⟨hsz, H.keep.step H'.keep hownS, H'.size, ?_, ?_, ?_, fun x hx => ?_⟩
  · intro x hx
    rcases List.mem_append.1 hx with h | h
    · have hB := H1.blk x (by simp [h])
      refine (H'.keep.block x.1 hB.lt fun hs => ?_).trans hB
      exact hdis x.1 (hf x.1 hs) x.1 (List.mem_map_of_mem h) rfl
    · exact H'.blk x h
  · intro x hx
    rcases List.mem_append.1 hx with h | h
    · exact H1.own x (by simp [h])
    · rcases H'.own x h with h1 | h1
      · exact hownS _ h1
      · exact .inr (Nat.le_trans H.keep.size h1)
  · rw [List.map_append, List.nodup_append]
    refine ⟨hnb, H'.nodup, fun a ha b hb he => ?_⟩
    subst he
    obtain ⟨x, hx, hxa⟩ := List.mem_map.1 ha
    obtain ⟨y, hy, hya⟩ := List.mem_map.1 hb
    rcases H'.own y hy with h1 | h1
    · exact hdis a (by rw [← hya]; exact hf _ h1) a ha rfl
    · have := (H1.blk x (by simp [hx])).lt
      omega
  · obtain ⟨h1, h2, h3⟩ := H.ro x hx
    refine ⟨(H'.keep.block x.1 h1.lt fun hs => ?_).trans h1, h2, h3⟩
    rcases hownS _ hs with h | h
    · exact h2 h
    · omega
/-- A callee that leaves only new blocks. -/
theorem Hp.fresh {S : Nat → Prop} {w0 w w' : World} {sz sz' : Nat} {L L' R R' : List Bk} (H : Hp S w0 w sz L R) (H' : Hp NoS w w' sz' L' R') : sz ≤ sz' ∧ Hp S w0 w' sz' (L ++ L') R :=
  H.trans (La := []) (List.Perm.refl _) H' (fun _ h => h.elim)
theorem Hp.toRet {w w' : World} {sz : Nat} {L R : List Bk} {v : Value} (H : Hp NoS w w' sz L R) : Ret v w (.returned v) w' := ⟨rfl, H.ret⟩
/-- Blocks that were there, and are known, at the call's beginning: those that it may write. -/
theorem Hp.own1 (w : World) {b : Nat} {t : TypeId} {cs : Array Value} (h : Blk w b t cs) : Hp (fun k => k = b) w w w.heap.size [(b, t, cs)] [] :=
  ⟨Keeps.refl _ _, rfl, fun x hx => by obtain rfl := List.mem_singleton.1 hx; exact h, fun x hx => by obtain rfl := List.mem_singleton.1 hx; exact .inl rfl, by simp, fun _ h => by cases h⟩

/-! ### bytes -/
abbrev bv (b : UInt8) : Value := .int .u8 (b.toNat : Int)
theorem bv_one (l : List UInt8) : (l.map bv).all Value.oneCell' = true := by simp [bv, Value.oneCell']
instance : Ty Tryz.prog 4 false 1 := ⟨fun _ => by kernel_rfl, fun _ => by kernel_rfl, fun _ => rfl⟩
instance : Ty Tryz.prog 5 false 1 := ⟨fun _ => by kernel_rfl, fun _ => by kernel_rfl, fun _ => rfl⟩
instance : SlT Tryz.prog 22 5 1 1 := ⟨by kernel_rfl, info_parts (by kernel_rfl : (Tryz.prog.info? 5).map (fun i => (i.zero, i.size, i.bytes)) = some (some (.int .u8 0), 1, 1)) |>.elim fun i h => ⟨i, _, h.1, h.2.1, h.2.2.1, h.2.2.2, rfl⟩, by omega⟩
instance : ZeroV Tryz.prog 5 (.int .u8 0) := ⟨fun _ => by kernel_rfl⟩
end Go.Proofs.YtccgpjhgfjfaoaaGreatDoor
/- disk: a disk is one block of 260 cells. -/
namespace Go.Proofs.YtccgpjhgfjfaoaaGreatDoor
open Go.RowKit

structure Dsk where
  im : List UInt8
  off : Bool
  fused : Bool
  fuse : Int
  writes : Int
abbrev tDisk : TypeId := 89
def dskT (d : Dsk) : List Value := [.bool d.off, .bool d.fused, .int .i64 d.fuse, .int .i64 d.writes]
def dskC (d : Dsk) : Array Value := (d.im.map bv ++ dskT d).toArray
def newDsk : Dsk := ⟨List.replicate 256 0, false, false, 0, 0⟩
theorem dsk_size {d : Dsk} (h : d.im.length = 256) : (dskC d).size = 260 := by simp [dskC, dskT, h]
theorem dsk_drop {d : Dsk} (h : d.im.length = 256) (k : Nat) : (dskC d).toList.drop (256 + k) = (dskT d).drop k := by
  simp only [dskC]
  rw [List.drop_append]
  simp [h]
theorem dsk_bd {d : Dsk} (h : d.im.length = 256) {k : Nat} (hk : k + 1 ≤ 260) : k + 1 ≤ (dskC d).size := by rw [dsk_size h]; exact hk
theorem dsk_off {d : Dsk} (h : d.im.length = 256) : segV false (dskC d) 256 1 = .bool d.off := by
  simp only [segV, seg, Bool.false_eq_true, if_false]; rw [show 256 = 256 + 0 from rfl, dsk_drop h]; rfl
theorem dsk_fused {d : Dsk} (h : d.im.length = 256) : segV false (dskC d) 257 1 = .bool d.fused := by
  simp only [segV, seg, Bool.false_eq_true, if_false]; rw [show 257 = 256 + 1 from rfl, dsk_drop h]; rfl
theorem dsk_fuse {d : Dsk} (h : d.im.length = 256) : segV false (dskC d) 258 1 = .int .i64 d.fuse := by
  simp only [segV, seg, Bool.false_eq_true, if_false]; rw [show 258 = 256 + 2 from rfl, dsk_drop h]; rfl
theorem dsk_writes {d : Dsk} (h : d.im.length = 256) : segV false (dskC d) 259 1 = .int .i64 d.writes := by
  simp only [segV, seg, Bool.false_eq_true, if_false]; rw [show 259 = 256 + 3 from rfl, dsk_drop h]; rfl
theorem dsk_im {d : Dsk} (h : d.im.length = 256) : segV true (dskC d) 0 256 = .agg (d.im.map bv).toArray := by
  simp only [segV, seg, if_true, dskC, List.drop_zero]
  rw [List.take_append_of_le_length (by simp [h]), List.take_of_length_le (by simp [h])]
theorem dsk_put {d : Dsk} (h : d.im.length = 256) (k : Nat) (v : Value) : segPut (dskC d) (256 + k) [v] = (d.im.map bv ++ (dskT d).take k ++ v :: (dskT d).drop (k + 1)).toArray := by
  have h1 : (dskC d).toList.drop (256 + k + [v].length) = (dskT d).drop (k + 1) := by
    rw [← dsk_drop h, Nat.add_assoc]; rfl
  unfold segPut
  rw [h1]
  simp only [dskC]
  rw [List.take_append]
  simp only [List.length_map, h, Nat.add_sub_cancel_left]
  rw [List.take_of_length_le (by simp [h])]
  simp
theorem put_off {d : Dsk} (h : d.im.length = 256) (v : Bool) : segPut (dskC d) 256 [.bool v] = dskC { d with off := v } := by
  rw [show 256 = 256 + 0 from rfl, dsk_put h]; simp [dskC, dskT]
theorem put_fused {d : Dsk} (h : d.im.length = 256) (v : Bool) : segPut (dskC d) 257 [.bool v] = dskC { d with fused := v } := by
  rw [show 257 = 256 + 1 from rfl, dsk_put h]; simp [dskC, dskT]
theorem put_fuse {d : Dsk} (h : d.im.length = 256) (v : Int) : segPut (dskC d) 258 [.int .i64 v] = dskC { d with fuse := v } := by
  rw [show 258 = 256 + 2 from rfl, dsk_put h]; simp [dskC, dskT]
theorem put_writes {d : Dsk} (h : d.im.length = 256) (v : Int) : segPut (dskC d) 259 [.int .i64 v] = dskC { d with writes := v } := by
  rw [show 259 = 256 + 3 from rfl, dsk_put h]; simp [dskC, dskT]

section
variable {S : Nat → Prop} {w0 w w' : World} {sz : Nat} {L R : List Bk} {v : Value}
variable {P : Program} {ops : Array Oper} {Q : Exit → Act → World → Prop} {rest : List Oper} {a : Act} {d : Tmp} {ty t : TypeId} {pos : String} {after : Array Edge} {g : Option (Nat × Bool)}
theorem hw_build00 (t : TypeId) (cells : Array Value) (hg : Region.wanted ⟨some d, .build t #[], ty, pos, after, g⟩ (yielded ops a.tmps) = true) (hb : P.built t [] = some cells)
    (h : wpList P ops Q rest (a.put (some d) (.agg cells)) w) : wpList P ops Q (⟨some d, .build t #[], ty, pos, after, g⟩ :: rest) a w := by
  refine wpList_step fun K hK => ?_
  rw [if_pos hg]
  unfold Oper.wp
  have := run_build (P := P) w t #[] cells (by simpa using hb)
  simp only [execOp, List.map_toArray, List.map_nil, this, Sem.run_bind, Sem.run_pure, Result.andThen, Oper.upon]
  exact hK _ _ h
end
theorem built_disk : Tryz.prog.built tDisk [] = some (dskC newDsk) := by kernel_rfl
set_option maxRecDepth 100000 in
set_option maxHeartbeats 2000000 in
theorem New_any (w : World) : Calls Tryz.prog 47 #[] w fun e w' => ∃ sz b, e = .returned (.pointer (some ⟨b, 0, none⟩)) ∧ Hp NoS w w' sz [(b, tDisk, dskC newDsk)] [] := by
  go_enter Tryz.func47, Tryz.ntmps47
  have H := Hp.start NoS w
  go_wp2_with (first | (refine hw_build00 tDisk (dskC newDsk) rfl built_disk ?_) | ((with_reducible apply wlB); refine hw_box rfl rfl H ?_; clear H; intro w' H; (try simp only [Act.eval, Act.put, Value.cells, segV, seg, segPut, NS, Nat.reduceAdd] at H)))
  exact bodyPost_ret (res1 rfl (rv_tmp rfl)) rfl ⟨_, _, rfl, H⟩
section
variable {w : World} {b : Nat} {d : Dsk}
set_option maxRecDepth 100000 in
set_option maxHeartbeats 2000000 in
theorem On_any (hB : Blk w b tDisk (dskC d)) (hd : d.im.length = 256) : Calls Tryz.prog 201 #[.pointer (some ⟨b, 0, none⟩)] w (Ret (.bool !d.off) w) := by
  go_enter Tryz.func201, Tryz.ntmps201
  have H := (Hp.start NoS w).addR hB id
  go_wp2_with (first | ((with_reducible show wpList _ _ _ (⟨_, .load _ _, _, _, _, _⟩ :: _) _ _); first | (apply hw_loadR 0 rfl rfl H rfl; (focus (exact dsk_bd (by first | assumption | exact hq _ (by decide)) (by decide))); (focus (first | exact dsk_off (by first | assumption | exact hq _ (by decide)) | exact dsk_fused (by first | assumption | exact hq _ (by decide)) | exact dsk_fuse (by first | assumption | exact hq _ (by decide)) | exact dsk_writes (by first | assumption | exact hq _ (by decide))))) | (apply hw_load 0 rfl rfl H rfl; (focus (exact dsk_bd (by first | assumption | exact hq _ (by decide)) (by decide))); (focus (first | exact dsk_off (by first | assumption | exact hq _ (by decide)) | exact dsk_fused (by first | assumption | exact hq _ (by decide)) | exact dsk_fuse (by first | assumption | exact hq _ (by decide)) | exact dsk_writes (by first | assumption | exact hq _ (by decide)))))))
  exact bodyPost_ret (res1 rfl (rv_tmp rfl)) rfl ⟨rfl, H.ret⟩
set_option maxRecDepth 100000 in
set_option maxHeartbeats 2000000 in
theorem On_nil : Calls Tryz.prog 201 #[.pointer none] w (Ret (.bool false) w) := by
  go_enter Tryz.func201, Tryz.ntmps201
  have H := Hp.start NoS w
  go_wp2_with (first | ((with_reducible show wpList _ _ _ (⟨_, .load _ _, _, _, _, _⟩ :: _) _ _); first | (apply hw_loadR 0 rfl rfl H rfl; (focus (exact dsk_bd (by first | assumption | exact hq _ (by decide)) (by decide))); (focus (first | exact dsk_off (by first | assumption | exact hq _ (by decide)) | exact dsk_fused (by first | assumption | exact hq _ (by decide)) | exact dsk_fuse (by first | assumption | exact hq _ (by decide)) | exact dsk_writes (by first | assumption | exact hq _ (by decide))))) | (apply hw_load 0 rfl rfl H rfl; (focus (exact dsk_bd (by first | assumption | exact hq _ (by decide)) (by decide))); (focus (first | exact dsk_off (by first | assumption | exact hq _ (by decide)) | exact dsk_fused (by first | assumption | exact hq _ (by decide)) | exact dsk_fuse (by first | assumption | exact hq _ (by decide)) | exact dsk_writes (by first | assumption | exact hq _ (by decide)))))))
  exact bodyPost_ret (res1 rfl (rv_tmp rfl)) rfl ⟨rfl, H.ret⟩
set_option maxRecDepth 100000 in
set_option maxHeartbeats 2000000 in
theorem Left_any (hB : Blk w b tDisk (dskC d)) (hd : d.im.length = 256) : Calls Tryz.prog 20 #[.pointer (some ⟨b, 0, none⟩)] w (Ret (.int .i64 (if d.fused then d.fuse else -1)) w) := by
  go_enter Tryz.func20, Tryz.ntmps20
  have H := (Hp.start NoS w).addR hB id
  go_wp2_with (first | ((with_reducible show wpList _ _ _ (⟨_, .load _ _, _, _, _, _⟩ :: _) _ _); first | (apply hw_loadR 0 rfl rfl H rfl; (focus (exact dsk_bd (by first | assumption | exact hq _ (by decide)) (by decide))); (focus (first | exact dsk_off (by first | assumption | exact hq _ (by decide)) | exact dsk_fused (by first | assumption | exact hq _ (by decide)) | exact dsk_fuse (by first | assumption | exact hq _ (by decide)) | exact dsk_writes (by first | assumption | exact hq _ (by decide))))) | (apply hw_load 0 rfl rfl H rfl; (focus (exact dsk_bd (by first | assumption | exact hq _ (by decide)) (by decide))); (focus (first | exact dsk_off (by first | assumption | exact hq _ (by decide)) | exact dsk_fused (by first | assumption | exact hq _ (by decide)) | exact dsk_fuse (by first | assumption | exact hq _ (by decide)) | exact dsk_writes (by first | assumption | exact hq _ (by decide)))))))
  all_goals exact bodyPost_ret (res1 rfl (rv_tmp rfl)) rfl ⟨by go_light; simp_all, H.ret⟩
def Upd (b : Nat) (v : Value) (d' : Dsk) (w : World) : Ending → World → Prop := fun e w' => ∃ sz, e = .returned v ∧ Hp (fun k => k = b) w w' sz [(b, tDisk, dskC d')] []
set_option maxRecDepth 100000 in
set_option maxHeartbeats 2000000 in
theorem Cut_any (hB : Blk w b tDisk (dskC d)) (hd : d.im.length = 256) : Calls Tryz.prog 63 #[.pointer (some ⟨b, 0, none⟩)] w (Upd b (.tuple #[]) { d with off := true } w) := by
  go_enter Tryz.func63, Tryz.ntmps63
  have H := Hp.own1 w hB
  go_wp2_with (first | ((with_reducible show wpList _ _ _ (⟨_, .store _ _ _, _, _, _, _⟩ :: _) _ _); refine hw_store 0 rfl rfl rfl H rfl rfl rfl (dsk_bd (by first | assumption | exact hq _ (by decide)) (by decide)) rfl ?_; clear H; intro w' H; rw [List.set_cons_zero] at H; (first | rw [put_off (by first | assumption | exact hq _ (by decide))] at H | rw [put_fused (by first | assumption | exact hq _ (by decide))] at H | rw [put_fuse (by first | assumption | exact hq _ (by decide))] at H | rw [put_writes (by first | assumption | exact hq _ (by decide))] at H)))
  exact bodyPost_ret (res0 rfl) rfl ⟨_, rfl, H⟩
set_option maxRecDepth 100000 in
set_option maxHeartbeats 2000000 in
theorem Restore_any (hB : Blk w b tDisk (dskC d)) (hd : d.im.length = 256) : Calls Tryz.prog 66 #[.pointer (some ⟨b, 0, none⟩)] w (Upd b (.tuple #[]) { d with off := false } w) := by
  go_enter Tryz.func66, Tryz.ntmps66
  have H := Hp.own1 w hB
  go_wp2_with (first | ((with_reducible show wpList _ _ _ (⟨_, .store _ _ _, _, _, _, _⟩ :: _) _ _); refine hw_store 0 rfl rfl rfl H rfl rfl rfl (dsk_bd (by first | assumption | exact hq _ (by decide)) (by decide)) rfl ?_; clear H; intro w' H; rw [List.set_cons_zero] at H; (first | rw [put_off (by first | assumption | exact hq _ (by decide))] at H | rw [put_fused (by first | assumption | exact hq _ (by decide))] at H | rw [put_fuse (by first | assumption | exact hq _ (by decide))] at H | rw [put_writes (by first | assumption | exact hq _ (by decide))] at H)))
  exact bodyPost_ret (res0 rfl) rfl ⟨_, rfl, H⟩
end
end Go.Proofs.YtccgpjhgfjfaoaaGreatDoor
/- disk: its bytes; reading and writing of sectors. -/
namespace Go.Proofs.YtccgpjhgfjfaoaaGreatDoor
open Go.RowKit

instance : Ty Tryz.prog 87 true 256 := ⟨fun _ => by kernel_rfl, fun _ => by kernel_rfl, fun h => by cases h⟩
instance : Ty Tryz.prog 86 true 32 := ⟨fun _ => by kernel_rfl, fun _ => by kernel_rfl, fun h => by cases h⟩
def z32 : List UInt8 := List.replicate 32 0
instance : ZeroV Tryz.prog 86 (.agg (z32.map bv).toArray) := ⟨fun _ => by kernel_rfl⟩
class ArT (P : Program) (t : TypeId) (n : outParam Nat) (e : outParam TypeId) : Prop where
  under : P.underlying t = some (.array n e)
instance : ArT Tryz.prog 87 8 86 := ⟨by kernel_rfl⟩
section
variable {S : Nat → Prop} {w0 w w' : World} {sz : Nat} {L R : List Bk} {v : Value}
variable {P : Program} {ops : Array Oper} {Q : Exit → Act → World → Prop} {rest : List Oper} {a : Act} {d : Tmp} {ty t e : TypeId} {pos : String} {after : Array Edge} {g : Option (Nat × Bool)}
theorem run_index_agg {n size : Nat} {agg : Bool} {cs : Array Value} {k : IntKind} (h : P.underlying t = some (.array n e)) (he : Ty P e agg size) (i : Nat) (hi : i < n) (hs : cs.size = n * size) (w : World) : (Instr.index t (.agg cs) (.int k i)).run P w = .ok (segV agg cs (i * size) size) w := by
  have hk := he.kind w
  have hz := he.size w
  have hb : i * size + size ≤ cs.size := by have : (i + 1) * size ≤ n * size := Nat.mul_le_mul_right size hi; rw [Nat.add_mul] at this; omega
  simp [Instr.index, run_underlying h, asIntOf, hi, go_sem, hk, hz]
  cases hag : agg with
  | true => 
    simp only [if_true, segV, seg]
    congr 2
    apply Array.ext'
    simp [List.extract_eq_take_drop]
  | false =>
    subst hag
    obtain rfl := he.one rfl
    simp only [Bool.false_eq_true, if_false, segV, seg]
    simp at hb ⊢
    have hlt : i < cs.size := by omega
    simp [hlt, List.drop_eq_getElem_cons (l := cs.toList) (i := i) (by simpa using hlt)]
theorem hw_index {x y : Operand} {cs : Array Value} {n size : Nat} {agg : Bool} {k : IntKind} {i : Nat} (hg : Region.wanted ⟨some d, .index t x y, ty, pos, after, g⟩ (yielded ops a.tmps) = true)
    (hx : evL a x = some (.agg cs)) (hy : evL a y = some (.int k (i : Int))) [hu : ArT P t n e] [he : Ty P e agg size] (hi : i < n) (hs : cs.size = n * size) {v : Value} (hv : segV agg cs (i * size) size = v)
    (h : wpList P ops Q rest (a.put (some d) v) w) : wpList P ops Q (⟨some d, .index t x y, ty, pos, after, g⟩ :: rest) a w := by
  subst hv
  refine wpList_step fun K hK => ?_
  rw [if_pos hg]
  unfold Oper.wp
  simp only [execOp, evL_eval hx, evL_eval hy, run_index_agg hu.under he i hi hs, Sem.run_bind, Sem.run_pure, Result.andThen, Oper.upon]
  exact hK _ _ h
theorem cells_of {w : World} {b o n : Nat} {t : TypeId} {cs : Array Value} {news : List Value} (hB : Blk w b t cs) (h : seg cs o n = news) : ∀ ad, some (⟨b, o, none⟩ : Addr) = some ad → ∀ j u, news[j]? = some u → w.cell? (ad.add j) = some u := by
  intro ad had j u hu
  cases had
  subst h
  rw [addr_add, hB.cell]
  unfold seg at hu
  rw [List.getElem?_take] at hu
  split at hu
  · simpa using hu
  · cases hu
theorem Hp.noR (H : Hp S w0 w sz L R) : Hp S w0 w sz L [] := ⟨H.keep, H.size, H.blk, H.own, H.nodup, fun _ h => by cases h⟩
theorem GL.cast {e : TypeId} {size n n' : Nat} {v : Value} {xs xs' : List Value} {L1 : List Bk} (h : GL e size v n xs L1) (hn : n = n') (hx : xs = xs') : GL e size v n' xs' L1 := by subst hn hx; exact h
end
section
variable {w : World} {b : Nat} {d : Dsk}
set_option maxRecDepth 100000 in
set_option maxHeartbeats 2000000 in
theorem Fuse_any (hB : Blk w b tDisk (dskC d)) (hd : d.im.length = 256) (k : Int) : Calls Tryz.prog 65 #[.pointer (some ⟨b, 0, none⟩), .int .i64 k] w (Upd b (.tuple #[]) { d with fused := decide (0 ≤ k), fuse := if k < 0 then 0 else k } w) := by
  go_enter Tryz.func65, Tryz.ntmps65
  have H := Hp.own1 w hB
  go_wp2_with (first | ((with_reducible show wpList _ _ _ (⟨_, .store _ _ _, _, _, _, _⟩ :: _) _ _); refine hw_store 0 rfl rfl rfl H rfl rfl rfl (dsk_bd (by first | assumption | exact hq _ (by decide)) (by decide)) rfl ?_; clear H; intro w' H; rw [List.set_cons_zero] at H; (first | rw [put_off (by first | assumption | exact hq _ (by decide))] at H | rw [put_fused (by first | assumption | exact hq _ (by decide))] at H | rw [put_fuse (by first | assumption | exact hq _ (by decide))] at H | rw [put_writes (by first | assumption | exact hq _ (by decide))] at H)))
  · rw [if_pos h] at H; exact bodyPost_ret (res0 rfl) rfl ⟨w.heap.size, rfl, H⟩
  · rw [if_neg (by omega), decide_eq_true h] at H; exact bodyPost_ret (res0 rfl) rfl ⟨w.heap.size, rfl, H⟩
def mayE (d : Dsk) (s : Int) : Int := if d.off then 100 else if s < 0 ∨ 8 ≤ s then 101 else 0
set_option maxRecDepth 100000 in
set_option maxHeartbeats 2000000 in
theorem may_any (hB : Blk w b tDisk (dskC d)) (hd : d.im.length = 256) (s : Int) : Calls Tryz.prog 233 #[.pointer (some ⟨b, 0, none⟩), .int .i64 s] w (Ret (.int .i64 (mayE d s)) w) := by
  go_enter Tryz.func233, Tryz.ntmps233
  have H := (Hp.start NoS w).addR hB id
  go_wp2_with (first | (go_at_call 201; refine (On_any (H.ro _ (.head _)).1 hd).mono ?_; rintro e w' ⟨rfl, hb⟩; obtain ⟨s1, hs1, H⟩ := H.call hb; clear hb))
  all_goals (refine bodyPost_ret (res1 rfl (rv_tmp rfl)) rfl ⟨?_, H.ret⟩; go_light; clear H; simp_all [mayE]; try (intros; omega))
def Imd (v : Value) (l : List UInt8) (w : World) : Ending → World → Prop := fun e w' => ∃ sz L u, e = .returned u ∧ GL 5 1 u l.length (l.map bv) L ∧ Hp NoS w w' sz L []
set_option maxRecDepth 100000 in
set_option maxHeartbeats 2000000 in
theorem Image_any (hB : Blk w b tDisk (dskC d)) (hd : d.im.length = 256) : Calls Tryz.prog 19 #[.pointer (some ⟨b, 0, none⟩)] w (fun e w' => ∃ sz L u, e = .returned u ∧ GL 5 1 u 256 (d.im.map bv) L ∧ Hp NoS w w' sz L []) := by
  go_enter Tryz.func19, Tryz.ntmps19
  have H := (Hp.start NoS w).addR hB id
  go_wp2_with (first | ((with_reducible show wpList _ _ _ (⟨_, .makeSlice _ _ _, _, _, _, _⟩ :: _) _ _); refine hw_make0 (n := 256) rfl rfl rfl (by decide) (by decide) H ?_; clear H; intro w' sz' L1 hlt HG H) | ((with_reducible show wpList _ _ _ (⟨_, .load _ _, _, _, _, _⟩ :: _) _ _); apply hw_loadR 0 rfl rfl H rfl; (focus (rw [dsk_size hd]; decide)); (focus exact dsk_im hd)))
  go_loopw [3, 5, 13] (fun v _ t wr => ∃ (k sz : Nat) (L : List Bk), k ≤ 8 ∧ t = .int .i64 k ∧ GL 5 1 v (32 * k) ((d.im.take (32 * k)).map bv) L ∧ Hp NoS w wr sz L []) (fun _ _ t _ => 8 - (intOf t).toNat)
  case atStart => exact ⟨0, _, _, by omega, rfl, HG.cast rfl (by simp), H.noR⟩
  case round => 
    obtain ⟨k, sz, L, hk, rfl, hG, H⟩ := hrel
    by_cases hlt : k < 8
    · have h32 : seg (d.im.map bv).toArray (k * 32) 32 = ((d.im.drop (32 * k)).take 32).map bv := by simp [seg, List.map_take, List.map_drop, Nat.mul_comm]
      have hv : segV true (d.im.map bv).toArray (k * 32) 32 = .agg (((d.im.drop (32 * k)).take 32).map bv).toArray := by simp only [segV, if_true, h32]
      have hlen : (((d.im.drop (32 * k)).take 32).map bv).length = 32 := by simp [hd]; omega
      generalize hN : (d.im.drop (32 * k)).take 32 = N at *
      have HV := Lib.hid hv; have HL := Lib.hid hlen; have HG := Lib.hid hG; clear h32 hv hlen hG
      go_wp2_with (first | ((with_reducible show wpList _ _ _ (⟨_, .index _ _ _, _, _, _, _⟩ :: _) _ _); refine hw_index rfl rfl rfl hlt (by simp [hd]) HV.out ?_) | ((with_reducible apply wlA); refine hw_alloc rfl H ?_; clear H; intro w' H; (try simp only [Act.eval, Act.put, Value.cells, segV, seg, segPut, NS, Nat.reduceAdd] at H)) | ((with_reducible show wpList _ _ _ (⟨_, .store _ _ _, _, _, _, _⟩ :: _) _ _); refine hw_store 0 rfl rfl rfl H rfl rfl HL.out (by simp [z32]) (bv_one _) ?_; clear H; intro w' H; (try simp only [Act.eval, Act.put, Value.cells, segV, seg, segPut, NS, Nat.reduceAdd] at H)) | ((with_reducible show wpList _ _ _ (⟨_, .call { callee := .builtin .append, args := _, argTypes := _ }, _, _, _, _⟩ :: _) _ _); (apply hw_append (L0 := [_]) rfl rfl rfl H HG.out (List.perm_append_comm (l₁ := [_])) HL.out (fun h => by cases h) (cells_of (H.blk _ (.head _)) (n := 32) (by simp [segPut, seg, z32, HL.out]; exact List.take_of_length_le (Nat.le_of_eq HL.out))) (bv_one _) (Nat.le_trans (m := 288) (by omega) (by decide)) (by omega)); clear H; intro v' w' sz' L1' hle HG' hnil H; (try simp only [Act.eval, Act.put, Value.cells, segV, seg, segPut, NS, Nat.reduceAdd] at H)))
      refine ⟨⟨k + 1, _, _, by omega, by go_num, HG'.cast (by omega) ?_, H.drop1⟩, by simp [intOf]; omega⟩
      rw [← hN, ← List.map_append, ← List.take_add]; rfl
    · obtain rfl : k = 8 := by omega
      go_wp2
      exact bodyPost_ret (res1 rfl (rv_tmp rfl)) rfl ⟨_, _, _, rfl, hG.cast rfl (by rw [List.take_of_length_le (by omega)]), H⟩
end
end Go.Proofs.YtccgpjhgfjfaoaaGreatDoor
/- slices.Clone. -/
namespace Go.Proofs.YtccgpjhgfjfaoaaGreatDoor
open Go.RowKit

section
variable {S : Nat → Prop} {w0 w w' : World} {sz : Nat} {L R : List Bk} {v : Value}
variable {P : Program} {ops : Array Oper} {Q : Exit → Act → World → Prop} {rest : List Oper} {a : Act} {d : Tmp} {ty t e : TypeId} {pos : String} {after : Array Edge} {g : Option (Nat × Bool)}
theorem hw_isnil {x : Operand} {A : Option Addr} {m c m' c' size bytes : Nat} [hT : SlT P t e size bytes] (hg : Region.wanted ⟨some d, .binOp .eql t x (.const (.slice none m' c')) t, ty, pos, after, g⟩ (yielded ops a.tmps) = true)
    (hx : evL a x = some (.slice A m c)) (h : wpList P ops Q rest (a.put (some d) (.bool A.isNone)) w) : wpList P ops Q (⟨some d, .binOp .eql t x (.const (.slice none m' c')) t, ty, pos, after, g⟩ :: rest) a w := by
  refine wpList_step fun K hK => ?_
  rw [if_pos hg]
  unfold Oper.wp
  have hgd : (eqGuard .eql t x (.const (.slice none m' c')) (.slice A m c) (.slice none m' c')).run P w = .ok () w := rfl
  simp only [execOp, evL_eval hx, show a.eval (.const (.slice none m' c')) = .slice none m' c' from rfl, Lib.run_eql_slice_nil w t e A m c m' c' hT.under, Sem.run_bind, Sem.run_pure, Result.andThen, hgd, Oper.upon]
  exact hK _ _ h
theorem hw_isnotnil {x : Operand} {A : Option Addr} {m c m' c' size bytes : Nat} [hT : SlT P t e size bytes] (hg : Region.wanted ⟨some d, .binOp .neq t x (.const (.slice none m' c')) t, ty, pos, after, g⟩ (yielded ops a.tmps) = true)
    (hx : evL a x = some (.slice A m c)) (h : wpList P ops Q rest (a.put (some d) (.bool (!A.isNone))) w) : wpList P ops Q (⟨some d, .binOp .neq t x (.const (.slice none m' c')) t, ty, pos, after, g⟩ :: rest) a w := by
  refine wpList_step fun K hK => ?_
  rw [if_pos hg]
  unfold Oper.wp
  have hgd : (eqGuard .neq t x (.const (.slice none m' c')) (.slice A m c) (.slice none m' c')).run P w = .ok () w := rfl
  simp only [execOp, evL_eval hx, show a.eval (.const (.slice none m' c')) = .slice none m' c' from rfl, run_neq_slice_nil_any w t e A m c m' c' hT.under, Sem.run_bind, Sem.run_pure, Result.andThen, hgd, Oper.upon]
  exact hK _ _ h
end
/-- A slice value whose elements' cells are news. -/
structure Rd (w : World) (A : Option Addr) (m c size : Nat) (news : List Value) : Prop where
  len : news.length = m * size
  nil : A = none → m = 0 ∧ c = 0
  cell : ∀ ad, A = some ad → ∀ j u, news[j]? = some u → w.cell? (ad.add j) = some u
  one : news.all Value.oneCell' = true
theorem Rd.step {w w' : World} {A : Option Addr} {m c size : Nat} {news : List Value} (h : Rd w A m c size news) (hb : Below w.heap.size w w') : Rd w' A m c size news := by
  refine ⟨h.len, h.nil, fun ad hA j u hu => ?_, h.one⟩
  have h1 := h.cell ad hA j u hu
  rw [← h1]
  refine hb.cell (p := ad.add j) ?_
  rcases Nat.lt_or_ge (ad.add j).block w.heap.size with hl | hg
  · exact hl
  · simp [World.cell?, Array.getElem?_eq_none hg] at h1
set_option maxRecDepth 100000 in
set_option maxHeartbeats 2000000 in
theorem Clone_u8 {w : World} {A : Option Addr} {m c : Nat} {news : List Value} (hr : Rd w A m c 1 news) (hm : m ≤ 1048576) :
    Calls Tryz.prog 107 #[.slice A m c] w (fun e w' => ∃ sz v L, e = .returned v ∧ GL 5 1 v m news L ∧ (v = .slice none 0 0 ↔ A = none) ∧ Hp NoS w w' sz L []) := by
  go_enter Tryz.func107, Tryz.ntmps107
  have H := Hp.start NoS w
  cases A with
  | none =>
    obtain ⟨rfl, rfl⟩ := hr.nil rfl
    have : news = [] := List.eq_nil_of_length_eq_zero (by simpa using hr.len)
    subst this
    go_wp2_with (first | ((with_reducible show wpList _ _ _ (⟨_, .binOp .eql _ _ _ _, _, _, _, _⟩ :: _) _ _); refine hw_isnil rfl rfl ?_))
    exact bodyPost_ret (res1 rfl (rv_tmp rfl)) rfl ⟨_, .slice none 0 0, rfl, [], .nil, by simp, H⟩
  | some ad =>
    go_wp2_with (first | ((with_reducible show wpList _ _ _ (⟨_, .binOp .eql _ _ _ _, _, _, _, _⟩ :: _) _ _); refine hw_isnil rfl rfl ?_) | ((with_reducible show wpList _ _ _ (⟨_, .buildSlice _ _ _, _, _, _, _⟩ :: _) _ _); refine hw_build0 rfl H ?_; clear H; intro w' H; (try simp only [Act.eval, Act.put, Value.cells, segV, seg, segPut, NS, Nat.reduceAdd] at H)) | ((with_reducible show wpList _ _ _ (⟨_, .call { callee := .builtin .append, args := _, argTypes := _ }, _, _, _, _⟩ :: _) _ _); (apply hw_append (L0 := []) rfl rfl rfl H (GL.row _ 0 0 [] [] rfl (Nat.le_refl _) (by decide) rfl) (List.Perm.refl _) hr.len (fun h => by cases h) (hr.step H.ret).cell hr.one (Nat.le_trans (m := 1048576) (by omega) (by decide)) (by omega)); clear H; intro v' w' sz' L1' hle HG' hnil H; (try simp only [Act.eval, Act.put, Value.cells, segV, seg, segPut, NS, Nat.reduceAdd] at H)))
    exact bodyPost_ret (res1 rfl (rv_tmp rfl)) rfl ⟨_, _, _, rfl, HG'.cast (Nat.zero_add _) (List.nil_append _), by simpa using hnil, H⟩
instance : SlT Tryz.prog 39 128 3 24 := ⟨by kernel_rfl, info_parts (by kernel_rfl : (Tryz.prog.info? 128).map (fun i => (i.zero, i.size, i.bytes)) = some (some (.agg #[.int .i64 0, .int .i64 0, .int .i64 0]), 3, 24)) |>.elim fun i h => ⟨i, _, h.1, h.2.1, h.2.2.1, h.2.2.2, rfl⟩, by omega⟩
instance : SlT Tryz.prog 121 38 4 16 := ⟨by kernel_rfl, info_parts (by kernel_rfl : (Tryz.prog.info? 38).map (fun i => (i.zero, i.size, i.bytes)) = some (some (.agg #[.int .u32 0, .int .u32 0, .int .u32 0, .int .u32 0]), 4, 16)) |>.elim fun i h => ⟨i, _, h.1, h.2.1, h.2.2.1, h.2.2.2, rfl⟩, by omega⟩
def zeroEv : Array Value := #[.int .i64 0, .int .i64 0, .int .i64 0, .int .i64 0, .int .i64 0, .int .i64 0, .int .i64 0, .int .u32 0, .int .u32 0, .int .u32 0, .int .u32 0, .int .u32 0, .int .u32 0, .int .u32 0, .int .u32 0]
instance : SlT Tryz.prog 28 61 15 88 := ⟨by kernel_rfl, info_parts (by kernel_rfl : (Tryz.prog.info? 61).map (fun i => (i.zero, i.size, i.bytes)) = some (some (.agg zeroEv), 15, 88)) |>.elim fun i h => ⟨i, _, h.1, h.2.1, h.2.2.1, h.2.2.2, rfl⟩, by omega⟩
set_option maxRecDepth 100000 in
set_option maxHeartbeats 2000000 in
theorem Clone_ntc {w : World} {A : Option Addr} {m c : Nat} {news : List Value} (hr : Rd w A m c 3 news) (hm : m ≤ 1048576) :
    Calls Tryz.prog 70 #[.slice A m c] w (fun e w' => ∃ sz v L, e = .returned v ∧ GL 128 3 v m news L ∧ (v = .slice none 0 0 ↔ A = none) ∧ Hp NoS w w' sz L []) := by
  go_enter Tryz.func70, Tryz.ntmps70
  have H := Hp.start NoS w
  cases A with
  | none =>
    obtain ⟨rfl, rfl⟩ := hr.nil rfl
    have : news = [] := List.eq_nil_of_length_eq_zero (by simpa using hr.len)
    subst this
    go_wp2_with (first | ((with_reducible show wpList _ _ _ (⟨_, .binOp .eql _ _ _ _, _, _, _, _⟩ :: _) _ _); refine hw_isnil rfl rfl ?_))
    exact bodyPost_ret (res1 rfl (rv_tmp rfl)) rfl ⟨_, .slice none 0 0, rfl, [], .nil, by simp, H⟩
  | some ad =>
    go_wp2_with (first | ((with_reducible show wpList _ _ _ (⟨_, .binOp .eql _ _ _ _, _, _, _, _⟩ :: _) _ _); refine hw_isnil rfl rfl ?_) | ((with_reducible show wpList _ _ _ (⟨_, .buildSlice _ _ _, _, _, _, _⟩ :: _) _ _); refine hw_build0 rfl H ?_; clear H; intro w' H; (try simp only [Act.eval, Act.put, Value.cells, segV, seg, segPut, NS, Nat.reduceAdd] at H)) | ((with_reducible show wpList _ _ _ (⟨_, .call { callee := .builtin .append, args := _, argTypes := _ }, _, _, _, _⟩ :: _) _ _); (apply hw_append (L0 := []) rfl rfl rfl H (GL.row _ 0 0 [] [] rfl (Nat.le_refl _) (by decide) rfl) (List.Perm.refl _) hr.len (fun h => by cases h) (hr.step H.ret).cell hr.one (Nat.le_trans (m := 1048576) (by omega) (by decide)) (by omega)); clear H; intro v' w' sz' L1' hle HG' hnil H; (try simp only [Act.eval, Act.put, Value.cells, segV, seg, segPut, NS, Nat.reduceAdd] at H)))
    exact bodyPost_ret (res1 rfl (rv_tmp rfl)) rfl ⟨_, _, _, rfl, HG'.cast (Nat.zero_add _) (List.nil_append _), by simpa using hnil, H⟩
set_option maxRecDepth 100000 in
set_option maxHeartbeats 2000000 in
theorem Clone_set {w : World} {A : Option Addr} {m c : Nat} {news : List Value} (hr : Rd w A m c 4 news) (hm : m ≤ 1048576) :
    Calls Tryz.prog 209 #[.slice A m c] w (fun e w' => ∃ sz v L, e = .returned v ∧ GL 38 4 v m news L ∧ (v = .slice none 0 0 ↔ A = none) ∧ Hp NoS w w' sz L []) := by
  go_enter Tryz.func209, Tryz.ntmps209
  have H := Hp.start NoS w
  cases A with
  | none =>
    obtain ⟨rfl, rfl⟩ := hr.nil rfl
    have : news = [] := List.eq_nil_of_length_eq_zero (by simpa using hr.len)
    subst this
    go_wp2_with (first | ((with_reducible show wpList _ _ _ (⟨_, .binOp .eql _ _ _ _, _, _, _, _⟩ :: _) _ _); refine hw_isnil rfl rfl ?_))
    exact bodyPost_ret (res1 rfl (rv_tmp rfl)) rfl ⟨_, .slice none 0 0, rfl, [], .nil, by simp, H⟩
  | some ad =>
    go_wp2_with (first | ((with_reducible show wpList _ _ _ (⟨_, .binOp .eql _ _ _ _, _, _, _, _⟩ :: _) _ _); refine hw_isnil rfl rfl ?_) | ((with_reducible show wpList _ _ _ (⟨_, .buildSlice _ _ _, _, _, _, _⟩ :: _) _ _); refine hw_build0 rfl H ?_; clear H; intro w' H; (try simp only [Act.eval, Act.put, Value.cells, segV, seg, segPut, NS, Nat.reduceAdd] at H)) | ((with_reducible show wpList _ _ _ (⟨_, .call { callee := .builtin .append, args := _, argTypes := _ }, _, _, _, _⟩ :: _) _ _); (apply hw_append (L0 := []) rfl rfl rfl H (GL.row _ 0 0 [] [] rfl (Nat.le_refl _) (by decide) rfl) (List.Perm.refl _) hr.len (fun h => by cases h) (hr.step H.ret).cell hr.one (Nat.le_trans (m := 1048576) (by omega) (by decide)) (by omega)); clear H; intro v' w' sz' L1' hle HG' hnil H; (try simp only [Act.eval, Act.put, Value.cells, segV, seg, segPut, NS, Nat.reduceAdd] at H)))
    exact bodyPost_ret (res1 rfl (rv_tmp rfl)) rfl ⟨_, _, _, rfl, HG'.cast (Nat.zero_add _) (List.nil_append _), by simpa using hnil, H⟩
set_option maxRecDepth 100000 in
set_option maxHeartbeats 2000000 in
theorem Clone_ev {w : World} {A : Option Addr} {m c : Nat} {news : List Value} (hr : Rd w A m c 15 news) (hm : m ≤ 1048576) :
    Calls Tryz.prog 17 #[.slice A m c] w (fun e w' => ∃ sz v L, e = .returned v ∧ GL 61 15 v m news L ∧ (v = .slice none 0 0 ↔ A = none) ∧ Hp NoS w w' sz L []) := by
  go_enter Tryz.func17, Tryz.ntmps17
  have H := Hp.start NoS w
  cases A with
  | none =>
    obtain ⟨rfl, rfl⟩ := hr.nil rfl
    have : news = [] := List.eq_nil_of_length_eq_zero (by simpa using hr.len)
    subst this
    go_wp2_with (first | ((with_reducible show wpList _ _ _ (⟨_, .binOp .eql _ _ _ _, _, _, _, _⟩ :: _) _ _); refine hw_isnil rfl rfl ?_))
    exact bodyPost_ret (res1 rfl (rv_tmp rfl)) rfl ⟨_, .slice none 0 0, rfl, [], .nil, by simp, H⟩
  | some ad =>
    go_wp2_with (first | ((with_reducible show wpList _ _ _ (⟨_, .binOp .eql _ _ _ _, _, _, _, _⟩ :: _) _ _); refine hw_isnil rfl rfl ?_) | ((with_reducible show wpList _ _ _ (⟨_, .buildSlice _ _ _, _, _, _, _⟩ :: _) _ _); refine hw_build0 rfl H ?_; clear H; intro w' H; (try simp only [Act.eval, Act.put, Value.cells, segV, seg, segPut, NS, Nat.reduceAdd] at H)) | ((with_reducible show wpList _ _ _ (⟨_, .call { callee := .builtin .append, args := _, argTypes := _ }, _, _, _, _⟩ :: _) _ _); (apply hw_append (L0 := []) rfl rfl rfl H (GL.row _ 0 0 [] [] rfl (Nat.le_refl _) (by decide) rfl) (List.Perm.refl _) hr.len (fun h => by cases h) (hr.step H.ret).cell hr.one (Nat.le_trans (m := 1048576) (by omega) (by decide)) (by omega)); clear H; intro v' w' sz' L1' hle HG' hnil H; (try simp only [Act.eval, Act.put, Value.cells, segV, seg, segPut, NS, Nat.reduceAdd] at H)))
    exact bodyPost_ret (res1 rfl (rv_tmp rfl)) rfl ⟨_, _, _, rfl, HG'.cast (Nat.zero_add _) (List.nil_append _), by simpa using hnil, H⟩

end Go.Proofs.YtccgpjhgfjfaoaaGreatDoor
/- disk: Read, Write. -/
namespace Go.Proofs.YtccgpjhgfjfaoaaGreatDoor
open Go.RowKit

theorem GL.rd {S : Nat → Prop} {w0 w : World} {sz : Nat} {L R : List Bk} {e : TypeId} {size n : Nat} {v : Value} {xs : List Value} {L1 : List Bk} (h : GL e size v n xs L1) (H : Hp S w0 w sz L R) (hs : ∀ x ∈ L1, x ∈ L) (h1 : xs.all Value.oneCell' = true) :
    ∃ A c, v = .slice A n c ∧ Rd w A n c size xs := by
  cases h with
  | nil => exact ⟨none, 0, rfl, ⟨by simp, fun _ => ⟨rfl, rfl⟩, (fun _ h => by cases h), rfl⟩⟩
  | row b _ cap _ pad hl hc hm hp =>
    refine ⟨_, _, rfl, ⟨hl, (fun h => by cases h), ?_, h1⟩⟩
    refine cells_of (n := xs.length) (H.blk (b, e, (xs ++ pad).toArray) (hs _ (.head _))) ?_
    simp [seg]
theorem GL.some {e : TypeId} {size n : Nat} {v : Value} {xs : List Value} {L1 : List Bk} (h : GL e size v n xs L1) (hn : 0 < n) :
    ∃ b cap pad, v = .slice (some ⟨b, 0, none⟩) n cap ∧ n ≤ cap ∧ L1 = [(b, e, (xs ++ pad).toArray)] ∧ xs.length = n * size ∧ xs.length + pad.length = cap * size := by
  cases h with
  | nil => omega
  | row b _ cap _ pad hl hc hm hp => exact ⟨b, cap, pad, rfl, hc, rfl, hl, hp⟩
theorem seg_im {l : List UInt8} {pad : List Value} (hl : (l.map bv).length = 256) (o : Nat) (ho : o + 32 ≤ 256) : seg (l.map bv ++ pad).toArray o 32 = ((l.drop o).take 32).map bv := by
  simp only [seg, List.map_take, List.map_drop]
  rw [List.drop_append_of_le_length (by omega), List.take_append_of_le_length (by rw [List.length_drop]; omega)]
section
variable {w : World} {b : Nat} {d : Dsk}
set_option maxRecDepth 100000 in
set_option maxHeartbeats 2000000 in
theorem Read_e (hB : Blk w b tDisk (dskC d)) (hd : d.im.length = 256) (s : Int) (he : mayE d s ≠ 0) : Calls Tryz.prog 225 #[.pointer (some ⟨b, 0, none⟩), .int .i64 s] w (Ret (.tuple #[.slice none 0 0, .int .i64 (mayE d s)]) w) := by
  go_enter Tryz.func225, Tryz.ntmps225
  have H := (Hp.start NoS w).addR hB id
  go_wp2_with (first | (go_at_call 233; refine (may_any (H.ro _ (.head _)).1 hd _).mono ?_; rintro e w' ⟨rfl, hb⟩; obtain ⟨s1, hs1, H⟩ := H.call hb; clear hb))
  exact bodyPost_ret (res2 rfl (rv_tmp rfl) (rv_tmp rfl)) rfl ⟨rfl, H.ret⟩
set_option maxRecDepth 100000 in
set_option maxHeartbeats 2000000 in
theorem Read_ok (hB : Blk w b tDisk (dskC d)) (hd : d.im.length = 256) (s : Int) (h0 : 0 ≤ s) (h8 : s < 8) (ho : d.off = false) : Calls Tryz.prog 225 #[.pointer (some ⟨b, 0, none⟩), .int .i64 s] w
    (fun e w' => ∃ sz L u, e = .returned (.tuple #[u, .int .i64 0]) ∧ GL 5 1 u 32 (((d.im.drop (32 * s.toNat)).take 32).map bv) L ∧ Hp NoS w w' sz L []) := by
  have hm : mayE d s = 0 := by simp [mayE, ho]; omega
  have : s = 0 ∨ s = 1 ∨ s = 2 ∨ s = 3 ∨ s = 4 ∨ s = 5 ∨ s = 6 ∨ s = 7 := by omega
  go_enter Tryz.func225, Tryz.ntmps225
  have H := (Hp.start NoS w).addR hB id
  rcases this with rfl | rfl | rfl | rfl | rfl | rfl | rfl | rfl
  all_goals (
    go_wp2_with (first | (go_at_call 233; refine (may_any (H.ro _ (.head _)).1 hd _).mono ?_; rintro e w' ⟨rfl, hb⟩; obtain ⟨s1, hs1, H⟩ := H.call hb; clear hb; rw [hm]) | (go_at_call 19; refine (Image_any (H.ro _ (.head _)).1 hd).mono ?_; rintro e w' ⟨s2, L2, v2, rfl, hG, H2⟩; obtain ⟨hs2, H⟩ := H.fresh H2; clear H2; obtain ⟨b2, cap, pad, rfl, hcap, rfl, hl, hp⟩ := hG.some (by decide); clear hG; rw [Nat.mul_one] at hl hp; have hc1 : (256 : Int) ≤ cap := by omega) | (go_at_call 107; refine (Clone_u8 ⟨by rw [List.length_map, List.length_take, List.length_drop]; rw [List.length_map] at hl; omega, (fun h => by cases h), cells_of (n := 32) (H.blk _ (.head _)) (seg_im hl _ (by decide)), bv_one _⟩ (by decide)).mono ?_; rintro e w' ⟨s3, v3, L3, rfl, hG, -, H3⟩; obtain ⟨hs3, H⟩ := H.fresh H3; clear H3))
    exact bodyPost_ret (res2 rfl (rv_tmp rfl) (rv_tmp rfl)) rfl ⟨_, _, _, rfl, hG, H.noR.drop1⟩)
end
end Go.Proofs.YtccgpjhgfjfaoaaGreatDoor
/- disk: Write. -/
namespace Go.Proofs.YtccgpjhgfjfaoaaGreatDoor
open Go.RowKit

def putIm (l : List UInt8) (o : Nat) (x : List UInt8) : List UInt8 := l.take o ++ x ++ l.drop (o + 32)
theorem putIm_len {l x : List UInt8} {o : Nat} (hl : l.length = 256) (hx : x.length = 32) (ho : o + 32 ≤ 256) : (putIm l o x).length = 256 := by
  simp [putIm, hl, hx]; omega
def Dsk.write (d : Dsk) (s : Nat) (x : List UInt8) : Dsk :=
  if d.off then d else if d.fused && d.fuse == 0 then { d with off := true, fused := false }
  else { im := putIm d.im (32 * s) x, off := d.off, fused := d.fused, fuse := if d.fused then wrap64 (d.fuse - 1) else d.fuse, writes := wrap64 (d.writes + 1) }
def Dsk.writeE (d : Dsk) : Int := if d.off then 100 else if d.fused && d.fuse == 0 then 100 else 0
theorem Dsk.write_len {d : Dsk} (hd : d.im.length = 256) {s : Nat} (hs : s < 8) {x : List UInt8} (hx : x.length = 32) : (d.write s x).im.length = 256 := by
  unfold Dsk.write
  split
  · exact hd
  · split
    · exact hd
    · exact putIm_len hd hx (by omega)
theorem put_im {d : Dsk} (h : d.im.length = 256) (o : Nat) (x : List UInt8) (hx : x.length = 32) (ho : o + 32 ≤ 256) : segPut (dskC d) o (x.map bv) = dskC { d with im := putIm d.im o x } := by
  unfold segPut dskC putIm dskT
  have e : o + (x.map bv).length = o + 32 := by simp [hx]
  rw [e]
  simp only
  congr 1
  rw [List.take_append_of_le_length (by simp [h]; omega), List.drop_append_of_le_length (by simp [h]; omega)]
  simp [List.map_take, List.map_drop]
theorem add_block (ad : Addr) (j : Nat) : (ad.add j).block = ad.block := by unfold Addr.add; split <;> rfl
theorem Rd.keep {S : Nat → Prop} {w w' : World} {A : Option Addr} {m c size : Nat} {news : List Value} (h : Rd w A m c size news) (K : Keeps S w w') (hs : ∀ ad, A = some ad → ¬ S ad.block) : Rd w' A m c size news := by
  refine ⟨h.len, h.nil, fun ad hA j u hu => ?_, h.one⟩
  have h1 := h.cell ad hA j u hu
  rw [← h1]
  have hl : (ad.add j).block < w.heap.size := by
    rcases Nat.lt_or_ge (ad.add j).block w.heap.size with hl | hg
    · exact hl
    · simp [World.cell?, Array.getElem?_eq_none hg] at h1
  have hb := K.block _ hl (by rw [add_block]; exact hs ad hA)
  simp only [World.cell?, hb]
theorem Hp.toD {S : Nat → Prop} {w0 w : World} {sz b : Nat} {d d' : Dsk} {R : List Bk} (H : Hp S w0 w sz [(b, tDisk, dskC d)] R) (h : d = d') : Hp S w0 w sz [(b, tDisk, dskC d')] R := h ▸ H
section
variable {w : World} {b : Nat} {d : Dsk}
set_option maxRecDepth 100000 in
set_option maxHeartbeats 2000000 in
theorem Write_off (hB : Blk w b tDisk (dskC d)) (hd : d.im.length = 256) (s : Int) (ho : d.off = true) (v : Value) : Calls Tryz.prog 229 #[.pointer (some ⟨b, 0, none⟩), .int .i64 s, v] w (Upd b (.int .i64 100) d w) := by
  have hm : mayE d s = 100 := by simp [mayE, ho]
  go_enter Tryz.func229, Tryz.ntmps229
  have H := Hp.own1 w hB
  go_wp2_with (first | (go_at_call 233; refine (may_any (H.blk _ (.head _)) hd _).mono ?_; rintro e w' ⟨rfl, hb⟩; obtain ⟨s1, hs1, H⟩ := H.call hb; clear hb; rw [hm]))
  exact bodyPost_ret (res1 rfl (rv_tmp rfl)) rfl ⟨_, rfl, H⟩
set_option maxRecDepth 100000 in
set_option maxHeartbeats 2000000 in
theorem Write_on (hB : Blk w b tDisk (dskC d)) (hd : d.im.length = 256) (s : Int) (h0 : 0 ≤ s) (h8 : s < 8) (ho : d.off = false) {A : Option Addr} {c : Nat} {x : List UInt8} (hr : Rd w A 32 c 1 (x.map bv)) (hne : ∀ ad, A = some ad → ¬ ad.block = b) : Calls Tryz.prog 229 #[.pointer (some ⟨b, 0, none⟩), .int .i64 s, .slice A 32 c] w (Upd b (.int .i64 d.writeE) (d.write s.toNat x) w) := by
  have hm : mayE d s = 0 := by simp [mayE, ho]; omega
  have : s = 0 ∨ s = 1 ∨ s = 2 ∨ s = 3 ∨ s = 4 ∨ s = 5 ∨ s = 6 ∨ s = 7 := by omega
  have hx : x.length = 32 := by have := hr.len; simpa using this
  go_enter Tryz.func229, Tryz.ntmps229
  have H := Hp.own1 w hB
  rcases this with rfl | rfl | rfl | rfl | rfl | rfl | rfl | rfl
  all_goals (
    have hq : ∀ o, o + 32 ≤ 256 → (putIm d.im o x).length = 256 := fun o ho => putIm_len hd hx ho
    go_wp2_with (first | (go_at_call 233; refine (may_any (H.blk _ (.head _)) hd _).mono ?_; rintro e w' ⟨rfl, hb⟩; obtain ⟨s1, hs1, H⟩ := H.call hb; clear hb; rw [hm]) | ((with_reducible show wpList _ _ _ (⟨_, .load _ _, _, _, _, _⟩ :: _) _ _); first | (apply hw_loadR 0 rfl rfl H rfl; (focus (exact dsk_bd (by first | assumption | exact hq _ (by decide)) (by decide))); (focus (first | exact dsk_off (by first | assumption | exact hq _ (by decide)) | exact dsk_fused (by first | assumption | exact hq _ (by decide)) | exact dsk_fuse (by first | assumption | exact hq _ (by decide)) | exact dsk_writes (by first | assumption | exact hq _ (by decide))))) | (apply hw_load 0 rfl rfl H rfl; (focus (exact dsk_bd (by first | assumption | exact hq _ (by decide)) (by decide))); (focus (first | exact dsk_off (by first | assumption | exact hq _ (by decide)) | exact dsk_fused (by first | assumption | exact hq _ (by decide)) | exact dsk_fuse (by first | assumption | exact hq _ (by decide)) | exact dsk_writes (by first | assumption | exact hq _ (by decide)))))) | ((with_reducible show wpList _ _ _ (⟨_, .store _ _ _, _, _, _, _⟩ :: _) _ _); refine hw_store 0 rfl rfl rfl H rfl rfl rfl (dsk_bd (by first | assumption | exact hq _ (by decide)) (by decide)) rfl ?_; clear H; intro w' H; rw [List.set_cons_zero] at H; (first | rw [put_off (by first | assumption | exact hq _ (by decide))] at H | rw [put_fused (by first | assumption | exact hq _ (by decide))] at H | rw [put_fuse (by first | assumption | exact hq _ (by decide))] at H | rw [put_writes (by first | assumption | exact hq _ (by decide))] at H)) | ((with_reducible show wpList _ _ _ (⟨_, .call { callee := .builtin .copy, args := _, argTypes := _ }, _, _, _, _⟩ :: _) _ _); (apply hw_copy 0 rfl rfl rfl H rfl (m := 32) rfl hr.len (fun h => by have := (hr.nil h).1; omega) (hr.keep H.keep hne).cell (bv_one _) (by rw [dsk_size (by first | assumption | exact hd)]; decide)); clear H; intro w' H; rw [List.set_cons_zero, put_im (by first | assumption | exact hd) _ _ hx (by decide)] at H))
    all_goals exact bodyPost_ret (res1 rfl (rv_tmp rfl)) rfl ⟨_, by simp_all [Dsk.writeE], Hp.toD H (by simp [Dsk.write, *])⟩)
end
end Go.Proofs.YtccgpjhgfjfaoaaGreatDoor
/- Parts of what is known of the memory; permutations by counting. -/
namespace Go.Proofs.YtccgpjhgfjfaoaaGreatDoor
open Go.RowKit

abbrev pV (b : Nat) : Value := .pointer (some ⟨b, 0, none⟩)
instance : Ty Tryz.prog 39 false 1 := ⟨fun _ => by kernel_rfl, fun _ => by kernel_rfl, fun _ => rfl⟩
instance : Ty Tryz.prog 121 false 1 := ⟨fun _ => by kernel_rfl, fun _ => by kernel_rfl, fun _ => rfl⟩
instance : Ty Tryz.prog 22 false 1 := ⟨fun _ => by kernel_rfl, fun _ => by kernel_rfl, fun _ => rfl⟩
instance : Ty Tryz.prog 28 false 1 := ⟨fun _ => by kernel_rfl, fun _ => by kernel_rfl, fun _ => rfl⟩
instance : ZeroV Tryz.prog 39 (.slice none 0 0) := ⟨fun _ => by kernel_rfl⟩
instance : ZeroV Tryz.prog 121 (.slice none 0 0) := ⟨fun _ => by kernel_rfl⟩
instance : ZeroV Tryz.prog 22 (.slice none 0 0) := ⟨fun _ => by kernel_rfl⟩
instance : ZeroV Tryz.prog 28 (.slice none 0 0) := ⟨fun _ => by kernel_rfl⟩
open Classical in
theorem perm_count {α : Type} {A B : List α} (h : ∀ x : α, A.count x = B.count x) : A.Perm B := List.perm_iff_count.2 h
theorem pF0 {α : Type} {X Y : List α} : ((X ++ Y)).Perm (X ++ (Y)) := by apply perm_count; intro x; simp only [List.count_append, List.count_cons, List.count_nil]; try omega
theorem pL0 {α : Type} {X : List α} : (X).Perm (X ++ []) := by apply perm_count; intro x; simp only [List.count_append, List.count_cons, List.count_nil]; try omega
theorem pM0 {α : Type} {X Y Z : List α} : ((X ++ (Y ++ Z))).Perm (Y ++ ((X ++ Z))) := by apply perm_count; intro x; simp only [List.count_append, List.count_cons, List.count_nil]; try omega
theorem pN0 {α : Type} {X Y : List α} : ((X ++ Y)).Perm (Y ++ (X)) := by apply perm_count; intro x; simp only [List.count_append, List.count_cons, List.count_nil]; try omega
theorem pF1 {α : Type} {a0 : α} {X Y : List α} : (a0 :: (X ++ Y)).Perm (X ++ (a0 :: Y)) := by apply perm_count; intro x; simp only [List.count_append, List.count_cons, List.count_nil]; try omega
theorem pL1 {α : Type} {a0 : α} {X : List α} : (a0 :: X).Perm (X ++ [a0]) := by apply perm_count; intro x; simp only [List.count_append, List.count_cons, List.count_nil]; try omega
theorem pM1 {α : Type} {a0 : α} {X Y Z : List α} : (a0 :: (X ++ (Y ++ Z))).Perm (Y ++ (a0 :: (X ++ Z))) := by apply perm_count; intro x; simp only [List.count_append, List.count_cons, List.count_nil]; try omega
theorem pN1 {α : Type} {a0 : α} {X Y : List α} : (a0 :: (X ++ Y)).Perm (Y ++ (a0 :: X)) := by apply perm_count; intro x; simp only [List.count_append, List.count_cons, List.count_nil]; try omega
theorem pF2 {α : Type} {a0 a1 : α} {X Y : List α} : (a0 :: a1 :: (X ++ Y)).Perm (X ++ (a0 :: a1 :: Y)) := by apply perm_count; intro x; simp only [List.count_append, List.count_cons, List.count_nil]; try omega
theorem pL2 {α : Type} {a0 a1 : α} {X : List α} : (a0 :: a1 :: X).Perm (X ++ [a0, a1]) := by apply perm_count; intro x; simp only [List.count_append, List.count_cons, List.count_nil]; try omega
theorem pM2 {α : Type} {a0 a1 : α} {X Y Z : List α} : (a0 :: a1 :: (X ++ (Y ++ Z))).Perm (Y ++ (a0 :: a1 :: (X ++ Z))) := by apply perm_count; intro x; simp only [List.count_append, List.count_cons, List.count_nil]; try omega
theorem pN2 {α : Type} {a0 a1 : α} {X Y : List α} : (a0 :: a1 :: (X ++ Y)).Perm (Y ++ (a0 :: a1 :: X)) := by apply perm_count; intro x; simp only [List.count_append, List.count_cons, List.count_nil]; try omega
theorem pF3 {α : Type} {a0 a1 a2 : α} {X Y : List α} : (a0 :: a1 :: a2 :: (X ++ Y)).Perm (X ++ (a0 :: a1 :: a2 :: Y)) := by apply perm_count; intro x; simp only [List.count_append, List.count_cons, List.count_nil]; try omega
theorem pL3 {α : Type} {a0 a1 a2 : α} {X : List α} : (a0 :: a1 :: a2 :: X).Perm (X ++ [a0, a1, a2]) := by apply perm_count; intro x; simp only [List.count_append, List.count_cons, List.count_nil]; try omega
theorem pM3 {α : Type} {a0 a1 a2 : α} {X Y Z : List α} : (a0 :: a1 :: a2 :: (X ++ (Y ++ Z))).Perm (Y ++ (a0 :: a1 :: a2 :: (X ++ Z))) := by apply perm_count; intro x; simp only [List.count_append, List.count_cons, List.count_nil]; try omega
theorem pN3 {α : Type} {a0 a1 a2 : α} {X Y : List α} : (a0 :: a1 :: a2 :: (X ++ Y)).Perm (Y ++ (a0 :: a1 :: a2 :: X)) := by apply perm_count; intro x; simp only [List.count_append, List.count_cons, List.count_nil]; try omega
theorem pF4 {α : Type} {a0 a1 a2 a3 : α} {X Y : List α} : (a0 :: a1 :: a2 :: a3 :: (X ++ Y)).Perm (X ++ (a0 :: a1 :: a2 :: a3 :: Y)) := by apply perm_count; intro x; simp only [List.count_append, List.count_cons, List.count_nil]; try omega
theorem pL4 {α : Type} {a0 a1 a2 a3 : α} {X : List α} : (a0 :: a1 :: a2 :: a3 :: X).Perm (X ++ [a0, a1, a2, a3]) := by apply perm_count; intro x; simp only [List.count_append, List.count_cons, List.count_nil]; try omega
theorem pM4 {α : Type} {a0 a1 a2 a3 : α} {X Y Z : List α} : (a0 :: a1 :: a2 :: a3 :: (X ++ (Y ++ Z))).Perm (Y ++ (a0 :: a1 :: a2 :: a3 :: (X ++ Z))) := by apply perm_count; intro x; simp only [List.count_append, List.count_cons, List.count_nil]; try omega
theorem pN4 {α : Type} {a0 a1 a2 a3 : α} {X Y : List α} : (a0 :: a1 :: a2 :: a3 :: (X ++ Y)).Perm (Y ++ (a0 :: a1 :: a2 :: a3 :: X)) := by apply perm_count; intro x; simp only [List.count_append, List.count_cons, List.count_nil]; try omega
theorem pF5 {α : Type} {a0 a1 a2 a3 a4 : α} {X Y : List α} : (a0 :: a1 :: a2 :: a3 :: a4 :: (X ++ Y)).Perm (X ++ (a0 :: a1 :: a2 :: a3 :: a4 :: Y)) := by apply perm_count; intro x; simp only [List.count_append, List.count_cons, List.count_nil]; try omega
theorem pL5 {α : Type} {a0 a1 a2 a3 a4 : α} {X : List α} : (a0 :: a1 :: a2 :: a3 :: a4 :: X).Perm (X ++ [a0, a1, a2, a3, a4]) := by apply perm_count; intro x; simp only [List.count_append, List.count_cons, List.count_nil]; try omega
theorem pM5 {α : Type} {a0 a1 a2 a3 a4 : α} {X Y Z : List α} : (a0 :: a1 :: a2 :: a3 :: a4 :: (X ++ (Y ++ Z))).Perm (Y ++ (a0 :: a1 :: a2 :: a3 :: a4 :: (X ++ Z))) := by apply perm_count; intro x; simp only [List.count_append, List.count_cons, List.count_nil]; try omega
theorem pN5 {α : Type} {a0 a1 a2 a3 a4 : α} {X Y : List α} : (a0 :: a1 :: a2 :: a3 :: a4 :: (X ++ Y)).Perm (Y ++ (a0 :: a1 :: a2 :: a3 :: a4 :: X)) := by apply perm_count; intro x; simp only [List.count_append, List.count_cons, List.count_nil]; try omega
theorem pF6 {α : Type} {a0 a1 a2 a3 a4 a5 : α} {X Y : List α} : (a0 :: a1 :: a2 :: a3 :: a4 :: a5 :: (X ++ Y)).Perm (X ++ (a0 :: a1 :: a2 :: a3 :: a4 :: a5 :: Y)) := by apply perm_count; intro x; simp only [List.count_append, List.count_cons, List.count_nil]; try omega
theorem pL6 {α : Type} {a0 a1 a2 a3 a4 a5 : α} {X : List α} : (a0 :: a1 :: a2 :: a3 :: a4 :: a5 :: X).Perm (X ++ [a0, a1, a2, a3, a4, a5]) := by apply perm_count; intro x; simp only [List.count_append, List.count_cons, List.count_nil]; try omega
theorem pM6 {α : Type} {a0 a1 a2 a3 a4 a5 : α} {X Y Z : List α} : (a0 :: a1 :: a2 :: a3 :: a4 :: a5 :: (X ++ (Y ++ Z))).Perm (Y ++ (a0 :: a1 :: a2 :: a3 :: a4 :: a5 :: (X ++ Z))) := by apply perm_count; intro x; simp only [List.count_append, List.count_cons, List.count_nil]; try omega
theorem pN6 {α : Type} {a0 a1 a2 a3 a4 a5 : α} {X Y : List α} : (a0 :: a1 :: a2 :: a3 :: a4 :: a5 :: (X ++ Y)).Perm (Y ++ (a0 :: a1 :: a2 :: a3 :: a4 :: a5 :: X)) := by apply perm_count; intro x; simp only [List.count_append, List.count_cons, List.count_nil]; try omega
theorem GL.isSl {e : TypeId} {size n : Nat} {v : Value} {xs : List Value} {L1 : List Bk} (h : GL e size v n xs L1) : ∃ A c, v = .slice A n c := by
  cases h with
  | nil => exact ⟨_, _, rfl⟩
  | row b _ cap _ pad => exact ⟨_, _, rfl⟩
theorem seg_pre {xs pad : List Value} {n : Nat} (h : xs.length = n) : seg (xs ++ pad).toArray 0 n = xs := by
  subst h; simp [seg]
section
variable {S : Nat → Prop} {w0 w w' : World} {sz : Nat} {L L' R : List Bk}
theorem Hp.sub (H : Hp S w0 w sz L R) (h : L'.Sublist L) : Hp S w0 w sz L' R :=
  ⟨H.keep, H.size, fun y hy => H.blk y (h.subset hy), fun y hy => H.own y (h.subset hy), (h.map _).nodup H.nodup, H.ro⟩
theorem Hp.tk (H : Hp S w0 w sz L R) (n : Nat) : Hp S w0 w sz (L.take n) R := H.sub (List.take_sublist n L)
theorem Hp.front (H : Hp S w0 w sz (L' ++ L) R) : Hp S w0 w sz L' R := H.sub (List.sublist_append_left _ _)
theorem Hp.back (H : Hp S w0 w sz (L' ++ L) R) : Hp S w0 w sz L R := H.sub (List.sublist_append_right _ _)
/-! ### objects: a list of blocks that a call may write -/
def InL (L : List Bk) : Nat → Prop := fun k => k ∈ L.map (·.1)
def Own (w : World) (L : List Bk) : Prop := Hp (InL L) w w w.heap.size L []
/-- The call returns v; the blocks La have become Lb; beside these it has at most made memory. -/
def UpdL (La Lb : List Bk) (v : Value) (w : World) : Ending → World → Prop := fun e w' => ∃ sz, e = .returned v ∧ Hp (InL La) w w' sz Lb []
theorem Hp.part {La Lb : List Bk} (H : Hp S w0 w sz L R) (hp : L.Perm (La ++ Lb)) : Own w La :=
  ⟨Keeps.refl _ _, rfl, fun x hx => H.blk x (hp.mem_iff.2 (by simp [hx])), fun x hx => .inl (List.mem_map_of_mem hx), by
    have := (hp.map (·.1)).nodup_iff.1 H.nodup
    rw [List.map_append, List.nodup_append] at this
    exact this.1, fun _ h => by cases h⟩
theorem Hp.join {La Lb Lc R' : List Bk} {sz' : Nat} (H : Hp S w0 w sz L R) (hp : L.Perm (La ++ Lb)) (H' : Hp (InL La) w w' sz' Lc R') : sz ≤ sz' ∧ Hp S w0 w' sz' (Lc ++ Lb) R := by
  obtain ⟨h1, h2⟩ := H.trans hp H' (fun _ h => h)
  exact ⟨h1, h2.perm List.perm_append_comm⟩
theorem Own.all {La : List Bk} (H : Hp S w0 w sz La R) : Own w La := H.part (Lb := []) (by simp)
end
end Go.Proofs.YtccgpjhgfjfaoaaGreatDoor
/- A range over a function, over what is known of the memory: the body is walked with the rules of the lone walk. -/
namespace Go.Proofs.YtccgpjhgfjfaoaaGreatDoor
open Go.RowKit Go.Shelf

abbrev FR (l : Nat) : Fence := Fence.wide.inRound l
def NormQ (K : Act → World → Prop) : Exit → Act → World → Prop := fun e a w => e = .normal ∧ K a w
def noDef (o : Oper) : Bool := match o.op with | .defer _ => false | _ => true
theorem noDef_ne {o : Oper} (h : noDef o = true) : ∀ c, o.op ≠ .defer c := by
  intro c e; simp [noDef, e] at h
section
variable {P : Program} {l n : Nat} {K K' : Act → World → Prop} {Q N : Exit → Act → World → Prop}
theorem oper_toIn {o : Oper} {a : Act} {w : World} (hd : noDef o = true) (hN : ∀ e a w, N e a w → e = .normal) (hK : ∀ a w, K a w → K' a w)
    (h : o.wp P a w K N ∨ (o.asks P a w ∧ LetsOut N)) : o.wpIn (FR l) n P a w K' Q := by
  have hlo : ¬ LetsOut N := fun ⟨a, w, h⟩ => absurd (hN _ _ _ h) (by simp)
  rcases h with h | ⟨_, h⟩
  · refine ⟨fun f _ => trivial, ?_⟩
    rw [Oper.semAt_eq _ _ _ (noDef_ne hd)]
    unfold Oper.wp at h
    generalize (execOp a.eval o).run P w = r at h ⊢
    cases r with
    | ok x w' =>
      cases x <;> simp only [Oper.upon, Oper.uponIn] at h ⊢
      case value v => exact hK _ _ h
      case skip => exact hK _ _ h
      case defer d => exact hK _ _ h
      case enter f args =>
        refine ⟨fun h => by simp [FR, Fence.inRound, Fence.wide] at h, CallsIn.inRound l ((callsIn_wide.2 h).mono ?_)⟩
        intro e w'' he
        cases e with
        | returned v => exact hK _ _ he
        | panicked c => exact absurd (hN _ _ _ he) (by simp)
        | outgrown => exact absurd he hlo
      case row row args =>
        refine ⟨fun h => by simp [FR, Fence.inRound, Fence.wide] at h, fun c cs _ => ?_⟩
        obtain ⟨v, w'', hr, hs⟩ := h c cs
        exact ⟨v, w'', hK _ _ hr, stepsIn_wide.2 hs⟩
    | halt x w' =>
      cases x <;> simp only [Oper.upon, Oper.uponIn] at h ⊢
      case panic v => exact absurd (hN _ _ _ h) (by simp)
  · exact absurd h hlo
theorem oper_toW {o : Oper} {a : Act} {w : World} (hd : noDef o = true) (hN : ∀ e a w, N e a w → e = .normal) (hK : ∀ a w, K a w → K' a w)
    (h : o.wp P a w K N ∨ (o.asks P a w ∧ LetsOut N)) : o.wpIn Fence.wide n P a w K' Q := by
  have hlo : ¬ LetsOut N := fun ⟨a, w, h⟩ => absurd (hN _ _ _ h) (by simp)
  rcases h with h | ⟨_, h⟩
  · refine ⟨fun f _ => trivial, ?_⟩
    rw [Oper.semAt_eq _ _ _ (noDef_ne hd)]
    unfold Oper.wp at h
    generalize (execOp a.eval o).run P w = r at h ⊢
    cases r with
    | ok x w' =>
      cases x <;> simp only [Oper.upon, Oper.uponIn] at h ⊢
      case value v => exact hK _ _ h
      case skip => exact hK _ _ h
      case defer d => exact hK _ _ h
      case enter f args =>
        refine ⟨fun h => by simp [Fence.wide] at h, (callsIn_wide.2 h).mono ?_⟩
        intro e w'' he
        cases e with
        | returned v => exact hK _ _ he
        | panicked c => exact absurd (hN _ _ _ he) (by simp)
        | outgrown => exact absurd he hlo
      case row row args =>
        refine ⟨fun h => by simp [Fence.wide] at h, fun c cs _ => ?_⟩
        obtain ⟨v, w'', hr, hs⟩ := h c cs
        exact ⟨v, w'', hK _ _ hr, stepsIn_wide.2 hs⟩
    | halt x w' =>
      cases x <;> simp only [Oper.upon, Oper.uponIn] at h ⊢
      case panic v => exact absurd (hN _ _ _ h) (by simp)
  · exact absurd h hlo
theorem list_toIn {ops : Array Oper} : ∀ (rest : List Oper) (a : Act) (w : World), rest.all noDef = true → (∀ a w, K a w → Q .normal a w) → wpList P ops (NormQ K) rest a w → wpListIn (FR l) n P ops Q rest a w
  | [], a, w, _, hK, h => hK _ _ h.2
  | o :: rest, a, w, hd, hK, h => by
    simp only [List.all_cons, Bool.and_eq_true] at hd
    unfold wpList at h
    unfold wpListIn
    split
    · rename_i hw
      rw [if_pos hw] at h
      exact oper_toIn hd.1 (fun e a w h => h.1) (fun a w h => list_toIn rest a w hd.2 hK h) h
    · rename_i hw
      rw [if_neg hw] at h
      exact ⟨fun f _ => trivial, list_toIn rest _ w hd.2 hK h⟩
theorem any_toIn {ops : Array Oper} (hd : ops.all noDef = true) (hK : ∀ a w, K a w → Q .normal a w) : ∀ (fuel : Nat) (listed : Array Bool) (a : Act) (w : World), wpAny P .any ops (NormQ K) fuel listed a w → wpAnyIn (FR l) n P .any ops Q fuel listed a w
  | 0, listed, a, w, h => ⟨h.1, hK _ _ h.2.2⟩
  | fuel + 1, listed, a, w, h => by
    refine ⟨fun h0 => hK _ _ (h.1 h0).2, fun i hi => ?_⟩
    have h1 := h.2 i hi
    unfold wpOp at h1
    unfold wpOpIn
    cases ho : ops[i]? with
    | none => rw [ho] at h1; exact any_toIn hd hK fuel _ a w h1
    | some o =>
      rw [ho] at h1
      simp only at h1 ⊢
      have hdo : noDef o = true := Array.all_eq_true'.1 hd o (Array.mem_of_getElem? ho)
      split
      · rename_i hw
        rw [if_pos hw] at h1
        exact oper_toIn hdo (fun e a w h => h.1) (fun a w h => any_toIn hd hK fuel _ a w h) h1
      · rename_i hw
        rw [if_neg hw] at h1
        exact ⟨fun f _ => trivial, any_toIn hd hK fuel _ _ w h1⟩
theorem wpIn_regL {id : Nat} {ops : List Oper} {a : Act} {w : World} (hd : ops.all noDef = true) (h : wpList P ops.toArray (NormQ fun a w => Q .normal a w) ops a w) : (Code.region id ops.toArray false).wpIn (FR l) n P Q a w :=
  wpIn_region_lit (list_toIn ops a w hd (fun _ _ h => h) h)
theorem wpIn_regA {id : Nat} {ops : Array Oper} {a : Act} {w : World} (hd : ops.all noDef = true) (hm : P.follows .mixedOrders = true) (h : wpAny P .any ops (NormQ fun a w => Q .normal a w) ops.size (Array.replicate ops.size false) a w.drew) : (Code.region id ops true).wpIn (FR l) n P Q a w :=
  wpIn_region_any hm (any_toIn hd (fun _ _ h => h) _ _ _ _ h)
end
section
variable {P : Program}
theorem det_any {Q : Exit → Act → World → Prop} {a : Act} {w : World} {l : List Oper} (n : Nat) (I : World → Prop) (hB : detB l.toArray n = true) (hI : I w.drew)
    (h : wpDet P l.toArray I (fun a' => ∀ w', I w' → wpList P l.toArray Q (l.drop n) a' w') (l.take n) a) : wpAny P .any l.toArray Q l.toArray.size (Array.replicate l.toArray.size false) a w.drew := by
  have S := DetSpec.of hB
  have hn : n ≤ l.length := by simpa using S.le
  have hlen : (l.take n).length = n := by simp; omega
  obtain ⟨vs, hvs⟩ := wpDet_values (ops := l.toArray) (l.take n) 0 a (fun j hj => by rw [hlen] at hj; simp [hj]) h
  obtain ⟨h1, h2⟩ := hvs (stg l.toArray vs a) rfl (fun j _ => by simp [stg])
  rw [hlen] at h1 h2
  have inv0 : HeadInv .any l.toArray n (Array.replicate l.toArray.size false) :=
    ⟨by simp, fun j oj _ hl => (by rw [getD_replicate_false] at hl; cases hl), fun t _ ht => getD_in (by simpa using ht) (getD_replicate_false _ _)⟩
  have := any_det (P := P) (Q := Q) (I := I) S vs a (fun i o hi ho => h1 i o hi (by simpa using ho)) (by simpa using h2) n (List.range n) (Array.replicate l.toArray.size false) a w.drew
    (by simp) List.nodup_range (fun i => by
      simp only [List.mem_range]
      constructor
      · intro hi; exact ⟨hi, getD_in (by simp; omega) (getD_replicate_false _ _)⟩
      · exact fun h => h.1) inv0 ⟨rfl, rfl, fun j t _ _ hl => (by rw [getD_replicate_false] at hl; cases hl), fun _ _ => rfl⟩ hI
  have hs := S.le
  rw [show n + (l.toArray.size - n) = l.toArray.size by omega] at this
  exact this
theorem wpIn_region_det {lr m id : Nat} {Q : Exit → Act → World → Prop} {a : Act} {w : World} {l : List Oper} (n : Nat) (I : World → Prop) (hm : P.follows .mixedOrders = true) (hd : l.toArray.all noDef = true) (hB : detB l.toArray n = true) (hI : I w.drew)
    (h : wpDet P l.toArray I (fun a' => ∀ w', I w' → wpList P l.toArray (NormQ fun a w => Q .normal a w) (l.drop n) a' w') (l.take n) a) : (Code.region id l.toArray true).wpIn (FR lr) m P Q a w :=
  wpIn_regA hd hm (det_any n I hB hI h)
end
section
variable {S : Nat → Prop} {w0 w w' : World} {sz : Nat} {L L' R R' : List Bk}
/-- The call's own view from here on. -/
theorem Hp.inner (H : Hp S w0 w sz L R) : Hp (InL L) w w w.heap.size L R :=
  ⟨Keeps.refl _ _, rfl, H.blk, fun x hx => .inl (List.mem_map_of_mem hx), H.nodup, fun x hx => by
    obtain ⟨h1, h2, h3⟩ := H.ro x hx
    refine ⟨h1, fun h => ?_, h1.lt⟩
    obtain ⟨y, hy, he⟩ := List.mem_map.1 h
    rcases H.own y hy with h4 | h4
    · exact h2 (he ▸ h4)
    · rw [he] at h4; omega⟩
theorem Hp.innerR {La Lb : List Bk} (H : Hp S w0 w sz L R) (hp : L.Perm (La ++ Lb)) : Hp (InL La) w w w.heap.size La (Lb ++ R) := by
  have H1 := H.perm hp
  have hnd := H1.nodup
  rw [List.map_append, List.nodup_append] at hnd
  refine ⟨Keeps.refl _ _, rfl, fun x hx => H1.blk x (by simp [hx]), fun x hx => .inl (List.mem_map_of_mem hx), hnd.1, fun x hx => ?_⟩
  rcases List.mem_append.1 hx with h | h
  · refine ⟨H1.blk x (by simp [h]), fun hi => ?_, (H1.blk x (by simp [h])).lt⟩
    exact hnd.2.2 _ hi _ (List.mem_map_of_mem h) rfl
  · obtain ⟨h1, h2, h3⟩ := H1.inner.ro x h
    refine ⟨h1, fun hi => h2 ?_, h3⟩
    obtain ⟨y, hy, he⟩ := List.mem_map.1 hi
    exact List.mem_map.2 ⟨y, by simp [hy], he⟩
theorem Hp.outer (H : Hp S w0 w sz L R) {sz' : Nat} (H' : Hp (InL L) w w' sz' L' R') : Hp S w0 w' sz' L' R := by
  have := (H.join (Lb := []) (by simp) H').2
  simpa using this
theorem Hp.stable (H : Hp S w0 w sz L R) (hk : Keeps NoS w w') : ∃ sz', Hp S w0 w' sz' L R := by
  obtain ⟨sz', _, h⟩ := H.call hk.below
  exact ⟨sz', h⟩
theorem Hp.notCells (H : Hp S w0 w sz L R) {l : Nat} {o : Obj} (hl : w.heap[l]? = some o) (ho : o.isCells = false) : ¬ InL L l := by
  intro h
  obtain ⟨y, hy, he⟩ := List.mem_map.1 h
  have := H.blk y hy
  unfold Blk at this
  rw [he, hl] at this
  rw [Option.some.inj this] at ho
  simp [Obj.isCells] at ho
theorem Hp.putObj (H : Hp S w0 w sz L R) {l : Nat} {o o' : Obj} (hl : w.heap[l]? = some o) (ho : o.isCells = false) (hb : w0.heap.size ≤ l) : Hp S w0 (w.putObj l o') sz L R := by
  have hne : ∀ x ∈ L, x.1 ≠ l := fun x hx e => H.notCells hl ho (e ▸ List.mem_map_of_mem hx)
  have hoth : ∀ k, k ≠ l → (w.putObj l o').heap[k]? = w.heap[k]? := fun k hk => World.putObj_heap_other hk
  have hsz : (w.putObj l o').heap.size = w.heap.size := by simp [World.putObj]
  refine ⟨⟨H.keep.os, H.keep.tape, H.keep.output, by rw [hsz]; exact H.keep.size, fun k hk hs => (hoth k (by omega)).trans (H.keep.block k hk hs)⟩, by rw [hsz, H.size], fun x hx => (hoth _ (hne x hx)).trans (H.blk x hx), H.own, H.nodup, fun x hx => ?_⟩
  obtain ⟨h1, h2, h3⟩ := H.ro x hx
  exact ⟨(hoth _ (by omega)).trans h1, h2, h3⟩
theorem Hp.still {sz1 : Nat} (H : Hp (InL L) w w' sz1 L' R) {H1 : Hp S w0 w sz L R'} {l : Nat} {o : Obj} (hl : w.heap[l]? = some o) (ho : o.isCells = false) : w'.heap[l]? = some o :=
  (H.keep.block l (Array.getElem?_eq_some_iff.1 hl).1 (H1.notCells hl ho)).trans hl
end

section
variable {P : Program} {l n : Nat} {Q : Exit → Act → World → Prop} {ops : Array Oper} {o : Oper} {rest : List Oper} {a : Act} {w : World}
theorem op_inR (hd : noDef o = true) (h : wpList P ops (NormQ fun a w => wpListIn (FR l) n P ops Q rest a w) [o] a w) : wpListIn (FR l) n P ops Q (o :: rest) a w := by
  unfold wpList at h
  unfold wpListIn
  split
  · rename_i hw
    rw [if_pos hw] at h
    exact oper_toIn hd (fun e a w h => h.1) (fun a w h => h.2) h
  · rename_i hw
    rw [if_neg hw] at h
    exact ⟨fun f _ => trivial, h.2⟩
theorem op_inW (hd : noDef o = true) (h : wpList P ops (NormQ fun a w => wpListIn Fence.wide n P ops Q rest a w) [o] a w) : wpListIn Fence.wide n P ops Q (o :: rest) a w := by
  unfold wpList at h
  unfold wpListIn
  split
  · rename_i hw
    rw [if_pos hw] at h
    exact oper_toW hd (fun e a w h => h.1) (fun a w h => h.2) h
  · rename_i hw
    rw [if_neg hw] at h
    exact ⟨fun f _ => trivial, h.2⟩
/-- A call of yield. -/
theorem yield_up {vs : Array Value} {R : Ending → World → Prop} {K : Act → World → Prop} (hY : YieldAt Fence.wide (n - 1) P l vs w R)
    (h : ∀ e w', R e w' → ∃ v, e = .returned v ∧ K (a.put o.dst v) w') : o.uponIn Fence.wide n P a K Q ((Instr.yield l vs).run P w) := by
  obtain ⟨fn, tmps, assign, body, hy, hR⟩ := hY
  rw [hy]
  refine ⟨fun h => by simp [Fence.wide] at h, hR.mono ?_⟩
  intro e w' he
  obtain ⟨v, rfl, hk⟩ := h e w' he
  exact hk
end
/-- An iterator that hands over xs, whatever round keeps J. -/
def SeqHp {α : Type} (P : Program) (gf : Nat) (lb : Array Value) (enc : α → Array Value) (xs : List α) (wl : World) (T : Nat → Prop) : Prop :=
  ∀ (n l : Nat) (J : List α → World → Prop) (W : World), 9 ≤ n → Keeps NoS wl W → (∀ pre W W', J pre W → Keeps NoS W W' → J pre W') → (∀ pre W, J pre W → Keeps T wl W) →
    (∀ pre x W1, (∃ post, xs = pre ++ x :: post) → J pre W1 → YieldAt Fence.wide (n - 1) P l (enc x) W1 fun e W' => e = .returned (.bool true) ∧ J (pre ++ [x]) W') →
    J [] W → CallsIn Fence.wide n P gf (#[.func (.yield l) #[] #[]] ++ lb) W fun e W' => (∃ v, e = .returned v) ∧ J xs W'

theorem wp_rangeHp {α : Type} {P : Program} {g : Operand} {ps : Array Tmp} {assign body : Code} {Q : Exit → Act → World → Prop} {a : Act} {wl : World} {gf : Nat} {lb : Array Value}
    (hg : a.eval g = .func (.func gf) #[] lb) (eg : ∀ args w, (callFunc gf args).run P w = .ok (.enter gf args) w) {enc : α → Array Value} (hps : ∀ x, (enc x).size = ps.size) {xs : List α} {L0 R0 : List Bk}
    (H0 : Hp (InL L0) wl wl wl.heap.size L0 R0) (hseq : SeqHp P gf lb enc xs wl (InL L0)) (I : List α → List Bk → Prop) (h0 : I [] L0)
    (hround : ∀ (l n : Nat) (pre : List α) (x : α) (W : World) (Lc : List Bk), 3 ≤ n → (∃ post, xs = pre ++ x :: post) → I pre Lc → Hp (InL Lc) W W W.heap.size Lc R0 →
      assign.wpIn (FR l) n P (Exit.then (fun a1 W1 => ∃ sz1 La, Hp (InL Lc) W W1 sz1 La R0 ∧
        ∀ W2, Hp (InL La) W2 W2 W2.heap.size La R0 → body.wpIn (FR l) n P (fun e _ W' => e = .normal ∧ ∃ sz' Lc', I (pre ++ [x]) Lc' ∧ Hp (InL La) W2 W' sz' Lc' R0) a1 W2) (fun _ _ _ => False))
        { tmps := (ps.zip (enc x)).foldl (fun t (p, v) => t.setIfInBounds p v) a.tmps, defers := [] } W)
    (hdone : ∀ (D : Nat) (W : World) (sz : Nat) (L' : List Bk), wl.heap.size ≤ D → I xs L' → Hp (InL L0) wl W sz L' R0 → W.heap[D]? = some (.deferred (some [])) → Q .normal { a with defers := { target := .collected D, args := #[] } :: a.defers } W) :
    (Code.rangeFunc g ps assign body).wp P Q a wl := by
  refine (wpIn_wide (n := 20)).1 (wpIn_rangeFunc ?_)
  intro fn _
  obtain ⟨rec, hrec⟩ : ∃ rec : LoopState → Loop, rec = fun st => { state := st, pending := none, fn, tmps := a.tmps, params := ps, assign, body, defers := wl.heap.size } := ⟨_, rfl⟩
  obtain ⟨W1, hW1⟩ : ∃ W1, (wl.alloc (.deferred (some []))).alloc (.loop (rec .ready)) = W1 := ⟨_, rfl⟩
  have hL1 : W1.heap[wl.heap.size + 1]? = some (.loop (rec .ready)) := by
    rw [← hW1]; have := World.alloc_heap_new (wl.alloc (.deferred (some []))) (.loop (rec .ready)); rwa [World.size_alloc] at this
  have hK1 : W1.heap[wl.heap.size]? = some (.deferred (some [])) := by
    rw [← hW1]; exact (Below.heap_alloc _ _ _ (by simp)).trans (World.alloc_heap_new wl _)
  have hb1 : Below wl.heap.size wl W1 := by
    rw [← hW1]; exact ((Below.refl _ wl).alloc (Nat.le_refl _) _).alloc (by simp) _
  have hk1 : Keeps NoS wl W1 := Keeps.of_below NoS hb1
  refine ⟨wl.heap.size + 1, [{ target := .collected wl.heap.size, args := #[] }], W1, { target := .fn (.func gf) lb, args := #[.func (.yield (wl.heap.size + 1)) #[] #[]] }, W1, gf,
    #[.func (.yield (wl.heap.size + 1)) #[] #[]] ++ lb, W1, ?_, ?_, fun _ _ => trivial, ?_, fun h => by simp [Fence.wide] at h, ?_⟩
  · rw [← hW1, hrec]; exact run_enterLoop_outer _ _ _ _ _
  · simp only [resolve, hg]
    simp [go_sem]
  · simp [invoke, go_sem, eg]
  · refine (hseq 19 (wl.heap.size + 1)
      (fun pre W => ∃ sz Lc, I pre Lc ∧ Hp (InL L0) wl W sz Lc R0 ∧ W.heap[wl.heap.size + 1]? = some (.loop (rec .ready)) ∧ W.heap[wl.heap.size]? = some (.deferred (some [])))
      W1 (by omega) hk1 ?_ ?_ ?_ ?_).mono ?_
    · rintro pre W W' ⟨sz, Lc, hI, H, hl, hk⟩ hK
      obtain ⟨sz', H'⟩ := H.stable hK
      exact ⟨sz', Lc, hI, H', (hK.block _ (Array.getElem?_eq_some_iff.1 hl).1 id).trans hl, (hK.block _ (Array.getElem?_eq_some_iff.1 hk).1 id).trans hk⟩
    · rintro pre W ⟨sz, Lc, hI, H, hl, hk⟩
      exact H.keep
    · rintro pre x W hx ⟨sz, Lc, hI, H, hl, hk⟩
      have hy := run_yield (P := P) (args := enc x) hl (by rw [hrec]; exact hps x)
      rw [hrec] at hy
      refine ⟨fn, _, assign, body, hy, roundIn_of_wpIn trivial (wpIn_mono (hround _ 18 pre x W Lc (by omega) hx hI H.inner) ?_)⟩
      rintro e a1 Wa he
      cases e with
      | normal =>
        obtain ⟨sz1, La, HA, hb⟩ := he
        have hla := HA.still (H1 := H) hl rfl
        have hka := HA.still (H1 := H) hk rfl
        have HO := H.outer HA
        refine ⟨_, run_beginRound hla (by rw [hrec]), wpIn_mono (hb _ (HO.putObj hla rfl (by omega)).inner) ?_⟩
        rintro e a2 Wb ⟨rfl, sz', Lc', hI', HB⟩
        have HO2 := HO.putObj (o' := .loop { rec .ready with state := .busy }) hla rfl (by omega)
        have hl2 : (Wa.putObj (wl.heap.size + 1) (.loop { rec .ready with state := .busy })).heap[wl.heap.size + 1]? = some (.loop { rec .ready with state := .busy }) := World.putObj_heap_same (Array.getElem?_eq_some_iff.1 hla).1
        have hk2 : (Wa.putObj (wl.heap.size + 1) (.loop { rec .ready with state := .busy })).heap[wl.heap.size]? = some (.deferred (some [])) := (World.putObj_heap_other (by omega)).trans hka
        have hl3 := HB.still (H1 := HO2) hl2 rfl
        have hk3 := HB.still (H1 := HO2) hk2 rfl
        have HO3 := HO2.outer HB
        have hr := run_endRound (P := P) none hl3
        refine ⟨_, _, hr, rfl, _, Lc', hI', HO3.putObj hl3 rfl (by omega), ?_, (World.putObj_heap_other (by omega)).trans hk3⟩
        rw [hrec]
        exact World.putObj_heap_same (Array.getElem?_eq_some_iff.1 hl3).1
      | ret => exact he.elim
      | exit id => exact he.elim
      | goto t => exact he.elim
      | panic ch => exact he.elim
      | outgrown => exact he.elim
    · obtain ⟨sz', H'⟩ := H0.stable hk1
      exact ⟨sz', L0, h0, H', hL1, hK1⟩
    · rintro e W2 ⟨⟨v, rfl⟩, sz, Lc, hI, H, hl, hk⟩
      refine ⟨none, _, by have := run_endLoop (P := P) hl (by rw [hrec]; simp); rw [hrec] at this; exact this, ?_⟩
      exact (hdone _ _ _ _ (Nat.le_refl _) hI (H.putObj hl rfl (by omega)) ((World.putObj_heap_other (by omega)).trans hk))
section
variable {P : Program} {f : FuncId} {fn : Func} {c : Code} {args : Array Value} {w w' : World} {R : Ending → World → Prop} {a : Act} {D n : Nat} {v : Value}
theorem calls_of_marks (hf : P.funcs[f]? = some fn) (hb : fn.body = some c) (h : c.wp P (bodyPostM Fence.wide 20 P fn R) { tmps := args ++ Array.replicate (fn.ntmps - args.size) undef, defers := [] } w) : Calls P f args w R :=
  (callsIn_wide (n := 20)).1 (callsIn_of_wp_marks hf hb trivial (wpIn_wide.2 h) rfl)
theorem marks_ret (hd : a.defers = [{ target := .collected D, args := #[] }]) (hK : w.heap[D]? = some (.deferred (some []))) (hr : (results fn a.tmps).run P (w.putObj D (.deferred none)) = .ok v (w.putObj D (.deferred none))) (h : R (.returned v) (w.putObj D (.deferred none))) : bodyPostM Fence.wide n P fn R .ret a w := by
  show LeavesInM Fence.wide n P fn a.tmps R a.defers .returning w
  rw [hd]
  exact ⟨by simp, .inl ⟨_, _, rfl, run_takeDeferred hK, v, hr, h⟩⟩
end
end Go.Proofs.YtccgpjhgfjfaoaaGreatDoor
/- Range over a function whose values are known but for some parts. -/
namespace Go.Proofs.YtccgpjhgfjfaoaaGreatDoor
open Go.RowKit Go.Shelf
attribute [local go_sem] Oper.semAt_some

/-- An iterator that hands over, for each of xs, arguments that Y tells of. -/
def SeqY {α : Type} (P : Program) (gf : Nat) (lb : Array Value) (Y : α → Array Value → Prop) (xs : List α) (wl : World) (T : Nat → Prop) : Prop :=
  ∀ (n l : Nat) (J : List α → World → Prop) (W : World), 9 ≤ n → Keeps NoS wl W → (∀ pre W W', J pre W → Keeps NoS W W' → J pre W') → (∀ pre W, J pre W → Keeps T wl W) →
    (∀ pre x args W1, (∃ post, xs = pre ++ x :: post) → Y x args → J pre W1 → YieldAt Fence.wide (n - 1) P l args W1 fun e W' => e = .returned (.bool true) ∧ J (pre ++ [x]) W') →
    J [] W → CallsIn Fence.wide n P gf (#[.func (.yield l) #[] #[]] ++ lb) W fun e W' => (∃ v, e = .returned v) ∧ J xs W'

theorem wp_rangeY {α : Type} {P : Program} {g : Operand} {ps : Array Tmp} {assign body : Code} {Q : Exit → Act → World → Prop} {a : Act} {wl : World} {gf : Nat} {lb : Array Value}
    (hg : a.eval g = .func (.func gf) #[] lb) (eg : ∀ args w, (callFunc gf args).run P w = .ok (.enter gf args) w) {Y : α → Array Value → Prop} (hps : ∀ x args, Y x args → args.size = ps.size) {xs : List α} {L0 R0 : List Bk}
    (H0 : Hp (InL L0) wl wl wl.heap.size L0 R0) (hseq : SeqY P gf lb Y xs wl (InL L0)) (I : List α → List Bk → Prop) (h0 : I [] L0)
    (hround : ∀ (l n : Nat) (pre : List α) (x : α) (args : Array Value) (W : World) (Lc : List Bk), 3 ≤ n → Y x args → (∃ post, xs = pre ++ x :: post) → I pre Lc → Hp (InL Lc) W W W.heap.size Lc R0 →
      assign.wpIn (FR l) n P (Exit.then (fun a1 W1 => ∃ sz1 La, Hp (InL Lc) W W1 sz1 La R0 ∧
        ∀ W2, Hp (InL La) W2 W2 W2.heap.size La R0 → body.wpIn (FR l) n P (fun e _ W' => e = .normal ∧ ∃ sz' Lc', I (pre ++ [x]) Lc' ∧ Hp (InL La) W2 W' sz' Lc' R0) a1 W2) (fun _ _ _ => False))
        { tmps := (ps.zip args).foldl (fun t (p, v) => t.setIfInBounds p v) a.tmps, defers := [] } W)
    (hdone : ∀ (D : Nat) (W : World) (sz : Nat) (L' : List Bk), wl.heap.size ≤ D → I xs L' → Hp (InL L0) wl W sz L' R0 → W.heap[D]? = some (.deferred (some [])) → Q .normal { a with defers := { target := .collected D, args := #[] } :: a.defers } W) :
    (Code.rangeFunc g ps assign body).wp P Q a wl := by
  refine (wpIn_wide (n := 20)).1 (wpIn_rangeFunc ?_)
  intro fn _
  obtain ⟨rec, hrec⟩ : ∃ rec : LoopState → Loop, rec = fun st => { state := st, pending := none, fn, tmps := a.tmps, params := ps, assign, body, defers := wl.heap.size } := ⟨_, rfl⟩
  obtain ⟨W1, hW1⟩ : ∃ W1, (wl.alloc (.deferred (some []))).alloc (.loop (rec .ready)) = W1 := ⟨_, rfl⟩
  have hL1 : W1.heap[wl.heap.size + 1]? = some (.loop (rec .ready)) := by
    rw [← hW1]; have := World.alloc_heap_new (wl.alloc (.deferred (some []))) (.loop (rec .ready)); rwa [World.size_alloc] at this
  have hK1 : W1.heap[wl.heap.size]? = some (.deferred (some [])) := by
    rw [← hW1]; exact (Below.heap_alloc _ _ _ (by simp)).trans (World.alloc_heap_new wl _)
  have hb1 : Below wl.heap.size wl W1 := by
    rw [← hW1]; exact ((Below.refl _ wl).alloc (Nat.le_refl _) _).alloc (by simp) _
  have hk1 : Keeps NoS wl W1 := Keeps.of_below NoS hb1
  refine ⟨wl.heap.size + 1, [{ target := .collected wl.heap.size, args := #[] }], W1, { target := .fn (.func gf) lb, args := #[.func (.yield (wl.heap.size + 1)) #[] #[]] }, W1, gf,
    #[.func (.yield (wl.heap.size + 1)) #[] #[]] ++ lb, W1, ?_, ?_, fun _ _ => trivial, ?_, fun h => by simp [Fence.wide] at h, ?_⟩
  · rw [← hW1, hrec]; exact run_enterLoop_outer _ _ _ _ _
  · simp only [resolve, hg]
    simp [go_sem]
  · simp [invoke, go_sem, eg]
  · refine (hseq 19 (wl.heap.size + 1)
      (fun pre W => ∃ sz Lc, I pre Lc ∧ Hp (InL L0) wl W sz Lc R0 ∧ W.heap[wl.heap.size + 1]? = some (.loop (rec .ready)) ∧ W.heap[wl.heap.size]? = some (.deferred (some [])))
      W1 (by omega) hk1 ?_ ?_ ?_ ?_).mono ?_
    · rintro pre W W' ⟨sz, Lc, hI, H, hl, hk⟩ hK
      obtain ⟨sz', H'⟩ := H.stable hK
      exact ⟨sz', Lc, hI, H', (hK.block _ (Array.getElem?_eq_some_iff.1 hl).1 id).trans hl, (hK.block _ (Array.getElem?_eq_some_iff.1 hk).1 id).trans hk⟩
    · rintro pre W ⟨sz, Lc, hI, H, hl, hk⟩
      exact H.keep
    · rintro pre x args W hx hY ⟨sz, Lc, hI, H, hl, hk⟩
      have hy := run_yield (P := P) (args := args) hl (by rw [hrec]; exact hps x args hY)
      rw [hrec] at hy
      refine ⟨fn, _, assign, body, hy, roundIn_of_wpIn trivial (wpIn_mono (hround _ 18 pre x args W Lc (by omega) hY hx hI H.inner) ?_)⟩
      rintro e a1 Wa he
      cases e with
      | normal =>
        obtain ⟨sz1, La, HA, hb⟩ := he
        have hla := HA.still (H1 := H) hl rfl
        have hka := HA.still (H1 := H) hk rfl
        have HO := H.outer HA
        refine ⟨_, run_beginRound hla (by rw [hrec]), wpIn_mono (hb _ (HO.putObj hla rfl (by omega)).inner) ?_⟩
        rintro e a2 Wb ⟨rfl, sz', Lc', hI', HB⟩
        have HO2 := HO.putObj (o' := .loop { rec .ready with state := .busy }) hla rfl (by omega)
        have hl2 : (Wa.putObj (wl.heap.size + 1) (.loop { rec .ready with state := .busy })).heap[wl.heap.size + 1]? = some (.loop { rec .ready with state := .busy }) := World.putObj_heap_same (Array.getElem?_eq_some_iff.1 hla).1
        have hk2 : (Wa.putObj (wl.heap.size + 1) (.loop { rec .ready with state := .busy })).heap[wl.heap.size]? = some (.deferred (some [])) := (World.putObj_heap_other (by omega)).trans hka
        have hl3 := HB.still (H1 := HO2) hl2 rfl
        have hk3 := HB.still (H1 := HO2) hk2 rfl
        have HO3 := HO2.outer HB
        have hr := run_endRound (P := P) none hl3
        refine ⟨_, _, hr, rfl, _, Lc', hI', HO3.putObj hl3 rfl (by omega), ?_, (World.putObj_heap_other (by omega)).trans hk3⟩
        rw [hrec]
        exact World.putObj_heap_same (Array.getElem?_eq_some_iff.1 hl3).1
      | ret => exact he.elim
      | exit id => exact he.elim
      | goto t => exact he.elim
      | panic ch => exact he.elim
      | outgrown => exact he.elim
    · obtain ⟨sz', H'⟩ := H0.stable hk1
      exact ⟨sz', L0, h0, H', hL1, hK1⟩
    · rintro e W2 ⟨⟨v, rfl⟩, sz, Lc, hI, H, hl, hk⟩
      refine ⟨none, _, by have := run_endLoop (P := P) hl (by rw [hrec]; simp); rw [hrec] at this; exact this, ?_⟩
      exact (hdone _ _ _ _ (Nat.le_refl _) hI (H.putObj hl rfl (by omega)) ((World.putObj_heap_other (by omega)).trans hk))
end Go.Proofs.YtccgpjhgfjfaoaaGreatDoor
/- Iterators over a slice of notices. -/
namespace Go.Proofs.YtccgpjhgfjfaoaaGreatDoor
open Go.RowKit Go.Shelf
attribute [local go_sem] Oper.semAt_some

/-- The slice (A, m, c) has the cells xs, size cells an element. -/
def RowOf (w : World) (A : Option Addr) (m c size : Nat) (xs : List Value) : Prop :=
  xs.length = m * size ∧ ((A = none ∧ m = 0 ∧ c = 0) ∨ ∃ b o t bl, A = some ⟨b, o, none⟩ ∧ Blk w b t bl ∧ seg bl o (m * size) = xs ∧ o + m * size ≤ bl.size)
theorem Keeps.noS {w w' : World} {S : Nat → Prop} {sz : Nat} {L R : List Bk} {w0 : World} (H : Hp S w0 w' sz L R) : Keeps S w0 w' := H.keep
theorem op_keep {P : Program} {o : Oper} {a : Act} {w : World} : True := trivial
section
variable {w : World} {A : Option Addr} {c q : Nat} {l : List Ntc} {T : Nat → Prop}
set_option maxRecDepth 100000 in
set_option maxHeartbeats 2000000 in
theorem All1_seq {br o : Nat} {t : TypeId} {bl : Array Value} (hq : Blk w q 39 #[.slice (some ⟨br, o, none⟩) l.length c]) (hqT : ¬ T q) (hb : Blk w br t bl) (hbT : ¬ T br) (hs : seg bl o (l.length * 3) = l.flatMap encN) (hbd : o + l.length * 3 ≤ bl.size) (hlen : l.length ≤ 1048576) :
    SeqHp Tryz.prog 99 #[pV q] (fun x => #[ntcV x]) l w T := by
  intro n lr J W hn hW hst hJk hY h0
  have hqW := (hJk _ _ h0).blk hq hqT
  refine callsIn_of_wp Tryz.func99 rfl trivial ?_ rfl
  simp only [Tryz.ntmps99, List.size_toArray, List.length_cons, List.length_nil, Nat.reduceAdd, Nat.reduceSub, Array.replicate_succ, Array.replicate_zero, List.push_toArray, List.append_toArray, List.nil_append, List.cons_append]
  have H := (Hp.start NoS W).addR hqW id
  gi_wp2_with (first | (refine op_inW rfl ?_; (first | ((with_reducible apply wlL); apply hw_loadR 0 rfl rfl H rfl; (focus (simp; done)); (focus (simp only [segV, seg, NS]; rfl)))); refine ⟨rfl, ?_⟩))
  gi_loopw [7] (fun t wr => ∃ k : Nat, k ≤ l.length ∧ t = .int .i64 k ∧ J (l.take k) wr) (fun t _ => l.length - (intOf t).toNat)
  case atStart => exact ⟨0, Nat.zero_le _, rfl, by simpa using h0⟩
  case round =>
    obtain ⟨k, hk, rfl, hJ⟩ := hrel
    clear H
    by_cases hlt : k < l.length
    · have hbW := (hJk _ _ hJ).blk hb hbT
      have H := (Hp.start NoS wr).addR hbW id
      have hbd1 := seg_bound hbd hlt
      have hv : segV true bl (o + k * 3) 3 = ntcV l[k] := by simp only [segV, if_true]; rw [seg_elem encN_len hs k hlt]; rfl
      have HV := Lib.hid hv; clear hv
      have hsp : ∃ post, l = l.take k ++ l[k] :: post := ⟨l.drop (k + 1), by rw [← List.drop_eq_getElem_cons hlt, List.take_append_drop]⟩
      gi_wp2_with (first | (refine op_inW rfl ?_; (first | ((with_reducible show wpList _ _ _ (⟨_, .load _ _, _, _, _, _⟩ :: _) _ _); apply hw_loadR 0 rfl rfl H rfl; (focus exact hbd1); (focus exact HV.out)) | ((first | ((with_reducible apply wlB); refine hw_box rfl rfl H ?_) | ((with_reducible apply wlA); refine hw_alloc rfl H ?_) | ((with_reducible apply wlS); first | refine hw_store 0 rfl rfl rfl H rfl rfl rfl (by simp) rfl ?_ | refine hw_store 1 rfl rfl rfl H rfl rfl rfl (by simp) rfl ?_ | refine hw_store 2 rfl rfl rfl H rfl rfl rfl (by simp) rfl ?_ | refine hw_store 3 rfl rfl rfl H rfl rfl rfl (by simp) rfl ?_)); clear H; intro w' H; (try simp only [Act.eval, Act.put, Value.cells, segV, seg, segPut, NS, Nat.reduceAdd] at H)) | ((with_reducible apply wlL); (first | apply hw_load 0 rfl rfl H rfl | apply hw_load 1 rfl rfl H rfl | apply hw_load 2 rfl rfl H rfl | apply hw_load 3 rfl rfl H rfl); (focus (simp; done)); (focus (simp only [segV, seg, NS]; rfl)))); refine ⟨rfl, ?_⟩))
      refine yield_up (hY _ l[k] _ hsp (hst _ _ _ hJ H.keep)) ?_
      clear H
      rintro e w2 ⟨rfl, hJ2⟩
      refine ⟨_, rfl, ?_⟩
      gi_wp2
      go_roundw
      case rel => exact ⟨k + 1, by omega, by go_num, by rw [List.take_succ_eq_append_getElem hlt]; exact hJ2⟩
      case measure => simp [intOf]; omega
    · obtain rfl : k = l.length := by omega
      gi_wp2
      go_end0
      exact ⟨⟨_, rfl⟩, by simpa using hJ⟩
set_option maxRecDepth 100000 in
set_option maxHeartbeats 2000000 in
theorem Values1_seq {br o : Nat} {t : TypeId} {bl : Array Value} (hq : Blk w q 39 #[.slice (some ⟨br, o, none⟩) l.length c]) (hqT : ¬ T q) (hb : Blk w br t bl) (hbT : ¬ T br) (hs : seg bl o (l.length * 3) = l.flatMap encN) (hbd : o + l.length * 3 ≤ bl.size) (hlen : l.length ≤ 1048576) :
    SeqHp Tryz.prog 185 #[pV q] (fun x => #[ntcV x]) l w T := by
  intro n lr J W hn hW hst hJk hY h0
  have hqW := (hJk _ _ h0).blk hq hqT
  refine callsIn_of_wp Tryz.func185 rfl trivial ?_ rfl
  simp only [Tryz.ntmps185, List.size_toArray, List.length_cons, List.length_nil, Nat.reduceAdd, Nat.reduceSub, Array.replicate_succ, Array.replicate_zero, List.push_toArray, List.append_toArray, List.nil_append, List.cons_append]
  have H := (Hp.start NoS W).addR hqW id
  gi_wp2_with (first | (refine op_inW rfl ?_; (first | ((with_reducible apply wlL); apply hw_loadR 0 rfl rfl H rfl; (focus (simp; done)); (focus (simp only [segV, seg, NS]; rfl)))); refine ⟨rfl, ?_⟩))
  gi_loopw [7] (fun t wr => ∃ k : Nat, k ≤ l.length ∧ t = .int .i64 k ∧ J (l.take k) wr) (fun t _ => l.length - (intOf t).toNat)
  case atStart => exact ⟨0, Nat.zero_le _, rfl, by simpa using h0⟩
  case round =>
    obtain ⟨k, hk, rfl, hJ⟩ := hrel
    clear H
    by_cases hlt : k < l.length
    · have hbW := (hJk _ _ hJ).blk hb hbT
      have H := (Hp.start NoS wr).addR hbW id
      have hbd1 := seg_bound hbd hlt
      have hv : segV true bl (o + k * 3) 3 = ntcV l[k] := by simp only [segV, if_true]; rw [seg_elem encN_len hs k hlt]; rfl
      have HV := Lib.hid hv; clear hv
      have hsp : ∃ post, l = l.take k ++ l[k] :: post := ⟨l.drop (k + 1), by rw [← List.drop_eq_getElem_cons hlt, List.take_append_drop]⟩
      gi_wp2_with (first | (refine op_inW rfl ?_; (first | ((with_reducible show wpList _ _ _ (⟨_, .load _ _, _, _, _, _⟩ :: _) _ _); apply hw_loadR 0 rfl rfl H rfl; (focus exact hbd1); (focus exact HV.out)) | ((first | ((with_reducible apply wlB); refine hw_box rfl rfl H ?_) | ((with_reducible apply wlA); refine hw_alloc rfl H ?_) | ((with_reducible apply wlS); first | refine hw_store 0 rfl rfl rfl H rfl rfl rfl (by simp) rfl ?_ | refine hw_store 1 rfl rfl rfl H rfl rfl rfl (by simp) rfl ?_ | refine hw_store 2 rfl rfl rfl H rfl rfl rfl (by simp) rfl ?_ | refine hw_store 3 rfl rfl rfl H rfl rfl rfl (by simp) rfl ?_)); clear H; intro w' H; (try simp only [Act.eval, Act.put, Value.cells, segV, seg, segPut, NS, Nat.reduceAdd] at H)) | ((with_reducible apply wlL); (first | apply hw_load 0 rfl rfl H rfl | apply hw_load 1 rfl rfl H rfl | apply hw_load 2 rfl rfl H rfl | apply hw_load 3 rfl rfl H rfl); (focus (simp; done)); (focus (simp only [segV, seg, NS]; rfl)))); refine ⟨rfl, ?_⟩))
      refine yield_up (hY _ l[k] _ hsp (hst _ _ _ hJ H.keep)) ?_
      clear H
      rintro e w2 ⟨rfl, hJ2⟩
      refine ⟨_, rfl, ?_⟩
      gi_wp2
      go_roundw
      case rel => exact ⟨k + 1, by omega, by go_num, by rw [List.take_succ_eq_append_getElem hlt]; exact hJ2⟩
      case measure => simp [intOf]; omega
    · obtain rfl : k = l.length := by omega
      gi_wp2
      go_end0
      exact ⟨⟨_, rfl⟩, by simpa using hJ⟩
end
end Go.Proofs.YtccgpjhgfjfaoaaGreatDoor
/- A drawn region in which one operation (number k) turns what is known of the memory, at some time; the others keep it either way. -/
namespace Go.Proofs.YtccgpjhgfjfaoaaGreatDoor
open Go

/-- In every world that meets I operation o yields v, and J holds behind it. -/
def DetOp2 (P : Program) (ops : Array Oper) (I J : World → Prop) (o : Oper) (v : Value) (a : Act) : Prop :=
  Region.wanted o (yielded ops a.tmps) = true ∧ ∀ w, I w → o.wp P a w (fun a' w' => a' = a.put o.dst v ∧ J w') (fun _ _ _ => False)
section
variable {P : Program} {ops : Array Oper} {Q : Exit → Act → World → Prop} {I J : World → Prop} {n : Nat}
theorem DetOp2.moved {o : Oper} {v : Value} {a b : Act} {i : Nat} (ho : ops[i]? = some o) (hsel : ∀ cs b, o.op ≠ .select cs b) (hs : a.tmps.size = b.tmps.size) (hdf : a.defers = b.defers)
    (hag : ∀ t, t ∈ o.looksAt ops → a.tmps[t]? = b.tmps[t]?) (h : DetOp2 P ops I J o v a) {w : World} (hI : I w) {K : Act → World → Prop}
    (hK : ∀ w', J w' → K (b.put o.dst v) w') : wpOp P ops Q i K b w := by
  have hex : execOp b.eval o = execOp a.eval o := execOp_congr o hsel fun x hx => by
    cases x with
    | tmp t =>
      have ht : t ∈ o.looksAt ops := List.mem_append_left _ (List.mem_filterMap.2 ⟨.tmp t, by simpa using hx, rfl⟩)
      have := hag t ht
      simp only [Act.eval, Array.getD_eq_getD_getElem?, this]
    | _ => rfl
  have hwt : Region.wanted o (yielded ops b.tmps) = Region.wanted o (yielded ops a.tmps) := by
    unfold Region.wanted
    cases hg : o.guard with
    | none => rfl
    | some gw =>
      obtain ⟨g, want⟩ := gw
      have hy : yielded ops b.tmps g = yielded ops a.tmps g := by
        unfold yielded
        cases hd : (ops[g]?).bind (·.dst) with
        | none => rfl
        | some d =>
          have ht : d ∈ o.looksAt ops := List.mem_append_right _ (by simp [hg, hd])
          simp only [Option.bind_some, hag d ht]
      simp only [hy]
  unfold wpOp
  simp only [ho, hwt]
  obtain ⟨hw, hrun⟩ := h
  rw [if_pos hw]
  refine .inl ?_
  have h1 := hrun w hI
  unfold Oper.wp at h1 ⊢
  rw [hex]
  have h2 := upon_moved (P := P) (Q := Q) (I := J) hs hdf _ h1
  have h3 : o.wp P b w (fun b' w' => b' = b.put o.dst v ∧ J w') Q := by unfold Oper.wp; rw [hex]; exact h2
  have h4 := Oper.wp_mono (K' := K) (fun b' w' hb => by rw [hb.1]; exact hK w' hb.2) h3
  unfold Oper.wp at h4
  rw [hex] at h4
  exact h4

end
section
variable {P : Program} {ops : Array Oper} {Q : Exit → Act → World → Prop} {I : Bool → World → Prop} {n k : Nat}
def wpDetS (P : Program) (ops : Array Oper) (I : Bool → World → Prop) (k : Nat) (fin : Act → Prop) : List Oper → Nat → Act → Prop
  | [], _, a => fin a
  | o :: rest, i, a => ∃ v, ((i ≠ k → ∀ e, DetOp P ops (I e) o v a) ∧ (i = k → DetOp2 P ops (I false) (I true) o v a)) ∧ wpDetS P ops I k fin rest (i + 1) (a.put o.dst v)

theorem any_detS (S : DetSpec ops n) (hkn : k < n) (vs : Nat → Value) (a : Act) (hdet : ∀ i o, i < n → i ≠ k → ops[i]? = some o → ∀ e, DetOp P ops (I e) o (vs i) (stg ops vs a i)) (hst : ∀ o, ops[k]? = some o → DetOp2 P ops (I false) (I true) o (vs k) (stg ops vs a k))
    (hfin : ∀ w, I true w → wpList P ops Q (ops.toList.drop n) (stg ops vs a n) w) :
    ∀ (m : Nat) (U : List Nat) (listed : Array Bool) (b : Act) (w : World), U.length = m → U.Nodup → (∀ i, i ∈ U ↔ i < n ∧ listed.getD i true = false) →
      HeadInv .any ops n listed → DetInv ops n vs a listed b → I (listed.getD k false) w → wpAny P .any ops Q (m + (ops.size - n)) listed b w := by
  intro m
  induction m with
  | zero =>
    intro U listed b w hl hnd hU hinv hb hI
    have hnil : U = [] := List.eq_nil_of_length_eq_zero hl
    subst hnil
    have hdone : ∀ i, i < n → listed.getD i true = true := fun i hi => by
      cases h : listed.getD i true with
      | true => rfl
      | false => exact absurd ((hU i).2 ⟨hi, h⟩) (by simp)
    have hlist : listed = (Array.range ops.size).map fun i => decide (i < n) := by
      apply Array.ext
      · simp [hinv.size]
      · intro i h1 h2
        have hi : i < ops.size := by rw [← hinv.size]; exact h1
        by_cases hin : i < n
        · have := hdone i hin
          rw [Array.getD_eq_getD_getElem?, Array.getElem?_eq_getElem h1] at this
          simpa [hin] using this
        · have := hinv.tail i (by omega) hi
          rw [Array.getD_eq_getD_getElem?, Array.getElem?_eq_getElem h1] at this
          simpa [hin] using this
    have hbe : b = stg ops vs a n := by
      have ht : b.tmps = (stg ops vs a n).tmps := by
        apply Array.ext_getElem?
        intro t
        by_cases hx : ∃ j, j < n ∧ dstOf ops j = some t
        · obtain ⟨j, hj, hd⟩ := hx
          refine hb.done j t hj hd ?_
          have hjs : j < listed.size := by rw [hinv.size]; have := S.le; omega
          have := hdone j hj
          rw [Array.getD_eq_getD_getElem?, Array.getElem?_eq_getElem hjs] at this ⊢
          simpa using this
        · have hx' : ∀ j, j < n → dstOf ops j ≠ some t := fun j hj hd => hx ⟨j, hj, hd⟩
          rw [hb.other t hx', stg_ne vs a t n hx']
      have hd : b.defers = (stg ops vs a n).defers := by rw [hb.defers, stg_defers]
      cases b; cases hc : stg ops vs a n; rw [hc] at ht hd; simp only at ht hd; rw [ht, hd]
    have hkd : listed.getD k false = true := by
      have hks : k < listed.size := by rw [hinv.size]; have := S.le; omega
      have := hdone k hkn
      rw [Array.getD_eq_getD_getElem?, Array.getElem?_eq_getElem hks] at this ⊢
      simpa using this
    rw [hkd] at hI
    subst hlist hbe
    have hsz : (ops.toList.drop n).length = ops.size - n := by simp
    have := wpAny_of_seq (P := P) (md := .any) (ops := ops) (Q' := Q) (ops.toList.drop n) n _ (stg ops vs a n) w (fun j => by simp [List.getElem?_drop]) (by rw [hsz]; exact S.seq) (hfin w hI)
    rw [hsz] at this
    rw [Nat.zero_add]
    exact this
  | succ m ih =>
    intro U listed b w hl hnd hU hinv hb hI
    have hex : ∃ i, i < n ∧ listed.getD i true = false := by
      cases U with
      | nil => simp at hl
      | cons i U => exact ⟨i, (hU i).1 (by simp)⟩
    have hfloat : ∀ t, t ∈ Region.ready .any ops listed → t < n := fun t ht => by
      rcases Nat.lt_or_ge t n with h | h
      · exact h
      · rcases S.tail with e | ⟨hs, hc⟩
        · obtain ⟨_, o, ho, _⟩ := mem_ready.1 ht
          have := (Array.getElem?_eq_some_iff.1 ho).1
          omega
        · obtain ⟨i, hi, hun⟩ := hex
          rcases Nat.lt_or_ge n ops.size with hn | hn
          · exact absurd ht (tail_waits hs hc hn hinv _ i rfl hi hun t h)
          · obtain ⟨_, o, ho, _⟩ := mem_ready.1 ht
            have := (Array.getElem?_eq_some_iff.1 ho).1
            omega
    have hne : Region.ready .any ops listed ≠ [] := by
      have key : ∀ i, i < n → listed.getD i true = false → ∃ j, j ∈ Region.ready .any ops listed := by
        intro i
        induction i using Nat.strongRecOn with
        | _ i ihi =>
          intro hi hun
          have ho : ops[i]? = some (ops[i]'(by have := S.le; omega)) := by simp [show i < ops.size by have := S.le; omega]
          by_cases hall : ∀ e ∈ (ops[i]'(by have := S.le; omega)).after, Region.binds .any e = true → listed.getD e.on false = true
          · exact ⟨i, mem_ready.2 ⟨hun, _, ho, hall⟩⟩
          · have : ∃ e, e ∈ (ops[i]'(by have := S.le; omega)).after ∧ Region.binds .any e = true ∧ ¬ listed.getD e.on false = true := by
              apply Classical.byContradiction
              intro hc
              exact hall fun e he hb => Classical.byContradiction fun h => hc ⟨e, he, hb, h⟩
            obtain ⟨e, he, hbd, hl⟩ := this
            have hlt := S.edges i _ hi ho e he hbd
            refine ihi e.on hlt (by omega) ?_
            have hsz : e.on < listed.size := by rw [hinv.size]; have := S.le; omega
            rw [Array.getD_eq_getD_getElem?, Array.getElem?_eq_getElem hsz] at hl ⊢
            simpa using hl
      obtain ⟨i, hi, hun⟩ := hex
      obtain ⟨j, hj⟩ := key i hi hun
      intro h; rw [h] at hj; cases hj
    rw [show m + 1 + (ops.size - n) = (m + (ops.size - n)) + 1 by omega]
    refine ⟨fun h => absurd h hne, fun i hi => ?_⟩
    have hin := hfloat i hi
    obtain ⟨hun, o, ho, hall⟩ := mem_ready.1 hi
    have hdst : dstOf ops i = o.dst := by simp [dstOf, ho]
    have hag : ∀ t, t ∈ o.looksAt ops → (stg ops vs a i).tmps[t]? = b.tmps[t]? := fun t ht => by
      by_cases hx : ∃ k, k < n ∧ dstOf ops k = some t
      · obtain ⟨k, hk, hd⟩ := hx
        obtain ⟨hki, hw⟩ := S.looks i o k t hin ho hd ht
        obtain ⟨oj, hoj, e, he, hbd, heo⟩ := Region.waitsFor_spec hw
        rw [ho] at hoj
        obtain rfl := Option.some.inj hoj
        have hlk : listed.getD k false = true := heo ▸ hall e he hbd
        rw [hb.done k t hk hd hlk, stg_eq vs a t k hd i hki (fun j hj hne => S.uniq j k t (by omega) hk (Ne.symm hne) hd),
          stg_eq vs a t k hd n hk (fun j hj hne => S.uniq j k t hj hk (Ne.symm hne) hd)]
      · have hx' : ∀ j, j < n → dstOf ops j ≠ some t := fun j hj hd => hx ⟨j, hj, hd⟩
        rw [hb.other t hx', stg_ne vs a t i fun j hj => hx' j (by omega)]
    have hstep : ∀ w', I ((listed.setIfInBounds i true).getD k false) w' → wpAny P .any ops Q (m + (ops.size - n)) (listed.setIfInBounds i true) (b.put o.dst (vs i)) w' := fun w' hI' => by
      refine ih (U.erase i) _ _ _ (by rw [List.length_erase_of_mem ((hU i).2 ⟨hin, hun⟩), hl]; rfl) (hnd.erase i) (fun j => ?_) (hinv.set hi hin) ⟨?_, ?_, ?_, ?_⟩ hI'
      · rw [hnd.mem_erase_iff, hU]
        by_cases e : j = i
        · subst e
          have hsz : j < listed.size := by rw [hinv.size]; have := S.le; omega
          simp [Array.getElem?_setIfInBounds, hsz]
        · simp [Array.getElem?_setIfInBounds_ne (Ne.symm e), e]
      · rw [put_size, hb.size]
      · rw [put_defers, hb.defers]
      · intro j t hj hd hlj
        by_cases e : j = i
        · subst e
          rw [hdst] at hd
          rw [hd, put_get_eq, hb.size, stg_eq vs a t j (hdst.trans hd) n hj (fun k hk hne => S.uniq k j t hk hj (Ne.symm hne) (hdst.trans hd))]
        · have hne : o.dst ≠ some t := by rw [← hdst]; exact S.uniq i j t hin hj e hd
          rw [put_get_ne _ _ hne]
          refine hb.done j t hj hd ?_
          rw [Array.getD_eq_getD_getElem?, Array.getElem?_setIfInBounds_ne (Ne.symm e), ← Array.getD_eq_getD_getElem?] at hlj
          exact hlj
      · intro t ht
        have hne : o.dst ≠ some t := by rw [← hdst]; exact ht i hin
        rw [put_get_ne _ _ hne]
        exact hb.other t ht
    have hisz : i < listed.size := by rw [hinv.size]; have := S.le; omega
    by_cases hik : i = k
    · subst hik
      have hf : listed.getD i false = false := by
        rw [Array.getD_eq_getD_getElem?, Array.getElem?_eq_getElem hisz] at hun ⊢
        simpa using hun
      rw [hf] at hI
      refine DetOp2.moved ho (Region.noSelect_spec S.sel i o · · ho) ((stg_size vs a i).trans hb.size.symm) ((stg_defers vs a i).trans hb.defers.symm) hag (hst o ho) hI fun w' hI' => hstep w' ?_
      rw [Array.getD_eq_getD_getElem?, Array.getElem?_setIfInBounds]
      simpa [hisz] using hI'
    · refine DetOp.moved ho (Region.noSelect_spec S.sel i o · · ho) ((stg_size vs a i).trans hb.size.symm) ((stg_defers vs a i).trans hb.defers.symm) hag (hdet i o hin hik ho _) hI fun w' hI' => hstep w' ?_
      rw [Array.getD_eq_getD_getElem?, Array.getElem?_setIfInBounds_ne hik, ← Array.getD_eq_getD_getElem?]
      exact hI'

theorem wpDetS_values {fin : Act → Prop} : ∀ (l : List Oper) (m : Nat) (a : Act), (∀ j, j < l.length → l[j]? = ops[m + j]?) → wpDetS P ops I k fin l m a →
    ∃ vs : Nat → Value, ∀ (c : Nat → Act), c 0 = a → (∀ j, j < l.length → c (j + 1) = (c j).put (dstOf ops (m + j)) (vs j)) →
      (∀ j o, j < l.length → ops[m + j]? = some o → ((m + j ≠ k → ∀ e, DetOp P ops (I e) o (vs j) (c j)) ∧ (m + j = k → DetOp2 P ops (I false) (I true) o (vs j) (c j)))) ∧ fin (c l.length)
  | [], m, a, _, h => ⟨fun _ => undef, fun c hc _ => ⟨fun j o hj => absurd hj (by simp), by rw [show c ([] : List Oper).length = a from hc]; exact h⟩⟩
  | o :: l, m, a, hl, h => by
    obtain ⟨v, hv, hr⟩ := h
    obtain ⟨vs, hvs⟩ := wpDetS_values l (m + 1) _ (fun j hj => by have := hl (j + 1) (by simp; omega); simpa [Nat.add_assoc, Nat.add_comm 1 j] using this) hr
    have h0 : ops[m]? = some o := by simpa using (hl 0 (by simp)).symm
    refine ⟨fun j => match j with | 0 => v | j + 1 => vs j, fun c hc hs => ?_⟩
    have h1 := hvs (fun j => c (j + 1)) (by rw [hs 0 (by simp), hc]; simp [dstOf, h0]) (fun j hj => by
      have := hs (j + 1) (by simp; omega)
      rw [this]
      simp only [Nat.add_assoc, Nat.add_comm 1 j])
    refine ⟨fun j o' hj ho' => ?_, ?_⟩
    · cases j with
      | zero =>
        have : o' = o := by have h2 := ho'; simp only [Nat.add_zero, h0] at h2; exact (Option.some.inj h2).symm
        rw [hc, this]
        exact hv
      | succ j =>
        have := h1.1 j o' (by simp at hj; omega) (by rw [← ho']; congr 1; omega)
        rw [show m + (j + 1) = m + 1 + j by omega]
        exact this
    · exact h1.2

theorem region_detS {id : Nat} {a : Act} {w : World} {l : List Oper} (n k : Nat) (I : Bool → World → Prop) (hm : P.follows .mixedOrders = true) (hB : (detB l.toArray n && decide (k < n)) = true) (hI : I false w.drew)
    (h : wpDetS P l.toArray I k (fun a' => ∀ w', I true w' → wpList P l.toArray Q (l.drop n) a' w') (l.take n) 0 a) : (Code.region id l.toArray true).wp P Q a w := by
  rw [Bool.and_eq_true, decide_eq_true_eq] at hB
  obtain ⟨hB, hkn⟩ := hB
  have S := DetSpec.of hB
  have hn : n ≤ l.length := by simpa using S.le
  have hlen : (l.take n).length = n := by simp; omega
  obtain ⟨vs, hvs⟩ := wpDetS_values (ops := l.toArray) (l.take n) 0 a (fun j hj => by rw [hlen] at hj; simp [hj]) h
  obtain ⟨h1, h2⟩ := hvs (stg l.toArray vs a) rfl (fun j _ => by simp [stg])
  rw [hlen] at h1 h2
  refine wp_region_any hm ?_
  have inv0 : HeadInv .any l.toArray n (Array.replicate l.toArray.size false) :=
    ⟨by simp, fun j oj _ hl => (by rw [getD_replicate_false] at hl; cases hl), fun t _ ht => getD_in (by simpa using ht) (getD_replicate_false _ _)⟩
  have := any_detS (P := P) (Q := Q) (I := I) S hkn vs a (fun i o hi hik ho => (h1 i o hi (by simpa using ho)).1 (by simpa using hik)) (fun o ho => (h1 k o hkn (by simpa using ho)).2 (by simp)) (by simpa using h2) n (List.range n) (Array.replicate l.toArray.size false) a w.drew
    (by simp) List.nodup_range (fun i => by
      simp only [List.mem_range]
      constructor
      · intro hi; exact ⟨hi, getD_in (by simp; omega) (getD_replicate_false _ _)⟩
      · exact fun h => h.1) inv0 ⟨rfl, rfl, fun j t _ _ hl => (by rw [getD_replicate_false] at hl; cases hl), fun _ _ => rfl⟩ (by rw [getD_replicate_false]; exact hI)
  have hs := S.le
  rw [show n + (l.toArray.size - n) = l.toArray.size by omega] at this
  exact this
end
section
variable {P : Program} {ops : Array Oper} {I : Bool → World → Prop} {fin : Act → Prop} {rest : List Oper} {a : Act} {v : Value} {dst : Option Tmp} {op : Op} {ty : TypeId} {pos : String} {after : Array Edge} {g : Option (Nat × Bool)} {i k : Nat}
theorem det2_of {I J : World → Prop} (hw : Region.wanted ⟨dst, op, ty, pos, after, g⟩ (yielded ops a.tmps) = true)
    (h : ∀ w, I w → wpList P #[] (DetQ a.defers dst v J) [⟨dst, op, ty, pos, after, none⟩] a w) : DetOp2 P ops I J ⟨dst, op, ty, pos, after, g⟩ v a := by
  refine ⟨hw, fun w hI => ?_⟩
  have h1 := h w hI
  unfold wpList at h1
  rw [if_pos (by simp [Region.wanted])] at h1
  rcases h1 with h1 | ⟨_, a1, w1, h1⟩
  · have h2 : Oper.wp P ⟨dst, op, ty, pos, after, g⟩ a w (wpList P #[] (DetQ a.defers dst v J) []) (DetQ a.defers dst v J) := h1
    unfold Oper.wp at h2 ⊢
    generalize (execOp a.eval ⟨dst, op, ty, pos, after, g⟩).run P w = r at h2 ⊢
    cases r with
    | ok n w' =>
      cases n <;> simp only [Oper.upon, wpList, DetQ] at h2 ⊢
      case value u => exact ⟨put_of_slot h2.2.2.1, h2.2.2.2⟩
      case skip => exact ⟨put_of_slot h2.2.2.1, h2.2.2.2⟩
      case defer dd => exact absurd (congrArg List.length h2.2.1) (by rw [put_defers]; simp)
      case enter f args =>
        refine Calls.mono h2 fun e w'' he => ?_
        cases e with
        | returned u => exact ⟨put_of_slot he.2.2.1, he.2.2.2⟩
        | panicked c => exact absurd he.1 (by simp)
        | outgrown => obtain ⟨_, _, h⟩ := he; exact absurd h.1 (by simp)
      case row row args => exact Rows.mono h2 fun u w'' he => ⟨put_of_slot he.2.2.1, he.2.2.2⟩
    | halt x w' =>
      cases x <;> simp only [Oper.upon, DetQ] at h2 ⊢
      case panic u => exact absurd h2.1 (by simp)
  · exact absurd h1.1 (by simp)
theorem detS_op (hik : i ≠ k) (hw : Region.wanted ⟨dst, op, ty, pos, after, g⟩ (yielded ops a.tmps) = true)
    (h : ∀ e w, I e w → wpList P #[] (DetQ a.defers dst v (I e)) [⟨dst, op, ty, pos, after, none⟩] a w)
    (hr : wpDetS P ops I k fin rest (i + 1) (a.put dst v)) : wpDetS P ops I k fin (⟨dst, op, ty, pos, after, g⟩ :: rest) i a :=
  ⟨v, ⟨fun _ e => .inl (det2_of hw (h e)), fun h => absurd h hik⟩, hr⟩
theorem detS_skip (hik : i ≠ k) (hw : Region.wanted ⟨dst, op, ty, pos, after, g⟩ (yielded ops a.tmps) = false)
    (hr : wpDetS P ops I k fin rest (i + 1) (a.put dst undef)) : wpDetS P ops I k fin (⟨dst, op, ty, pos, after, g⟩ :: rest) i a :=
  ⟨undef, ⟨fun _ e => .inr ⟨hw, rfl⟩, fun h => absurd h hik⟩, hr⟩
theorem detS_st (hik : i = k) (hw : Region.wanted ⟨dst, op, ty, pos, after, g⟩ (yielded ops a.tmps) = true)
    (h : ∀ w, I false w → wpList P #[] (DetQ a.defers dst v (I true)) [⟨dst, op, ty, pos, after, none⟩] a w)
    (hr : wpDetS P ops I k fin rest (i + 1) (a.put dst v)) : wpDetS P ops I k fin (⟨dst, op, ty, pos, after, g⟩ :: rest) i a :=
  ⟨v, ⟨fun h => absurd hik h, fun _ => det2_of hw h⟩, hr⟩
end
theorem set_self {α : Type} {L : List α} {j : Nat} {x : α} (h : L[j]? = some x) : L.set j x = L := by
  apply List.ext_getElem?
  intro i
  rw [List.getElem?_set]
  split
  · rename_i e; subst e; rw [if_pos (List.getElem?_eq_some_iff.1 h).1, h]
  · rfl
/-- One block (place j) is written at some time by operation k. -/
theorem region_stH {P : Program} {Q : Exit → Act → World → Prop} {S : Nat → Prop} {w0 w : World} {sz : Nat} {L R : List Bk} {id : Nat} {a : Act} {l : List Oper} {b : Nat} {t : TypeId} {cs : Array Value} (n k j : Nat) (cs1 : Array Value) (H : Hp S w0 w sz L R) (hj : L[j]? = some (b, t, cs)) (hm : P.follows .mixedOrders = true)
    (hB : (detB l.toArray n && decide (k < n)) = true)
    (h : wpDetS P l.toArray (fun e => HpX S w0 sz (L.set j (b, t, bif e then cs1 else cs)) R) k (fun a' => ∀ w', HpX S w0 sz (L.set j (b, t, cs1)) R w' → wpList P l.toArray Q (l.drop n) a' w') (l.take n) 0 a) : (Code.region id l.toArray true).wp P Q a w :=
  region_detS n k _ hm hB ⟨_, Nat.le_refl _, by rw [show (bif false then cs1 else cs) = cs from rfl, set_self hj]; exact H.drew⟩ h
end Go.Proofs.YtccgpjhgfjfaoaaGreatDoor
