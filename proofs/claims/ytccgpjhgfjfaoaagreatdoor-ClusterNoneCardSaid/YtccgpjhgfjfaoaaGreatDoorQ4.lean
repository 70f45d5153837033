/- Part 4 of the proof: Life3, Book5, Life4, Life5, Life6, Bag1, Bag2, Bag3, Clu1, Life7, Clu2, Fld, Clu3, Clu4, Clu5, MapW, Clu6, FnN, Clu7, Clu8. -/
import Derived.Test.YtccgpjhgfjfaoaaGreatDoorQ3
import Derived.MapKept
set_option linter.unusedSimpArgs false
set_option linter.unusedVariables false
/- node: ask, where there are no news. -/
namespace Go.Proofs.YtccgpjhgfjfaoaaGreatDoor
open Go.RowKit

abbrev tOut : TypeId := 146
instance iLife3_1 : SlT Tryz.prog 103 146 2 32 := ⟨by kernel_rfl, info_parts (by kernel_rfl : (Tryz.prog.info? 146).map (fun i => (i.zero, i.size, i.bytes)) = some (some (.agg #[.int .i64 0, .slice none 0 0]), 2, 32)) |>.elim fun i h => ⟨i, _, h.1, h.2.1, h.2.2.1, h.2.2.2, rfl⟩, by omega⟩
instance iLife3_2 : Ty Tryz.prog 103 false 1 := ⟨fun _ => by kernel_rfl, fun _ => by kernel_rfl, fun _ => rfl⟩
inductive OutCs : List (Int × List UInt8) → List Value → List Bk → Prop where
  | nil : OutCs [] [] []
  | snoc {os : List (Int × List UInt8)} {cs : List Value} {L : List Bk} {q : Int} {bs : List UInt8} {v : Value} {L1 : List Bk} : OutCs os cs L → GL tU8 1 v bs.length (bs.map bv) L1 → OutCs (os ++ [(q, bs)]) (cs ++ [.int .i64 q, v]) (L ++ L1)
def OutsIs (os : List (Int × List UInt8)) (v : Value) (L : List Bk) : Prop := ∃ cs LD LR, OutCs os cs LD ∧ GL tOut 2 v os.length cs LR ∧ L = LR ++ LD
def AskF (B : List UInt8) : St → Prop
  | [] => True
  | [(v, L1)] => GL tNtc 3 v 0 [] L1
  | [(u, L2), (v, L1)] => GL tNtc 3 v 0 [] L1 ∧ ∃ v2, u = .tuple #[v2, .int .i64 0] ∧ GL tU8 1 v2 B.length (B.map bv) L2
  | _ => False
def AskL : St → List Bk
  | [(_, L1)] => L1
  | [(_, L2), (_, L1)] => L1 ++ L2
  | _ => []
theorem AskF.one {B : List UInt8} {st : St} (hF : AskF B st) (h : st.length = 1) : ∃ A c L1, st = [(.slice A 0 c, L1)] ∧ GL tNtc 3 (.slice A 0 c) 0 [] L1 := by
  match st, hF with
  | [(v, L1)], hF => obtain ⟨A, c, rfl⟩ := GL.isSl hF; exact ⟨A, c, L1, rfl, hF⟩
theorem AskF.two {B : List UInt8} {st : St} (hF : AskF B st) (h : st.length = 2) : ∃ v2 v L1 L2, st = [(.tuple #[v2, .int .i64 0], L2), (v, L1)] ∧ GL tU8 1 v2 B.length (B.map bv) L2 := by
  match st, hF with
  | [(u, L2), (v, L1)], ⟨_, v2, hu, hF⟩ => subst hu; exact ⟨v2, v, L1, L2, rfl, hF⟩
theorem AskF.news {B : List UInt8} {st : St} (hF : AskF B st) (h : 1 ≤ st.length) : ∃ A c, vq st 0 = .slice A 0 c := by
  match st, hF with
  | [(v, L1)], hF => obtain ⟨A, c, rfl⟩ := GL.isSl hF; exact ⟨A, c, rfl⟩
  | [(u, L2), (v, L1)], ⟨hG, _⟩ => obtain ⟨A, c, rfl⟩ := GL.isSl hG; exact ⟨A, c, rfl⟩
theorem AskF.tup {B : List UInt8} {st : St} (hF : AskF B st) (h : 2 ≤ st.length) : ∃ v, vq st 1 = .tuple #[v, .int .i64 0] := by
  match st, hF with
  | [(u, L2), (v, L1)], ⟨_, v2, hu, hF⟩ => subst hu; exact ⟨v2, rfl⟩
def askB (x : Lf) : List UInt8 := query0 x.n.toNat x.self.toNat x.T.round.toNat
def outsN (self : Int) (B : List UInt8) (k : Nat) : List (Int × List UInt8) := ((List.range k).filter fun (i : Nat) => !decide ((i : Int) = self)).map fun (i : Nat) => ((i : Int), B)
theorem outsN_succ (self : Int) (B : List UInt8) (k : Nat) : outsN self B (k + 1) = if (k : Int) = self then outsN self B k else outsN self B k ++ [((k : Int), B)] := by
  unfold outsN
  rw [List.range_succ, List.filter_append, List.map_append]
  by_cases h : (k : Int) = self <;> simp [h]
theorem outsN_len (self : Int) (B : List UInt8) (k : Nat) : (outsN self B k).length ≤ k := by
  unfold outsN; rw [List.length_map]; exact Nat.le_trans (List.length_filter_le _ _) (by simp)
structure okLf (x : Lf) : Prop where
  n : okN x.n x.f x.self
  r0 : 1 ≤ x.T.round
  r1 : x.T.round ≤ 1099511627775
  bk : (x.book.length : Int) = x.n
theorem pAsk {α : Type} {a0 a1 a2 a3 a4 a5 a6 : α} {X1 X2 X3 X Y : List α} : (a0 :: a1 :: a2 :: a3 :: a4 :: a5 :: a6 :: (X1 ++ (X2 ++ (X3 ++ (X ++ Y))))).Perm (X ++ (a0 :: a1 :: a2 :: a3 :: a4 :: a5 :: a6 :: (X1 ++ (X2 ++ (X3 ++ Y))))) := by
  apply perm_count; intro x; simp only [List.count_append, List.count_cons, List.count_nil]; omega
section
variable {w : World} {x : Lf} {d : Dsk} {pl pd : Nat} {L : List Bk}
set_option maxRecDepth 100000 in
set_option maxHeartbeats 2000000 in
theorem ask_any (hI : LifeAt x d pl pd L) (H0 : Own w L) (ok : okLf x) (hnews : newsN x.book = []) (hl : x.past.length ≤ 100000) : Calls Tryz.prog 80 #[pV pl] w
    (fun e w' => ∃ sz v L1 L2, e = .returned v ∧ LifeAt (x.happens { kind := 2, round := x.T.round }) d pl pd L1 ∧ OutsIs (outsN x.self (askB x) x.n.toNat) v L2 ∧ Hp (InL L) w w' sz (L1 ++ L2) []) := by
  obtain ⟨⟨n1, n2, f0, f1, s0, s1⟩, r0, r1, hbk⟩ := ok
  have hLA := hI
  have hpast := hl
  obtain ⟨pb, pk, pr, pt, pv, LT, LP, hT, hG, rfl⟩ := hI
  obtain ⟨tv, LT1, hTG, rfl⟩ := hT
  simp only [List.cons_append] at H0 hLA ⊢
  have hL0 : 0 < x.book.length := by omega
  have hL1 : x.book.length ≤ 100 := by omega
  go_enter Tryz.func80, Tryz.ntmps80
  have H := H0
  unfold Own at H
  go_wp2_with (first | ((first | ((with_reducible apply wlB); refine hw_box rfl rfl H ?_) | ((with_reducible apply wlA); refine hw_alloc rfl H ?_) | ((with_reducible apply wlS); first | refine hw_store 0 rfl rfl rfl H rfl rfl rfl (by simp) rfl ?_ | refine hw_store 1 rfl rfl rfl H rfl rfl rfl (by simp) rfl ?_ | refine hw_store 2 rfl rfl rfl H rfl rfl rfl (by simp) rfl ?_ | refine hw_store 3 rfl rfl rfl H rfl rfl rfl (by simp) rfl ?_)); clear H; intro w' H; (try simp only [Act.eval, Act.put, Value.cells, segV, seg, segPut, NS, Nat.reduceAdd] at H)) | ((with_reducible apply wlL); (first | apply hw_load 0 rfl rfl H rfl | apply hw_load 1 rfl rfl H rfl | apply hw_load 2 rfl rfl H rfl | apply hw_load 3 rfl rfl H rfl); (focus (simp; done)); (focus (simp only [segV, seg, NS]; rfl))))
  (try simp only [Act.eval, Act.put, Value.cells, segV, seg, segPut, NS, Nat.reduceAdd])
  refine region_GS 25 [13, 19] (fun i => if 13 ≤ i then (if i = 15 ∨ i = 16 ∨ i = 17 ∨ i = 18 then 0 else if 19 ≤ i then 2 else 1) else 0) (AskF (askB x)) AskL H trivial rfl rfl (by kernel_rfl) ?_; clear H; simp only [List.take_succ_cons, List.take_zero, List.drop_succ_cons, List.drop_zero]
  repeat (first | (apply detG_op (by decide); (focus (rintro st hlv w' ⟨hF, s1, hs1, H⟩; go_wp2_with (first | ((with_reducible apply wlL); apply hw_load 0 rfl rfl H rfl; (focus (simp; done)); (focus (simp only [segV, seg, NS]; rfl))) | (go_at_call 41; refine (tRound_any (T := x.T) (v := tv) (H.blk (pt, tTally, tallyC x.T tv) (by simp))).mono ?_; rintro e w' ⟨rfl, hb⟩; obtain ⟨s2, hs2, H⟩ := H.call hb; clear hb)); refine ⟨rfl, rfl, ?_, hF, _, by omega, H⟩; (first | (simp only [SlotIs, Array.getD_eq_getD_getElem?, List.getElem?_toArray, List.getElem?_cons_succ, List.getElem?_cons_zero, Option.getD_some]; exact rfl) | exact rfl))); (focus (intros; rfl)); (try simp only [Act.put, List.setIfInBounds_toArray, List.set_cons_zero, List.set_cons_succ])))
  apply stgG_op (q := 0) (V := fun st => vq st 0) rfl (nth2a (by decide)) (h := ?_) (hp := ?_) (hr := ?_)
  · rintro st hlv w' ⟨hF, s1, hs1, H⟩
    obtain rfl := List.eq_nil_of_length_eq_zero hlv
    simp only [AskL, List.append_nil] at H
    go_wp2_with (first | ((first | ((with_reducible apply wlB); refine hw_box rfl rfl H ?_) | ((with_reducible apply wlA); refine hw_alloc rfl H ?_) | ((with_reducible apply wlS); first | refine hw_store 0 rfl rfl rfl H rfl rfl rfl (by simp) rfl ?_ | refine hw_store 1 rfl rfl rfl H rfl rfl rfl (by simp) rfl ?_ | refine hw_store 2 rfl rfl rfl H rfl rfl rfl (by simp) rfl ?_ | refine hw_store 3 rfl rfl rfl H rfl rfl rfl (by simp) rfl ?_)); clear H; intro w' H; (try simp only [Act.eval, Act.put, Value.cells, segV, seg, segPut, NS, Nat.reduceAdd] at H)) | ((with_reducible apply wlL); (first | apply hw_load 0 rfl rfl H rfl | apply hw_load 1 rfl rfl H rfl | apply hw_load 2 rfl rfl H rfl | apply hw_load 3 rfl rfl H rfl); (focus (simp; done)); (focus (simp only [segV, seg, NS]; rfl))))
    refine (Ride_any (l := x.book) (H.blk (pk, tBook, bookC pr x.book.length) (by simp)) (H.blk (pr, tNtc, rowC x.book) (by simp)) hL1 hL0).mono ?_; rintro e w' ⟨s4, v4, L4, rfl, hR, H1⟩; obtain ⟨hs4, H⟩ := H.fresh H1; clear H1
    rw [hnews] at hR
    go_wp2_with (first | ((first | ((with_reducible apply wlB); refine hw_box rfl rfl H ?_) | ((with_reducible apply wlA); refine hw_alloc rfl H ?_) | ((with_reducible apply wlS); first | refine hw_store 0 rfl rfl rfl H rfl rfl rfl (by simp) rfl ?_ | refine hw_store 1 rfl rfl rfl H rfl rfl rfl (by simp) rfl ?_ | refine hw_store 2 rfl rfl rfl H rfl rfl rfl (by simp) rfl ?_ | refine hw_store 3 rfl rfl rfl H rfl rfl rfl (by simp) rfl ?_)); clear H; intro w' H; (try simp only [Act.eval, Act.put, Value.cells, segV, seg, segPut, NS, Nat.reduceAdd] at H)) | ((with_reducible apply wlL); (first | apply hw_load 0 rfl rfl H rfl | apply hw_load 1 rfl rfl H rfl | apply hw_load 2 rfl rfl H rfl | apply hw_load 3 rfl rfl H rfl); (focus (simp; done)); (focus (simp only [segV, seg, NS]; rfl))))
    exact ⟨rfl, rfl, [(_, L4)], rfl, .inr ⟨_, rfl⟩, rfl, hR, _, by omega, H⟩
  · exact fun st st' hl ha => vq_adv (by omega) ha
  (try simp only [Act.put, List.setIfInBounds_toArray, List.set_cons_zero, List.set_cons_succ])
  apply detG_op (by decide) (V := fun st => .agg #[.int .i64 x.self, .int .i64 x.T.round, vq st 0]) (h := ?_) (hp := ?_) (hr := ?_)
  · rintro st hlv w' ⟨hF, s1, hs1, H⟩
    obtain ⟨A, c, hv⟩ := hF.news hlv
    simp only [hv]
    go_wp2_with (first | ((first | ((with_reducible apply wlB); refine hw_box rfl rfl H ?_) | ((with_reducible apply wlA); refine hw_alloc rfl H ?_) | ((with_reducible apply wlS); first | refine hw_store 0 rfl rfl rfl H rfl rfl rfl (by simp) rfl ?_ | refine hw_store 1 rfl rfl rfl H rfl rfl rfl (by simp) rfl ?_ | refine hw_store 2 rfl rfl rfl H rfl rfl rfl (by simp) rfl ?_ | refine hw_store 3 rfl rfl rfl H rfl rfl rfl (by simp) rfl ?_)); clear H; intro w' H; (try simp only [Act.eval, Act.put, Value.cells, segV, seg, segPut, NS, Nat.reduceAdd] at H)) | ((with_reducible apply wlL); (first | apply hw_load 0 rfl rfl H rfl | apply hw_load 1 rfl rfl H rfl | apply hw_load 2 rfl rfl H rfl | apply hw_load 3 rfl rfl H rfl); (focus (simp; done)); (focus (simp only [segV, seg, NS]; rfl))))
    exact ⟨rfl, rfl, rfl, hF, _, by omega, H⟩
  · intro st st' hl ha
    show Value.agg _ = Value.agg _
    rw [vq_adv hl ha]
  (try simp only [Act.put, List.setIfInBounds_toArray, List.set_cons_zero, List.set_cons_succ])
  repeat (first | (apply detG_op (by decide); (focus (rintro st hlv w' ⟨hF, s1, hs1, H⟩; go_wp2_with (first | ((with_reducible apply wlL); apply hw_load 0 rfl rfl H rfl; (focus (simp; done)); (focus (simp only [segV, seg, NS]; rfl)))); refine ⟨rfl, rfl, ?_, hF, _, by omega, H⟩; (first | (simp only [SlotIs, Array.getD_eq_getD_getElem?, List.getElem?_toArray, List.getElem?_cons_succ, List.getElem?_cons_zero, Option.getD_some]; exact rfl) | exact rfl))); (focus (intros; rfl)); (try simp only [Act.put, List.setIfInBounds_toArray, List.set_cons_zero, List.set_cons_succ])))
  apply stgG_op (q := 1) (V := fun st => vq st 1) rfl (nth2b (by decide)) (h := ?_) (hp := ?_) (hr := ?_)
  · rintro st hlv w' ⟨hF, s1, hs1, H⟩
    obtain ⟨A, c, LN, rfl, hN⟩ := hF.one hlv
    obtain ⟨qn, hqn⟩ := Int.eq_ofNat_of_zero_le (show 0 ≤ x.n by omega)
    obtain ⟨qs, hqs⟩ := Int.eq_ofNat_of_zero_le s0
    obtain ⟨qr, hqr⟩ := Int.eq_ofNat_of_zero_le (show 0 ≤ x.T.round by omega)
    have hB : askB x = query0 qn qs qr := by unfold askB; rw [hqn, hqs, hqr]; rfl
    have hNN : NewsAt w' (.slice A 0 c) [] := GL.news (l := []) hN H (fun y hy => by simp [AskL, hy])
    have key := Query0_any qn qs qr (by omega) (by omega) (by omega) (by omega) (by omega) hNN
    rw [show ((qn : Nat) : Int) = x.n from hqn.symm, show ((qs : Nat) : Int) = x.self from hqs.symm, show ((qr : Nat) : Int) = x.T.round from hqr.symm, ← hB] at key
    have hB15 : (askB x).length = 15 := by rw [hB]; exact query0_len _ _ _
    have HB15 := Lib.hid hB15
    clear hqn hqs hqr hB hB15
    simp only [show vq [(Value.slice A 0 c, LN)] 0 = .slice A 0 c from rfl, AskL] at H ⊢
    go_wp2_with (first | ((first | ((with_reducible apply wlB); refine hw_box rfl rfl H ?_) | ((with_reducible apply wlA); refine hw_alloc rfl H ?_) | ((with_reducible apply wlS); first | refine hw_store 0 rfl rfl rfl H rfl rfl rfl (by simp) rfl ?_ | refine hw_store 1 rfl rfl rfl H rfl rfl rfl (by simp) rfl ?_ | refine hw_store 2 rfl rfl rfl H rfl rfl rfl (by simp) rfl ?_ | refine hw_store 3 rfl rfl rfl H rfl rfl rfl (by simp) rfl ?_)); clear H; intro w' H; (try simp only [Act.eval, Act.put, Value.cells, segV, seg, segPut, NS, Nat.reduceAdd] at H)) | ((with_reducible apply wlL); (first | apply hw_load 0 rfl rfl H rfl | apply hw_load 1 rfl rfl H rfl | apply hw_load 2 rfl rfl H rfl | apply hw_load 3 rfl rfl H rfl); (focus (simp; done)); (focus (simp only [segV, seg, NS]; rfl))))
    refine key.mono ?_; rintro e w' ⟨s4, v4, L4, rfl, hR, H1⟩; obtain ⟨hs4, H⟩ := H.fresh H1; clear H1
    go_wp2_with (first | ((first | ((with_reducible apply wlB); refine hw_box rfl rfl H ?_) | ((with_reducible apply wlA); refine hw_alloc rfl H ?_) | ((with_reducible apply wlS); first | refine hw_store 0 rfl rfl rfl H rfl rfl rfl (by simp) rfl ?_ | refine hw_store 1 rfl rfl rfl H rfl rfl rfl (by simp) rfl ?_ | refine hw_store 2 rfl rfl rfl H rfl rfl rfl (by simp) rfl ?_ | refine hw_store 3 rfl rfl rfl H rfl rfl rfl (by simp) rfl ?_)); clear H; intro w' H; (try simp only [Act.eval, Act.put, Value.cells, segV, seg, segPut, NS, Nat.reduceAdd] at H)) | ((with_reducible apply wlL); (first | apply hw_load 0 rfl rfl H rfl | apply hw_load 1 rfl rfl H rfl | apply hw_load 2 rfl rfl H rfl | apply hw_load 3 rfl rfl H rfl); (focus (simp; done)); (focus (simp only [segV, seg, NS]; rfl))))
    exact ⟨rfl, rfl, [(_, L4), (_, LN)], rfl, .inr ⟨_, rfl⟩, rfl, ⟨hN, v4, rfl, by rw [HB15.out]; exact hR⟩, _, by omega, H.perm (by apply perm_count; intro z; simp only [List.count_append, List.count_cons, List.count_nil, AskL]; omega)⟩
  · exact fun st st' hl ha => vq_adv (by omega) ha
  (try simp only [Act.put, List.setIfInBounds_toArray, List.set_cons_zero, List.set_cons_succ])
  apply detG_op (by decide) (V := fun st => vq st 1) (h := ?_) (hp := ?_) (hr := ?_)
  · rintro st hlv w' ⟨hF, s1, hs1, H⟩
    go_wp2_with (first | ((first | ((with_reducible apply wlB); refine hw_box rfl rfl H ?_) | ((with_reducible apply wlA); refine hw_alloc rfl H ?_) | ((with_reducible apply wlS); first | refine hw_store 0 rfl rfl rfl H rfl rfl rfl (by simp) rfl ?_ | refine hw_store 1 rfl rfl rfl H rfl rfl rfl (by simp) rfl ?_ | refine hw_store 2 rfl rfl rfl H rfl rfl rfl (by simp) rfl ?_ | refine hw_store 3 rfl rfl rfl H rfl rfl rfl (by simp) rfl ?_)); clear H; intro w' H; (try simp only [Act.eval, Act.put, Value.cells, segV, seg, segPut, NS, Nat.reduceAdd] at H)) | ((with_reducible apply wlL); (first | apply hw_load 0 rfl rfl H rfl | apply hw_load 1 rfl rfl H rfl | apply hw_load 2 rfl rfl H rfl | apply hw_load 3 rfl rfl H rfl); (focus (simp; done)); (focus (simp only [segV, seg, NS]; rfl))))
    exact ⟨rfl, rfl, rfl, hF, _, by omega, H⟩
  · exact fun st st' hl ha => vq_adv hl ha
  (try simp only [Act.put, List.setIfInBounds_toArray, List.set_cons_zero, List.set_cons_succ])
  apply detG_extract (q := 1) (by decide) (by decide) (fun _ => rfl) (hF := fun st w hl ⟨hF, _⟩ => by obtain ⟨v, hv⟩ := hF.tup hl; exact ⟨_, hv, by simp⟩) (hr := ?_)
  (try simp only [Act.put, List.setIfInBounds_toArray, List.set_cons_zero, List.set_cons_succ])
  apply detG_extract (q := 1) (by decide) (by decide) (fun _ => rfl) (hF := fun st w hl ⟨hF, _⟩ => by obtain ⟨v, hv⟩ := hF.tup hl; exact ⟨_, hv, by simp⟩) (hr := ?_)
  (try simp only [Act.put, List.setIfInBounds_toArray, List.set_cons_zero, List.set_cons_succ])
  apply detG_op (by decide) (V := fun st => tupAt (vq st 1) 0) (h := ?_) (hp := ?_) (hr := ?_)
  · rintro st hlv w' ⟨hF, s1, hs1, H⟩
    go_wp2_with (first | ((first | ((with_reducible apply wlB); refine hw_box rfl rfl H ?_) | ((with_reducible apply wlA); refine hw_alloc rfl H ?_) | ((with_reducible apply wlS); first | refine hw_store 0 rfl rfl rfl H rfl rfl rfl (by simp) rfl ?_ | refine hw_store 1 rfl rfl rfl H rfl rfl rfl (by simp) rfl ?_ | refine hw_store 2 rfl rfl rfl H rfl rfl rfl (by simp) rfl ?_ | refine hw_store 3 rfl rfl rfl H rfl rfl rfl (by simp) rfl ?_)); clear H; intro w' H; (try simp only [Act.eval, Act.put, Value.cells, segV, seg, segPut, NS, Nat.reduceAdd] at H)) | ((with_reducible apply wlL); (first | apply hw_load 0 rfl rfl H rfl | apply hw_load 1 rfl rfl H rfl | apply hw_load 2 rfl rfl H rfl | apply hw_load 3 rfl rfl H rfl); (focus (simp; done)); (focus (simp only [segV, seg, NS]; rfl))))
    exact ⟨rfl, rfl, rfl, hF, _, by omega, H⟩
  · intro st st' hl ha
    show tupAt _ _ = tupAt _ _
    rw [vq_adv hl ha]
  (try simp only [Act.put, List.setIfInBounds_toArray, List.set_cons_zero, List.set_cons_succ])
  apply detG_op (by decide) (V := fun st => tupAt (vq st 1) 1) (h := ?_) (hp := ?_) (hr := ?_)
  · rintro st hlv w' ⟨hF, s1, hs1, H⟩
    go_wp2_with (first | ((first | ((with_reducible apply wlB); refine hw_box rfl rfl H ?_) | ((with_reducible apply wlA); refine hw_alloc rfl H ?_) | ((with_reducible apply wlS); first | refine hw_store 0 rfl rfl rfl H rfl rfl rfl (by simp) rfl ?_ | refine hw_store 1 rfl rfl rfl H rfl rfl rfl (by simp) rfl ?_ | refine hw_store 2 rfl rfl rfl H rfl rfl rfl (by simp) rfl ?_ | refine hw_store 3 rfl rfl rfl H rfl rfl rfl (by simp) rfl ?_)); clear H; intro w' H; (try simp only [Act.eval, Act.put, Value.cells, segV, seg, segPut, NS, Nat.reduceAdd] at H)) | ((with_reducible apply wlL); (first | apply hw_load 0 rfl rfl H rfl | apply hw_load 1 rfl rfl H rfl | apply hw_load 2 rfl rfl H rfl | apply hw_load 3 rfl rfl H rfl); (focus (simp; done)); (focus (simp only [segV, seg, NS]; rfl))))
    exact ⟨rfl, rfl, rfl, hF, _, by omega, H⟩
  · intro st st' hl ha
    show tupAt _ _ = tupAt _ _
    rw [vq_adv hl ha]
  (try simp only [Act.put, List.setIfInBounds_toArray, List.set_cons_zero, List.set_cons_succ])
  rintro st w' hl ⟨hF, s5, hs5, H⟩
  obtain ⟨v2, v1, LN, LQ, rfl, hQ⟩ := hF.two hl
  simp only [AskL] at H
  replace H := (H.perm (L0 := (((pl, tLife, lifeC x pb pk pt pv) :: (pb, tBoot, bootC x.B pd) :: (pd, tDisk, dskC d) :: (pk, tBook, bookC pr x.book.length) :: (pr, tNtc, rowC x.book) :: (pt, tTally, tallyC x.T tv) :: (LT1 ++ LP)) ++ LQ) ++ LN) (by apply perm_count; intro z; simp only [List.count_append, List.count_cons, List.count_nil]; omega)).front
  simp only [show tupAt (vq [(Value.tuple #[v2, .int .i64 0], LQ), (v1, LN)] 1) 0 = v2 from rfl, show tupAt (vq [(Value.tuple #[v2, .int .i64 0], LQ), (v1, LN)] 1) 1 = .int .i64 0 from rfl]
  go_wp2_with (first | ((first | ((with_reducible apply wlB); refine hw_box rfl rfl H ?_) | ((with_reducible apply wlA); refine hw_alloc rfl H ?_) | ((with_reducible apply wlS); first | refine hw_store 0 rfl rfl rfl H rfl rfl rfl (by simp) rfl ?_ | refine hw_store 1 rfl rfl rfl H rfl rfl rfl (by simp) rfl ?_ | refine hw_store 2 rfl rfl rfl H rfl rfl rfl (by simp) rfl ?_ | refine hw_store 3 rfl rfl rfl H rfl rfl rfl (by simp) rfl ?_)); clear H; intro w' H; (try simp only [Act.eval, Act.put, Value.cells, segV, seg, segPut, NS, Nat.reduceAdd] at H)) | ((with_reducible apply wlL); (first | apply hw_load 0 rfl rfl H rfl | apply hw_load 1 rfl rfl H rfl | apply hw_load 2 rfl rfl H rfl | apply hw_load 3 rfl rfl H rfl); (focus (simp; done)); (focus (simp only [segV, seg, NS]; rfl))))
  simp only [List.cons_append] at H
  obtain ⟨q, hq⟩ := Int.eq_ofNat_of_zero_le (show 0 ≤ x.n by omega)
  have hqq : x.n.toNat = q := by omega
  clear hq
  go_loopw [5, 34] (fun ov i wr => ∃ (k sz : Nat) (LO : List Bk), k ≤ q ∧ i = .int .i64 k ∧ OutsIs (outsN x.self (askB x) k) ov LO ∧ Hp (InL ((pl, tLife, lifeC x pb pk pt pv) :: (pb, tBoot, bootC x.B pd) :: (pd, tDisk, dskC d) :: (pk, tBook, bookC pr x.book.length) :: (pr, tNtc, rowC x.book) :: (pt, tTally, tallyC x.T tv) :: (LT1 ++ LP))) w wr sz ((pl, tLife, lifeC x pb pk pt pv) :: (pb, tBoot, bootC x.B pd) :: (pd, tDisk, dskC d) :: (pk, tBook, bookC pr x.book.length) :: (pr, tNtc, rowC x.book) :: (pt, tTally, tallyC x.T tv) :: (LT1 ++ LP ++ LQ ++ LO)) []) (fun _ i _ => q - (intOf i).toNat)
  case atStart => exact ⟨0, _, [], by omega, rfl, ⟨[], [], [], .nil, .nil, rfl⟩, by simpa using H⟩
  case round =>
    clear H
    obtain ⟨k, sz, LO, hk, rfl, ⟨cs, LD, LR, hD, hR, rfl⟩, H⟩ := hrel
    by_cases hlt : (k : Int) < x.n
    · by_cases hks : (k : Int) = x.self
      · have hks' := Lib.hid hks
        have hb : ((k : Int) != x.self) = false := by simp [hks]
        clear hks
        go_wp2_with (first | ((first | ((with_reducible apply wlB); refine hw_box rfl rfl H ?_) | ((with_reducible apply wlA); refine hw_alloc rfl H ?_) | ((with_reducible apply wlS); first | refine hw_store 0 rfl rfl rfl H rfl rfl rfl (by simp) rfl ?_ | refine hw_store 1 rfl rfl rfl H rfl rfl rfl (by simp) rfl ?_ | refine hw_store 2 rfl rfl rfl H rfl rfl rfl (by simp) rfl ?_ | refine hw_store 3 rfl rfl rfl H rfl rfl rfl (by simp) rfl ?_)); clear H; intro w' H; (try simp only [Act.eval, Act.put, Value.cells, segV, seg, segPut, NS, Nat.reduceAdd] at H)) | ((with_reducible apply wlL); (first | apply hw_load 0 rfl rfl H rfl | apply hw_load 1 rfl rfl H rfl | apply hw_load 2 rfl rfl H rfl | apply hw_load 3 rfl rfl H rfl); (focus (simp; done)); (focus (simp only [segV, seg, NS]; rfl))))
        refine ⟨⟨k + 1, _, LR ++ LD, by omega, rfl, ⟨cs, LD, LR, ?_, ?_, rfl⟩, H⟩, ?_⟩
        · rw [outsN_succ, if_pos hks'.out]; exact hD
        · rw [outsN_succ, if_pos hks'.out]; exact hR
        · simp [intOf]; omega
      · have hks' := Lib.hid hks
        have hb : ((k : Int) != x.self) = true := by simp [hks]
        clear hks
        have hlen := outsN_len x.self (askB x) k
        obtain ⟨A2, c2, rfl⟩ := GL.isSl hQ
        have hB15' : (askB x).length = 15 := query0_len _ _ _
        obtain ⟨A, c, he, hRd⟩ := hQ.rd H (fun y hy => by simp [hy]) (by simp [bv, Value.oneCell'])
        cases he
        go_wp2_with (first | ((first | ((with_reducible apply wlB); refine hw_box rfl rfl H ?_) | ((with_reducible apply wlA); refine hw_alloc rfl H ?_) | ((with_reducible apply wlS); first | refine hw_store 0 rfl rfl rfl H rfl rfl rfl (by simp) rfl ?_ | refine hw_store 1 rfl rfl rfl H rfl rfl rfl (by simp) rfl ?_ | refine hw_store 2 rfl rfl rfl H rfl rfl rfl (by simp) rfl ?_ | refine hw_store 3 rfl rfl rfl H rfl rfl rfl (by simp) rfl ?_)); clear H; intro w' H; (try simp only [Act.eval, Act.put, Value.cells, segV, seg, segPut, NS, Nat.reduceAdd] at H)) | ((with_reducible apply wlL); (first | apply hw_load 0 rfl rfl H rfl | apply hw_load 1 rfl rfl H rfl | apply hw_load 2 rfl rfl H rfl | apply hw_load 3 rfl rfl H rfl); (focus (simp; done)); (focus (simp only [segV, seg, NS]; rfl))))
        refine (Clone_u8 hRd (by omega)).mono ?_; rintro e w' ⟨s4, v4, L4, rfl, hv4, _, H1⟩; obtain ⟨hs4, H⟩ := H.fresh H1; clear H1; obtain ⟨A4, c4, rfl⟩ := GL.isSl hv4
        simp only [List.cons_append, List.append_assoc] at H
        go_wp2_with (first | ((with_reducible show wpList _ _ _ (⟨_, .buildSlice _ 1 _, _, _, _, _⟩ :: _) _ _); refine hw_build1 (e := tOut) (size := 2) rfl rfl rfl rfl (by decide) H ?_; clear H; intro w' H; (try simp only [Act.eval, Act.put, Value.cells, segV, seg, segPut, NS, Nat.reduceAdd] at H)) | ((with_reducible show wpList _ _ _ (⟨_, .call { callee := .builtin .append, args := _, argTypes := _ }, _, _, _, _⟩ :: _) _ _); (apply hw_append (L0 := _) rfl rfl rfl H hR pAsk rfl (fun h => by cases h) (cells_of (n := 2) (H.blk _ (.head _)) rfl) rfl (Nat.le_trans (m := 100010) (by omega) (by decide)) (by omega)); clear H; intro v' w' sz' L1' hle HG' hnil H; obtain ⟨A', c', rfl⟩ := HG'.isSl; (try simp only [Act.eval, Act.put, Value.cells, segV, seg, segPut, NS, Nat.reduceAdd] at H)))
        have hO : OutsIs (outsN x.self (askB x) (k + 1)) (.slice A' ((outsN x.self (askB x) k).length + 1) c') (L1' ++ (LD ++ L4)) := by
          rw [outsN_succ, if_neg hks'.out]
          exact ⟨_, LD ++ L4, L1', .snoc hD (hv4.cast hB15'.symm rfl), HG'.cast (by simp) (by simp [seg, hB15']), rfl⟩
        refine ⟨⟨_, _, _, ⟨k + 1, by omega, rfl, _, L1' ++ (LD ++ L4), hO, H.drop1.perm ?_⟩, rfl, rfl, rfl⟩, ?_⟩
        · apply perm_count; intro z; simp only [List.count_append, List.count_cons, List.count_nil]; omega
        · simp [intOf]; omega
    · obtain rfl : k = q := by omega
      go_wp2_with (first | ((first | ((with_reducible apply wlB); refine hw_box rfl rfl H ?_) | ((with_reducible apply wlA); refine hw_alloc rfl H ?_) | ((with_reducible apply wlS); first | refine hw_store 0 rfl rfl rfl H rfl rfl rfl (by simp) rfl ?_ | refine hw_store 1 rfl rfl rfl H rfl rfl rfl (by simp) rfl ?_ | refine hw_store 2 rfl rfl rfl H rfl rfl rfl (by simp) rfl ?_ | refine hw_store 3 rfl rfl rfl H rfl rfl rfl (by simp) rfl ?_)); clear H; intro w' H; (try simp only [Act.eval, Act.put, Value.cells, segV, seg, segPut, NS, Nat.reduceAdd] at H)) | ((with_reducible apply wlL); (first | apply hw_load 0 rfl rfl H rfl | apply hw_load 1 rfl rfl H rfl | apply hw_load 2 rfl rfl H rfl | apply hw_load 3 rfl rfl H rfl); (focus (simp; done)); (focus (simp only [segV, seg, NS]; rfl))))
      refine (tRound_any (T := x.T) (v := tv) (H.blk (pt, tTally, tallyC x.T tv) (by simp))).mono ?_; rintro e w' ⟨rfl, hb⟩; obtain ⟨s2, hs2, H⟩ := H.call hb; clear hb
      go_wp2_with (first | ((first | ((with_reducible apply wlB); refine hw_box rfl rfl H ?_) | ((with_reducible apply wlA); refine hw_alloc rfl H ?_) | ((with_reducible apply wlS); first | refine hw_store 0 rfl rfl rfl H rfl rfl rfl (by simp) rfl ?_ | refine hw_store 1 rfl rfl rfl H rfl rfl rfl (by simp) rfl ?_ | refine hw_store 2 rfl rfl rfl H rfl rfl rfl (by simp) rfl ?_ | refine hw_store 3 rfl rfl rfl H rfl rfl rfl (by simp) rfl ?_)); clear H; intro w' H; (try simp only [Act.eval, Act.put, Value.cells, segV, seg, segPut, NS, Nat.reduceAdd] at H)) | ((with_reducible apply wlL); (first | apply hw_load 0 rfl rfl H rfl | apply hw_load 1 rfl rfl H rfl | apply hw_load 2 rfl rfl H rfl | apply hw_load 3 rfl rfl H rfl); (focus (simp; done)); (focus (simp only [segV, seg, NS]; rfl))))
      have key := happens_any hLA (H.part (Lb := LQ ++ (LR ++ LD)) (by apply perm_count; intro z; simp only [List.count_append, List.count_cons, List.count_nil]; omega)) hpast { kind := 2, round := x.T.round }
      simp only [evtV, wd0] at key
      refine key.mono ?_; rintro e w' ⟨s6, L6, rfl, hL6, H1⟩; obtain ⟨hs6, H⟩ := H.join (Lb := LQ ++ (LR ++ LD)) (by apply perm_count; intro z; simp only [List.count_append, List.count_cons, List.count_nil]; omega) H1; clear H1
      go_wp2
      have hO : OutsIs (outsN x.self (askB x) x.n.toNat) u5 (LR ++ LD) := by rw [hqq]; exact ⟨cs, LD, LR, hD, hR, rfl⟩
      exact bodyPost_ret (res1 rfl (rv_tmp rfl)) rfl ⟨_, _, L6, LR ++ LD, rfl, hL6, hO, H.sub (List.Sublist.append (List.Sublist.refl _) (List.sublist_append_right _ _))⟩
end
end Go.Proofs.YtccgpjhgfjfaoaaGreatDoor
/- tagbook: New, where the numbers are right. -/
namespace Go.Proofs.YtccgpjhgfjfaoaaGreatDoor
open Go.RowKit

instance iBook5_1 : ZeroV Tryz.prog 128 (.agg #[.int .i64 0, .int .i64 0, .int .i64 0]) := ⟨fun _ => by kernel_rfl⟩
instance iBook5_2 : Ty Tryz.prog 81 false 1 := ⟨fun _ => by kernel_rfl, fun _ => by kernel_rfl, fun _ => rfl⟩
theorem made_row (n : Nat) : madeCells (Value.agg #[.int .i64 0, .int .i64 0, .int .i64 0]).cells (n * 3) = rowC (List.replicate n ⟨0, 0, 0⟩) := by
  have h : ∀ i : Nat, (#[.int .i64 0, .int .i64 0, .int .i64 0] : Array Value)[i % 3]! = .int .i64 0 := fun i => by
    have : i % 3 < 3 := Nat.mod_lt _ (by decide)
    match i % 3, this with
    | 0, _ => rfl
    | 1, _ => rfl
    | 2, _ => rfl
  have h1 : ∀ n : Nat, (List.replicate n (⟨0, 0, 0⟩ : Ntc)).flatMap encN = List.replicate (n * 3) (Value.int .i64 0) := fun n => by
    induction n with
    | zero => rfl
    | succ n ih => rw [List.replicate_succ, List.flatMap_cons, ih, show (n + 1) * 3 = n * 3 + 1 + 1 + 1 by omega]; simp [List.replicate_succ, encN]
  unfold madeCells rowC
  rw [h1]
  apply Array.ext
  · simp
  · intro i h1 h2
    simp [Value.cells, h]
def rowK (n k : Nat) : List Ntc := (List.range k).map (fun (i : Nat) => freshN i) ++ List.replicate (n - k) ⟨0, 0, 0⟩
theorem rowK_len (n k : Nat) (h : k ≤ n) : (rowK n k).length = n := by simp [rowK]; omega
theorem rowK_succ (n k : Nat) (h : k < n) : (rowK n k).set k (freshN k) = rowK n (k + 1) := by
  unfold rowK
  rw [List.range_succ, List.map_append, show n - k = (n - (k + 1)) + 1 by omega, List.replicate_succ]
  rw [List.set_append_right _ _ (by simp)]
  simp
def newBk (n self : Nat) (life : Int) : List Ntc := ((List.range n).map (fun (i : Nat) => freshN i)).set self ⟨self, life, 1⟩
theorem newBk_len (n self : Nat) (life : Int) : (newBk n self life).length = n := by simp [newBk]
section
variable {w : World}
set_option maxRecDepth 100000 in
set_option maxHeartbeats 2000000 in
theorem bNew_ok (n self : Nat) (life : Int) (hn1 : 1 ≤ n) (hn2 : n ≤ 100) (hs : self < n) (hv : validB n ⟨self, life, 1⟩ = true) (w : World) : Calls Tryz.prog 102 #[.int .i64 n, .int .i64 self, .int .i64 life] w
    (fun e w' => ∃ sz bk br, e = .returned (.tuple #[pV bk, .int .i64 0]) ∧ Hp NoS w w' sz (BK (newBk n self life) bk br) []) := by
  go_enter Tryz.func102, Tryz.ntmps102
  have H := Hp.start NoS w
  go_wp2_with (first | ((first | ((with_reducible apply wlB); refine hw_box rfl rfl H ?_) | ((with_reducible apply wlA); refine hw_alloc rfl H ?_) | ((with_reducible apply wlS); first | refine hw_store 0 rfl rfl rfl H rfl rfl rfl (by simp) rfl ?_ | refine hw_store 1 rfl rfl rfl H rfl rfl rfl (by simp) rfl ?_ | refine hw_store 2 rfl rfl rfl H rfl rfl rfl (by simp) rfl ?_ | refine hw_store 3 rfl rfl rfl H rfl rfl rfl (by simp) rfl ?_)); clear H; intro w' H; (try simp only [Act.eval, Act.put, Value.cells, segV, seg, segPut, NS, Nat.reduceAdd] at H)) | ((with_reducible apply wlL); (first | apply hw_load 0 rfl rfl H rfl | apply hw_load 1 rfl rfl H rfl | apply hw_load 2 rfl rfl H rfl | apply hw_load 3 rfl rfl H rfl); (focus (simp; done)); (focus (simp only [segV, seg, NS]; rfl))))
  refine (Valid_any _ ⟨self, life, 1⟩ _).mono ?_; rw [hv]; rintro e w' ⟨rfl, hb⟩; obtain ⟨s2, hs2, H⟩ := H.call hb; clear hb
  go_wp2_with (first | ((first | ((with_reducible apply wlB); refine hw_box rfl rfl H ?_) | ((with_reducible apply wlA); refine hw_alloc rfl H ?_) | ((with_reducible apply wlS); first | refine hw_store 0 rfl rfl rfl H rfl rfl rfl (by simp) rfl ?_ | refine hw_store 1 rfl rfl rfl H rfl rfl rfl (by simp) rfl ?_ | refine hw_store 2 rfl rfl rfl H rfl rfl rfl (by simp) rfl ?_ | refine hw_store 3 rfl rfl rfl H rfl rfl rfl (by simp) rfl ?_)); clear H; intro w' H; (try simp only [Act.eval, Act.put, Value.cells, segV, seg, segPut, NS, Nat.reduceAdd] at H)) | ((with_reducible apply wlL); (first | apply hw_load 0 rfl rfl H rfl | apply hw_load 1 rfl rfl H rfl | apply hw_load 2 rfl rfl H rfl | apply hw_load 3 rfl rfl H rfl); (focus (simp; done)); (focus (simp only [segV, seg, NS]; rfl))) | ((with_reducible show wpList _ _ _ (⟨_, .makeSlice _ _ _, _, _, _, _⟩ :: _) _ _); refine hw_make (n := n) rfl rfl rfl (by omega) (Nat.le_trans hn2 (by decide)) H ?_; clear H; intro w' sz' hlt H; rw [made_row] at H; (try simp only [Act.eval, Act.put, Value.cells, segV, seg, segPut, NS, Nat.reduceAdd] at H)))
  rw [show List.replicate n (⟨0, 0, 0⟩ : Ntc) = rowK n 0 by simp [rowK]] at H
  clear hv
  go_loopw [42] (fun i wr => ∃ k sz : Nat, k ≤ n ∧ i = .int .i64 k ∧ Hp NoS w wr sz [(sz', tBook, bookC s2 n), (s2, tNtc, rowC (rowK n k)), (w.heap.size, tNtc, #[.int .i64 self, .int .i64 life, .int .i64 1])] []) (fun i _ => n - (intOf i).toNat)
  case atStart => exact ⟨0, _, by omega, rfl, H⟩
  case round =>
    clear H
    obtain ⟨k, sz, hk, rfl, H⟩ := hrel
    by_cases hlt : k < n
    · have HP := Lib.hid (rowC_put (rowK n k) k (by rw [rowK_len _ _ hk]; exact hlt) (freshN k))
      have HB := Lib.hid (rowC_bd (rowK n k) k (by rw [rowK_len _ _ hk]; exact hlt))
      have HS := Lib.hid (rowK_succ n k hlt)
      go_wp2_with (first | ((first | ((with_reducible apply wlB); refine hw_box rfl rfl H ?_) | ((with_reducible apply wlA); refine hw_alloc rfl H ?_) | ((with_reducible apply wlS); first | refine hw_store 0 rfl rfl rfl H rfl rfl rfl (by simp) rfl ?_ | refine hw_store 1 rfl rfl rfl H rfl rfl rfl (by simp) rfl ?_ | refine hw_store 2 rfl rfl rfl H rfl rfl rfl (by simp) rfl ?_ | refine hw_store 3 rfl rfl rfl H rfl rfl rfl (by simp) rfl ?_)); clear H; intro w' H; (try simp only [Act.eval, Act.put, Value.cells, segV, seg, segPut, NS, Nat.reduceAdd] at H)) | ((with_reducible apply wlL); (first | apply hw_load 0 rfl rfl H rfl | apply hw_load 1 rfl rfl H rfl | apply hw_load 2 rfl rfl H rfl | apply hw_load 3 rfl rfl H rfl); (focus (simp; done)); (focus (simp only [segV, seg, NS]; rfl))))
      (try simp only [Act.eval, Act.put, Value.cells, segV, seg, segPut, NS, Nat.reduceAdd])
      refine region_det 7 (HpX _ _ _ _ _) rfl (by kernel_rfl) ⟨_, Nat.le_refl _, H.drew⟩ ?_; clear H; simp only [List.take_succ_cons, List.take_zero, List.drop_succ_cons, List.drop_zero]
      repeat (first | (apply det_op rfl; (focus (rintro w' ⟨s1, hs1, H⟩; go_wp2_with (first | ((with_reducible apply wlL); apply hw_load 0 rfl rfl H rfl; (focus (simp; done)); (focus (simp only [segV, seg, NS]; rfl))) | (go_at_call 159; refine (Fresh_any _ _).mono ?_; rintro e w' ⟨rfl, hb⟩; obtain ⟨s2, hs2, H⟩ := H.call hb; clear hb)); refine ⟨rfl, rfl, ?_, _, by omega, H⟩; (first | (simp only [SlotIs, Array.getD_eq_getD_getElem?, List.getElem?_toArray, List.getElem?_cons_succ, List.getElem?_cons_zero, Option.getD_some]; exact rfl) | exact rfl))); (try simp only [Act.put, List.setIfInBounds_toArray, List.set_cons_zero, List.set_cons_succ])) | (apply det_skip rfl; (try simp only [Act.put, List.setIfInBounds_toArray, List.set_cons_zero, List.set_cons_succ])))
      rintro w' ⟨s4, hs4, H⟩; (try simp only [Act.eval, Act.put, Value.cells, segV, seg, segPut, NS, Nat.reduceAdd])
      go_wp2_with (first | ((with_reducible show wpList _ _ _ (⟨_, .store _ _ _, _, _, _, _⟩ :: _) _ _); refine hw_store 1 rfl rfl rfl H rfl (vs := encN (freshN k)) rfl rfl HB.out rfl ?_; clear H; intro w' H; simp only [List.set_cons_zero, List.set_cons_succ, HP.out, HS.out] at H))
      exact ⟨⟨k + 1, _, by omega, rfl, H⟩, by simp [intOf]; omega⟩
    · obtain rfl : k = n := by omega
      have hr := Lib.hid (show rowK k k = (List.range k).map (fun (i : Nat) => freshN i) by simp [rowK])
      have HP := Lib.hid (rowC_put (rowK k k) self (by rw [rowK_len _ _ hk]; exact hs) ⟨self, life, 1⟩)
      have HB := Lib.hid (rowC_bd (rowK k k) self (by rw [rowK_len _ _ hk]; exact hs))
      go_wp2_with (first | ((first | ((with_reducible apply wlB); refine hw_box rfl rfl H ?_) | ((with_reducible apply wlA); refine hw_alloc rfl H ?_) | ((with_reducible apply wlS); first | refine hw_store 0 rfl rfl rfl H rfl rfl rfl (by simp) rfl ?_ | refine hw_store 1 rfl rfl rfl H rfl rfl rfl (by simp) rfl ?_ | refine hw_store 2 rfl rfl rfl H rfl rfl rfl (by simp) rfl ?_ | refine hw_store 3 rfl rfl rfl H rfl rfl rfl (by simp) rfl ?_)); clear H; intro w' H; (try simp only [Act.eval, Act.put, Value.cells, segV, seg, segPut, NS, Nat.reduceAdd] at H)) | ((with_reducible apply wlL); (first | apply hw_load 0 rfl rfl H rfl | apply hw_load 1 rfl rfl H rfl | apply hw_load 2 rfl rfl H rfl | apply hw_load 3 rfl rfl H rfl); (focus (simp; done)); (focus (simp only [segV, seg, NS]; rfl))))
      (try simp only [Act.eval, Act.put, Value.cells, segV, seg, segPut, NS, Nat.reduceAdd])
      refine region_det 6 (HpX _ _ _ _ _) rfl (by kernel_rfl) ⟨_, Nat.le_refl _, H.drew⟩ ?_; clear H; simp only [List.take_succ_cons, List.take_zero, List.drop_succ_cons, List.drop_zero]
      repeat (first | (apply det_op rfl; (focus (rintro w' ⟨s1, hs1, H⟩; go_wp2_with (first | ((with_reducible apply wlL); apply hw_load 0 rfl rfl H rfl; (focus (simp; done)); (focus (simp only [segV, seg, NS]; rfl))) | ((with_reducible apply wlL); apply hw_load 2 rfl rfl H rfl; (focus (simp; done)); (focus (simp only [segV, seg, NS]; rfl)))); refine ⟨rfl, rfl, ?_, _, by omega, H⟩; (first | (simp only [SlotIs, Array.getD_eq_getD_getElem?, List.getElem?_toArray, List.getElem?_cons_succ, List.getElem?_cons_zero, Option.getD_some]; exact rfl) | exact rfl))); (try simp only [Act.put, List.setIfInBounds_toArray, List.set_cons_zero, List.set_cons_succ])) | (apply det_skip rfl; (try simp only [Act.put, List.setIfInBounds_toArray, List.set_cons_zero, List.set_cons_succ])))
      rintro w' ⟨s4, hs4, H⟩; (try simp only [Act.eval, Act.put, Value.cells, segV, seg, segPut, NS, Nat.reduceAdd])
      go_wp2_with (first | ((with_reducible show wpList _ _ _ (⟨_, .store _ _ _, _, _, _, _⟩ :: _) _ _); refine hw_store 1 rfl rfl rfl H rfl (vs := encN ⟨self, life, 1⟩) rfl rfl HB.out rfl ?_; clear H; intro w' H; simp only [List.set_cons_zero, List.set_cons_succ, HP.out] at H))
      exact bodyPost_ret (res2 rfl (rv_tmp rfl) (rv_tmp rfl)) rfl ⟨_, _, _, rfl, by unfold newBk BK; rw [← hr.out, List.length_set, rowK_len _ _ hk]; exact H.tk 2⟩
end
end Go.Proofs.YtccgpjhgfjfaoaaGreatDoor
/- node: Open, where the disk opens. -/
namespace Go.Proofs.YtccgpjhgfjfaoaaGreatDoor
open Go.RowKit

abbrev tNode : TypeId := 79
instance iLife4_1 : Ty Tryz.prog 64 false 1 := ⟨fun _ => by kernel_rfl, fun _ => by kernel_rfl, fun _ => rfl⟩
/-- The life that opens on a disk: the reserve B, the round r. -/
def openLf (n f self : Nat) (B : Bt) (r : Int) : Lf :=
  { n := n, f := f, self := self, B := B, book := newBk n self B.tag, heard := 2 ^ n - 1, T := tlyNew n f self r (2 ^ n - 1), down := false, past := [] }
theorem pOpen {α : Type} {a b c d e : α} {X : List α} : (a :: (X ++ b :: c :: [d, e])).Perm (a :: b :: c :: d :: e :: (X ++ [])) := by
  apply perm_count; intro x; simp only [List.count_append, List.count_cons, List.count_nil]; omega
section
variable {w : World} {pd : Nat} {d : Dsk}
set_option maxRecDepth 100000 in
set_option maxHeartbeats 2000000 in
theorem nOpen_ok (n f self : Nat) (H0 : Own w [(pd, tDisk, dskC d)]) (hd : d.im.length = 256) (hn1 : 1 ≤ n) (hn2 : n ≤ 100) (hf : f < n) (hs : self < n)
    {B B' : Bt} {d' d'' : Dsk} {r : Int} (hM : openM d = (some B, d', 0)) (hB : okBt B) (hd' : d'.im.length = 256) (hN : nextM B d' = (B', d'', r, 0)) (hr0 : 1 ≤ r) (hr1 : r ≤ 1099511627775) (hv : validB n ⟨self, B'.tag, 1⟩ = true) (hw : withinB (2 ^ n - 1) n = true) :
    Calls Tryz.prog 72 #[.int .i64 n, .int .i64 f, .int .i64 self, pV pd] w
      (fun e w' => ∃ sz pn pl L, e = .returned (.tuple #[pV pn, .int .i64 0]) ∧ LifeAt ((openLf n f self B' r).happens { kind := 1, round := r, tag := B'.tag }) d'' pl pd L ∧ Hp (InL [(pd, tDisk, dskC d)]) w w' sz ((pn, tNode, #[pV pl]) :: L) []) := by
  have HM := Lib.hid hM
  have HN := Lib.hid hN
  have HV := Lib.hid hv
  clear hM hN hv
  go_enter Tryz.func72, Tryz.ntmps72
  have H := H0
  unfold Own at H
  go_wp2_with (first | ((first | ((with_reducible apply wlB); refine hw_box rfl rfl H ?_) | ((with_reducible apply wlA); refine hw_alloc rfl H ?_) | ((with_reducible apply wlS); first | refine hw_store 0 rfl rfl rfl H rfl rfl rfl (by simp) rfl ?_ | refine hw_store 1 rfl rfl rfl H rfl rfl rfl (by simp) rfl ?_ | refine hw_store 2 rfl rfl rfl H rfl rfl rfl (by simp) rfl ?_ | refine hw_store 3 rfl rfl rfl H rfl rfl rfl (by simp) rfl ?_)); clear H; intro w' H; (try simp only [Act.eval, Act.put, Value.cells, segV, seg, segPut, NS, Nat.reduceAdd] at H)) | ((with_reducible apply wlL); (first | apply hw_load 0 rfl rfl H rfl | apply hw_load 1 rfl rfl H rfl | apply hw_load 2 rfl rfl H rfl | apply hw_load 3 rfl rfl H rfl); (focus (simp; done)); (focus (simp only [segV, seg, NS]; rfl))))
  refine (Open_any H0 hd).mono ?_; rw [HM.out]; rintro e w' ⟨s1, pb, rfl, H1⟩; obtain ⟨hs1, H⟩ := H.join (Lb := []) (by simp) H1; clear H1
  simp only [List.append_nil] at H
  go_wp2_with (first | ((first | ((with_reducible apply wlB); refine hw_box rfl rfl H ?_) | ((with_reducible apply wlA); refine hw_alloc rfl H ?_) | ((with_reducible apply wlS); first | refine hw_store 0 rfl rfl rfl H rfl rfl rfl (by simp) rfl ?_ | refine hw_store 1 rfl rfl rfl H rfl rfl rfl (by simp) rfl ?_ | refine hw_store 2 rfl rfl rfl H rfl rfl rfl (by simp) rfl ?_ | refine hw_store 3 rfl rfl rfl H rfl rfl rfl (by simp) rfl ?_)); clear H; intro w' H; (try simp only [Act.eval, Act.put, Value.cells, segV, seg, segPut, NS, Nat.reduceAdd] at H)) | ((with_reducible apply wlL); (first | apply hw_load 0 rfl rfl H rfl | apply hw_load 1 rfl rfl H rfl | apply hw_load 2 rfl rfl H rfl | apply hw_load 3 rfl rfl H rfl); (focus (simp; done)); (focus (simp only [segV, seg, NS]; rfl))))
  refine (Next_any (Own.all H) hd' hB).mono ?_; unfold NextPost; rw [HN.out]; rintro e w' ⟨s2, rfl, H1⟩; obtain ⟨hs2, H⟩ := H.join (Lb := []) (by simp) H1; clear H1
  simp only [List.append_nil] at H
  go_wp2_with (first | ((first | ((with_reducible apply wlB); refine hw_box rfl rfl H ?_) | ((with_reducible apply wlA); refine hw_alloc rfl H ?_) | ((with_reducible apply wlS); first | refine hw_store 0 rfl rfl rfl H rfl rfl rfl (by simp) rfl ?_ | refine hw_store 1 rfl rfl rfl H rfl rfl rfl (by simp) rfl ?_ | refine hw_store 2 rfl rfl rfl H rfl rfl rfl (by simp) rfl ?_ | refine hw_store 3 rfl rfl rfl H rfl rfl rfl (by simp) rfl ?_)); clear H; intro w' H; (try simp only [Act.eval, Act.put, Value.cells, segV, seg, segPut, NS, Nat.reduceAdd] at H)) | ((with_reducible apply wlL); (first | apply hw_load 0 rfl rfl H rfl | apply hw_load 1 rfl rfl H rfl | apply hw_load 2 rfl rfl H rfl | apply hw_load 3 rfl rfl H rfl); (focus (simp; done)); (focus (simp only [segV, seg, NS]; rfl))))
  refine (Tag_any (H.blk _ (.tail _ (.head _)))).mono ?_; rintro e w' ⟨rfl, hb⟩; obtain ⟨s3, hs3, H⟩ := H.call hb; clear hb
  go_wp2_with (first | ((first | ((with_reducible apply wlB); refine hw_box rfl rfl H ?_) | ((with_reducible apply wlA); refine hw_alloc rfl H ?_) | ((with_reducible apply wlS); first | refine hw_store 0 rfl rfl rfl H rfl rfl rfl (by simp) rfl ?_ | refine hw_store 1 rfl rfl rfl H rfl rfl rfl (by simp) rfl ?_ | refine hw_store 2 rfl rfl rfl H rfl rfl rfl (by simp) rfl ?_ | refine hw_store 3 rfl rfl rfl H rfl rfl rfl (by simp) rfl ?_)); clear H; intro w' H; (try simp only [Act.eval, Act.put, Value.cells, segV, seg, segPut, NS, Nat.reduceAdd] at H)) | ((with_reducible apply wlL); (first | apply hw_load 0 rfl rfl H rfl | apply hw_load 1 rfl rfl H rfl | apply hw_load 2 rfl rfl H rfl | apply hw_load 3 rfl rfl H rfl); (focus (simp; done)); (focus (simp only [segV, seg, NS]; rfl))))
  refine (bNew_ok n self B'.tag hn1 hn2 hs HV.out _).mono ?_; rintro e w' ⟨s4, bk, br, rfl, H1⟩; obtain ⟨hs4, H⟩ := H.fresh H1; clear H1
  simp only [List.cons_append, List.nil_append] at H
  go_wp2_with (first | ((first | ((with_reducible apply wlB); refine hw_box rfl rfl H ?_) | ((with_reducible apply wlA); refine hw_alloc rfl H ?_) | ((with_reducible apply wlS); first | refine hw_store 0 rfl rfl rfl H rfl rfl rfl (by simp) rfl ?_ | refine hw_store 1 rfl rfl rfl H rfl rfl rfl (by simp) rfl ?_ | refine hw_store 2 rfl rfl rfl H rfl rfl rfl (by simp) rfl ?_ | refine hw_store 3 rfl rfl rfl H rfl rfl rfl (by simp) rfl ?_)); clear H; intro w' H; (try simp only [Act.eval, Act.put, Value.cells, segV, seg, segPut, NS, Nat.reduceAdd] at H)) | ((with_reducible apply wlL); (first | apply hw_load 0 rfl rfl H rfl | apply hw_load 1 rfl rfl H rfl | apply hw_load 2 rfl rfl H rfl | apply hw_load 3 rfl rfl H rfl); (focus (simp; done)); (focus (simp only [segV, seg, NS]; rfl))))
  refine (Full_ok n hn2 _).mono ?_; rintro e w' ⟨rfl, hb⟩; obtain ⟨s5, hs5, H⟩ := H.call hb; clear hb
  go_wp2_with (first | ((first | ((with_reducible apply wlB); refine hw_box rfl rfl H ?_) | ((with_reducible apply wlA); refine hw_alloc rfl H ?_) | ((with_reducible apply wlS); first | refine hw_store 0 rfl rfl rfl H rfl rfl rfl (by simp) rfl ?_ | refine hw_store 1 rfl rfl rfl H rfl rfl rfl (by simp) rfl ?_ | refine hw_store 2 rfl rfl rfl H rfl rfl rfl (by simp) rfl ?_ | refine hw_store 3 rfl rfl rfl H rfl rfl rfl (by simp) rfl ?_)); clear H; intro w' H; (try simp only [Act.eval, Act.put, Value.cells, segV, seg, segPut, NS, Nat.reduceAdd] at H)) | ((with_reducible apply wlL); (first | apply hw_load 0 rfl rfl H rfl | apply hw_load 1 rfl rfl H rfl | apply hw_load 2 rfl rfl H rfl | apply hw_load 3 rfl rfl H rfl); (focus (simp; done)); (focus (simp only [segV, seg, NS]; rfl))))
  refine (begin_any (n := n) (f := f) (self := self) (heard := 2 ^ n - 1) (bv := pV pb) (kv := pV bk) (tv := .pointer none) (down := false) (pv := .slice none 0 0) (H.part (Lb := (pb, tBoot, bootC B' pd) :: (pd, tDisk, dskC d'') :: BK (newBk n self B'.tag) bk br) (List.Perm.refl _)) ⟨by omega, by omega, by omega, by omega, by omega, by omega⟩ r hr0 hr1 hw).mono ?_; rintro e w' ⟨s6, bt, LT, rfl, hT, H1⟩; obtain ⟨hs6, H⟩ := H.join (Lb := (pb, tBoot, bootC B' pd) :: (pd, tDisk, dskC d'') :: BK (newBk n self B'.tag) bk br) (List.Perm.refl _) H1; clear H1
  simp only [List.cons_append] at H
  go_wp2_with (first | ((first | ((with_reducible apply wlB); refine hw_box rfl rfl H ?_) | ((with_reducible apply wlA); refine hw_alloc rfl H ?_) | ((with_reducible apply wlS); first | refine hw_store 0 rfl rfl rfl H rfl rfl rfl (by simp) rfl ?_ | refine hw_store 1 rfl rfl rfl H rfl rfl rfl (by simp) rfl ?_ | refine hw_store 2 rfl rfl rfl H rfl rfl rfl (by simp) rfl ?_ | refine hw_store 3 rfl rfl rfl H rfl rfl rfl (by simp) rfl ?_)); clear H; intro w' H; (try simp only [Act.eval, Act.put, Value.cells, segV, seg, segPut, NS, Nat.reduceAdd] at H)) | ((with_reducible apply wlL); (first | apply hw_load 0 rfl rfl H rfl | apply hw_load 1 rfl rfl H rfl | apply hw_load 2 rfl rfl H rfl | apply hw_load 3 rfl rfl H rfl); (focus (simp; done)); (focus (simp only [segV, seg, NS]; rfl))))
  refine (Tag_any (H.blk (pb, tBoot, bootC B' pd) (by simp))).mono ?_; rintro e w' ⟨rfl, hb⟩; obtain ⟨s7, hs7, H⟩ := H.call hb; clear hb
  go_wp2_with (first | ((first | ((with_reducible apply wlB); refine hw_box rfl rfl H ?_) | ((with_reducible apply wlA); refine hw_alloc rfl H ?_) | ((with_reducible apply wlS); first | refine hw_store 0 rfl rfl rfl H rfl rfl rfl (by simp) rfl ?_ | refine hw_store 1 rfl rfl rfl H rfl rfl rfl (by simp) rfl ?_ | refine hw_store 2 rfl rfl rfl H rfl rfl rfl (by simp) rfl ?_ | refine hw_store 3 rfl rfl rfl H rfl rfl rfl (by simp) rfl ?_)); clear H; intro w' H; (try simp only [Act.eval, Act.put, Value.cells, segV, seg, segPut, NS, Nat.reduceAdd] at H)) | ((with_reducible apply wlL); (first | apply hw_load 0 rfl rfl H rfl | apply hw_load 1 rfl rfl H rfl | apply hw_load 2 rfl rfl H rfl | apply hw_load 3 rfl rfl H rfl); (focus (simp; done)); (focus (simp only [segV, seg, NS]; rfl))))
  replace H := H.perm pOpen
  have hL : LifeAt (openLf n f self B' r) d'' s2 pd ((s2, tLife, lifeC (openLf n f self B' r) pb bk bt (.slice none 0 0)) :: (pb, tBoot, bootC B' pd) :: (pd, tDisk, dskC d'') :: (bk, tBook, bookC br (newBk n self B'.tag).length) :: (br, tNtc, rowC (newBk n self B'.tag)) :: (LT ++ [])) :=
    ⟨pb, bk, br, bt, .slice none 0 0, LT, [], hT, .nil, rfl⟩
  have key := happens_any hL (Own.all H) (by simp [openLf]) { kind := 1, round := r, tag := B'.tag }
  simp only [evtV, wd0] at key
  refine key.mono ?_; rintro e w' ⟨s8, L8, rfl, hL8, H1⟩; obtain ⟨hs8, H⟩ := H.join (Lb := []) (by rw [List.append_nil (_ :: _)]; exact List.Perm.refl _) H1; clear H1
  simp only [List.append_nil] at H
  go_wp2_with (first | ((first | ((with_reducible apply wlB); refine hw_box rfl rfl H ?_) | ((with_reducible apply wlA); refine hw_alloc rfl H ?_) | ((with_reducible apply wlS); first | refine hw_store 0 rfl rfl rfl H rfl rfl rfl (by simp) rfl ?_ | refine hw_store 1 rfl rfl rfl H rfl rfl rfl (by simp) rfl ?_ | refine hw_store 2 rfl rfl rfl H rfl rfl rfl (by simp) rfl ?_ | refine hw_store 3 rfl rfl rfl H rfl rfl rfl (by simp) rfl ?_)); clear H; intro w' H; (try simp only [Act.eval, Act.put, Value.cells, segV, seg, segPut, NS, Nat.reduceAdd] at H)) | ((with_reducible apply wlL); (first | apply hw_load 0 rfl rfl H rfl | apply hw_load 1 rfl rfl H rfl | apply hw_load 2 rfl rfl H rfl | apply hw_load 3 rfl rfl H rfl); (focus (simp; done)); (focus (simp only [segV, seg, NS]; rfl))))
  exact bodyPost_ret (res2 rfl (rv_tmp rfl) (rv_tmp rfl)) rfl ⟨_, _, _, _, rfl, hL8, H⟩
end
end Go.Proofs.YtccgpjhgfjfaoaaGreatDoor
/- node: Up, After, Poll (waiting). -/
namespace Go.Proofs.YtccgpjhgfjfaoaaGreatDoor
open Go.RowKit

/-- One call has yielded a slice. -/
def OneF (e : TypeId) (size n : Nat) (xs : List Value) : St → Prop
  | [] => True
  | [(v, L1)] => GL e size v n xs L1
  | _ => False
def OneL : St → List Bk
  | [(_, L1)] => L1
  | _ => []
theorem OneF.one {e : TypeId} {size n : Nat} {xs : List Value} {st : St} (hF : OneF e size n xs st) (h : st.length = 1) : ∃ v L1, st = [(v, L1)] ∧ GL e size v n xs L1 := by
  match st, hF with
  | [(v, L1)], hF => exact ⟨v, L1, rfl, hF⟩
theorem encE_len (e : Evt) : (encE e).length = 15 := rfl
theorem ev_rdA {w : World} {b i : Nat} {l : List Evt} (hi : l.length ≤ i) :
    Rd w (some ⟨b, 0, none⟩) (l.length - i) 0 15 ((l.drop i).flatMap encE) := by
  have h : l.drop i = [] := List.drop_eq_nil_of_le hi
  rw [h]
  exact ⟨by simp; omega, (fun h => by cases h), (fun ad _ j u hu => by simp at hu), by simp⟩
theorem ev_rd {w : World} {b c i : Nat} {l : List Evt} {pad : List Value} (hB : Blk w b tEv (l.flatMap encE ++ pad).toArray) (hi : i ≤ l.length) :
    Rd w (some ⟨b, i * 15, none⟩) (l.length - i) (c - i) 15 ((l.drop i).flatMap encE) := by
  refine ⟨by rw [flat_len encE_len, List.length_drop], (fun h => by cases h), ?_, by simp [encE, Value.oneCell']⟩
  · refine cells_of (n := (l.length - i) * 15) hB ?_
    simp only [seg]
    rw [List.drop_append_of_le_length (by rw [flat_len encE_len]; omega), flat_drop encE_len, List.take_append_of_le_length (by rw [flat_len encE_len, List.length_drop]; omega), List.take_of_length_le (by rw [flat_len encE_len, List.length_drop]; omega)]
section
variable {w : World} {b c : Nat} {pad : List Value} {pn pl pd pb pk pr pt : Nat} {x : Lf} {d : Dsk} {pv : Value} {LT LP L : List Bk}
set_option maxRecDepth 100000 in
set_option maxHeartbeats 2000000 in
theorem nUp_any (hN : Blk w pn tNode #[pV pl]) (hL : Blk w pl tLife (lifeC x pb pk pt pv)) : Calls Tryz.prog 26 #[pV pn] w (Ret (.bool !x.down) w) := by
  rcases Bool.eq_false_or_eq_true x.down with hd | hd
  all_goals (
    go_enter Tryz.func26, Tryz.ntmps26
    have H := ((Hp.start NoS w).addR hN id).addR hL id
    rw [hd]
    go_wp2_with (first | ((with_reducible apply wlL); apply hw_loadR 0 rfl rfl H rfl; (focus (simp; done)); (focus (simp only [segV, seg, NS]; rfl))) | ((with_reducible apply wlL); apply hw_loadR 1 rfl rfl H rfl; (focus (simp; done)); (focus (simp only [segV, seg, NS]; rfl))))
    exact bodyPost_ret (res1 rfl (rv_tmp rfl)) rfl ⟨rfl, H.ret⟩)
set_option maxRecDepth 100000 in
set_option maxHeartbeats 2000000 in
theorem nAfter_b (hI : LifeIs x d pl pd pb pk pr pt (.slice (some ⟨b, 0, none⟩) x.past.length c) LT [(b, tEv, (x.past.flatMap encE ++ pad).toArray)] L) (hc : x.past.length ≤ c) (H0 : Own w ((pn, tNode, #[pV pl]) :: L)) (i : Nat) (hi : i ≤ x.past.length) (hp : x.past.length ≤ 100000) (hci : ¬ c = i) : Calls Tryz.prog 106 #[pV pn, .int .i64 i] w
    (fun e w' => ∃ sz v L, e = .returned v ∧ GL tEv 15 v (x.past.length - i) ((x.past.drop i).flatMap encE) L ∧ Hp NoS w w' sz L []) := by
  obtain ⟨hT, hG, rfl⟩ := hI
  have hB := H0.blk (b, tEv, (x.past.flatMap encE ++ pad).toArray) (by simp)
  go_enter Tryz.func106, Tryz.ntmps106
  have H := (((Hp.start NoS w).addR (H0.blk (pn, tNode, #[pV pl]) (by simp)) id).addR (H0.blk (pl, tLife, lifeC x pb pk pt (.slice (some ⟨b, 0, none⟩) x.past.length c)) (by simp)) id).addR hB id
  go_wp2_with (first | ((with_reducible apply wlL); apply hw_loadR 2 rfl rfl H rfl; (focus (simp; done)); (focus (simp only [segV, seg, NS]; rfl))) | ((with_reducible apply wlL); apply hw_loadR 1 rfl rfl H rfl; (focus (simp; done)); (focus (simp only [segV, seg, NS]; rfl))))
  (try simp only [Act.eval, Act.put, Value.cells, segV, seg, segPut, NS, Nat.reduceAdd])
  refine region_GS 20 [19] (fun i => if 19 ≤ i then 1 else 0) (OneF tEv 15 (x.past.length - i) ((x.past.drop i).flatMap encE)) OneL H trivial rfl rfl (by kernel_rfl) ?_; clear H; simp only [List.take_succ_cons, List.take_zero, List.drop_succ_cons, List.drop_zero]
  repeat (first | (apply detG_op (by decide); (focus (rintro st hlv w' ⟨hF, s1, hs1, H⟩; go_wp2_with (first | ((with_reducible apply wlL); apply hw_loadR 1 rfl rfl H rfl; (focus (simp; done)); (focus (simp only [segV, seg, NS]; rfl))) | ((with_reducible apply wlL); apply hw_loadR 2 rfl rfl H rfl; (focus (simp; done)); (focus (simp only [segV, seg, NS]; rfl)))); refine ⟨rfl, rfl, ?_, hF, _, by omega, H⟩; (first | (simp only [SlotIs, Array.getD_eq_getD_getElem?, List.getElem?_toArray, List.getElem?_cons_succ, List.getElem?_cons_zero, Option.getD_some]; exact rfl) | exact rfl))); (focus (intros; rfl)); (try simp only [Act.put, List.setIfInBounds_toArray, List.set_cons_zero, List.set_cons_succ])))
  apply stgG_op (q := 0) (V := fun st => vq st 0) rfl nth1 (h := ?_) (hp := ?_) (hr := ?_)
  · rintro st hlv w' ⟨hF, s1, hs1, H⟩
    obtain rfl := List.eq_nil_of_length_eq_zero hlv
    simp only [OneL, List.append_nil] at H
    go_wp2_with (first | ((first | ((with_reducible apply wlB); refine hw_box rfl rfl H ?_) | ((with_reducible apply wlA); refine hw_alloc rfl H ?_) | ((with_reducible apply wlS); first | refine hw_store 0 rfl rfl rfl H rfl rfl rfl (by simp) rfl ?_ | refine hw_store 1 rfl rfl rfl H rfl rfl rfl (by simp) rfl ?_ | refine hw_store 2 rfl rfl rfl H rfl rfl rfl (by simp) rfl ?_ | refine hw_store 3 rfl rfl rfl H rfl rfl rfl (by simp) rfl ?_)); clear H; intro w' H; (try simp only [Act.eval, Act.put, Value.cells, segV, seg, segPut, NS, Nat.reduceAdd] at H)) | ((with_reducible apply wlL); (first | apply hw_load 0 rfl rfl H rfl | apply hw_load 1 rfl rfl H rfl | apply hw_load 2 rfl rfl H rfl | apply hw_load 3 rfl rfl H rfl); (focus (simp; done)); (focus (simp only [segV, seg, NS]; rfl))))
    refine (Clone_ev (ev_rd (H.ro _ (.head _)).1 hi) (by omega)).mono ?_; rintro e w' ⟨s4, v4, L4, rfl, hR, _, H1⟩; obtain ⟨hs4, H⟩ := H.fresh H1; clear H1
    go_wp2_with (first | ((first | ((with_reducible apply wlB); refine hw_box rfl rfl H ?_) | ((with_reducible apply wlA); refine hw_alloc rfl H ?_) | ((with_reducible apply wlS); first | refine hw_store 0 rfl rfl rfl H rfl rfl rfl (by simp) rfl ?_ | refine hw_store 1 rfl rfl rfl H rfl rfl rfl (by simp) rfl ?_ | refine hw_store 2 rfl rfl rfl H rfl rfl rfl (by simp) rfl ?_ | refine hw_store 3 rfl rfl rfl H rfl rfl rfl (by simp) rfl ?_)); clear H; intro w' H; (try simp only [Act.eval, Act.put, Value.cells, segV, seg, segPut, NS, Nat.reduceAdd] at H)) | ((with_reducible apply wlL); (first | apply hw_load 0 rfl rfl H rfl | apply hw_load 1 rfl rfl H rfl | apply hw_load 2 rfl rfl H rfl | apply hw_load 3 rfl rfl H rfl); (focus (simp; done)); (focus (simp only [segV, seg, NS]; rfl))))
    exact ⟨rfl, rfl, [(_, L4)], rfl, .inr ⟨_, rfl⟩, rfl, hR, _, by omega, H⟩
  · exact fun st st' hl ha => vq_adv (by omega) ha
  (try simp only [Act.put, List.setIfInBounds_toArray, List.set_cons_zero, List.set_cons_succ])
  rintro st w' hl ⟨hF, s5, hs5, H⟩
  obtain ⟨v, L1, rfl, hR⟩ := hF.one hl
  simp only [OneL, List.nil_append, show vq [(v, L1)] 0 = v from rfl] at H ⊢
  go_wp2
  exact bodyPost_ret (res1 rfl (rv_tmp rfl)) rfl ⟨_, _, _, rfl, hR, H.noR⟩
set_option maxRecDepth 100000 in
set_option maxHeartbeats 2000000 in
theorem nAfter_a (hI : LifeIs x d pl pd pb pk pr pt (.slice (some ⟨b, 0, none⟩) x.past.length c) LT [(b, tEv, (x.past.flatMap encE ++ pad).toArray)] L) (hc : x.past.length ≤ c) (H0 : Own w ((pn, tNode, #[pV pl]) :: L)) (i : Nat) (hi : i ≤ x.past.length) (hp : x.past.length ≤ 100000) (HE : Hid (c = i)) (hle : Hid (x.past.length ≤ i)) : Calls Tryz.prog 106 #[pV pn, .int .i64 i] w
    (fun e w' => ∃ sz v L, e = .returned v ∧ GL tEv 15 v (x.past.length - i) ((x.past.drop i).flatMap encE) L ∧ Hp NoS w w' sz L []) := by
  obtain ⟨hT, hG, rfl⟩ := hI
  have hB := H0.blk (b, tEv, (x.past.flatMap encE ++ pad).toArray) (by simp)
  go_enter Tryz.func106, Tryz.ntmps106
  have H := (((Hp.start NoS w).addR (H0.blk (pn, tNode, #[pV pl]) (by simp)) id).addR (H0.blk (pl, tLife, lifeC x pb pk pt (.slice (some ⟨b, 0, none⟩) x.past.length c)) (by simp)) id).addR hB id
  go_wp2_with (first | ((with_reducible apply wlL); apply hw_loadR 2 rfl rfl H rfl; (focus (simp; done)); (focus (simp only [segV, seg, NS]; rfl))) | ((with_reducible apply wlL); apply hw_loadR 1 rfl rfl H rfl; (focus (simp; done)); (focus (simp only [segV, seg, NS]; rfl))))
  (try simp only [Act.eval, Act.put, Value.cells, segV, seg, segPut, NS, Nat.reduceAdd])
  refine region_GS 20 [19] (fun i => if 19 ≤ i then 1 else 0) (OneF tEv 15 (x.past.length - i) ((x.past.drop i).flatMap encE)) OneL H trivial rfl rfl (by kernel_rfl) ?_; clear H; simp only [List.take_succ_cons, List.take_zero, List.drop_succ_cons, List.drop_zero]
  repeat (first | (apply detG_op (by decide); (focus (rintro st hlv w' ⟨hF, s1, hs1, H⟩; go_wp2_with (first | ((with_reducible apply wlL); apply hw_loadR 1 rfl rfl H rfl; (focus (simp; done)); (focus (simp only [segV, seg, NS]; rfl))) | ((with_reducible apply wlL); apply hw_loadR 2 rfl rfl H rfl; (focus (simp; done)); (focus (simp only [segV, seg, NS]; rfl)))); refine ⟨rfl, rfl, ?_, hF, _, by omega, H⟩; (first | (simp only [SlotIs, Array.getD_eq_getD_getElem?, List.getElem?_toArray, List.getElem?_cons_succ, List.getElem?_cons_zero, Option.getD_some]; exact rfl) | exact rfl))); (focus (intros; rfl)); (try simp only [Act.put, List.setIfInBounds_toArray, List.set_cons_zero, List.set_cons_succ])))
  apply detG_op (by decide) (V := fun _ => .slice (some ⟨b, 0, none⟩) (x.past.length - i) 0) (h := ?_) (hp := ?_) (hr := ?_)
  · rintro st hlv w' ⟨hF, s1, hs1, H⟩
    go_wp2_with (first | ((first | ((with_reducible apply wlB); refine hw_box rfl rfl H ?_) | ((with_reducible apply wlA); refine hw_alloc rfl H ?_) | ((with_reducible apply wlS); first | refine hw_store 0 rfl rfl rfl H rfl rfl rfl (by simp) rfl ?_ | refine hw_store 1 rfl rfl rfl H rfl rfl rfl (by simp) rfl ?_ | refine hw_store 2 rfl rfl rfl H rfl rfl rfl (by simp) rfl ?_ | refine hw_store 3 rfl rfl rfl H rfl rfl rfl (by simp) rfl ?_)); clear H; intro w' H; (try simp only [Act.eval, Act.put, Value.cells, segV, seg, segPut, NS, Nat.reduceAdd] at H)) | ((with_reducible apply wlL); (first | apply hw_load 0 rfl rfl H rfl | apply hw_load 1 rfl rfl H rfl | apply hw_load 2 rfl rfl H rfl | apply hw_load 3 rfl rfl H rfl); (focus (simp; done)); (focus (simp only [segV, seg, NS]; rfl))))
    · rename_i h
      subst h
      exact ⟨rfl, rfl, rfl, hF, _, by omega, H⟩
  · exact fun st st' hl ha => rfl
  (try simp only [Act.put, List.setIfInBounds_toArray, List.set_cons_zero, List.set_cons_succ])
  apply stgG_op (q := 0) (V := fun st => vq st 0) rfl nth1 (h := ?_) (hp := ?_) (hr := ?_)
  · rintro st hlv w' ⟨hF, s1, hs1, H⟩
    obtain rfl := List.eq_nil_of_length_eq_zero hlv
    simp only [OneL, List.append_nil] at H
    go_wp2_with (first | ((first | ((with_reducible apply wlB); refine hw_box rfl rfl H ?_) | ((with_reducible apply wlA); refine hw_alloc rfl H ?_) | ((with_reducible apply wlS); first | refine hw_store 0 rfl rfl rfl H rfl rfl rfl (by simp) rfl ?_ | refine hw_store 1 rfl rfl rfl H rfl rfl rfl (by simp) rfl ?_ | refine hw_store 2 rfl rfl rfl H rfl rfl rfl (by simp) rfl ?_ | refine hw_store 3 rfl rfl rfl H rfl rfl rfl (by simp) rfl ?_)); clear H; intro w' H; (try simp only [Act.eval, Act.put, Value.cells, segV, seg, segPut, NS, Nat.reduceAdd] at H)) | ((with_reducible apply wlL); (first | apply hw_load 0 rfl rfl H rfl | apply hw_load 1 rfl rfl H rfl | apply hw_load 2 rfl rfl H rfl | apply hw_load 3 rfl rfl H rfl); (focus (simp; done)); (focus (simp only [segV, seg, NS]; rfl))))
    refine (Clone_ev (ev_rdA hle.out) (by omega)).mono ?_; rintro e w' ⟨s4, v4, L4, rfl, hR, _, H1⟩; obtain ⟨hs4, H⟩ := H.fresh H1; clear H1
    go_wp2_with (first | ((first | ((with_reducible apply wlB); refine hw_box rfl rfl H ?_) | ((with_reducible apply wlA); refine hw_alloc rfl H ?_) | ((with_reducible apply wlS); first | refine hw_store 0 rfl rfl rfl H rfl rfl rfl (by simp) rfl ?_ | refine hw_store 1 rfl rfl rfl H rfl rfl rfl (by simp) rfl ?_ | refine hw_store 2 rfl rfl rfl H rfl rfl rfl (by simp) rfl ?_ | refine hw_store 3 rfl rfl rfl H rfl rfl rfl (by simp) rfl ?_)); clear H; intro w' H; (try simp only [Act.eval, Act.put, Value.cells, segV, seg, segPut, NS, Nat.reduceAdd] at H)) | ((with_reducible apply wlL); (first | apply hw_load 0 rfl rfl H rfl | apply hw_load 1 rfl rfl H rfl | apply hw_load 2 rfl rfl H rfl | apply hw_load 3 rfl rfl H rfl); (focus (simp; done)); (focus (simp only [segV, seg, NS]; rfl))))
    exact ⟨rfl, rfl, [(_, L4)], rfl, .inr ⟨_, rfl⟩, rfl, hR, _, by omega, H⟩
  · exact fun st st' hl ha => vq_adv (by omega) ha
  (try simp only [Act.put, List.setIfInBounds_toArray, List.set_cons_zero, List.set_cons_succ])
  rintro st w' hl ⟨hF, s5, hs5, H⟩
  obtain ⟨v, L1, rfl, hR⟩ := hF.one hl
  simp only [OneL, List.nil_append, show vq [(v, L1)] 0 = v from rfl] at H ⊢
  go_wp2
  exact bodyPost_ret (res1 rfl (rv_tmp rfl)) rfl ⟨_, _, _, rfl, hR, H.noR⟩
theorem nAfter_any (hI : LifeIs x d pl pd pb pk pr pt pv LT LP L) (H0 : Own w ((pn, tNode, #[pV pl]) :: L)) (h0 : 0 < x.past.length) (i : Nat) (hi : i ≤ x.past.length) (hp : x.past.length ≤ 100000) : Calls Tryz.prog 106 #[pV pn, .int .i64 i] w
    (fun e w' => ∃ sz v L, e = .returned v ∧ GL tEv 15 v (x.past.length - i) ((x.past.drop i).flatMap encE) L ∧ Hp NoS w w' sz L []) := by
  obtain ⟨b, c, pad, rfl, hc, rfl, hx, hpd⟩ := hI.past.some h0
  by_cases h : c = i
  · exact nAfter_a hI hc H0 i hi hp (Lib.hid h) (Lib.hid (by omega))
  · exact nAfter_b hI hc H0 i hi hp h
end
end Go.Proofs.YtccgpjhgfjfaoaaGreatDoor
/- node: Poll, where the node waits. -/
namespace Go.Proofs.YtccgpjhgfjfaoaaGreatDoor
open Go.RowKit

section
variable {w : World} {pn pl pd : Nat} {x : Lf} {d : Dsk} {L : List Bk}
set_option maxRecDepth 100000 in
set_option maxHeartbeats 2000000 in
theorem nPoll_wait (hI : LifeAt x d pl pd L) (H0 : Own w ((pn, tNode, #[pV pl]) :: L)) (ok : okLf x) (hnews : newsN x.book = []) (hp : x.past.length ≤ 100000) (hd : x.down = false) (hr : readyB x.T.need x.T.heards.length = false) : Calls Tryz.prog 53 #[pV pn] w
    (fun e w' => ∃ sz v L1 L2, e = .returned (.tuple #[v, .int .i64 170]) ∧ LifeAt (x.happens { kind := 2, round := x.T.round }) d pl pd L1 ∧ OutsIs (outsN x.self (askB x) x.n.toNat) v L2 ∧ Hp (InL ((pn, tNode, #[pV pl]) :: L)) w w' sz ((pn, tNode, #[pV pl]) :: (L1 ++ L2)) []) := by
  have hLA := hI
  have hpast := hp
  obtain ⟨pb, pk, pr, pt, pv, LT, LP, ⟨tv, LT1, hTG, rfl⟩, hG, rfl⟩ := hI
  obtain ⟨A, c, rfl⟩ := hTG.isSl
  simp only [List.cons_append] at H0 hLA ⊢
  have HD := Lib.hid hd
  have HR := Lib.hid hr
  clear hd hr
  go_enter Tryz.func53, Tryz.ntmps53
  have H := H0
  unfold Own at H
  go_wp2_with (first | ((first | ((with_reducible apply wlB); refine hw_box rfl rfl H ?_) | ((with_reducible apply wlA); refine hw_alloc rfl H ?_) | ((with_reducible apply wlS); first | refine hw_store 0 rfl rfl rfl H rfl rfl rfl (by simp) rfl ?_ | refine hw_store 1 rfl rfl rfl H rfl rfl rfl (by simp) rfl ?_ | refine hw_store 2 rfl rfl rfl H rfl rfl rfl (by simp) rfl ?_ | refine hw_store 3 rfl rfl rfl H rfl rfl rfl (by simp) rfl ?_)); clear H; intro w' H; (try simp only [Act.eval, Act.put, Value.cells, segV, seg, segPut, NS, Nat.reduceAdd] at H)) | ((with_reducible apply wlL); (first | apply hw_load 0 rfl rfl H rfl | apply hw_load 1 rfl rfl H rfl | apply hw_load 2 rfl rfl H rfl | apply hw_load 3 rfl rfl H rfl); (focus (simp; done)); (focus (simp only [segV, seg, NS]; rfl))))
  refine (nUp_any (H.blk _ (.head _)) (H.blk _ (.tail _ (.head _)))).mono ?_; rw [HD.out]; rintro e w' ⟨rfl, hb⟩; obtain ⟨s1, hs1, H⟩ := H.call hb; clear hb
  go_wp2_with (first | ((first | ((with_reducible apply wlB); refine hw_box rfl rfl H ?_) | ((with_reducible apply wlA); refine hw_alloc rfl H ?_) | ((with_reducible apply wlS); first | refine hw_store 0 rfl rfl rfl H rfl rfl rfl (by simp) rfl ?_ | refine hw_store 1 rfl rfl rfl H rfl rfl rfl (by simp) rfl ?_ | refine hw_store 2 rfl rfl rfl H rfl rfl rfl (by simp) rfl ?_ | refine hw_store 3 rfl rfl rfl H rfl rfl rfl (by simp) rfl ?_)); clear H; intro w' H; (try simp only [Act.eval, Act.put, Value.cells, segV, seg, segPut, NS, Nat.reduceAdd] at H)) | ((with_reducible apply wlL); (first | apply hw_load 0 rfl rfl H rfl | apply hw_load 1 rfl rfl H rfl | apply hw_load 2 rfl rfl H rfl | apply hw_load 3 rfl rfl H rfl); (focus (simp; done)); (focus (simp only [segV, seg, NS]; rfl))))
  refine (tReady_any (T := x.T) (H.blk (pt, tTally, tallyC x.T (.slice A x.T.heards.length c)) (by simp))).mono ?_; rw [HR.out]; rintro e w' ⟨rfl, hb⟩; obtain ⟨s2, hs2, H⟩ := H.call hb; clear hb
  go_wp2_with (first | ((first | ((with_reducible apply wlB); refine hw_box rfl rfl H ?_) | ((with_reducible apply wlA); refine hw_alloc rfl H ?_) | ((with_reducible apply wlS); first | refine hw_store 0 rfl rfl rfl H rfl rfl rfl (by simp) rfl ?_ | refine hw_store 1 rfl rfl rfl H rfl rfl rfl (by simp) rfl ?_ | refine hw_store 2 rfl rfl rfl H rfl rfl rfl (by simp) rfl ?_ | refine hw_store 3 rfl rfl rfl H rfl rfl rfl (by simp) rfl ?_)); clear H; intro w' H; (try simp only [Act.eval, Act.put, Value.cells, segV, seg, segPut, NS, Nat.reduceAdd] at H)) | ((with_reducible apply wlL); (first | apply hw_load 0 rfl rfl H rfl | apply hw_load 1 rfl rfl H rfl | apply hw_load 2 rfl rfl H rfl | apply hw_load 3 rfl rfl H rfl); (focus (simp; done)); (focus (simp only [segV, seg, NS]; rfl))))
  refine (ask_any hLA (H.part (Lb := [(pn, tNode, #[pV pl])]) (by apply perm_count; intro z; simp only [List.count_append, List.count_cons, List.count_nil]; omega)) ok hnews hpast).mono ?_; rintro e w' ⟨s3, v3, L1, L2, rfl, hL, hO, H1⟩; obtain ⟨hs3, H⟩ := H.join (Lb := [(pn, tNode, #[pV pl])]) (by apply perm_count; intro z; simp only [List.count_append, List.count_cons, List.count_nil]; omega) H1; clear H1
  go_wp2_with (first | ((first | ((with_reducible apply wlB); refine hw_box rfl rfl H ?_) | ((with_reducible apply wlA); refine hw_alloc rfl H ?_) | ((with_reducible apply wlS); first | refine hw_store 0 rfl rfl rfl H rfl rfl rfl (by simp) rfl ?_ | refine hw_store 1 rfl rfl rfl H rfl rfl rfl (by simp) rfl ?_ | refine hw_store 2 rfl rfl rfl H rfl rfl rfl (by simp) rfl ?_ | refine hw_store 3 rfl rfl rfl H rfl rfl rfl (by simp) rfl ?_)); clear H; intro w' H; (try simp only [Act.eval, Act.put, Value.cells, segV, seg, segPut, NS, Nat.reduceAdd] at H)) | ((with_reducible apply wlL); (first | apply hw_load 0 rfl rfl H rfl | apply hw_load 1 rfl rfl H rfl | apply hw_load 2 rfl rfl H rfl | apply hw_load 3 rfl rfl H rfl); (focus (simp; done)); (focus (simp only [segV, seg, NS]; rfl))))
  exact bodyPost_ret (res2 rfl (rv_tmp rfl) (rv_tmp rfl)) rfl ⟨_, _, L1, L2, rfl, hL, hO, H.perm (by apply perm_count; intro z; simp only [List.count_append, List.count_cons, List.count_nil]; omega)⟩
end
end Go.Proofs.YtccgpjhgfjfaoaaGreatDoor
/- bag: New, copied, Room, put. -/
namespace Go.Proofs.YtccgpjhgfjfaoaaGreatDoor
open Go.RowKit

structure Grm where
  id : Int
  src : Int
  dst : Int
  data : List UInt8
structure Bg where
  room : Int
  last : Int
  grams : List Grm
abbrev tGram : TypeId := 100
abbrev tBag : TypeId := 95
instance iBag1_1 : SlT Tryz.prog 51 100 4 48 := ⟨by kernel_rfl, info_parts (by kernel_rfl : (Tryz.prog.info? 100).map (fun i => (i.zero, i.size, i.bytes)) = some (some (.agg #[.int .i64 0, .int .i64 0, .int .i64 0, .slice none 0 0]), 4, 48)) |>.elim fun i h => ⟨i, _, h.1, h.2.1, h.2.2.1, h.2.2.2, rfl⟩, by omega⟩
instance iBag1_2 : Ty Tryz.prog 51 false 1 := ⟨fun _ => by kernel_rfl, fun _ => by kernel_rfl, fun _ => rfl⟩
instance iBag1_3 : Ty Tryz.prog 100 true 4 := ⟨fun _ => by kernel_rfl, fun _ => by kernel_rfl, fun h => by cases h⟩
instance iBag1_4 : Ty Tryz.prog 27 false 1 := ⟨fun _ => by kernel_rfl, fun _ => by kernel_rfl, fun _ => rfl⟩
instance iBag1_5 : ZeroV Tryz.prog 100 (.agg #[.int .i64 0, .int .i64 0, .int .i64 0, .slice none 0 0]) := ⟨fun _ => by kernel_rfl⟩
inductive GrmCs : List Grm → List Value → List Bk → Prop where
  | nil : GrmCs [] [] []
  | snoc {os : List Grm} {cs : List Value} {L : List Bk} {g : Grm} {v : Value} {L1 : List Bk} : GrmCs os cs L → GL tU8 1 v g.data.length (g.data.map bv) L1 → GrmCs (os ++ [g]) (cs ++ [.int .i64 g.id, .int .i64 g.src, .int .i64 g.dst, v]) (L ++ L1)
abbrev bagC (B : Bg) (v : Value) : Array Value := #[.int .i64 B.room, .int .i64 B.last, v]
def BagAt (B : Bg) (pg : Nat) (L : List Bk) : Prop := ∃ v cs LD LR, GrmCs B.grams cs LD ∧ GL tGram 4 v B.grams.length cs LR ∧ L = (pg, tBag, bagC B v) :: (LR ++ LD)
theorem pPut {α : Type} {a0 a1 g : α} {X Y : List α} : (a0 :: a1 :: ((X ++ Y) ++ [g])).Perm (X ++ (a0 :: a1 :: g :: Y)) := by
  apply perm_count; intro x; simp only [List.count_append, List.count_cons, List.count_nil]; omega
theorem pPut2 {α : Type} {a : α} {X Y : List α} : (a :: (X ++ Y)).Perm (a :: (Y ++ X)) := (List.perm_append_comm).cons a
section
variable {w : World} {pg : Nat} {B : Bg} {L : List Bk} {A : Option Addr} {n c : Nat} {xs : List Value}
set_option maxRecDepth 100000 in
set_option maxHeartbeats 2000000 in
theorem gNew_any (room : Nat) (h : room ≤ 65536) (w : World) : Calls Tryz.prog 46 #[.int .i64 room] w (fun e w' => ∃ sz pg, e = .returned (.tuple #[pV pg, .int .i64 0]) ∧ Hp NoS w w' sz [(pg, tBag, bagC ⟨room, 0, []⟩ (.slice none 0 0))] []) := by
  go_enter Tryz.func46, Tryz.ntmps46
  have H := Hp.start NoS w
  go_wp2_with (first | ((first | ((with_reducible apply wlB); refine hw_box rfl rfl H ?_) | ((with_reducible apply wlA); refine hw_alloc rfl H ?_) | ((with_reducible apply wlS); first | refine hw_store 0 rfl rfl rfl H rfl rfl rfl (by simp) rfl ?_ | refine hw_store 1 rfl rfl rfl H rfl rfl rfl (by simp) rfl ?_ | refine hw_store 2 rfl rfl rfl H rfl rfl rfl (by simp) rfl ?_ | refine hw_store 3 rfl rfl rfl H rfl rfl rfl (by simp) rfl ?_)); clear H; intro w' H; (try simp only [Act.eval, Act.put, Value.cells, segV, seg, segPut, NS, Nat.reduceAdd] at H)) | ((with_reducible apply wlL); (first | apply hw_load 0 rfl rfl H rfl | apply hw_load 1 rfl rfl H rfl | apply hw_load 2 rfl rfl H rfl | apply hw_load 3 rfl rfl H rfl); (focus (simp; done)); (focus (simp only [segV, seg, NS]; rfl))))
  exact bodyPost_ret (res2 rfl (rv_tmp rfl) (rv_tmp rfl)) rfl ⟨_, _, rfl, H⟩
set_option maxRecDepth 100000 in
set_option maxHeartbeats 2000000 in
theorem copied_any (hr : Rd w A n c 1 xs) (hn : n ≤ 1048576) (id src dst : Int) : Calls Tryz.prog 74 #[.agg #[.int .i64 id, .int .i64 src, .int .i64 dst, .slice A n c]] w
    (fun e w' => ∃ sz v L, e = .returned (.agg #[.int .i64 id, .int .i64 src, .int .i64 dst, v]) ∧ GL tU8 1 v n xs L ∧ Hp NoS w w' sz L []) := by
  go_enter Tryz.func74, Tryz.ntmps74
  have H := Hp.start NoS w
  go_wp2_with (first | ((first | ((with_reducible apply wlB); refine hw_box rfl rfl H ?_) | ((with_reducible apply wlA); refine hw_alloc rfl H ?_) | ((with_reducible apply wlS); first | refine hw_store 0 rfl rfl rfl H rfl rfl rfl (by simp) rfl ?_ | refine hw_store 1 rfl rfl rfl H rfl rfl rfl (by simp) rfl ?_ | refine hw_store 2 rfl rfl rfl H rfl rfl rfl (by simp) rfl ?_ | refine hw_store 3 rfl rfl rfl H rfl rfl rfl (by simp) rfl ?_)); clear H; intro w' H; (try simp only [Act.eval, Act.put, Value.cells, segV, seg, segPut, NS, Nat.reduceAdd] at H)) | ((with_reducible apply wlL); (first | apply hw_load 0 rfl rfl H rfl | apply hw_load 1 rfl rfl H rfl | apply hw_load 2 rfl rfl H rfl | apply hw_load 3 rfl rfl H rfl); (focus (simp; done)); (focus (simp only [segV, seg, NS]; rfl))))
  refine (Clone_u8 (hr.keep H.keep (fun _ _ h => h)) hn).mono ?_; rintro e w' ⟨s1, v1, L1, rfl, hG, _, H1⟩; obtain ⟨hs1, H⟩ := H.fresh H1; clear H1; obtain ⟨A', c', rfl⟩ := GL.isSl hG
  simp only [List.cons_append, List.nil_append] at H
  go_wp2_with (first | ((first | ((with_reducible apply wlB); refine hw_box rfl rfl H ?_) | ((with_reducible apply wlA); refine hw_alloc rfl H ?_) | ((with_reducible apply wlS); first | refine hw_store 0 rfl rfl rfl H rfl rfl rfl (by simp) rfl ?_ | refine hw_store 1 rfl rfl rfl H rfl rfl rfl (by simp) rfl ?_ | refine hw_store 2 rfl rfl rfl H rfl rfl rfl (by simp) rfl ?_ | refine hw_store 3 rfl rfl rfl H rfl rfl rfl (by simp) rfl ?_)); clear H; intro w' H; (try simp only [Act.eval, Act.put, Value.cells, segV, seg, segPut, NS, Nat.reduceAdd] at H)) | ((with_reducible apply wlL); (first | apply hw_load 0 rfl rfl H rfl | apply hw_load 1 rfl rfl H rfl | apply hw_load 2 rfl rfl H rfl | apply hw_load 3 rfl rfl H rfl); (focus (simp; done)); (focus (simp only [segV, seg, NS]; rfl))))
  exact bodyPost_ret (res1 rfl (rv_cell 0 rfl H rfl (Nat.le_of_ble_eq_true rfl))) rfl ⟨_, _, _, by simp [segV, seg], hG, H.drop1.drop1⟩
set_option maxRecDepth 100000 in
set_option maxHeartbeats 2000000 in
theorem gRoom_any {A : Option Addr} {m c : Nat} (hB : Blk w pg tBag (bagC B (.slice A m c))) (h0 : 0 ≤ B.room) (h1 : B.room ≤ 65536) (hm : m ≤ 65536) : Calls Tryz.prog 24 #[pV pg] w (Ret (.int .i64 (B.room - m)) w) := by
  go_enter Tryz.func24, Tryz.ntmps24
  have H := (Hp.start NoS w).addR hB id
  go_wp2_with (first | ((with_reducible apply wlL); apply hw_loadR 0 rfl rfl H rfl; (focus (simp; done)); (focus (simp only [segV, seg, NS]; rfl))))
  (try simp only [Act.eval, Act.put, Value.cells, segV, seg, segPut, NS, Nat.reduceAdd])
  refine region_det 10 (HpX _ _ _ _ _) rfl (by kernel_rfl) ⟨_, Nat.le_refl _, H.drew⟩ ?_; clear H; simp only [List.take_succ_cons, List.take_zero, List.drop_succ_cons, List.drop_zero]
  repeat (first | (apply det_op rfl; (focus (rintro w' ⟨s1, hs1, H⟩; go_wp2_with (first | ((with_reducible apply wlL); apply hw_loadR 0 rfl rfl H rfl; (focus (simp; done)); (focus (simp only [segV, seg, NS]; rfl)))); refine ⟨rfl, rfl, ?_, _, by omega, H⟩; (first | (simp only [SlotIs, Array.getD_eq_getD_getElem?, List.getElem?_toArray, List.getElem?_cons_succ, List.getElem?_cons_zero, Option.getD_some]; exact rfl) | exact rfl))); (try simp only [Act.put, List.setIfInBounds_toArray, List.set_cons_zero, List.set_cons_succ])) | (apply det_skip rfl; (try simp only [Act.put, List.setIfInBounds_toArray, List.set_cons_zero, List.set_cons_succ])))
  rintro w' ⟨s1, hs1, H⟩; (try simp only [Act.eval, Act.put, Value.cells, segV, seg, segPut, NS, Nat.reduceAdd])
  go_wp2
  exact bodyPost_ret (res1 rfl (rv_tmp rfl)) rfl ⟨rfl, H.ret⟩
def Bg.put (B : Bg) (g : Grm) : Bg := { B with last := B.last + 1, grams := B.grams ++ [{ g with id := B.last + 1 }] }
set_option maxRecDepth 100000 in
set_option maxHeartbeats 2000000 in
theorem gput_ok (hI : BagAt B pg L) (H0 : Own w L) (h0 : 0 ≤ B.room) (h1 : B.room ≤ 65536) (hm : (B.grams.length : Int) < B.room) (hl0 : 0 ≤ B.last) (hl1 : B.last ≤ 1099511627775) {g : Grm} (hr : Rd w A g.data.length c 1 (g.data.map bv)) (hS : ∀ ad, A = some ad → ¬ InL L ad.block) (hn : g.data.length ≤ 1048576) :
    Calls Tryz.prog 92 #[pV pg, .agg #[.int .i64 g.id, .int .i64 g.src, .int .i64 g.dst, .slice A g.data.length c]] w (UpdO L (BagAt (B.put g) pg) (.tuple #[.int .i64 (B.last + 1), .int .i64 0]) w) := by
  obtain ⟨v, cs, LD, LR, hD, hG, rfl⟩ := hI
  obtain ⟨Av, cv, rfl⟩ := GL.isSl hG
  go_enter Tryz.func92, Tryz.ntmps92
  have H := H0
  unfold Own at H
  go_wp2_with (first | ((first | ((with_reducible apply wlB); refine hw_box rfl rfl H ?_) | ((with_reducible apply wlA); refine hw_alloc rfl H ?_) | ((with_reducible apply wlS); first | refine hw_store 0 rfl rfl rfl H rfl rfl rfl (by simp) rfl ?_ | refine hw_store 1 rfl rfl rfl H rfl rfl rfl (by simp) rfl ?_ | refine hw_store 2 rfl rfl rfl H rfl rfl rfl (by simp) rfl ?_ | refine hw_store 3 rfl rfl rfl H rfl rfl rfl (by simp) rfl ?_)); clear H; intro w' H; (try simp only [Act.eval, Act.put, Value.cells, segV, seg, segPut, NS, Nat.reduceAdd] at H)) | ((with_reducible apply wlL); (first | apply hw_load 0 rfl rfl H rfl | apply hw_load 1 rfl rfl H rfl | apply hw_load 2 rfl rfl H rfl | apply hw_load 3 rfl rfl H rfl); (focus (simp; done)); (focus (simp only [segV, seg, NS]; rfl))))
  refine (gRoom_any (B := B) (H.blk _ (.tail _ (.head _))) h0 h1 (by omega)).mono ?_; rintro e w' ⟨rfl, hb⟩; obtain ⟨s1, hs1, H⟩ := H.call hb; clear hb
  have hne : (B.room - (B.grams.length : Int) == 0) = false := by simp; omega
  go_wp2_with (first | ((first | ((with_reducible apply wlB); refine hw_box rfl rfl H ?_) | ((with_reducible apply wlA); refine hw_alloc rfl H ?_) | ((with_reducible apply wlS); first | refine hw_store 0 rfl rfl rfl H rfl rfl rfl (by simp) rfl ?_ | refine hw_store 1 rfl rfl rfl H rfl rfl rfl (by simp) rfl ?_ | refine hw_store 2 rfl rfl rfl H rfl rfl rfl (by simp) rfl ?_ | refine hw_store 3 rfl rfl rfl H rfl rfl rfl (by simp) rfl ?_)); clear H; intro w' H; (try simp only [Act.eval, Act.put, Value.cells, segV, seg, segPut, NS, Nat.reduceAdd] at H)) | ((with_reducible apply wlL); (first | apply hw_load 0 rfl rfl H rfl | apply hw_load 1 rfl rfl H rfl | apply hw_load 2 rfl rfl H rfl | apply hw_load 3 rfl rfl H rfl); (focus (simp; done)); (focus (simp only [segV, seg, NS]; rfl))))
  refine (copied_any (hr.keep H.keep hS) hn g.id g.src g.dst).mono ?_; rintro e w' ⟨s2, v2, L2, rfl, hG2, H1⟩; obtain ⟨hs2, H⟩ := H.fresh H1; clear H1; obtain ⟨A2, c2, rfl⟩ := GL.isSl hG2
  simp only [List.cons_append, List.append_assoc] at H
  go_wp2_with (first | ((first | ((with_reducible apply wlB); refine hw_box rfl rfl H ?_) | ((with_reducible apply wlA); refine hw_alloc rfl H ?_) | ((with_reducible apply wlS); first | refine hw_store 0 rfl rfl rfl H rfl rfl rfl (by simp) rfl ?_ | refine hw_store 1 rfl rfl rfl H rfl rfl rfl (by simp) rfl ?_ | refine hw_store 2 rfl rfl rfl H rfl rfl rfl (by simp) rfl ?_ | refine hw_store 3 rfl rfl rfl H rfl rfl rfl (by simp) rfl ?_)); clear H; intro w' H; (try simp only [Act.eval, Act.put, Value.cells, segV, seg, segPut, NS, Nat.reduceAdd] at H)) | ((with_reducible apply wlL); (first | apply hw_load 0 rfl rfl H rfl | apply hw_load 1 rfl rfl H rfl | apply hw_load 2 rfl rfl H rfl | apply hw_load 3 rfl rfl H rfl); (focus (simp; done)); (focus (simp only [segV, seg, NS]; rfl))))
  (try simp only [Act.eval, Act.put, Value.cells, segV, seg, segPut, NS, Nat.reduceAdd])
  refine region_mkP 7 6 0 (tGram) (#[.int .i64 (B.last + 1), .int .i64 g.src, .int .i64 g.dst, .slice A2 g.data.length c2]) H rfl (by kernel_rfl) ?_; clear H; simp only [List.take_succ_cons, List.take_zero, List.drop_succ_cons, List.drop_zero]
  repeat (first | (apply detS_op (by decide) rfl; (focus (rintro e0 w' H; unfold HpM at H; go_wp2_with (first | ((with_reducible apply wlL); apply hw_load 0 rfl rfl H rfl; (focus (simp; done)); (focus (simp only [segV, seg, NS]; rfl))) | ((with_reducible apply wlL); apply hw_load 1 rfl rfl H rfl; (focus (simp; done)); (focus (simp only [segV, seg, NS]; rfl)))); refine ⟨rfl, rfl, ?_, H⟩; (first | (simp only [SlotIs, Array.getD_eq_getD_getElem?, List.getElem?_toArray, List.getElem?_cons_succ, List.getElem?_cons_zero, Option.getD_some]; exact rfl) | exact rfl))); (try simp only [Act.put, List.setIfInBounds_toArray, List.set_cons_zero, List.set_cons_succ])) | (apply detS_st (by decide) rfl; (focus (rintro w' H; replace H := H.start; go_wp2_with (first | ((with_reducible show wpList _ _ _ (⟨_, .buildSlice _ 1 _, _, _, _, _⟩ :: _) _ _); refine hw_build1 (e := tGram) (size := 4) rfl rfl rfl rfl (by decide) H ?_; clear H; intro w' H; (try simp only [Act.eval, Act.put, Value.cells, segV, seg, segPut, NS, Nat.reduceAdd] at H))); refine ⟨rfl, rfl, ?_, H.mkd⟩; (first | (simp only [SlotIs, Array.getD_eq_getD_getElem?, List.getElem?_toArray, List.getElem?_cons_succ, List.getElem?_cons_zero, Option.getD_some]; exact rfl) | exact rfl))); (try simp only [Act.put, List.setIfInBounds_toArray, List.set_cons_zero, List.set_cons_succ])) | (apply detS_skip (by decide) rfl; (try simp only [Act.put, List.setIfInBounds_toArray, List.set_cons_zero, List.set_cons_succ])))
  intro w' H; simp only [List.cons_append, List.nil_append] at H; (try simp only [Act.eval, Act.put, Value.cells, segV, seg, segPut, NS, Nat.reduceAdd])
  go_wp2_with (first | ((with_reducible show wpList _ _ _ (⟨_, .call { callee := .builtin .append, args := _, argTypes := _ }, _, _, _, _⟩ :: _) _ _); (apply hw_append (L0 := _) rfl rfl rfl H hG pPut rfl (fun h => by cases h) (cells_of (n := 4) (H.blk (s2, tGram, #[.int .i64 (B.last + 1), .int .i64 g.src, .int .i64 g.dst, .slice A2 g.data.length c2]) (by simp)) rfl) rfl (Nat.le_trans (m := 200000) (by omega) (by decide)) (by omega)); clear H; intro v' w' sz' L1' hle HG' hnil H; obtain ⟨A', c', rfl⟩ := HG'.isSl; (try simp only [Act.eval, Act.put, Value.cells, segV, seg, segPut, NS, Nat.reduceAdd] at H)) | ((with_reducible apply wlS); refine hw_store 1 rfl rfl rfl H rfl rfl rfl (by simp) rfl ?_; clear H; intro w' H; (try simp only [Act.eval, Act.put, Value.cells, segV, seg, segPut, NS, Nat.reduceAdd] at H)))
  refine ⟨rfl, ?_⟩
  go_wp2_with (first | ((first | ((with_reducible apply wlB); refine hw_box rfl rfl H ?_) | ((with_reducible apply wlA); refine hw_alloc rfl H ?_) | ((with_reducible apply wlS); first | refine hw_store 0 rfl rfl rfl H rfl rfl rfl (by simp) rfl ?_ | refine hw_store 1 rfl rfl rfl H rfl rfl rfl (by simp) rfl ?_ | refine hw_store 2 rfl rfl rfl H rfl rfl rfl (by simp) rfl ?_ | refine hw_store 3 rfl rfl rfl H rfl rfl rfl (by simp) rfl ?_)); clear H; intro w' H; (try simp only [Act.eval, Act.put, Value.cells, segV, seg, segPut, NS, Nat.reduceAdd] at H)) | ((with_reducible apply wlL); (first | apply hw_load 0 rfl rfl H rfl | apply hw_load 1 rfl rfl H rfl | apply hw_load 2 rfl rfl H rfl | apply hw_load 3 rfl rfl H rfl); (focus (simp; done)); (focus (simp only [segV, seg, NS]; rfl))))
  have hO : BagAt (B.put g) pg ((pg, tBag, bagC (B.put g) (.slice A' (B.grams.length + 1) c')) :: (L1' ++ (LD ++ L2))) :=
    ⟨_, _, LD ++ L2, L1', .snoc hD hG2, HG'.cast (by simp [Bg.put]) (by simp [seg]), rfl⟩
  exact bodyPost_ret (res2 rfl (rv_tmp rfl) (rv_tmp rfl)) rfl ⟨_, _, rfl, hO, (H.drop1.sub (.cons_cons _ (.cons _ (List.Sublist.refl _)))).perm pPut2⟩
set_option maxRecDepth 100000 in
set_option maxHeartbeats 2000000 in
theorem gSend_ok (hI : BagAt B pg L) (H0 : Own w L) (h0 : 0 ≤ B.room) (h1 : B.room ≤ 65536) (hm : (B.grams.length : Int) < B.room) (hl0 : 0 ≤ B.last) (hl1 : B.last ≤ 1099511627775) (src dst : Int) {l : List UInt8} (hr : Rd w A l.length c 1 (l.map bv)) (hS : ∀ ad, A = some ad → ¬ InL L ad.block) (hn : l.length ≤ 1024) :
    Calls Tryz.prog 61 #[pV pg, .int .i64 src, .int .i64 dst, .slice A l.length c] w (UpdO L (BagAt (B.put ⟨0, src, dst, l⟩) pg) (.tuple #[.int .i64 (B.last + 1), .int .i64 0]) w) := by
  go_enter Tryz.func61, Tryz.ntmps61
  have H := H0
  unfold Own at H
  go_wp2_with (first | ((first | ((with_reducible apply wlB); refine hw_box rfl rfl H ?_) | ((with_reducible apply wlA); refine hw_alloc rfl H ?_) | ((with_reducible apply wlS); first | refine hw_store 0 rfl rfl rfl H rfl rfl rfl (by simp) rfl ?_ | refine hw_store 1 rfl rfl rfl H rfl rfl rfl (by simp) rfl ?_ | refine hw_store 2 rfl rfl rfl H rfl rfl rfl (by simp) rfl ?_ | refine hw_store 3 rfl rfl rfl H rfl rfl rfl (by simp) rfl ?_)); clear H; intro w' H; (try simp only [Act.eval, Act.put, Value.cells, segV, seg, segPut, NS, Nat.reduceAdd] at H)) | ((with_reducible apply wlL); (first | apply hw_load 0 rfl rfl H rfl | apply hw_load 1 rfl rfl H rfl | apply hw_load 2 rfl rfl H rfl | apply hw_load 3 rfl rfl H rfl); (focus (simp; done)); (focus (simp only [segV, seg, NS]; rfl))))
  refine (gput_ok (g := ⟨0, src, dst, l⟩) hI H0 h0 h1 hm hl0 hl1 hr hS (by show l.length ≤ _; omega)).mono ?_; rintro e w' ⟨s2, L2, rfl, hG2, H1⟩
  go_wp2
  exact bodyPost_ret (res2 rfl (rv_tmp rfl) (rv_tmp rfl)) rfl ⟨_, _, rfl, hG2, H1⟩
end
end Go.Proofs.YtccgpjhgfjfaoaaGreatDoor
/- bag: All. -/
namespace Go.Proofs.YtccgpjhgfjfaoaaGreatDoor
open Go.RowKit

theorem GrmCs.len {os : List Grm} {cs : List Value} {L : List Bk} (h : GrmCs os cs L) : cs.length = os.length * 4 := by
  induction h with
  | nil => rfl
  | snoc _ _ ih => simp [ih]; omega
theorem GrmCs.at {os : List Grm} {cs : List Value} {L : List Bk} (h : GrmCs os cs L) (k : Nat) (hk : k < os.length) : ∃ v L1, (cs.drop (k * 4)).take 4 = [.int .i64 os[k].id, .int .i64 os[k].src, .int .i64 os[k].dst, v] ∧ GL tU8 1 v os[k].data.length (os[k].data.map bv) L1 ∧ ∀ y ∈ L1, y ∈ L := by
  induction h with
  | nil => simp at hk
  | @snoc os cs L g v L1 h hG ih =>
    have hl := h.len
    by_cases hlt : k < os.length
    · obtain ⟨v', L', h1, h2, h3⟩ := ih hlt
      refine ⟨v', L', ?_, ?_, fun y hy => by simp [h3 y hy]⟩
      · rw [List.drop_append_of_le_length (by omega), List.take_append_of_le_length (by rw [List.length_drop]; omega), h1, List.getElem_append_left hlt]
      · rw [List.getElem_append_left hlt]; exact h2
    · have hke : k = os.length := by simp at hk; omega
      subst hke
      refine ⟨v, L1, ?_, ?_, fun y hy => by simp [hy]⟩
      · rw [← hl, List.drop_left]; simp
      · simpa using hG
def AllF (g : Grm) : St → Prop
  | [] => True
  | [(u, L1)] => ∃ v, u = .agg #[.int .i64 g.id, .int .i64 g.src, .int .i64 g.dst, v] ∧ GL tU8 1 v g.data.length (g.data.map bv) L1
  | [(s, L2), (u, L1)] => ∃ b v, s = .slice (some ⟨b, 0, none⟩) 1 1 ∧ u = .agg #[.int .i64 g.id, .int .i64 g.src, .int .i64 g.dst, v] ∧ L2 = [(b, tGram, #[.int .i64 g.id, .int .i64 g.src, .int .i64 g.dst, v])] ∧ GL tU8 1 v g.data.length (g.data.map bv) L1
  | _ => False
def AllL : St → List Bk
  | [(_, L1)] => L1
  | [(_, L2), (_, L1)] => L2 ++ L1
  | _ => []
theorem AllF.one {g : Grm} {st : St} (hF : AllF g st) (h : st.length = 1) : ∃ A c L1, st = [(.agg #[.int .i64 g.id, .int .i64 g.src, .int .i64 g.dst, .slice A g.data.length c], L1)] ∧ GL tU8 1 (.slice A g.data.length c) g.data.length (g.data.map bv) L1 := by
  match st, hF with
  | [(u, L1)], ⟨v, hu, hG⟩ => obtain ⟨A, c, rfl⟩ := GL.isSl hG; subst hu; exact ⟨A, c, L1, rfl, hG⟩
theorem AllF.two {g : Grm} {st : St} (hF : AllF g st) (h : st.length = 2) : ∃ b A c u L1, st = [(.slice (some ⟨b, 0, none⟩) 1 1, [(b, tGram, #[.int .i64 g.id, .int .i64 g.src, .int .i64 g.dst, .slice A g.data.length c])]), (u, L1)] ∧ GL tU8 1 (.slice A g.data.length c) g.data.length (g.data.map bv) L1 := by
  match st, hF with
  | [(s, L2), (u, L1)], ⟨b, v, hs, hu, hL, hG⟩ => obtain ⟨A, c, rfl⟩ := GL.isSl hG; subst hs hu hL; exact ⟨b, A, c, _, L1, rfl, hG⟩
abbrev tGrams : TypeId := 51
instance iBag2_1 : ZeroV Tryz.prog 51 (.slice none 0 0) := ⟨fun _ => by kernel_rfl⟩
theorem pAll {α : Type} {a0 a1 : α} {X Y Z : List α} : (a0 :: a1 :: (X ++ (Y ++ Z))).Perm (X ++ (a0 :: a1 :: (Y ++ Z))) := pF2
theorem pAll2 {α : Type} {a b : α} {X Y Z : List α} : (a :: ((X ++ b :: Y) ++ Z)).Perm (b :: a :: (Z ++ (X ++ Y))) := by
  apply perm_count; intro x; simp only [List.count_append, List.count_cons, List.count_nil]; omega
section
variable {w : World} {pg : Nat} {B : Bg} {L : List Bk}
set_option maxRecDepth 100000 in
set_option maxHeartbeats 2000000 in
theorem gAll_any (hI : BagAt B pg L) (H0 : Own w L) (hn : B.grams.length ≤ 65536) (hd : ∀ g ∈ B.grams, g.data.length ≤ 1024) : Calls Tryz.prog 49 #[pV pg] w
    (fun e w' => ∃ sz q v cs LD LR, e = .returned (.func (.func 75) #[] #[pV q]) ∧ GrmCs B.grams cs LD ∧ GL tGram 4 v B.grams.length cs LR ∧ Hp NoS w w' sz ((q, tGrams, #[v]) :: (LR ++ LD)) []) := by
  obtain ⟨v0, cs0, LD0, LR0, hD0, hG0, rfl⟩ := hI
  obtain ⟨A0, c0, rfl⟩ := GL.isSl hG0
  go_enter Tryz.func49, Tryz.ntmps49
  have H := (Hp.start NoS w).addR (H0.blk (pg, tBag, bagC B (.slice A0 B.grams.length c0)) (by simp)) id
  go_wp2_with (first | ((with_reducible apply wlL); apply hw_loadR 0 rfl rfl H rfl; (focus (simp; done)); (focus (simp only [segV, seg, NS]; rfl))) | ((first | ((with_reducible apply wlB); refine hw_box rfl rfl H ?_) | ((with_reducible apply wlA); refine hw_alloc rfl H ?_) | ((with_reducible apply wlS); first | refine hw_store 0 rfl rfl rfl H rfl rfl rfl (by simp) rfl ?_ | refine hw_store 1 rfl rfl rfl H rfl rfl rfl (by simp) rfl ?_ | refine hw_store 2 rfl rfl rfl H rfl rfl rfl (by simp) rfl ?_ | refine hw_store 3 rfl rfl rfl H rfl rfl rfl (by simp) rfl ?_)); clear H; intro w' H; (try simp only [Act.eval, Act.put, Value.cells, segV, seg, segPut, NS, Nat.reduceAdd] at H)) | ((with_reducible apply wlL); (first | apply hw_load 0 rfl rfl H rfl | apply hw_load 1 rfl rfl H rfl | apply hw_load 2 rfl rfl H rfl | apply hw_load 3 rfl rfl H rfl); (focus (simp; done)); (focus (simp only [segV, seg, NS]; rfl))))
  have HS0 : Hp NoS w w' (w.heap.size + 1) [(w.heap.size, tGrams, #[.slice none 0 0])] [] := H.noR
  go_loopw [13] (fun i wr => ∃ (k sz : Nat) (v : Value) (cs : List Value) (LD LR : List Bk), k ≤ B.grams.length ∧ i = .int .i64 k ∧ GrmCs (B.grams.take k) cs LD ∧ GL tGram 4 v k cs LR ∧ Hp NoS w wr sz ((w.heap.size, tGrams, #[v]) :: (LR ++ LD)) []) (fun i _ => B.grams.length - (intOf i).toNat)
  case atStart => exact ⟨0, _, _, [], [], [], Nat.zero_le _, rfl, .nil, .nil, HS0⟩
  case round =>
    clear H HS0
    obtain ⟨k, sz, v, cs, LD, LR, hk, rfl, hD, hG, H⟩ := hrel
    by_cases hlt : k < B.grams.length
    · obtain ⟨b, c, pad, he, hc, rfl, hx, hp⟩ := hG0.some (by omega)
      cases he
      obtain ⟨vg, Lg, hseg, hGg, hsub⟩ := hD0.at k hlt
      obtain ⟨Ag, cg, he, hRd⟩ := hGg.rd H0 (fun y hy => by simp [hsub y hy]) (by simp [bv, Value.oneCell'])
      cases he
      have hl4 := hD0.len
      have hbW := H.keep.blk (H0.blk (b, tGram, (cs0 ++ pad).toArray) (by simp)) id
      have HB := Lib.hid (show k * 4 + 4 ≤ (cs0 ++ pad).toArray.size by simp; omega)
      have HV := Lib.hid (show segV true (cs0 ++ pad).toArray (k * 4) 4 = .agg #[.int .i64 B.grams[k].id, .int .i64 B.grams[k].src, .int .i64 B.grams[k].dst, .slice Ag B.grams[k].data.length cg] by
        simp only [segV, if_true, seg]
        rw [List.drop_append_of_le_length (by omega), List.take_append_of_le_length (by rw [List.length_drop]; omega), hseg])
      have hdk := hd _ (List.getElem_mem hlt)
      have HT := Lib.hid (show B.grams.take (k + 1) = B.grams.take k ++ [B.grams[k]] from List.take_succ_eq_append_getElem hlt)
      generalize B.grams[k] = g at *
      clear hseg hGg hsub
      obtain ⟨Av, cv, rfl⟩ := GL.isSl hG
      go_wp2_with (first | ((with_reducible show wpList _ _ _ (⟨_, .load _ _, _, _, _, _⟩ :: _) _ _); apply hw_loadB rfl rfl hbW; (focus exact HB.out); (focus exact HV.out)) | ((first | ((with_reducible apply wlB); refine hw_box rfl rfl H ?_) | ((with_reducible apply wlA); refine hw_alloc rfl H ?_) | ((with_reducible apply wlS); first | refine hw_store 0 rfl rfl rfl H rfl rfl rfl (by simp) rfl ?_ | refine hw_store 1 rfl rfl rfl H rfl rfl rfl (by simp) rfl ?_ | refine hw_store 2 rfl rfl rfl H rfl rfl rfl (by simp) rfl ?_ | refine hw_store 3 rfl rfl rfl H rfl rfl rfl (by simp) rfl ?_)); clear H; intro w' H; (try simp only [Act.eval, Act.put, Value.cells, segV, seg, segPut, NS, Nat.reduceAdd] at H)) | ((with_reducible apply wlL); (first | apply hw_load 0 rfl rfl H rfl | apply hw_load 1 rfl rfl H rfl | apply hw_load 2 rfl rfl H rfl | apply hw_load 3 rfl rfl H rfl); (focus (simp; done)); (focus (simp only [segV, seg, NS]; rfl))))
      (try simp only [Act.eval, Act.put, Value.cells, segV, seg, segPut, NS, Nat.reduceAdd])
      clear hbW
      refine region_GS 4 [2, 3] (fun i => if i = 2 then 1 else if i = 3 then 2 else 0) (AllF g) AllL H trivial rfl rfl (by kernel_rfl) ?_; clear H; simp only [List.take_succ_cons, List.take_zero, List.drop_succ_cons, List.drop_zero]
      repeat (first | (apply detG_op (by decide); (focus (rintro st hlv w' ⟨hF, s1, hs1, H⟩; go_wp2_with (first | ((with_reducible apply wlL); apply hw_load 0 rfl rfl H rfl; (focus (simp; done)); (focus (simp only [segV, seg, NS]; rfl))) | ((with_reducible apply wlL); apply hw_load 1 rfl rfl H rfl; (focus (simp; done)); (focus (simp only [segV, seg, NS]; rfl)))); refine ⟨rfl, rfl, ?_, hF, _, by omega, H⟩; (first | (simp only [SlotIs, Array.getD_eq_getD_getElem?, List.getElem?_toArray, List.getElem?_cons_succ, List.getElem?_cons_zero, Option.getD_some]; exact rfl) | exact rfl))); (focus (intros; rfl)); (try simp only [Act.put, List.setIfInBounds_toArray, List.set_cons_zero, List.set_cons_succ])))
      apply stgG_op (q := 0) (V := fun st => vq st 0) rfl (nth2a (by decide)) (h := ?_) (hp := ?_) (hr := ?_)
      · rintro st hlv w' ⟨hF, s1, hs1, H⟩
        obtain rfl := List.eq_nil_of_length_eq_zero hlv
        simp only [AllL, List.append_nil] at H
        go_wp2_with (first | ((first | ((with_reducible apply wlB); refine hw_box rfl rfl H ?_) | ((with_reducible apply wlA); refine hw_alloc rfl H ?_) | ((with_reducible apply wlS); first | refine hw_store 0 rfl rfl rfl H rfl rfl rfl (by simp) rfl ?_ | refine hw_store 1 rfl rfl rfl H rfl rfl rfl (by simp) rfl ?_ | refine hw_store 2 rfl rfl rfl H rfl rfl rfl (by simp) rfl ?_ | refine hw_store 3 rfl rfl rfl H rfl rfl rfl (by simp) rfl ?_)); clear H; intro w' H; (try simp only [Act.eval, Act.put, Value.cells, segV, seg, segPut, NS, Nat.reduceAdd] at H)) | ((with_reducible apply wlL); (first | apply hw_load 0 rfl rfl H rfl | apply hw_load 1 rfl rfl H rfl | apply hw_load 2 rfl rfl H rfl | apply hw_load 3 rfl rfl H rfl); (focus (simp; done)); (focus (simp only [segV, seg, NS]; rfl))))
        refine (copied_any (hRd.keep H.keep (fun _ _ h => h)) (by omega) g.id g.src g.dst).mono ?_; rintro e w' ⟨s4, v4, L4, rfl, hR, H1⟩; obtain ⟨hs4, H⟩ := H.fresh H1; clear H1
        go_wp2_with (first | ((first | ((with_reducible apply wlB); refine hw_box rfl rfl H ?_) | ((with_reducible apply wlA); refine hw_alloc rfl H ?_) | ((with_reducible apply wlS); first | refine hw_store 0 rfl rfl rfl H rfl rfl rfl (by simp) rfl ?_ | refine hw_store 1 rfl rfl rfl H rfl rfl rfl (by simp) rfl ?_ | refine hw_store 2 rfl rfl rfl H rfl rfl rfl (by simp) rfl ?_ | refine hw_store 3 rfl rfl rfl H rfl rfl rfl (by simp) rfl ?_)); clear H; intro w' H; (try simp only [Act.eval, Act.put, Value.cells, segV, seg, segPut, NS, Nat.reduceAdd] at H)) | ((with_reducible apply wlL); (first | apply hw_load 0 rfl rfl H rfl | apply hw_load 1 rfl rfl H rfl | apply hw_load 2 rfl rfl H rfl | apply hw_load 3 rfl rfl H rfl); (focus (simp; done)); (focus (simp only [segV, seg, NS]; rfl))))
        exact ⟨rfl, rfl, [(_, L4)], rfl, .inr ⟨_, rfl⟩, rfl, ⟨_, rfl, hR⟩, _, by omega, H⟩
      · exact fun st st' hl ha => vq_adv (by omega) ha
      (try simp only [Act.put, List.setIfInBounds_toArray, List.set_cons_zero, List.set_cons_succ])
      apply stgG_op (q := 1) (V := fun st => vq st 1) rfl (nth2b (by decide)) (h := ?_) (hp := ?_) (hr := ?_)
      · rintro st hlv w' ⟨hF, s1, hs1, H⟩
        obtain ⟨A2, c2, L1, rfl, hG2⟩ := hF.one hlv
        simp only [AllL, show ∀ u : Value, vq [(u, L1)] 0 = u from fun _ => rfl] at H ⊢
        go_wp2_with (first | ((with_reducible show wpList _ _ _ (⟨_, .buildSlice _ 1 _, _, _, _, _⟩ :: _) _ _); refine hw_build1 (e := tGram) (size := 4) rfl rfl rfl rfl (by decide) H ?_; clear H; intro w' H; (try simp only [Act.eval, Act.put, Value.cells, segV, seg, segPut, NS, Nat.reduceAdd] at H)))
        exact ⟨rfl, rfl, [(_, [(s1, tGram, _)]), (_, L1)], rfl, .inr ⟨_, rfl⟩, rfl, ⟨_, _, rfl, rfl, rfl, hG2⟩, _, by omega, H.perm (by apply perm_count; intro z; simp only [AllL, List.count_append, List.count_cons, List.count_nil]; omega)⟩
      · exact fun st st' hl ha => vq_adv (by omega) ha
      (try simp only [Act.put, List.setIfInBounds_toArray, List.set_cons_zero, List.set_cons_succ])
      rintro st w' hl ⟨hF, s5, hs5, H⟩
      obtain ⟨b2, A2, c2, u, L1, rfl, hG2⟩ := hF.two hl
      simp only [AllL, show ∀ (s u : Value) (L1 L2 : List Bk), vq [(s, L2), (u, L1)] 1 = s from fun _ _ _ _ => rfl, List.cons_append, List.nil_append, List.append_assoc] at H ⊢
      go_wp2_with (first | ((with_reducible show wpList _ _ _ (⟨_, .call { callee := .builtin .append, args := _, argTypes := _ }, _, _, _, _⟩ :: _) _ _); (apply hw_append (L0 := _) rfl rfl rfl H hG pAll rfl (fun h => by cases h) (cells_of (n := 4) (H.blk (b2, tGram, #[.int .i64 g.id, .int .i64 g.src, .int .i64 g.dst, .slice A2 g.data.length c2]) (by simp)) rfl) rfl (Nat.le_trans (m := 200000) (by omega) (by decide)) (by omega)); clear H; intro v' w' sz' L1' hle HG' hnil H; obtain ⟨A', c', rfl⟩ := HG'.isSl; (try simp only [Act.eval, Act.put, Value.cells, segV, seg, segPut, NS, Nat.reduceAdd] at H)) | ((with_reducible apply wlS); refine hw_store 1 rfl rfl rfl H rfl rfl rfl (by simp) rfl ?_; clear H; intro w' H; (try simp only [Act.eval, Act.put, Value.cells, segV, seg, segPut, NS, Nat.reduceAdd] at H)))
      refine ⟨⟨k + 1, _, .slice A' (k + 1) c', _, LD ++ L1, L1', by omega, rfl, by rw [HT.out]; exact .snoc hD hG2, HG'.cast rfl (by simp [seg]), (H.drop1.perm pAll2).drop1⟩, by simp [intOf]; omega⟩
    · obtain rfl : k = B.grams.length := by omega
      go_wp2_with (first | ((first | ((with_reducible apply wlB); refine hw_box rfl rfl H ?_) | ((with_reducible apply wlA); refine hw_alloc rfl H ?_) | ((with_reducible apply wlS); first | refine hw_store 0 rfl rfl rfl H rfl rfl rfl (by simp) rfl ?_ | refine hw_store 1 rfl rfl rfl H rfl rfl rfl (by simp) rfl ?_ | refine hw_store 2 rfl rfl rfl H rfl rfl rfl (by simp) rfl ?_ | refine hw_store 3 rfl rfl rfl H rfl rfl rfl (by simp) rfl ?_)); clear H; intro w' H; (try simp only [Act.eval, Act.put, Value.cells, segV, seg, segPut, NS, Nat.reduceAdd] at H)) | ((with_reducible apply wlL); (first | apply hw_load 0 rfl rfl H rfl | apply hw_load 1 rfl rfl H rfl | apply hw_load 2 rfl rfl H rfl | apply hw_load 3 rfl rfl H rfl); (focus (simp; done)); (focus (simp only [segV, seg, NS]; rfl))))
      rw [List.take_length] at hD
      exact bodyPost_ret (res1 rfl (rv_tmp rfl)) rfl ⟨_, _, _, _, _, _, rfl, hD, hG, H⟩
end
end Go.Proofs.YtccgpjhgfjfaoaaGreatDoor
/- bag: the iterator All$1, and List. -/
namespace Go.Proofs.YtccgpjhgfjfaoaaGreatDoor
open Go.RowKit Go.Shelf
attribute [local go_sem] Oper.semAt_some

def GrmY (g : Grm) (args : Array Value) : Prop := ∃ (i : Int) (A : Option Addr) (c : Nat), args = #[.int .i64 i, .agg #[.int .i64 g.id, .int .i64 g.src, .int .i64 g.dst, .slice A g.data.length c]]
theorem GL.rdB {w : World} {e : TypeId} {size n : Nat} {v : Value} {xs : List Value} {L1 : List Bk} (h : GL e size v n xs L1) (hb : ∀ y ∈ L1, Blk w y.1 y.2.1 y.2.2) (h1 : xs.all Value.oneCell' = true) :
    ∃ A c, v = .slice A n c ∧ Rd w A n c size xs := by
  cases h with
  | nil => exact ⟨none, 0, rfl, ⟨by simp, fun _ => ⟨rfl, rfl⟩, (fun _ h => by cases h), rfl⟩⟩
  | row b _ cap _ pad hl hc hm hp => exact ⟨_, cap, rfl, ⟨hl, (fun h => by cases h), cells_of (hb (b, e, (xs ++ pad).toArray) (.head _)) (seg_pre hl), h1⟩⟩
section
variable {w : World} {q c b : Nat} {gs : List Grm} {cs pad : List Value} {LD : List Bk} {T : Nat → Prop}
set_option maxRecDepth 100000 in
set_option maxHeartbeats 2000000 in
theorem gAll1_seq (hq : Blk w q tGrams #[.slice (some ⟨b, 0, none⟩) gs.length c]) (hqT : ¬ T q) (hb : Blk w b tGram (cs ++ pad).toArray) (hbT : ¬ T b) (hD : GrmCs gs cs LD) (hL : ∀ y ∈ LD, Blk w y.1 y.2.1 y.2.2 ∧ ¬ T y.1) (hlen : gs.length ≤ 65536) (hd : ∀ g ∈ gs, g.data.length ≤ 1024) :
    SeqY Tryz.prog 75 #[pV q] GrmY gs w T := by
  intro n lr J W hn hW hst hJk hY h0
  have hqW := (hJk _ _ h0).blk hq hqT
  refine callsIn_of_wp Tryz.func75 rfl trivial ?_ rfl
  simp only [Tryz.ntmps75, List.size_toArray, List.length_cons, List.length_nil, Nat.reduceAdd, Nat.reduceSub, Array.replicate_succ, Array.replicate_zero, List.push_toArray, List.append_toArray, List.nil_append, List.cons_append]
  have H := (Hp.start NoS W).addR hqW id
  gi_wp2_with (first | (refine op_inW rfl ?_; (first | ((with_reducible apply wlL); apply hw_loadR 0 rfl rfl H rfl; (focus (simp; done)); (focus (simp only [segV, seg, NS]; rfl)))); refine ⟨rfl, ?_⟩))
  gi_loopw [7] (fun t wr => ∃ k : Nat, k ≤ gs.length ∧ t = .int .i64 k ∧ J (gs.take k) wr) (fun t _ => gs.length - (intOf t).toNat)
  case atStart => exact ⟨0, Nat.zero_le _, rfl, by simpa using h0⟩
  case round =>
    obtain ⟨k, hk, rfl, hJ⟩ := hrel
    clear H
    by_cases hlt : k < gs.length
    · have hbW := (hJk _ _ hJ).blk hb hbT
      obtain ⟨vg, Lg, hseg, hGg, hsub⟩ := hD.at k hlt
      have hl4 := hD.len
      have H := Hp.start NoS wr
      have HB := Lib.hid (show k * 4 + 4 ≤ (cs ++ pad).toArray.size by simp; omega)
      obtain ⟨Ag, cg, rfl⟩ := GL.isSl hGg
      have HV := Lib.hid (show segV true (cs ++ pad).toArray (k * 4) 4 = .agg #[.int .i64 gs[k].id, .int .i64 gs[k].src, .int .i64 gs[k].dst, .slice Ag gs[k].data.length cg] by
        simp only [segV, if_true, seg]
        rw [List.drop_append_of_le_length (by omega), List.take_append_of_le_length (by rw [List.length_drop]; omega), hseg])
      have hdk := hd _ (List.getElem_mem hlt)
      have hsp : ∃ post, gs = gs.take k ++ gs[k] :: post := ⟨gs.drop (k + 1), by rw [← List.drop_eq_getElem_cons hlt, List.take_append_drop]⟩
      gi_wp2_with (first | (refine op_inW rfl ?_; (first | ((with_reducible show wpList _ _ _ (⟨_, .load _ _, _, _, _, _⟩ :: _) _ _); apply hw_loadB rfl rfl hbW; (focus exact HB.out); (focus exact HV.out)) | ((first | ((with_reducible apply wlB); refine hw_box rfl rfl H ?_) | ((with_reducible apply wlA); refine hw_alloc rfl H ?_) | ((with_reducible apply wlS); first | refine hw_store 0 rfl rfl rfl H rfl rfl rfl (by simp) rfl ?_ | refine hw_store 1 rfl rfl rfl H rfl rfl rfl (by simp) rfl ?_ | refine hw_store 2 rfl rfl rfl H rfl rfl rfl (by simp) rfl ?_ | refine hw_store 3 rfl rfl rfl H rfl rfl rfl (by simp) rfl ?_)); clear H; intro w' H; (try simp only [Act.eval, Act.put, Value.cells, segV, seg, segPut, NS, Nat.reduceAdd] at H)) | ((with_reducible apply wlL); (first | apply hw_load 0 rfl rfl H rfl | apply hw_load 1 rfl rfl H rfl | apply hw_load 2 rfl rfl H rfl | apply hw_load 3 rfl rfl H rfl); (focus (simp; done)); (focus (simp only [segV, seg, NS]; rfl)))); refine ⟨rfl, ?_⟩))
      obtain ⟨A3, c3, he, hRd⟩ := hGg.rdB (w := w') (fun y hy => H.keep.blk ((hJk _ _ hJ).blk (hL y (hsub y hy)).1 (hL y (hsub y hy)).2) id) (by simp [bv, Value.oneCell'])
      cases he
      refine ⟨trivial, fun _ => by omega, (callsIn_wide.2 (copied_any hRd (by omega) gs[k].id gs[k].src gs[k].dst)).mono ?_⟩
      rintro e w2 ⟨s4, v4, L4, rfl, hR, H1⟩; obtain ⟨hs4, H⟩ := H.fresh H1; clear H1
      obtain ⟨A4, c4, rfl⟩ := GL.isSl hR
      gi_wp2
      refine yield_up (hY _ gs[k] _ _ hsp ⟨_, _, _, rfl⟩ (hst _ _ _ hJ H.keep)) ?_
      clear H
      rintro e w2 ⟨rfl, hJ2⟩
      refine ⟨_, rfl, ?_⟩
      gi_wp2
      go_roundw
      case rel => exact ⟨k + 1, by omega, by go_num, by rw [List.take_succ_eq_append_getElem hlt]; exact hJ2⟩
      case measure => simp [intOf]; omega
    · obtain rfl : k = gs.length := by omega
      gi_wp2
      go_end0
      exact ⟨⟨_, rfl⟩, by simpa using hJ⟩
end
def ListI (b0 : Nat) (pre : List Grm) (Lc : List Bk) : Prop := ∃ v cs L1, GL tGram 4 v pre.length cs L1 ∧ Lc = (b0, tGrams, #[v]) :: L1
section
variable {w : World} {pg : Nat} {B : Bg} {L : List Bk}
set_option maxRecDepth 100000 in
set_option maxHeartbeats 2000000 in
theorem gList_any (hI : BagAt B pg L) (H0 : Own w L) (hn : B.grams.length ≤ 65536) (hn0 : 0 < B.grams.length) (hd : ∀ g ∈ B.grams, g.data.length ≤ 1024) : Calls Tryz.prog 25 #[pV pg] w
    (fun e w' => ∃ sz v cs LR, e = .returned v ∧ GL tGram 4 v B.grams.length cs LR ∧ Hp NoS w w' sz LR []) := by
  refine calls_of_marks Tryz.func25 rfl ?_
  simp only [Tryz.ntmps25, List.size_toArray, List.length_cons, List.length_nil, Nat.reduceAdd, Nat.reduceSub, Array.replicate_succ, Array.replicate_zero, List.push_toArray, List.append_toArray, List.nil_append, List.cons_append]
  have H := Hp.start NoS w
  go_wp2_with (first | ((first | ((with_reducible apply wlB); refine hw_box rfl rfl H ?_) | ((with_reducible apply wlA); refine hw_alloc rfl H ?_) | ((with_reducible apply wlS); first | refine hw_store 0 rfl rfl rfl H rfl rfl rfl (by simp) rfl ?_ | refine hw_store 1 rfl rfl rfl H rfl rfl rfl (by simp) rfl ?_ | refine hw_store 2 rfl rfl rfl H rfl rfl rfl (by simp) rfl ?_ | refine hw_store 3 rfl rfl rfl H rfl rfl rfl (by simp) rfl ?_)); clear H; intro w' H; (try simp only [Act.eval, Act.put, Value.cells, segV, seg, segPut, NS, Nat.reduceAdd] at H)) | ((with_reducible apply wlL); (first | apply hw_load 0 rfl rfl H rfl | apply hw_load 1 rfl rfl H rfl | apply hw_load 2 rfl rfl H rfl | apply hw_load 3 rfl rfl H rfl); (focus (simp; done)); (focus (simp only [segV, seg, NS]; rfl))))
  have hOwn : Own w' L := by
    have hk := H.keep
    exact ⟨Keeps.refl _ _, rfl, fun y hy => hk.blk (H0.blk y hy) id, fun y hy => .inl (List.mem_map_of_mem hy), H0.nodup, fun _ h => by cases h⟩
  refine (gAll_any hI hOwn hn hd).mono ?_; rintro e w' ⟨s1, q, v1, cs1, LD, LR, rfl, hD, hG, H1⟩; obtain ⟨hs1, H⟩ := H.fresh H1; clear H1
  obtain ⟨b, c, pad, rfl, hc, rfl, hx, hpd⟩ := hG.some hn0
  simp only [List.cons_append, List.nil_append] at H
  go_wp2_with (first | ((first | ((with_reducible apply wlB); refine hw_box rfl rfl H ?_) | ((with_reducible apply wlA); refine hw_alloc rfl H ?_) | ((with_reducible apply wlS); first | refine hw_store 0 rfl rfl rfl H rfl rfl rfl (by simp) rfl ?_ | refine hw_store 1 rfl rfl rfl H rfl rfl rfl (by simp) rfl ?_ | refine hw_store 2 rfl rfl rfl H rfl rfl rfl (by simp) rfl ?_ | refine hw_store 3 rfl rfl rfl H rfl rfl rfl (by simp) rfl ?_)); clear H; intro w' H; (try simp only [Act.eval, Act.put, Value.cells, segV, seg, segPut, NS, Nat.reduceAdd] at H)) | ((with_reducible apply wlL); (first | apply hw_load 0 rfl rfl H rfl | apply hw_load 1 rfl rfl H rfl | apply hw_load 2 rfl rfl H rfl | apply hw_load 3 rfl rfl H rfl); (focus (simp; done)); (focus (simp only [segV, seg, NS]; rfl))))
  have HI := H.innerR (La := [_]) (Lb := (q, tGrams, #[.slice (some ⟨b, 0, none⟩) B.grams.length c]) :: (b, tGram, (cs1 ++ pad).toArray) :: LD) (List.Perm.refl _)
  simp only [List.cons_append, List.nil_append, List.append_nil] at HI
  refine wp_rangeY (Y := GrmY) (xs := B.grams) (gf := 75) (lb := #[pV q]) rfl (enters_of Tryz.func75 (by kernel_rfl) rfl) (fun x args hY => by obtain ⟨i, A, c, rfl⟩ := hY; rfl) HI
    (gAll1_seq (HI.ro _ (.head _)).1 (HI.ro _ (.head _)).2.1 (HI.ro _ (.tail _ (.head _))).1 (HI.ro _ (.tail _ (.head _))).2.1 hD (fun y hy => ⟨(HI.ro y (.tail _ (.tail _ hy))).1, (HI.ro y (.tail _ (.tail _ hy))).2.1⟩) hn hd)
    (ListI w.heap.size) ⟨_, _, _, .nil, rfl⟩ ?_ ?_
  · rintro lr n pre x args W Lc hn3 ⟨iy, Ay, cy, rfl⟩ ⟨post, hx⟩ ⟨v, cs, L1, hG, rfl⟩ H
    have hlen : pre.length < 65536 := by rw [hx] at hn; simp at hn; omega
    clear hx
    gi_wp2_with (first | (refine op_inR rfl ?_; (first | ((first | ((with_reducible apply wlB); refine hw_box rfl rfl H ?_) | ((with_reducible apply wlA); refine hw_alloc rfl H ?_) | ((with_reducible apply wlS); first | refine hw_store 0 rfl rfl rfl H rfl rfl rfl (by simp) rfl ?_ | refine hw_store 1 rfl rfl rfl H rfl rfl rfl (by simp) rfl ?_ | refine hw_store 2 rfl rfl rfl H rfl rfl rfl (by simp) rfl ?_ | refine hw_store 3 rfl rfl rfl H rfl rfl rfl (by simp) rfl ?_)); clear H; intro w' H; (try simp only [Act.eval, Act.put, Value.cells, segV, seg, segPut, NS, Nat.reduceAdd] at H)) | ((with_reducible apply wlL); (first | apply hw_load 0 rfl rfl H rfl | apply hw_load 1 rfl rfl H rfl | apply hw_load 2 rfl rfl H rfl | apply hw_load 3 rfl rfl H rfl); (focus (simp; done)); (focus (simp only [segV, seg, NS]; rfl)))); refine ⟨rfl, ?_⟩))
    refine ⟨_, _, H, ?_⟩
    clear H
    intro W2 H
    refine wpIn_block ?_
    refine wpIn_regL (by kernel_rfl) ?_
    go_wp2_with (first | ((with_reducible show wpList _ _ _ (⟨_, .buildSlice _ 1 _, _, _, _, _⟩ :: _) _ _); refine hw_build1 (e := tGram) (size := 4) rfl rfl rfl rfl (by decide) H ?_; clear H; intro w' H; (try simp only [Act.eval, Act.put, Value.cells, segV, seg, segPut, NS, Nat.reduceAdd] at H)) | ((with_reducible show wpList _ _ _ (⟨_, .call { callee := .builtin .append, args := _, argTypes := _ }, _, _, _, _⟩ :: _) _ _); (apply hw_append (L0 := _) rfl rfl rfl H hG (pL3 (X := L1)) rfl (fun h => by cases h) (cells_of (n := 4) (H.blk _ (.head _)) rfl) rfl (Nat.le_trans (m := 200000) (by omega) (by decide)) (by omega)); clear H; intro v' w' sz' L1' hle HG' hnil H; obtain ⟨A', c', rfl⟩ := HG'.isSl; (try simp only [Act.eval, Act.put, Value.cells, segV, seg, segPut, NS, Nat.reduceAdd] at H)) | ((first | ((with_reducible apply wlB); refine hw_box rfl rfl H ?_) | ((with_reducible apply wlA); refine hw_alloc rfl H ?_) | ((with_reducible apply wlS); first | refine hw_store 0 rfl rfl rfl H rfl rfl rfl (by simp) rfl ?_ | refine hw_store 1 rfl rfl rfl H rfl rfl rfl (by simp) rfl ?_ | refine hw_store 2 rfl rfl rfl H rfl rfl rfl (by simp) rfl ?_ | refine hw_store 3 rfl rfl rfl H rfl rfl rfl (by simp) rfl ?_)); clear H; intro w' H; (try simp only [Act.eval, Act.put, Value.cells, segV, seg, segPut, NS, Nat.reduceAdd] at H)) | ((with_reducible apply wlL); (first | apply hw_load 0 rfl rfl H rfl | apply hw_load 1 rfl rfl H rfl | apply hw_load 2 rfl rfl H rfl | apply hw_load 3 rfl rfl H rfl); (focus (simp; done)); (focus (simp only [segV, seg, NS]; rfl))))
    exact ⟨rfl, _, _, ⟨_, _, _, HG'.cast (by simp) rfl, rfl⟩, H.drop1.drop1⟩
  · rintro D W sz _ hD ⟨v, cs, L1, hG, rfl⟩ HB hK
    have Hf := H
    clear H HI
    have H := HB.inner
    go_wp2_with (first | ((first | ((with_reducible apply wlB); refine hw_box rfl rfl H ?_) | ((with_reducible apply wlA); refine hw_alloc rfl H ?_) | ((with_reducible apply wlS); first | refine hw_store 0 rfl rfl rfl H rfl rfl rfl (by simp) rfl ?_ | refine hw_store 1 rfl rfl rfl H rfl rfl rfl (by simp) rfl ?_ | refine hw_store 2 rfl rfl rfl H rfl rfl rfl (by simp) rfl ?_ | refine hw_store 3 rfl rfl rfl H rfl rfl rfl (by simp) rfl ?_)); clear H; intro w' H; (try simp only [Act.eval, Act.put, Value.cells, segV, seg, segPut, NS, Nat.reduceAdd] at H)) | ((with_reducible apply wlL); (first | apply hw_load 0 rfl rfl H rfl | apply hw_load 1 rfl rfl H rfl | apply hw_load 2 rfl rfl H rfl | apply hw_load 3 rfl rfl H rfl); (focus (simp; done)); (focus (simp only [segV, seg, NS]; rfl))))
    have hK2 := H.still (H1 := HB) hK rfl
    have HO := (HB.outer H).putObj (o' := .deferred none) hK2 rfl hD
    refine marks_ret rfl hK2 (res1 rfl (rv_tmp rfl)) ⟨_, _, _, _, rfl, hG, (Hf.join (La := [_]) (Lb := (q, tGrams, #[.slice (some ⟨b, 0, none⟩) B.grams.length c]) :: (b, tGram, (cs1 ++ pad).toArray) :: LD) (List.Perm.refl _) HO).2.noR.drop1.front⟩
end
end Go.Proofs.YtccgpjhgfjfaoaaGreatDoor
/- cluster: its blocks. -/
namespace Go.Proofs.YtccgpjhgfjfaoaaGreatDoor
open Go.RowKit

abbrev tMem : TypeId := 67
abbrev tMemP : TypeId := 62
abbrev tMems : TypeId := 26
abbrev tClu : TypeId := 30
instance iClu1_1 : SlT Tryz.prog 26 62 1 8 := ⟨by kernel_rfl, info_parts (by kernel_rfl : (Tryz.prog.info? 62).map (fun i => (i.zero, i.size, i.bytes)) = some (some (.pointer none), 1, 8)) |>.elim fun i h => ⟨i, _, h.1, h.2.1, h.2.2.1, h.2.2.2, rfl⟩, by omega⟩
instance iClu1_2 : Ty Tryz.prog 26 false 1 := ⟨fun _ => by kernel_rfl, fun _ => by kernel_rfl, fun _ => rfl⟩
instance iClu1_3 : Ty Tryz.prog 62 false 1 := ⟨fun _ => by kernel_rfl, fun _ => by kernel_rfl, fun _ => rfl⟩
instance iClu1_4 : Ty Tryz.prog 65 false 1 := ⟨fun _ => by kernel_rfl, fun _ => by kernel_rfl, fun _ => rfl⟩
instance iClu1_5 : Ty Tryz.prog 25 false 1 := ⟨fun _ => by kernel_rfl, fun _ => by kernel_rfl, fun _ => rfl⟩
/-- A member: its disk; once it is open, its life, the life's number and how many events were seen. -/
inductive Mem where
  | raw (d : Dsk)
  | live (x : Lf) (d : Dsk) (life : Int) (seen : Nat)
def MemAt : Mem → Nat → List Bk → Prop
  | .raw d, pm, L => ∃ pd, L = [(pm, tMem, #[.pointer none, pV pd, .int .i64 0, .int .i64 0]), (pd, tDisk, dskC d)]
  | .live x d life seen, pm, L => ∃ pd pn pl L1, LifeAt x d pl pd L1 ∧ L = (pm, tMem, #[pV pn, pV pd, .int .i64 life, .int .i64 seen]) :: (pn, tNode, #[pV pl]) :: L1
inductive MemsAt : List Mem → List Nat → List Bk → Prop where
  | nil : MemsAt [] [] []
  | cons {m : Mem} {ms : List Mem} {p : Nat} {ps : List Nat} {L L' : List Bk} : MemAt m p L → MemsAt ms ps L' → MemsAt (m :: ms) (p :: ps) (L ++ L')
theorem MemsAt.len {ms : List Mem} {ps : List Nat} {L : List Bk} (h : MemsAt ms ps L) : ps.length = ms.length := by
  induction h with
  | nil => rfl
  | cons _ _ ih => simp [ih]
theorem MemsAt.append {ms ms' : List Mem} {ps ps' : List Nat} {L L' : List Bk} (h : MemsAt ms ps L) (h' : MemsAt ms' ps' L') : MemsAt (ms ++ ms') (ps ++ ps') (L ++ L') := by
  induction h with
  | nil => exact h'
  | cons h1 _ ih => rw [List.append_assoc]; exact .cons h1 ih
theorem MemsAt.snoc {ms : List Mem} {m : Mem} {p : Nat} {ps : List Nat} {L L' : List Bk} (h : MemsAt ms ps L) (h' : MemAt m p L') : MemsAt (ms ++ [m]) (ps ++ [p]) (L ++ L') := by
  have := h.append (.cons h' .nil)
  simpa using this
/-- The i-th member taken out. -/
theorem MemsAt.split {ms : List Mem} {ps : List Nat} {L : List Bk} (h : MemsAt ms ps L) (i : Nat) (hi : i < ms.length) :
    ∃ pre post qs qs' La Lm Lb p, ms = pre ++ ms[i] :: post ∧ pre.length = i ∧ qs.length = i ∧ ps = qs ++ p :: qs' ∧ MemAt ms[i] p Lm ∧ L = La ++ (Lm ++ Lb) ∧ MemsAt pre qs La ∧ MemsAt post qs' Lb := by
  induction h generalizing i with
  | nil => simp at hi
  | @cons m ms p ps L L' h1 h2 ih =>
    cases i with
    | zero => exact ⟨[], ms, [], ps, [], L, L', p, rfl, rfl, rfl, rfl, h1, rfl, .nil, h2⟩
    | succ i =>
      obtain ⟨pre, post, qs, qs', La, Lm, Lb, p', e1, e2, e3, e4, e5, e6, e7, e8⟩ := ih i (by simpa using hi)
      refine ⟨m :: pre, post, p :: qs, qs', L ++ La, Lm, Lb, p', ?_, by simp [e2], by simp [e3], by simp [e4], by simpa using e5, by simp [e6], .cons h1 e7, e8⟩
      simp only [List.getElem_cons_succ, List.cons_append]
      rw [← e1]
structure Clu where
  f : Nat
  mems : List Mem
  bag : Bg
  hist : List Evt
abbrev cluC (f : Nat) (vl vg vh : Value) : Array Value := #[.int .i64 f, vl, vg, vh]
structure CluIs (C : Clu) (pc pg : Nat) (vl vh : Value) (ps : List Nat) (Lr Lm Lg Lh L : List Bk) : Prop where
  row : GL tMemP 1 vl C.mems.length (ps.map pV) Lr
  mems : MemsAt C.mems ps Lm
  bag : BagAt C.bag pg Lg
  hist : GL tEv 15 vh C.hist.length (C.hist.flatMap encE) Lh
  eq : L = (pc, tClu, cluC C.f vl (pV pg) vh) :: (Lr ++ (Lm ++ (Lg ++ Lh)))
def CluAt (C : Clu) (pc : Nat) (L : List Bk) : Prop := ∃ pg vl vh ps Lr Lm Lg Lh, CluIs C pc pg vl vh ps Lr Lm Lg Lh L
end Go.Proofs.YtccgpjhgfjfaoaaGreatDoor
/- node: Sight. -/
namespace Go.Proofs.YtccgpjhgfjfaoaaGreatDoor
open Go.RowKit

abbrev tSight : TypeId := 41
abbrev sightV (x : Lf) (v : Value) : Value := .agg #[.bool true, .int .i64 x.B.rec_.life, .int .i64 x.T.round, .int .i64 x.B.tag,
  .int .u32 (wd (suspN x.book) 0), .int .u32 (wd (suspN x.book) 1), .int .u32 (wd (suspN x.book) 2), .int .u32 (wd (suspN x.book) 3),
  .int .u32 (wd x.heard 0), .int .u32 (wd x.heard 1), .int .u32 (wd x.heard 2), .int .u32 (wd x.heard 3),
  .int .u32 (wd x.T.reps 0), .int .u32 (wd x.T.reps 1), .int .u32 (wd x.T.reps 2), .int .u32 (wd x.T.reps 3), v]
instance iLife7_1 : Ty Tryz.prog 41 true 17 := ⟨fun _ => by kernel_rfl, fun _ => by kernel_rfl, fun h => by cases h⟩
instance iLife7_2 : ZeroV Tryz.prog 41 (.agg #[.bool false, .int .i64 0, .int .i64 0, .int .i64 0, .int .u32 0, .int .u32 0, .int .u32 0, .int .u32 0, .int .u32 0, .int .u32 0, .int .u32 0, .int .u32 0, .int .u32 0, .int .u32 0, .int .u32 0, .int .u32 0, .slice none 0 0]) := ⟨fun _ => by kernel_rfl⟩
section
variable {w : World} {pn pl pd : Nat} {x : Lf} {d : Dsk} {L : List Bk}
set_option maxRecDepth 100000 in
set_option maxHeartbeats 2000000 in
theorem nSight_up (hI : LifeAt x d pl pd L) (H0 : Own w ((pn, tNode, #[pV pl]) :: L)) (hd : x.down = false) (hl : x.book.length ≤ 100) (hl0 : 0 < x.book.length) : Calls Tryz.prog 18 #[pV pn] w
    (fun e w' => ∃ sz v L1, e = .returned (sightV x v) ∧ GL tNtc 3 v x.book.length (x.book.flatMap encN) L1 ∧ Hp NoS w w' sz L1 []) := by
  obtain ⟨pb, pk, pr, pt, pv, LT, LP, ⟨tv, LT1, hTG, rfl⟩, hG, rfl⟩ := hI
  have HD := Lib.hid hd
  clear hd
  go_enter Tryz.func18, Tryz.ntmps18
  have H := (((((Hp.start NoS w).addR (H0.blk (pn, tNode, #[pV pl]) (by simp)) id).addR (H0.blk (pb, tBoot, bootC x.B pd) (by simp)) id).addR (H0.blk (pk, tBook, bookC pr x.book.length) (by simp)) id).addR (H0.blk (pr, tNtc, rowC x.book) (by simp)) id).addR (H0.blk (pt, tTally, tallyC x.T tv) (by simp)) id |>.addR (H0.blk (pl, tLife, lifeC x pb pk pt pv) (by simp)) id
  go_wp2_with (first | ((first | ((with_reducible apply wlB); refine hw_box rfl rfl H ?_) | ((with_reducible apply wlA); refine hw_alloc rfl H ?_) | ((with_reducible apply wlS); first | refine hw_store 0 rfl rfl rfl H rfl rfl rfl (by simp) rfl ?_ | refine hw_store 1 rfl rfl rfl H rfl rfl rfl (by simp) rfl ?_ | refine hw_store 2 rfl rfl rfl H rfl rfl rfl (by simp) rfl ?_ | refine hw_store 3 rfl rfl rfl H rfl rfl rfl (by simp) rfl ?_)); clear H; intro w' H; (try simp only [Act.eval, Act.put, Value.cells, segV, seg, segPut, NS, Nat.reduceAdd] at H)) | ((with_reducible apply wlL); (first | apply hw_load 0 rfl rfl H rfl | apply hw_load 1 rfl rfl H rfl | apply hw_load 2 rfl rfl H rfl | apply hw_load 3 rfl rfl H rfl); (focus (simp; done)); (focus (simp only [segV, seg, NS]; rfl))))
  refine (nUp_any (H.ro (pn, tNode, #[pV pl]) (by simp)).1 (H.ro (pl, tLife, lifeC x pb pk pt pv) (by simp)).1).mono ?_; rw [HD.out]; rintro e w' ⟨rfl, hb⟩; obtain ⟨s1, hs1, H⟩ := H.call hb; clear hb
  go_wp2_with (first | ((with_reducible apply wlL); apply hw_loadR 5 rfl rfl H rfl; (focus (simp; done)); (focus (simp only [segV, seg, NS]; rfl))) | ((with_reducible apply wlL); apply hw_loadR 0 rfl rfl H rfl; (focus (simp; done)); (focus (simp only [segV, seg, NS]; rfl))))
  (try simp only [Act.eval, Act.put, Value.cells, segV, seg, segPut, NS, Nat.reduceAdd])
  refine region_GS 34 [33] (fun i => if 33 ≤ i then 1 else 0) (OneF tNtc 3 x.book.length (x.book.flatMap encN)) OneL H trivial rfl rfl (by kernel_rfl) ?_; clear H; simp only [List.take_succ_cons, List.take_zero, List.drop_succ_cons, List.drop_zero]
  repeat (first | (apply detG_op (by decide); (focus (rintro st hlv w' ⟨hF, s1, hs1, H⟩; go_wp2_with (first | ((with_reducible apply wlL); apply hw_loadR 0 rfl rfl H rfl; (focus (simp; done)); (focus (simp only [segV, seg, NS]; rfl))) | (go_at_call 40; refine (Life_any (H.ro (pb, tBoot, bootC x.B pd) (by simp)).1).mono ?_; rintro e w' ⟨rfl, hb⟩; obtain ⟨s2, hs2, H⟩ := H.call hb; clear hb) | (go_at_call 42; refine (Tag_any (H.ro (pb, tBoot, bootC x.B pd) (by simp)).1).mono ?_; rintro e w' ⟨rfl, hb⟩; obtain ⟨s2, hs2, H⟩ := H.call hb; clear hb) | (go_at_call 41; refine (tRound_any (T := x.T) (v := tv) (H.ro (pt, tTally, tallyC x.T tv) (by simp)).1).mono ?_; rintro e w' ⟨rfl, hb⟩; obtain ⟨s2, hs2, H⟩ := H.call hb; clear hb) | (go_at_call 44; refine (tRepliers_any (T := x.T) (v := tv) (H.ro (pt, tTally, tallyC x.T tv) (by simp)).1).mono ?_; rintro e w' ⟨rfl, hb⟩; obtain ⟨s2, hs2, H⟩ := H.call hb; clear hb) | (go_at_call 43; refine (Suspects_any (l := x.book) (H.ro (pk, tBook, bookC pr x.book.length) (by simp)).1 (H.ro (pr, tNtc, rowC x.book) (by simp)).1 hl hl0).mono ?_; rintro e w' ⟨rfl, hb⟩; obtain ⟨s2, hs2, H⟩ := H.call hb; clear hb)); refine ⟨rfl, rfl, ?_, hF, _, by omega, H⟩; (first | (simp only [SlotIs, Array.getD_eq_getD_getElem?, List.getElem?_toArray, List.getElem?_cons_succ, List.getElem?_cons_zero, Option.getD_some]; exact rfl) | exact rfl))); (focus (intros; rfl)); (try simp only [Act.put, List.setIfInBounds_toArray, List.set_cons_zero, List.set_cons_succ])))
  apply stgG_op (q := 0) (V := fun st => vq st 0) rfl nth1 (h := ?_) (hp := ?_) (hr := ?_)
  · rintro st hlv w' ⟨hF, s1, hs1, H⟩
    obtain rfl := List.eq_nil_of_length_eq_zero hlv
    simp only [OneL, List.append_nil] at H
    go_wp2_with (first | ((first | ((with_reducible apply wlB); refine hw_box rfl rfl H ?_) | ((with_reducible apply wlA); refine hw_alloc rfl H ?_) | ((with_reducible apply wlS); first | refine hw_store 0 rfl rfl rfl H rfl rfl rfl (by simp) rfl ?_ | refine hw_store 1 rfl rfl rfl H rfl rfl rfl (by simp) rfl ?_ | refine hw_store 2 rfl rfl rfl H rfl rfl rfl (by simp) rfl ?_ | refine hw_store 3 rfl rfl rfl H rfl rfl rfl (by simp) rfl ?_)); clear H; intro w' H; (try simp only [Act.eval, Act.put, Value.cells, segV, seg, segPut, NS, Nat.reduceAdd] at H)) | ((with_reducible apply wlL); (first | apply hw_load 0 rfl rfl H rfl | apply hw_load 1 rfl rfl H rfl | apply hw_load 2 rfl rfl H rfl | apply hw_load 3 rfl rfl H rfl); (focus (simp; done)); (focus (simp only [segV, seg, NS]; rfl))))
    refine (bList_any (l := x.book) (H.ro (pk, tBook, bookC pr x.book.length) (by simp)).1 (H.ro (pr, tNtc, rowC x.book) (by simp)).1 hl).mono ?_; rintro e w' ⟨s4, v4, L4, rfl, hR, H1⟩; obtain ⟨hs4, H⟩ := H.fresh H1; clear H1
    go_wp2_with (first | ((first | ((with_reducible apply wlB); refine hw_box rfl rfl H ?_) | ((with_reducible apply wlA); refine hw_alloc rfl H ?_) | ((with_reducible apply wlS); first | refine hw_store 0 rfl rfl rfl H rfl rfl rfl (by simp) rfl ?_ | refine hw_store 1 rfl rfl rfl H rfl rfl rfl (by simp) rfl ?_ | refine hw_store 2 rfl rfl rfl H rfl rfl rfl (by simp) rfl ?_ | refine hw_store 3 rfl rfl rfl H rfl rfl rfl (by simp) rfl ?_)); clear H; intro w' H; (try simp only [Act.eval, Act.put, Value.cells, segV, seg, segPut, NS, Nat.reduceAdd] at H)) | ((with_reducible apply wlL); (first | apply hw_load 0 rfl rfl H rfl | apply hw_load 1 rfl rfl H rfl | apply hw_load 2 rfl rfl H rfl | apply hw_load 3 rfl rfl H rfl); (focus (simp; done)); (focus (simp only [segV, seg, NS]; rfl))))
    exact ⟨rfl, rfl, [(_, L4)], rfl, .inr ⟨_, rfl⟩, rfl, hR, _, by omega, H⟩
  · exact fun st st' hl ha => vq_adv (by omega) ha
  (try simp only [Act.put, List.setIfInBounds_toArray, List.set_cons_zero, List.set_cons_succ])
  rintro st w' hl ⟨hF, s5, hs5, H⟩
  obtain ⟨v, L1, rfl, hR⟩ := hF.one hl
  obtain ⟨A, c, rfl⟩ := GL.isSl hR
  simp only [OneL, List.cons_append, List.nil_append, show ∀ v : Value, vq [(v, L1)] 0 = v from fun _ => rfl] at H ⊢
  go_wp2_with (first | ((with_reducible apply wlS); refine hw_store 0 rfl rfl rfl H rfl rfl rfl (by simp) rfl ?_; clear H; intro w' H; (try simp only [Act.eval, Act.put, Value.cells, segV, seg, segPut, NS, Nat.reduceAdd] at H)))
  exact bodyPost_ret (res1 rfl (rv_cell 0 rfl H rfl (Nat.le_of_ble_eq_true rfl))) rfl ⟨_, _, L1, by simp [segV, seg], hR, H.drop1.noR⟩
end
end Go.Proofs.YtccgpjhgfjfaoaaGreatDoor
/- cluster: gather. -/
namespace Go.Proofs.YtccgpjhgfjfaoaaGreatDoor
open Go.RowKit

theorem row_at {ps : List Nat} {pad : List Value} {i : Nat} {p : Nat} (h : ps[i]? = some p) : segV false (ps.map pV ++ pad).toArray i 1 = pV p ∧ i + 1 ≤ (ps.map pV ++ pad).toArray.size := by
  have hi : i < ps.length := (List.getElem?_eq_some_iff.1 h).1
  have hp : ps[i] = p := (List.getElem?_eq_some_iff.1 h).2
  refine ⟨?_, by simp; omega⟩
  simp only [segV, Bool.false_eq_true, if_false, seg]
  rw [List.drop_append_of_le_length (by simp; omega), ← List.map_drop, List.drop_eq_getElem_cons hi, hp]
  rfl
theorem pGather {α : Type} {a b c e : α} {X Y : List α} : (a :: b :: c :: (X ++ e :: Y)).Perm ((c :: X) ++ (a :: b :: (e :: Y))) := by
  apply perm_count; intro x; simp only [List.count_append, List.count_cons, List.count_nil]; omega
theorem pGather2 {α : Type} {a b c e : α} {X Y Z : List α} : (a :: b :: c :: (X ++ e :: (Y ++ Z))).Perm (Y ++ (a :: b :: c :: (X ++ e :: Z))) := by
  apply perm_count; intro x; simp only [List.count_append, List.count_cons, List.count_nil]; omega
theorem GL.rd2 {S : Nat → Prop} {w0 w : World} {sz : Nat} {L R : List Bk} {e : TypeId} {size n : Nat} {A : Option Addr} {c : Nat} {xs : List Value} {L1 : List Bk} (h : GL e size (.slice A n c) n xs L1) (H : Hp S w0 w sz L R) (hs : ∀ x ∈ L1, x ∈ L) (h1 : xs.all Value.oneCell' = true) : Rd w A n c size xs := by
  obtain ⟨A', c', he, hr⟩ := h.rd H hs h1
  cases he
  exact hr
theorem pGather3 {α : Type} {a b c e : α} {X Y Z : List α} : (a :: b :: c :: ((X ++ e :: Y) ++ Z)).Perm ((a :: b :: c :: (X ++ e :: Z)) ++ Y) := by
  apply perm_count; intro x; simp only [List.count_append, List.count_cons, List.count_nil]; omega
section
variable {w : World} {pc pg pm pn pl pd : Nat} {f : Nat} {x : Lf} {d : Dsk} {vl vh : Value} {ps : List Nat} {hist : List Evt} {L1 Lr Lh : List Bk} {seen i : Nat} {life : Int}
set_option maxRecDepth 100000 in
set_option maxHeartbeats 2000000 in
theorem gather_raw (hR : GL tMemP 1 vl ps.length (ps.map pV) Lr) (hp : ps[i]? = some pm) (hI : LifeAt x d pl pd L1) (hH : GL tEv 15 vh hist.length (hist.flatMap encE) Lh)
    (h0 : 0 < x.past.length) (hs : seen ≤ x.past.length) (hpl : x.past.length ≤ 100000) (hhl : hist.length ≤ 100000) {Lx : List Bk}
    (H0 : Own w ((pc, tClu, cluC f vl (pV pg) vh) :: (pm, tMem, #[pV pn, pV pd, .int .i64 life, .int .i64 seen]) :: (pn, tNode, #[pV pl]) :: (L1 ++ (Lr ++ (Lh ++ Lx))))) (hL : Lx = []) :
    Calls Tryz.prog 73 #[pV pc, .int .i64 i] w
      (fun e w' => ∃ sz vh' Lh', e = .returned (.tuple #[]) ∧ GL tEv 15 vh' (hist.length + (x.past.length - seen)) (hist.flatMap encE ++ (x.past.drop seen).flatMap encE) Lh' ∧
        Hp (InL ((pc, tClu, cluC f vl (pV pg) vh) :: (pm, tMem, #[pV pn, pV pd, .int .i64 life, .int .i64 seen]) :: (pn, tNode, #[pV pl]) :: (L1 ++ (Lr ++ (Lh ++ Lx))))) w w' sz
          ((pc, tClu, cluC f vl (pV pg) vh') :: (pm, tMem, #[pV pn, pV pd, .int .i64 life, .int .i64 x.past.length]) :: (pn, tNode, #[pV pl]) :: (L1 ++ (Lr ++ (Lh' ++ Lx)))) []) := by
  subst hL
  have hi : i < ps.length := (List.getElem?_eq_some_iff.1 hp).1
  obtain ⟨br, c, pad, rfl, hc, rfl, hx, hpd⟩ := hR.some (by omega)
  obtain ⟨HV, HB⟩ := row_at (pad := pad) hp
  have HV := Lib.hid HV
  have HB := Lib.hid HB
  clear hp
  simp only [List.append_nil, List.cons_append, List.nil_append] at H0 ⊢
  go_enter Tryz.func73, Tryz.ntmps73
  have H := H0
  unfold Own at H
  have hrow := H.blk (br, tMemP, (ps.map pV ++ pad).toArray) (by simp)
  go_wp2_with (first | ((with_reducible apply wlL); apply hw_load 0 rfl rfl H rfl; (focus (simp; done)); (focus (simp only [segV, seg, NS]; rfl))) | ((with_reducible show wpList _ _ _ (⟨_, .load _ _, _, _, _, _⟩ :: _) _ _); apply hw_loadB rfl rfl hrow; (focus exact HB.out); (focus exact HV.out)))
  (try simp only [Act.eval, Act.put, Value.cells, segV, seg, segPut, NS, Nat.reduceAdd])
  clear hrow
  refine region_GS 9 [8] (fun i => if 8 ≤ i then 1 else 0) (OneF tEv 15 (x.past.length - seen) ((x.past.drop seen).flatMap encE)) OneL H trivial rfl rfl (by kernel_rfl) ?_; clear H; simp only [List.take_succ_cons, List.take_zero, List.drop_succ_cons, List.drop_zero]
  repeat (first | (apply detG_op (by decide); (focus (rintro st hlv w' ⟨hF, s1, hs1, H⟩; go_wp2_with (first | ((with_reducible apply wlL); apply hw_load 1 rfl rfl H rfl; (focus (simp; done)); (focus (simp only [segV, seg, NS]; rfl)))); refine ⟨rfl, rfl, ?_, hF, _, by omega, H⟩; (first | (simp only [SlotIs, Array.getD_eq_getD_getElem?, List.getElem?_toArray, List.getElem?_cons_succ, List.getElem?_cons_zero, Option.getD_some]; exact rfl) | exact rfl))); (focus (intros; rfl)); (try simp only [Act.put, List.setIfInBounds_toArray, List.set_cons_zero, List.set_cons_succ])))
  apply stgG_op (q := 0) (V := fun st => vq st 0) rfl nth1 (h := ?_) (hp := ?_) (hr := ?_)
  · rintro st hlv w' ⟨hF, s1, hs1, H⟩
    obtain rfl := List.eq_nil_of_length_eq_zero hlv
    simp only [OneL, List.append_nil] at H
    go_wp2_with (first | ((first | ((with_reducible apply wlB); refine hw_box rfl rfl H ?_) | ((with_reducible apply wlA); refine hw_alloc rfl H ?_) | ((with_reducible apply wlS); first | refine hw_store 0 rfl rfl rfl H rfl rfl rfl (by simp) rfl ?_ | refine hw_store 1 rfl rfl rfl H rfl rfl rfl (by simp) rfl ?_ | refine hw_store 2 rfl rfl rfl H rfl rfl rfl (by simp) rfl ?_ | refine hw_store 3 rfl rfl rfl H rfl rfl rfl (by simp) rfl ?_)); clear H; intro w' H; (try simp only [Act.eval, Act.put, Value.cells, segV, seg, segPut, NS, Nat.reduceAdd] at H)) | ((with_reducible apply wlL); (first | apply hw_load 0 rfl rfl H rfl | apply hw_load 1 rfl rfl H rfl | apply hw_load 2 rfl rfl H rfl | apply hw_load 3 rfl rfl H rfl); (focus (simp; done)); (focus (simp only [segV, seg, NS]; rfl))))
    obtain ⟨pb, pk, pr, pt, pv, LT, LP, hIs⟩ := hI
    refine (nAfter_any hIs (H.part (Lb := (pc, tClu, cluC f (.slice (some ⟨br, 0, none⟩) ps.length c) (pV pg) vh) :: (pm, tMem, #[pV pn, pV pd, .int .i64 life, .int .i64 seen]) :: ((br, tMemP, (ps.map pV ++ pad).toArray) :: Lh)) pGather) h0 seen hs hpl).mono ?_; rintro e w' ⟨s4, v4, L4, rfl, hR, H1⟩; obtain ⟨hs4, H⟩ := H.fresh H1; clear H1
    go_wp2_with (first | ((first | ((with_reducible apply wlB); refine hw_box rfl rfl H ?_) | ((with_reducible apply wlA); refine hw_alloc rfl H ?_) | ((with_reducible apply wlS); first | refine hw_store 0 rfl rfl rfl H rfl rfl rfl (by simp) rfl ?_ | refine hw_store 1 rfl rfl rfl H rfl rfl rfl (by simp) rfl ?_ | refine hw_store 2 rfl rfl rfl H rfl rfl rfl (by simp) rfl ?_ | refine hw_store 3 rfl rfl rfl H rfl rfl rfl (by simp) rfl ?_)); clear H; intro w' H; (try simp only [Act.eval, Act.put, Value.cells, segV, seg, segPut, NS, Nat.reduceAdd] at H)) | ((with_reducible apply wlL); (first | apply hw_load 0 rfl rfl H rfl | apply hw_load 1 rfl rfl H rfl | apply hw_load 2 rfl rfl H rfl | apply hw_load 3 rfl rfl H rfl); (focus (simp; done)); (focus (simp only [segV, seg, NS]; rfl))))
    exact ⟨rfl, rfl, [(_, L4)], rfl, .inr ⟨_, rfl⟩, rfl, hR, _, by omega, H⟩
  · exact fun st st' hl ha => vq_adv (by omega) ha
  (try simp only [Act.put, List.setIfInBounds_toArray, List.set_cons_zero, List.set_cons_succ])
  rintro st w' hl ⟨hF, s5, hs5, H⟩
  obtain ⟨v, L5, rfl, hE⟩ := hF.one hl
  obtain ⟨A5, c5, rfl⟩ := GL.isSl hE
  simp only [OneL, List.cons_append, List.append_assoc, show ∀ v : Value, vq [(v, L5)] 0 = v from fun _ => rfl] at H ⊢
  obtain ⟨A6, c6, rfl⟩ := GL.isSl hH
  go_wp2_with (first | ((with_reducible apply wlL); apply hw_load 0 rfl rfl H rfl; (focus (simp; done)); (focus (simp only [segV, seg, NS]; rfl))) | ((with_reducible apply wlL); apply hw_load 1 rfl rfl H rfl; (focus (simp; done)); (focus (simp only [segV, seg, NS]; rfl))) | ((with_reducible apply wlS); refine hw_store 1 rfl rfl rfl H rfl rfl rfl (by simp) rfl ?_; clear H; intro w' H; (try simp only [Act.eval, Act.put, Value.cells, segV, seg, segPut, NS, Nat.reduceAdd] at H)) | ((with_reducible show wpList _ _ _ (⟨_, .call { callee := .builtin .append, args := _, argTypes := _ }, _, _, _, _⟩ :: _) _ _); have hRd := hE.rd2 H (fun y hy => by simp [hy]) (by simp [encE, Value.oneCell']); (apply hw_append (L0 := _) rfl rfl rfl H hH pGather2 hRd.len hRd.nil hRd.cell hRd.one (Nat.le_trans (m := 200000) (by omega) (by decide)) (by omega)); clear H; intro v' w' sz' L1' hle HG' hnil H; obtain ⟨A', c', rfl⟩ := HG'.isSl; (try simp only [Act.eval, Act.put, Value.cells, segV, seg, segPut, NS, Nat.reduceAdd] at H)) | ((with_reducible apply wlS); refine hw_store 0 rfl rfl rfl H rfl rfl rfl (by simp) rfl ?_; clear H; intro w' H; (try simp only [Act.eval, Act.put, Value.cells, segV, seg, segPut, NS, Nat.reduceAdd] at H)))
  have he : ((seen : Int) + ((x.past.length - seen : Nat) : Int)) = (x.past.length : Int) := by omega
  rw [he] at H
  refine bodyPost_end (v := .tuple #[]) (res0 rfl) rfl ?_
  exact ⟨_, _, _, rfl, HG', (H.perm pGather3).front⟩
end
end Go.Proofs.YtccgpjhgfjfaoaaGreatDoor
/- A struct value's field. -/
namespace Go.Proofs.YtccgpjhgfjfaoaaGreatDoor
open Go.RowKit

def fldOf (P : Program) (t : TypeId) (k : Nat) : Option (TypeId × Nat) := match P.underlying t with
  | some (.struct fs) => (fs[k]?).map fun f => (f.type, f.offset)
  | _ => none
section
variable {P : Program} {ops : Array Oper} {Q : Exit → Act → World → Prop} {rest : List Oper} {a : Act} {w : World} {d : Tmp} {t ty : TypeId} {pos : String} {after : Array Edge} {g : Option (Nat × Bool)}
theorem run_field {k off n : Nat} {ft : TypeId} {agg : Bool} {cs : Array Value} (h : fldOf P t k = some (ft, off)) (he : Ty P ft agg n) (hs : off + n ≤ cs.size) (w : World) : (Instr.field t (.agg cs) k).run P w = .ok (segV agg cs off n) w := by
  unfold fldOf at h
  split at h
  · rename_i fs hu
    obtain ⟨f, hf, hff⟩ := Option.map_eq_some_iff.1 h
    cases hff
    have hk := he.kind w
    have hz := he.size w
    simp [Instr.field, run_underlying hu, hf, part, asAgg, go_sem, hk, hz]
    cases hag : agg with
    | true =>
      simp only [if_true, segV, seg]
      congr 2
      apply Array.ext'
      simp [List.extract_eq_take_drop]
    | false =>
      subst hag
      obtain rfl := he.one rfl
      have hlt : f.offset < cs.size := by omega
      simp [hlt, segV, seg, List.drop_eq_getElem_cons (l := cs.toList) (i := f.offset) (by simpa using hlt)]
  · cases h
theorem hw_field {x : Operand} {cs : Array Value} {k off n : Nat} {agg : Bool} {ft : TypeId} (hg : Region.wanted ⟨some d, .field t x k, ty, pos, after, g⟩ (yielded ops a.tmps) = true)
    (hx : evL a x = some (.agg cs)) (hf : fldOf P t k = some (ft, off)) [he : Ty P ft agg n] (hs : off + n ≤ cs.size) {v : Value} (hv : segV agg cs off n = v)
    (h : wpList P ops Q rest (a.put (some d) v) w) : wpList P ops Q (⟨some d, .field t x k, ty, pos, after, g⟩ :: rest) a w := by
  subst hv
  refine wpList_step fun K hK => ?_
  rw [if_pos hg]
  unfold Oper.wp
  simp only [execOp, evL_eval hx, run_field hf he hs, Sem.run_bind, Sem.run_pure, Result.andThen, Oper.upon]
  exact hK _ _ h
end
end Go.Proofs.YtccgpjhgfjfaoaaGreatDoor
/- cluster: open. -/
namespace Go.Proofs.YtccgpjhgfjfaoaaGreatDoor
open Go.RowKit

/-- Node i of n opens on disk d: its reserve, the disk behind it, the round. -/
structure OpenOk (n f i : Nat) (d : Dsk) (B' : Bt) (d'' : Dsk) (r : Int) : Prop where
  im : d.im.length = 256
  n1 : 1 ≤ n
  n2 : n ≤ 100
  f1 : f < n
  i1 : i < n
  mid : ∃ B d', openM d = (some B, d', 0) ∧ okBt B ∧ d'.im.length = 256 ∧ nextM B d' = (B', d'', r, 0)
  r0 : 1 ≤ r
  r1 : r ≤ 1099511627775
  v : validB n ⟨i, B'.tag, 1⟩ = true
  w : withinB (2 ^ n - 1) n = true
def opened (n f i : Nat) (B' : Bt) (r : Int) : Lf := (openLf n f i B' r).happens { kind := 1, round := r, tag := B'.tag }
theorem OpenOk.run {n f i : Nat} {d : Dsk} {B' : Bt} {d'' : Dsk} {r : Int} (h : OpenOk n f i d B' d'' r) {w : World} {pd : Nat} (H0 : Own w [(pd, tDisk, dskC d)]) :
    Calls Tryz.prog 72 #[.int .i64 n, .int .i64 f, .int .i64 i, pV pd] w
      (fun e w' => ∃ sz pn pl L, e = .returned (.tuple #[pV pn, .int .i64 0]) ∧ LifeAt (opened n f i B' r) d'' pl pd L ∧ Hp (InL [(pd, tDisk, dskC d)]) w w' sz ((pn, tNode, #[pV pl]) :: L) []) := by
  obtain ⟨im, n1, n2, f1, i1, ⟨B, d', hM, hB, hd', hN⟩, r0, r1, v, hw⟩ := h
  exact nOpen_ok n f i H0 im n1 n2 f1 i1 hM hB hd' hN r0 r1 v hw
/-- What node.Open has yielded; the blocks that may have changed. -/
def OpF (x : Lf) (d : Dsk) (pd : Nat) (Rest : List Bk) : St → Prop
  | [] => True
  | [(u, Lx)] => ∃ pn pl L1, u = .tuple #[pV pn, .int .i64 0] ∧ LifeAt x d pl pd L1 ∧ Lx = (pn, tNode, #[pV pl]) :: (L1 ++ Rest)
  | _ => False
def OpL (base : List Bk) : St → List Bk
  | [(_, Lx)] => Lx
  | _ => base
theorem OpF.one {x : Lf} {d : Dsk} {pd : Nat} {Rest : List Bk} {st : St} (hF : OpF x d pd Rest st) (h : st.length = 1) : ∃ pn pl L1, st = [(.tuple #[pV pn, .int .i64 0], (pn, tNode, #[pV pl]) :: (L1 ++ Rest))] ∧ LifeAt x d pl pd L1 := by
  match st, hF with
  | [(u, Lx)], ⟨pn, pl, L1, hu, hL, hx⟩ => subst hu hx; exact ⟨pn, pl, L1, rfl, hL⟩
theorem OpF.tup {x : Lf} {d : Dsk} {pd : Nat} {Rest : List Bk} {st : St} (hF : OpF x d pd Rest st) (h : 1 ≤ st.length) : ∃ pn, vq st 0 = .tuple #[pV pn, .int .i64 0] := by
  match st, hF with
  | [(u, Lx)], ⟨pn, pl, L1, hu, hL, hx⟩ => subst hu; exact ⟨pn, rfl⟩
theorem pOp1 {α : Type} {a b c d : α} {X : List α} : (a :: b :: c :: d :: X).Perm ([d] ++ (a :: b :: c :: X)) := by
  apply perm_count; intro x; simp only [List.count_append, List.count_cons, List.count_nil]; omega
theorem pOp2 {α : Type} {a b c n : α} {L X : List α} : ((n :: L) ++ (a :: b :: c :: X)).Perm (a :: b :: c :: (n :: (L ++ X))) := by
  apply perm_count; intro x; simp only [List.count_append, List.count_cons, List.count_nil]; omega
theorem pOp3 {α : Type} {a b c n : α} {L X : List α} : (a :: b :: c :: n :: (L ++ X)).Perm ((n :: L) ++ (a :: b :: c :: X)) := pOp2.symm
theorem pOpG {α : Type} {a b e n : α} {L Lh Lx L6 : List α} : (a :: b :: e :: n :: (L ++ (Lh ++ (Lx ++ L6)))).Perm ((a :: b :: n :: (L ++ ([e] ++ (Lh ++ [])))) ++ (Lx ++ L6)) := by
  apply perm_count; intro x; simp only [List.count_append, List.count_cons, List.count_nil]; omega
theorem pOpH {α : Type} {a b e n : α} {L Lh Lx L6 : List α} : ((a :: b :: n :: (L ++ ([e] ++ (Lh ++ [])))) ++ (Lx ++ L6)).Perm ((a :: b :: n :: (L ++ e :: (Lh ++ Lx))) ++ L6) := by
  apply perm_count; intro x; simp only [List.count_append, List.count_cons, List.count_nil]; omega
section
variable {w : World} {pc pg pm pd : Nat} {f : Nat} {d d'' : Dsk} {B' : Bt} {r : Int} {vl vh : Value} {ps : List Nat} {hist : List Evt} {Lr Lh Lx : List Bk} {i : Nat}
set_option maxRecDepth 100000 in
set_option maxHeartbeats 2000000 in
theorem open_raw (hR : GL tMemP 1 vl ps.length (ps.map pV) Lr) (hp : ps[i]? = some pm) (hH : GL tEv 15 vh hist.length (hist.flatMap encE) Lh) (hok : OpenOk ps.length f i d B' d'' r) (hhl : hist.length ≤ 100000)
    (H0 : Own w ((pc, tClu, cluC f vl (pV pg) vh) :: (pm, tMem, #[.pointer none, pV pd, .int .i64 0, .int .i64 0]) :: (pd, tDisk, dskC d) :: (Lr ++ (Lh ++ Lx)))) :
    Calls Tryz.prog 48 #[pV pc, .int .i64 i] w
      (fun e w' => ∃ sz vh' Lh' pn pl L1, e = .returned (.int .i64 0) ∧ LifeAt (opened ps.length f i B' r) d'' pl pd L1 ∧ GL tEv 15 vh' (hist.length + 1) (hist.flatMap encE ++ (opened ps.length f i B' r).past.flatMap encE) Lh' ∧
        Hp (InL ((pc, tClu, cluC f vl (pV pg) vh) :: (pm, tMem, #[.pointer none, pV pd, .int .i64 0, .int .i64 0]) :: (pd, tDisk, dskC d) :: (Lr ++ (Lh ++ Lx)))) w w' sz
          ((pc, tClu, cluC f vl (pV pg) vh') :: (pm, tMem, #[pV pn, pV pd, .int .i64 B'.rec_.life, .int .i64 1]) :: (pn, tNode, #[pV pl]) :: (L1 ++ (Lr ++ (Lh' ++ Lx)))) []) := by
  have hi : i < ps.length := (List.getElem?_eq_some_iff.1 hp).1
  have hp0 := Lib.hid hp
  have hR0 := hR
  obtain ⟨br, c, pad, rfl, hc, rfl, hx, hpd⟩ := hR.some (by omega)
  obtain ⟨HV, HB⟩ := row_at (pad := pad) hp
  have HV := Lib.hid HV
  have HB := Lib.hid HB
  clear hp
  simp only [List.cons_append, List.nil_append] at H0 ⊢
  go_enter Tryz.func48, Tryz.ntmps48
  have H := H0
  unfold Own at H
  have hrow := H.blk (br, tMemP, (ps.map pV ++ pad).toArray) (by simp)
  go_wp2_with (first | ((with_reducible apply wlL); apply hw_load 0 rfl rfl H rfl; (focus (simp; done)); (focus (simp only [segV, seg, NS]; rfl))) | ((with_reducible show wpList _ _ _ (⟨_, .load _ _, _, _, _, _⟩ :: _) _ _); apply hw_loadB rfl rfl hrow; (focus exact HB.out); (focus exact HV.out)))
  (try simp only [Act.eval, Act.put, Value.cells, segV, seg, segPut, NS, Nat.reduceAdd])
  clear hrow
  replace H := H.perm (L0 := (pc, tClu, cluC f (.slice (some ⟨br, 0, none⟩) ps.length c) (pV pg) vh) :: (pm, tMem, #[.pointer none, pV pd, .int .i64 0, .int .i64 0]) :: (br, tMemP, (ps.map pV ++ pad).toArray) :: (pd, tDisk, dskC d) :: (Lh ++ Lx)) (by apply perm_count; intro z; simp only [List.count_append, List.count_cons, List.count_nil]; omega)
  refine region_GS0 20 [14] (fun i => if 14 ≤ i then 1 else 0) (OpF (opened ps.length f i B' r) d'' pd (Lh ++ Lx)) (fun st => (pc, tClu, cluC f (.slice (some ⟨br, 0, none⟩) ps.length c) (pV pg) vh) :: (pm, tMem, #[.pointer none, pV pd, .int .i64 0, .int .i64 0]) :: (br, tMemP, (ps.map pV ++ pad).toArray) :: OpL ((pd, tDisk, dskC d) :: (Lh ++ Lx)) st) H trivial rfl (by kernel_rfl) ?_; clear H; simp only [List.take_succ_cons, List.take_zero, List.drop_succ_cons, List.drop_zero]
  repeat (first | (apply detG_op (by decide); (focus (rintro st hlv w' ⟨hF, s1, hs1, H⟩; go_wp2_with (first | ((with_reducible apply wlL); apply hw_load 0 rfl rfl H rfl; (focus (simp; done)); (focus (simp only [segV, seg, NS]; rfl))) | ((with_reducible apply wlL); apply hw_load 1 rfl rfl H rfl; (focus (simp; done)); (focus (simp only [segV, seg, NS]; rfl)))); refine ⟨rfl, rfl, ?_, hF, _, by omega, H⟩; (first | (simp only [SlotIs, Array.getD_eq_getD_getElem?, List.getElem?_toArray, List.getElem?_cons_succ, List.getElem?_cons_zero, Option.getD_some]; exact rfl) | exact rfl))); (focus (intros; rfl)); (try simp only [Act.put, List.setIfInBounds_toArray, List.set_cons_zero, List.set_cons_succ])))
  apply stgG_op (q := 0) (V := fun st => vq st 0) rfl nth1 (h := ?_) (hp := ?_) (hr := ?_)
  · rintro st hlv w' ⟨hF, s1, hs1, H⟩
    obtain rfl := List.eq_nil_of_length_eq_zero hlv
    simp only [OpL] at H
    go_wp2_with (first | ((first | ((with_reducible apply wlB); refine hw_box rfl rfl H ?_) | ((with_reducible apply wlA); refine hw_alloc rfl H ?_) | ((with_reducible apply wlS); first | refine hw_store 0 rfl rfl rfl H rfl rfl rfl (by simp) rfl ?_ | refine hw_store 1 rfl rfl rfl H rfl rfl rfl (by simp) rfl ?_ | refine hw_store 2 rfl rfl rfl H rfl rfl rfl (by simp) rfl ?_ | refine hw_store 3 rfl rfl rfl H rfl rfl rfl (by simp) rfl ?_)); clear H; intro w' H; (try simp only [Act.eval, Act.put, Value.cells, segV, seg, segPut, NS, Nat.reduceAdd] at H)) | ((with_reducible apply wlL); (first | apply hw_load 0 rfl rfl H rfl | apply hw_load 1 rfl rfl H rfl | apply hw_load 2 rfl rfl H rfl | apply hw_load 3 rfl rfl H rfl); (focus (simp; done)); (focus (simp only [segV, seg, NS]; rfl))))
    refine (hok.run (H.part (Lb := (pc, tClu, cluC f (.slice (some ⟨br, 0, none⟩) ps.length c) (pV pg) vh) :: (pm, tMem, #[.pointer none, pV pd, .int .i64 0, .int .i64 0]) :: (br, tMemP, (ps.map pV ++ pad).toArray) :: (Lh ++ Lx)) pOp1)).mono ?_; rintro e w' ⟨s4, pn, pl, L1, rfl, hL, H1⟩; obtain ⟨hs4, H⟩ := H.join pOp1 H1; clear H1
    go_wp2_with (first | ((first | ((with_reducible apply wlB); refine hw_box rfl rfl H ?_) | ((with_reducible apply wlA); refine hw_alloc rfl H ?_) | ((with_reducible apply wlS); first | refine hw_store 0 rfl rfl rfl H rfl rfl rfl (by simp) rfl ?_ | refine hw_store 1 rfl rfl rfl H rfl rfl rfl (by simp) rfl ?_ | refine hw_store 2 rfl rfl rfl H rfl rfl rfl (by simp) rfl ?_ | refine hw_store 3 rfl rfl rfl H rfl rfl rfl (by simp) rfl ?_)); clear H; intro w' H; (try simp only [Act.eval, Act.put, Value.cells, segV, seg, segPut, NS, Nat.reduceAdd] at H)) | ((with_reducible apply wlL); (first | apply hw_load 0 rfl rfl H rfl | apply hw_load 1 rfl rfl H rfl | apply hw_load 2 rfl rfl H rfl | apply hw_load 3 rfl rfl H rfl); (focus (simp; done)); (focus (simp only [segV, seg, NS]; rfl))))
    exact ⟨rfl, rfl, [(_, (pn, tNode, #[pV pl]) :: (L1 ++ (Lh ++ Lx)))], rfl, .inr ⟨_, rfl⟩, rfl, ⟨_, _, _, rfl, hL, rfl⟩, _, by omega, H.perm pOp2⟩
  · exact fun st st' hl ha => vq_adv (by omega) ha
  (try simp only [Act.put, List.setIfInBounds_toArray, List.set_cons_zero, List.set_cons_succ])
  apply detG_op (by decide) (V := fun st => vq st 0) (h := ?_) (hp := ?_) (hr := ?_)
  · rintro st hlv w' ⟨hF, s1, hs1, H⟩
    go_wp2_with (first | ((first | ((with_reducible apply wlB); refine hw_box rfl rfl H ?_) | ((with_reducible apply wlA); refine hw_alloc rfl H ?_) | ((with_reducible apply wlS); first | refine hw_store 0 rfl rfl rfl H rfl rfl rfl (by simp) rfl ?_ | refine hw_store 1 rfl rfl rfl H rfl rfl rfl (by simp) rfl ?_ | refine hw_store 2 rfl rfl rfl H rfl rfl rfl (by simp) rfl ?_ | refine hw_store 3 rfl rfl rfl H rfl rfl rfl (by simp) rfl ?_)); clear H; intro w' H; (try simp only [Act.eval, Act.put, Value.cells, segV, seg, segPut, NS, Nat.reduceAdd] at H)) | ((with_reducible apply wlL); (first | apply hw_load 0 rfl rfl H rfl | apply hw_load 1 rfl rfl H rfl | apply hw_load 2 rfl rfl H rfl | apply hw_load 3 rfl rfl H rfl); (focus (simp; done)); (focus (simp only [segV, seg, NS]; rfl))))
    exact ⟨rfl, rfl, rfl, hF, _, by omega, H⟩
  · exact fun st st' hl ha => vq_adv hl ha
  (try simp only [Act.put, List.setIfInBounds_toArray, List.set_cons_zero, List.set_cons_succ])
  apply detG_extract (q := 0) (by decide) (by decide) (fun _ => rfl) (hF := fun st w hl ⟨hF, _⟩ => by obtain ⟨v, hv⟩ := hF.tup hl; exact ⟨_, hv, by simp⟩) (hr := ?_)
  (try simp only [Act.put, List.setIfInBounds_toArray, List.set_cons_zero, List.set_cons_succ])
  apply detG_extract (q := 0) (by decide) (by decide) (fun _ => rfl) (hF := fun st w hl ⟨hF, _⟩ => by obtain ⟨v, hv⟩ := hF.tup hl; exact ⟨_, hv, by simp⟩) (hr := ?_)
  (try simp only [Act.put, List.setIfInBounds_toArray, List.set_cons_zero, List.set_cons_succ])
  apply detG_op (by decide) (V := fun st => tupAt (vq st 0) 0) (h := ?_) (hp := ?_) (hr := ?_)
  · rintro st hlv w' ⟨hF, s1, hs1, H⟩
    go_wp2_with (first | ((first | ((with_reducible apply wlB); refine hw_box rfl rfl H ?_) | ((with_reducible apply wlA); refine hw_alloc rfl H ?_) | ((with_reducible apply wlS); first | refine hw_store 0 rfl rfl rfl H rfl rfl rfl (by simp) rfl ?_ | refine hw_store 1 rfl rfl rfl H rfl rfl rfl (by simp) rfl ?_ | refine hw_store 2 rfl rfl rfl H rfl rfl rfl (by simp) rfl ?_ | refine hw_store 3 rfl rfl rfl H rfl rfl rfl (by simp) rfl ?_)); clear H; intro w' H; (try simp only [Act.eval, Act.put, Value.cells, segV, seg, segPut, NS, Nat.reduceAdd] at H)) | ((with_reducible apply wlL); (first | apply hw_load 0 rfl rfl H rfl | apply hw_load 1 rfl rfl H rfl | apply hw_load 2 rfl rfl H rfl | apply hw_load 3 rfl rfl H rfl); (focus (simp; done)); (focus (simp only [segV, seg, NS]; rfl))))
    exact ⟨rfl, rfl, rfl, hF, _, by omega, H⟩
  · intro st st' hl ha
    show tupAt _ _ = tupAt _ _
    rw [vq_adv hl ha]
  (try simp only [Act.put, List.setIfInBounds_toArray, List.set_cons_zero, List.set_cons_succ])
  apply detG_op (by decide) (V := fun st => tupAt (vq st 0) 1) (h := ?_) (hp := ?_) (hr := ?_)
  · rintro st hlv w' ⟨hF, s1, hs1, H⟩
    go_wp2_with (first | ((first | ((with_reducible apply wlB); refine hw_box rfl rfl H ?_) | ((with_reducible apply wlA); refine hw_alloc rfl H ?_) | ((with_reducible apply wlS); first | refine hw_store 0 rfl rfl rfl H rfl rfl rfl (by simp) rfl ?_ | refine hw_store 1 rfl rfl rfl H rfl rfl rfl (by simp) rfl ?_ | refine hw_store 2 rfl rfl rfl H rfl rfl rfl (by simp) rfl ?_ | refine hw_store 3 rfl rfl rfl H rfl rfl rfl (by simp) rfl ?_)); clear H; intro w' H; (try simp only [Act.eval, Act.put, Value.cells, segV, seg, segPut, NS, Nat.reduceAdd] at H)) | ((with_reducible apply wlL); (first | apply hw_load 0 rfl rfl H rfl | apply hw_load 1 rfl rfl H rfl | apply hw_load 2 rfl rfl H rfl | apply hw_load 3 rfl rfl H rfl); (focus (simp; done)); (focus (simp only [segV, seg, NS]; rfl))))
    exact ⟨rfl, rfl, rfl, hF, _, by omega, H⟩
  · intro st st' hl ha
    show tupAt _ _ = tupAt _ _
    rw [vq_adv hl ha]
  (try simp only [Act.put, List.setIfInBounds_toArray, List.set_cons_zero, List.set_cons_succ])
  rintro st w' hl ⟨hF, s5, hs5, H⟩
  obtain ⟨pn, pl, L1, rfl, hLA⟩ := hF.one hl
  simp only [OpL, show ∀ (u : Value) (L : List Bk), vq [(u, L)] 0 = u from fun _ _ => rfl, show tupAt (.tuple #[pV pn, .int .i64 0]) 0 = pV pn from rfl, show tupAt (.tuple #[pV pn, .int .i64 0]) 1 = .int .i64 0 from rfl] at H ⊢
  go_wp2_with (first | ((first | ((with_reducible apply wlB); refine hw_box rfl rfl H ?_) | ((with_reducible apply wlA); refine hw_alloc rfl H ?_) | ((with_reducible apply wlS); first | refine hw_store 0 rfl rfl rfl H rfl rfl rfl (by simp) rfl ?_ | refine hw_store 1 rfl rfl rfl H rfl rfl rfl (by simp) rfl ?_ | refine hw_store 2 rfl rfl rfl H rfl rfl rfl (by simp) rfl ?_ | refine hw_store 3 rfl rfl rfl H rfl rfl rfl (by simp) rfl ?_)); clear H; intro w' H; (try simp only [Act.eval, Act.put, Value.cells, segV, seg, segPut, NS, Nat.reduceAdd] at H)) | ((with_reducible apply wlL); (first | apply hw_load 0 rfl rfl H rfl | apply hw_load 1 rfl rfl H rfl | apply hw_load 2 rfl rfl H rfl | apply hw_load 3 rfl rfl H rfl); (focus (simp; done)); (focus (simp only [segV, seg, NS]; rfl))))
  simp only [List.nil_append] at H
  have hbk : (opened ps.length f i B' r).book.length = ps.length := newBk_len _ _ _
  have hps : (opened ps.length f i B' r).past.length = 1 := rfl
  have HBK := Lib.hid hbk
  have HPS := Lib.hid hps
  have hn2 := hok.n2
  have hlf : (opened ps.length f i B' r).B = B' := rfl
  have HLF := Lib.hid hlf
  clear hbk hps hlf
  refine (nSight_up hLA (H.part pOp3) rfl (by rw [HBK.out]; omega) (by rw [HBK.out]; omega)).mono ?_; rintro e w' ⟨s6, v6, L6, rfl, -, H1⟩; obtain ⟨hs6, H⟩ := H.fresh H1; clear H1
  simp only [List.cons_append, List.append_assoc] at H
  simp only [sightV]
  go_wp2_with (first | ((with_reducible show wpList _ _ _ (⟨_, .field _ _ _, _, _, _, _⟩ :: _) _ _); refine hw_field (off := 1) (ft := 3) (v := .int .i64 B'.rec_.life) rfl rfl (by kernel_rfl) (by simp) rfl ?_) | ((with_reducible apply wlS); refine hw_store 1 rfl rfl rfl H rfl rfl rfl (by simp) rfl ?_; clear H; intro w' H; (try simp only [Act.eval, Act.put, Value.cells, segV, seg, segPut, NS, Nat.reduceAdd] at H)))
  refine (gather_raw (seen := 0) (i := i) (Lx := []) (life := (opened ps.length f i B' r).B.rec_.life) hR0 hp0.out hLA hH (by rw [HPS.out]; omega) (by omega) (by rw [HPS.out]; omega) hhl (H.part (Lb := Lx ++ L6) pOpG) rfl).mono ?_; rintro e w' ⟨s7, vh', Lh', rfl, hH', H1⟩; obtain ⟨hs7, H⟩ := H.join (Lb := Lx ++ L6) pOpG H1; clear H1
  go_wp2
  exact bodyPost_ret (res1 rfl (rv_tmp rfl)) rfl ⟨_, vh', Lh', pn, pl, L1, rfl, hLA, hH'.cast (by rw [HPS.out]) (by rw [List.drop_zero]), (H.perm pOpH).front⟩
end
end Go.Proofs.YtccgpjhgfjfaoaaGreatDoor
/- cluster: New. -/
namespace Go.Proofs.YtccgpjhgfjfaoaaGreatDoor
open Go.RowKit

theorem nthN {ks : List Nat} (h : ks.Nodup) {q i : Nat} (hq : ks[q]? = some i) (q' : Nat) (hq' : ks[q']? = some i) : q' = q := by
  have hl : q' < ks.length := (List.getElem?_eq_some_iff.1 hq').1
  exact (List.getElem?_inj hl h).1 (hq'.trans hq.symm)
abbrev rawC (pd : Nat) : Array Value := #[.pointer none, pV pd, .int .i64 0, .int .i64 0]
def NwF (k : Nat) (ps : List Nat) (Lr Lm : List Bk) : St → Prop
  | [] => True
  | [(u1, X)] => ∃ pd, u1 = pV pd ∧ X = (pd, tDisk, dskC newDsk) :: (Lr ++ Lm)
  | [(u2, X), (u1, _)] => ∃ pd pm, u1 = pV pd ∧ u2 = pV pm ∧ X = (pm, tMem, rawC pd) :: (pd, tDisk, dskC newDsk) :: (Lr ++ Lm)
  | [(u3, X), (u2, _), (u1, _)] => ∃ pd pm bs, u1 = pV pd ∧ u2 = pV pm ∧ u3 = .slice (some ⟨bs, 0, none⟩) 1 1 ∧ X = (bs, tMemP, #[pV pm]) :: (pm, tMem, rawC pd) :: (pd, tDisk, dskC newDsk) :: (Lr ++ Lm)
  | [(u4, X), _, _, (u1, _)] => ∃ pd pm Lr', u1 = pV pd ∧ GL tMemP 1 u4 (k + 1) (ps.map pV ++ [pV pm]) Lr' ∧ X = (pm, tMem, rawC pd) :: (pd, tDisk, dskC newDsk) :: (Lm ++ Lr')
  | _ => False
def NwL (base : List Bk) : St → List Bk
  | [] => base
  | (_, X) :: _ => X
section
variable {k : Nat} {ps : List Nat} {Lr Lm : List Bk} {st : St}
theorem NwF.l1 (hF : NwF k ps Lr Lm st) (h : st.length = 1) : ∃ pd, st = [(pV pd, (pd, tDisk, dskC newDsk) :: (Lr ++ Lm))] := by
  match st, hF with
  | [(u1, X)], ⟨pd, h1, h2⟩ => subst h1 h2; exact ⟨pd, rfl⟩
theorem NwF.l2 (hF : NwF k ps Lr Lm st) (h : st.length = 2) : ∃ pd pm Y, st = [(pV pm, (pm, tMem, rawC pd) :: (pd, tDisk, dskC newDsk) :: (Lr ++ Lm)), (pV pd, Y)] := by
  match st, hF with
  | [(u2, X), (u1, Y)], ⟨pd, pm, h1, h2, h3⟩ => subst h1 h2 h3; exact ⟨pd, pm, Y, rfl⟩
theorem NwF.l3 (hF : NwF k ps Lr Lm st) (h : st.length = 3) : ∃ pd pm bs Y Z, st = [(.slice (some ⟨bs, 0, none⟩) 1 1, (bs, tMemP, #[pV pm]) :: (pm, tMem, rawC pd) :: (pd, tDisk, dskC newDsk) :: (Lr ++ Lm)), (pV pm, Y), (pV pd, Z)] := by
  match st, hF with
  | [(u3, X), (u2, Y), (u1, Z)], ⟨pd, pm, bs, h1, h2, h3, h4⟩ => subst h1 h2 h3 h4; exact ⟨pd, pm, bs, Y, Z, rfl⟩
theorem NwF.l4 (hF : NwF k ps Lr Lm st) (h : st.length = 4) : ∃ pd pm u Lr' Y Z V, st = [(u, (pm, tMem, rawC pd) :: (pd, tDisk, dskC newDsk) :: (Lm ++ Lr')), Y, Z, V] ∧ GL tMemP 1 u (k + 1) (ps.map pV ++ [pV pm]) Lr' := by
  match st, hF with
  | [(u4, X), Y, Z, (v, V)], ⟨pd, pm, Lr', hv, hG, h2⟩ => subst h2; exact ⟨pd, pm, u4, Lr', Y, Z, (v, V), rfl, hG⟩
theorem NwF.v0 (hF : NwF k ps Lr Lm st) (h : 1 ≤ st.length) : ∃ pd, vq st 0 = pV pd := by
  match st, hF with
  | [(u1, X)], ⟨pd, h1, h2⟩ => subst h1; exact ⟨pd, rfl⟩
  | [(u2, X), (u1, Y)], ⟨pd, pm, h1, h2, h3⟩ => subst h1; exact ⟨pd, rfl⟩
  | [(u3, X), (u2, Y), (u1, Z)], ⟨pd, pm, bs, h1, h2, h3, h4⟩ => subst h1; exact ⟨pd, rfl⟩
  | [(u4, X), Y, Z, (v, V)], ⟨pd, pm, Lr', hv, hG, h2⟩ => subst hv; exact ⟨pd, rfl⟩
end
theorem pNw {α : Type} {a b c d e : α} {X Y : List α} : (a :: b :: c :: d :: e :: (X ++ Y)).Perm (X ++ (a :: b :: c :: d :: e :: Y)) := pF5
theorem pNw2 {α : Type} {a b c d e : α} {X Y : List α} : ((a :: b :: c :: d :: e :: X) ++ Y).Perm (c :: a :: b :: d :: e :: (X ++ Y)) := by
  apply perm_count; intro x; simp only [List.count_append, List.count_cons, List.count_nil]; omega
theorem pNw3 {α : Type} {a b d e : α} {X : List α} : (e :: a :: b :: d :: X).Perm (a :: b :: e :: d :: X) := by
  apply perm_count; intro x; simp only [List.count_append, List.count_cons, List.count_nil]; omega
theorem pNw4 {α : Type} {a b d e : α} {X Y : List α} : (a :: b :: d :: e :: (X ++ Y)).Perm (a :: b :: (Y ++ (X ++ [d, e]))) := by
  apply perm_count; intro x; simp only [List.count_append, List.count_cons, List.count_nil]; omega
def liveM (n f : Nat) (B' : Bt) (d'' : Dsk) (r : Int) (i : Nat) : Mem := .live (opened n f i B' r) d'' B'.rec_.life 1
def memsK (n f : Nat) (B' : Bt) (d'' : Dsk) (r : Int) (k : Nat) : List Mem := (List.range k).map (liveM n f B' d'' r) ++ List.replicate (n - k) (.raw newDsk)
def histK (n f : Nat) (B' : Bt) (r : Int) (k : Nat) : List Evt := (List.range k).flatMap fun i => (opened n f i B' r).past
theorem memsK_len (n f : Nat) (B' : Bt) (d'' : Dsk) (r : Int) (k : Nat) (h : k ≤ n) : (memsK n f B' d'' r k).length = n := by simp [memsK]; omega
theorem histK_len (n f : Nat) (B' : Bt) (r : Int) : ∀ k, (histK n f B' r k).length = k
  | 0 => rfl
  | k + 1 => by
    have := histK_len n f B' r k
    unfold histK at this ⊢
    rw [List.range_succ, List.flatMap_append, List.length_append, this]
    rfl
theorem histK_succ (n f : Nat) (B' : Bt) (r : Int) (k : Nat) : histK n f B' r (k + 1) = histK n f B' r k ++ (opened n f k B' r).past := by
  unfold histK
  rw [List.range_succ, List.flatMap_append]
  simp
theorem memsK_eq (n f : Nat) (B' : Bt) (d'' : Dsk) (r : Int) (k : Nat) (h : k < n) : memsK n f B' d'' r k = (List.range k).map (liveM n f B' d'' r) ++ .raw newDsk :: List.replicate (n - (k + 1)) (.raw newDsk) := by
  unfold memsK
  rw [show n - k = (n - (k + 1)) + 1 by omega, List.replicate_succ]
theorem memsK_succ (n f : Nat) (B' : Bt) (d'' : Dsk) (r : Int) (k : Nat) (h : k < n) : memsK n f B' d'' r (k + 1) = (List.range k).map (liveM n f B' d'' r) ++ liveM n f B' d'' r k :: List.replicate (n - (k + 1)) (.raw newDsk) := by
  unfold memsK
  rw [List.range_succ, List.map_append, List.append_assoc]
  rfl
theorem MemsAt.mid {A : List Mem} {m : Mem} {C : List Mem} : ∀ {ps : List Nat} {L : List Bk}, MemsAt (A ++ m :: C) ps L → ∃ qs p qs' La Lm Lb, qs.length = A.length ∧ ps = qs ++ p :: qs' ∧ MemAt m p Lm ∧ L = La ++ (Lm ++ Lb) ∧ MemsAt A qs La ∧ MemsAt C qs' Lb := by
  induction A with
  | nil =>
    intro ps L h
    cases h with
    | cons h1 h2 => exact ⟨[], _, _, [], _, _, rfl, rfl, h1, rfl, .nil, h2⟩
  | cons x A ih =>
    intro ps L h
    cases h with
    | cons h1 h2 =>
      obtain ⟨qs, p, qs', La, Lm, Lb, e1, rfl, h3, rfl, h4, h5⟩ := ih h2
      exact ⟨_ :: qs, p, qs', _ ++ La, Lm, Lb, by simp [e1], rfl, h3, by rw [List.append_assoc], .cons h1 h4, h5⟩
theorem pNw5 {α : Type} {a g b d : α} {R A B H : List α} : (a :: g :: (R ++ ((A ++ ([b, d] ++ B)) ++ H))).Perm ((a :: b :: d :: (R ++ (H ++ (g :: (A ++ B))))) ++ []) := by
  apply perm_count; intro x; simp only [List.count_append, List.count_cons, List.count_nil]; omega
theorem pNw6 {α : Type} {a g b n : α} {R A B H L : List α} : ((a :: b :: n :: (L ++ (R ++ (H ++ (g :: (A ++ B)))))) ++ []).Perm (a :: g :: (R ++ ((A ++ ((b :: n :: L) ++ B)) ++ H))) := by
  apply perm_count; intro x; simp only [List.count_append, List.count_cons, List.count_nil]; omega
theorem pNw7 {α : Type} {a g : α} {R M H : List α} : (a :: g :: (R ++ (M ++ H))).Perm (a :: (R ++ (M ++ ([g] ++ H)))) := by
  apply perm_count; intro x; simp only [List.count_append, List.count_cons, List.count_nil]; omega
section
variable {w : World}
set_option maxRecDepth 100000 in
set_option maxHeartbeats 2000000 in
theorem cNew_ok (n f : Nat) {B' : Bt} {d'' : Dsk} {r : Int} (hn1 : 1 ≤ n) (hn2 : n ≤ 100) (hf : f < n) (hok : ∀ i, i < n → OpenOk n f i newDsk B' d'' r) : Calls Tryz.prog 23 #[.int .i64 n, .int .i64 f] w
    (fun e w' => ∃ sz pc L, e = .returned (.tuple #[pV pc, .int .i64 0]) ∧ CluAt ⟨f, memsK n f B' d'' r n, ⟨65536, 0, []⟩, histK n f B' r n⟩ pc L ∧ Hp NoS w w' sz L []) := by
  go_enter Tryz.func23, Tryz.ntmps23
  have H := Hp.start NoS w
  go_wp2_with (first | ((first | ((with_reducible apply wlB); refine hw_box rfl rfl H ?_) | ((with_reducible apply wlA); refine hw_alloc rfl H ?_) | ((with_reducible apply wlS); first | refine hw_store 0 rfl rfl rfl H rfl rfl rfl (by simp) rfl ?_ | refine hw_store 1 rfl rfl rfl H rfl rfl rfl (by simp) rfl ?_ | refine hw_store 2 rfl rfl rfl H rfl rfl rfl (by simp) rfl ?_ | refine hw_store 3 rfl rfl rfl H rfl rfl rfl (by simp) rfl ?_)); clear H; intro w' H; (try simp only [Act.eval, Act.put, Value.cells, segV, seg, segPut, NS, Nat.reduceAdd] at H)) | ((with_reducible apply wlL); (first | apply hw_load 0 rfl rfl H rfl | apply hw_load 1 rfl rfl H rfl | apply hw_load 2 rfl rfl H rfl | apply hw_load 3 rfl rfl H rfl); (focus (simp; done)); (focus (simp only [segV, seg, NS]; rfl))))
  refine (gNew_any 65536 (by decide) _).mono ?_; rintro e w' ⟨s1, pg, rfl, H1⟩; obtain ⟨hs1, H⟩ := H.fresh H1; clear H1
  simp only [List.cons_append, List.nil_append] at H
  go_wp2_with (first | ((first | ((with_reducible apply wlB); refine hw_box rfl rfl H ?_) | ((with_reducible apply wlA); refine hw_alloc rfl H ?_) | ((with_reducible apply wlS); first | refine hw_store 0 rfl rfl rfl H rfl rfl rfl (by simp) rfl ?_ | refine hw_store 1 rfl rfl rfl H rfl rfl rfl (by simp) rfl ?_ | refine hw_store 2 rfl rfl rfl H rfl rfl rfl (by simp) rfl ?_ | refine hw_store 3 rfl rfl rfl H rfl rfl rfl (by simp) rfl ?_)); clear H; intro w' H; (try simp only [Act.eval, Act.put, Value.cells, segV, seg, segPut, NS, Nat.reduceAdd] at H)) | ((with_reducible apply wlL); (first | apply hw_load 0 rfl rfl H rfl | apply hw_load 1 rfl rfl H rfl | apply hw_load 2 rfl rfl H rfl | apply hw_load 3 rfl rfl H rfl); (focus (simp; done)); (focus (simp only [segV, seg, NS]; rfl))))
  generalize hpc : w.heap.size = pc at H
  go_loopw [34] (fun i wr => ∃ (k sz : Nat) (vl : Value) (ps : List Nat) (Lr Lm : List Bk), k ≤ n ∧ i = .int .i64 k ∧ GL tMemP 1 vl k (ps.map pV) Lr ∧ MemsAt (List.replicate k (.raw newDsk)) ps Lm ∧ Hp NoS w wr sz ((pc, tClu, cluC f vl (pV pg) (.slice none 0 0)) :: (pg, tBag, bagC ⟨65536, 0, []⟩ (.slice none 0 0)) :: (Lr ++ Lm)) []) (fun i _ => n - (intOf i).toNat)
  case atStart => exact ⟨0, _, _, [], [], [], Nat.zero_le _, rfl, .nil, .nil, H⟩
  case round =>
    clear H
    obtain ⟨k, sz, vl, ps, Lr, Lm, hk, rfl, hR, hM, H⟩ := hrel
    have hps : ps.length = k := by rw [hM.len]; simp
    have HPS := Lib.hid hps
    clear hps
    obtain ⟨Av, cv, rfl⟩ := GL.isSl hR
    by_cases hlt : k < n
    · go_wp2_with (first | ((first | ((with_reducible apply wlB); refine hw_box rfl rfl H ?_) | ((with_reducible apply wlA); refine hw_alloc rfl H ?_) | ((with_reducible apply wlS); first | refine hw_store 0 rfl rfl rfl H rfl rfl rfl (by simp) rfl ?_ | refine hw_store 1 rfl rfl rfl H rfl rfl rfl (by simp) rfl ?_ | refine hw_store 2 rfl rfl rfl H rfl rfl rfl (by simp) rfl ?_ | refine hw_store 3 rfl rfl rfl H rfl rfl rfl (by simp) rfl ?_)); clear H; intro w' H; (try simp only [Act.eval, Act.put, Value.cells, segV, seg, segPut, NS, Nat.reduceAdd] at H)) | ((with_reducible apply wlL); (first | apply hw_load 0 rfl rfl H rfl | apply hw_load 1 rfl rfl H rfl | apply hw_load 2 rfl rfl H rfl | apply hw_load 3 rfl rfl H rfl); (focus (simp; done)); (focus (simp only [segV, seg, NS]; rfl))))
      (try simp only [Act.eval, Act.put, Value.cells, segV, seg, segPut, NS, Nat.reduceAdd])
      refine region_GS0 10 [5, 7, 8, 9] (fun i => if i < 5 then 0 else if i < 7 then 1 else if i = 7 then 2 else if i = 8 then 3 else 4) (NwF k ps Lr Lm) (fun st => (pc, tClu, cluC f (.slice Av k cv) (pV pg) (.slice none 0 0)) :: (pg, tBag, bagC ⟨65536, 0, []⟩ (.slice none 0 0)) :: NwL (Lr ++ Lm) st) H trivial rfl (by kernel_rfl) ?_; clear H; simp only [List.take_succ_cons, List.take_zero, List.drop_succ_cons, List.drop_zero]
      repeat (first | (apply detG_op (by decide); (focus (rintro st hlv w' ⟨hF, s1, hs1, H⟩; go_wp2_with (first | ((with_reducible apply wlL); apply hw_load 0 rfl rfl H rfl; (focus (simp; done)); (focus (simp only [segV, seg, NS]; rfl)))); refine ⟨rfl, rfl, ?_, hF, _, by omega, H⟩; (first | (simp only [SlotIs, Array.getD_eq_getD_getElem?, List.getElem?_toArray, List.getElem?_cons_succ, List.getElem?_cons_zero, Option.getD_some]; exact rfl) | exact rfl))); (focus (intros; rfl)); (try simp only [Act.put, List.setIfInBounds_toArray, List.set_cons_zero, List.set_cons_succ])))
      apply stgG_op (q := 0) (V := fun st => vq st 0) rfl (nthN (by decide) rfl) (h := ?_) (hp := ?_) (hr := ?_)
      · rintro st hlv w' ⟨hF, s1, hs1, H⟩
        obtain rfl := List.eq_nil_of_length_eq_zero hlv
        simp only [NwL] at H
        go_wp2_with (first | ((first | ((with_reducible apply wlB); refine hw_box rfl rfl H ?_) | ((with_reducible apply wlA); refine hw_alloc rfl H ?_) | ((with_reducible apply wlS); first | refine hw_store 0 rfl rfl rfl H rfl rfl rfl (by simp) rfl ?_ | refine hw_store 1 rfl rfl rfl H rfl rfl rfl (by simp) rfl ?_ | refine hw_store 2 rfl rfl rfl H rfl rfl rfl (by simp) rfl ?_ | refine hw_store 3 rfl rfl rfl H rfl rfl rfl (by simp) rfl ?_)); clear H; intro w' H; (try simp only [Act.eval, Act.put, Value.cells, segV, seg, segPut, NS, Nat.reduceAdd] at H)) | ((with_reducible apply wlL); (first | apply hw_load 0 rfl rfl H rfl | apply hw_load 1 rfl rfl H rfl | apply hw_load 2 rfl rfl H rfl | apply hw_load 3 rfl rfl H rfl); (focus (simp; done)); (focus (simp only [segV, seg, NS]; rfl))))
        refine (New_any _).mono ?_; rintro e w' ⟨s4, pd, rfl, H1⟩; obtain ⟨hs4, H⟩ := H.fresh H1; clear H1
        go_wp2_with (first | ((first | ((with_reducible apply wlB); refine hw_box rfl rfl H ?_) | ((with_reducible apply wlA); refine hw_alloc rfl H ?_) | ((with_reducible apply wlS); first | refine hw_store 0 rfl rfl rfl H rfl rfl rfl (by simp) rfl ?_ | refine hw_store 1 rfl rfl rfl H rfl rfl rfl (by simp) rfl ?_ | refine hw_store 2 rfl rfl rfl H rfl rfl rfl (by simp) rfl ?_ | refine hw_store 3 rfl rfl rfl H rfl rfl rfl (by simp) rfl ?_)); clear H; intro w' H; (try simp only [Act.eval, Act.put, Value.cells, segV, seg, segPut, NS, Nat.reduceAdd] at H)) | ((with_reducible apply wlL); (first | apply hw_load 0 rfl rfl H rfl | apply hw_load 1 rfl rfl H rfl | apply hw_load 2 rfl rfl H rfl | apply hw_load 3 rfl rfl H rfl); (focus (simp; done)); (focus (simp only [segV, seg, NS]; rfl))))
        exact ⟨rfl, rfl, [(_, (pd, tDisk, dskC newDsk) :: (Lr ++ Lm))], rfl, .inr ⟨_, rfl⟩, rfl, ⟨_, rfl, rfl⟩, _, by omega, H.perm (by apply perm_count; intro z; simp only [NwL, List.count_append, List.count_cons, List.count_nil]; omega)⟩
      · exact fun st st' hl ha => vq_adv (by omega) ha
      (try simp only [Act.put, List.setIfInBounds_toArray, List.set_cons_zero, List.set_cons_succ])
      apply detG_op (by decide) (V := fun st => .agg #[.pointer none, vq st 0, .int .i64 0, .int .i64 0]) (h := ?_) (hp := ?_) (hr := ?_)
      · rintro st hlv w' ⟨hF, s1, hs1, H⟩
        obtain ⟨pd, hv⟩ := hF.v0 hlv
        simp only [hv]
        go_wp2_with (first | ((first | ((with_reducible apply wlB); refine hw_box rfl rfl H ?_) | ((with_reducible apply wlA); refine hw_alloc rfl H ?_) | ((with_reducible apply wlS); first | refine hw_store 0 rfl rfl rfl H rfl rfl rfl (by simp) rfl ?_ | refine hw_store 1 rfl rfl rfl H rfl rfl rfl (by simp) rfl ?_ | refine hw_store 2 rfl rfl rfl H rfl rfl rfl (by simp) rfl ?_ | refine hw_store 3 rfl rfl rfl H rfl rfl rfl (by simp) rfl ?_)); clear H; intro w' H; (try simp only [Act.eval, Act.put, Value.cells, segV, seg, segPut, NS, Nat.reduceAdd] at H)) | ((with_reducible apply wlL); (first | apply hw_load 0 rfl rfl H rfl | apply hw_load 1 rfl rfl H rfl | apply hw_load 2 rfl rfl H rfl | apply hw_load 3 rfl rfl H rfl); (focus (simp; done)); (focus (simp only [segV, seg, NS]; rfl))))
        exact ⟨rfl, rfl, rfl, hF, _, by omega, H⟩
      · intro st st' hl ha
        show Value.agg _ = Value.agg _
        rw [vq_adv hl ha]
      (try simp only [Act.put, List.setIfInBounds_toArray, List.set_cons_zero, List.set_cons_succ])
      apply stgG_op (q := 1) (V := fun st => vq st 1) rfl (nthN (by decide) rfl) (h := ?_) (hp := ?_) (hr := ?_)
      · rintro st hlv w' ⟨hF, s1, hs1, H⟩
        obtain ⟨pd, rfl⟩ := hF.l1 hlv
        simp only [NwL, show ∀ (u : Value) (L : List Bk), vq [(u, L)] 0 = u from fun _ _ => rfl] at H ⊢
        go_wp2_with (first | ((first | ((with_reducible apply wlB); refine hw_box rfl rfl H ?_) | ((with_reducible apply wlA); refine hw_alloc rfl H ?_) | ((with_reducible apply wlS); first | refine hw_store 0 rfl rfl rfl H rfl rfl rfl (by simp) rfl ?_ | refine hw_store 1 rfl rfl rfl H rfl rfl rfl (by simp) rfl ?_ | refine hw_store 2 rfl rfl rfl H rfl rfl rfl (by simp) rfl ?_ | refine hw_store 3 rfl rfl rfl H rfl rfl rfl (by simp) rfl ?_)); clear H; intro w' H; (try simp only [Act.eval, Act.put, Value.cells, segV, seg, segPut, NS, Nat.reduceAdd] at H)) | ((with_reducible apply wlL); (first | apply hw_load 0 rfl rfl H rfl | apply hw_load 1 rfl rfl H rfl | apply hw_load 2 rfl rfl H rfl | apply hw_load 3 rfl rfl H rfl); (focus (simp; done)); (focus (simp only [segV, seg, NS]; rfl))))
        exact ⟨rfl, rfl, [(_, (s1, tMem, rawC pd) :: (pd, tDisk, dskC newDsk) :: (Lr ++ Lm)), _], rfl, .inr ⟨_, rfl⟩, rfl, ⟨_, _, rfl, rfl, rfl⟩, _, by omega, H.perm pNw3⟩
      · exact fun st st' hl ha => vq_adv (by omega) ha
      (try simp only [Act.put, List.setIfInBounds_toArray, List.set_cons_zero, List.set_cons_succ])
      apply stgG_op (q := 2) (V := fun st => vq st 2) rfl (nthN (by decide) rfl) (h := ?_) (hp := ?_) (hr := ?_)
      · rintro st hlv w' ⟨hF, s1, hs1, H⟩
        obtain ⟨pd, pm, Y, rfl⟩ := hF.l2 hlv
        simp only [NwL, show ∀ (u v : Value) (L L' : List Bk), vq [(u, L), (v, L')] 1 = u from fun _ _ _ _ => rfl] at H ⊢
        go_wp2_with (first | ((with_reducible show wpList _ _ _ (⟨_, .buildSlice _ 1 _, _, _, _, _⟩ :: _) _ _); refine hw_build1 (e := tMemP) (size := 1) rfl rfl rfl rfl (by decide) H ?_; clear H; intro w' H; (try simp only [Act.eval, Act.put, Value.cells, segV, seg, segPut, NS, Nat.reduceAdd] at H)))
        exact ⟨rfl, rfl, [(_, (s1, tMemP, #[pV pm]) :: (pm, tMem, rawC pd) :: (pd, tDisk, dskC newDsk) :: (Lr ++ Lm)), _, _], rfl, .inr ⟨_, rfl⟩, rfl, ⟨_, _, _, rfl, rfl, rfl, rfl⟩, _, by omega, H.perm (by apply perm_count; intro z; simp only [NwL, List.count_append, List.count_cons, List.count_nil]; omega)⟩
      · exact fun st st' hl ha => vq_adv (by omega) ha
      (try simp only [Act.put, List.setIfInBounds_toArray, List.set_cons_zero, List.set_cons_succ])
      apply stgG_op (q := 3) (V := fun st => vq st 3) rfl (nthN (by decide) rfl) (h := ?_) (hp := ?_) (hr := ?_)
      · rintro st hlv w' ⟨hF, s1, hs1, H⟩
        obtain ⟨pd, pm, bs, Y, Z, rfl⟩ := hF.l3 hlv
        simp only [NwL, show ∀ (u v t : Value) (L L' L2 : List Bk), vq [(u, L), (v, L'), (t, L2)] 2 = u from fun _ _ _ _ _ _ => rfl] at H ⊢
        go_wp2_with (first | ((with_reducible show wpList _ _ _ (⟨_, .call { callee := .builtin .append, args := _, argTypes := _ }, _, _, _, _⟩ :: _) _ _); (apply hw_append (L0 := _) rfl rfl rfl H hR pNw rfl (fun h => by cases h) (cells_of (n := 1) (H.blk (bs, tMemP, #[pV pm]) (by simp)) rfl) rfl (Nat.le_trans (m := 1000) (by omega) (by decide)) (by omega)); clear H; intro v' w' sz' L1' hle HG' hnil H; obtain ⟨A', c', rfl⟩ := HG'.isSl; (try simp only [Act.eval, Act.put, Value.cells, segV, seg, segPut, NS, Nat.reduceAdd] at H)))
        exact ⟨rfl, rfl, [(_, (pm, tMem, rawC pd) :: (pd, tDisk, dskC newDsk) :: (Lm ++ L1')), _, _, _], rfl, .inr ⟨_, rfl⟩, rfl, ⟨_, _, _, rfl, HG', rfl⟩, _, by omega, (H.perm pNw2).drop1⟩
      · exact fun st st' hl ha => vq_adv (by omega) ha
      (try simp only [Act.put, List.setIfInBounds_toArray, List.set_cons_zero, List.set_cons_succ])
      rintro st w' hl ⟨hF, s5, hs5, H⟩
      obtain ⟨pd, pm, u, Lr', Y, Z, V, rfl, hG⟩ := hF.l4 hl
      simp only [NwL, show ∀ (u : Value) (L : List Bk) (Y Z V : Value × List Bk), vq [(u, L), Y, Z, V] 3 = u from fun _ _ _ _ _ => rfl, List.nil_append] at H ⊢
      obtain ⟨A', c', rfl⟩ := GL.isSl hG
      go_wp2_with (first | ((with_reducible apply wlS); refine hw_store 0 rfl rfl rfl H rfl rfl rfl (by simp) rfl ?_; clear H; intro w' H; (try simp only [Act.eval, Act.put, Value.cells, segV, seg, segPut, NS, Nat.reduceAdd] at H)))
      have hM' : MemsAt (List.replicate (k + 1) (.raw newDsk)) (ps ++ [pm]) (Lm ++ [(pm, tMem, rawC pd), (pd, tDisk, dskC newDsk)]) := by
        rw [List.replicate_succ']
        exact hM.snoc ⟨pd, rfl⟩
      exact ⟨⟨k + 1, _, _, ps ++ [pm], Lr', _, by omega, rfl, by rw [List.map_append]; exact hG, hM', H.perm pNw4⟩, by simp [intOf]; omega⟩
    · obtain rfl : k = n := by omega
      go_wp2_with (first | ((first | ((with_reducible apply wlB); refine hw_box rfl rfl H ?_) | ((with_reducible apply wlA); refine hw_alloc rfl H ?_) | ((with_reducible apply wlS); first | refine hw_store 0 rfl rfl rfl H rfl rfl rfl (by simp) rfl ?_ | refine hw_store 1 rfl rfl rfl H rfl rfl rfl (by simp) rfl ?_ | refine hw_store 2 rfl rfl rfl H rfl rfl rfl (by simp) rfl ?_ | refine hw_store 3 rfl rfl rfl H rfl rfl rfl (by simp) rfl ?_)); clear H; intro w' H; (try simp only [Act.eval, Act.put, Value.cells, segV, seg, segPut, NS, Nat.reduceAdd] at H)) | ((with_reducible apply wlL); (first | apply hw_load 0 rfl rfl H rfl | apply hw_load 1 rfl rfl H rfl | apply hw_load 2 rfl rfl H rfl | apply hw_load 3 rfl rfl H rfl); (focus (simp; done)); (focus (simp only [segV, seg, NS]; rfl))))
      obtain rfl := HPS.out
      go_loopw [50] (fun i wr => ∃ (j sz : Nat) (vh : Value) (Lm Lh : List Bk), j ≤ ps.length ∧ i = .int .i64 j ∧ MemsAt (memsK ps.length f B' d'' r j) ps Lm ∧ GL tEv 15 vh (histK ps.length f B' r j).length ((histK ps.length f B' r j).flatMap encE) Lh ∧ Hp NoS w wr sz ((pc, tClu, cluC f (.slice Av ps.length cv) (pV pg) vh) :: (pg, tBag, bagC ⟨65536, 0, []⟩ (.slice none 0 0)) :: (Lr ++ (Lm ++ Lh))) []) (fun i _ => ps.length - (intOf i).toNat)
      case atStart => exact ⟨0, _, .slice none 0 0, Lm, [], Nat.zero_le _, rfl, by simpa [memsK] using hM, .nil, by simpa using H⟩
      case round =>
        clear H hM
        obtain ⟨j, sz, vh, Lm, Lh, hj, rfl, hM, hH, H⟩ := hrel
        by_cases hlt : j < ps.length
        · rw [memsK_eq _ _ _ _ _ _ hlt] at hM
          obtain ⟨qs, p, qs', La, Le, Lb, e1, e2, ⟨pd, rfl⟩, rfl, hA, hC⟩ := hM.mid
          have hp : ps[j]? = some p := by rw [e2, List.getElem?_append_right (by rw [e1]; simp), e1]; simp
          have E2 := Lib.hid e2
          clear e2
          go_wp2_with (first | ((first | ((with_reducible apply wlB); refine hw_box rfl rfl H ?_) | ((with_reducible apply wlA); refine hw_alloc rfl H ?_) | ((with_reducible apply wlS); first | refine hw_store 0 rfl rfl rfl H rfl rfl rfl (by simp) rfl ?_ | refine hw_store 1 rfl rfl rfl H rfl rfl rfl (by simp) rfl ?_ | refine hw_store 2 rfl rfl rfl H rfl rfl rfl (by simp) rfl ?_ | refine hw_store 3 rfl rfl rfl H rfl rfl rfl (by simp) rfl ?_)); clear H; intro w' H; (try simp only [Act.eval, Act.put, Value.cells, segV, seg, segPut, NS, Nat.reduceAdd] at H)) | ((with_reducible apply wlL); (first | apply hw_load 0 rfl rfl H rfl | apply hw_load 1 rfl rfl H rfl | apply hw_load 2 rfl rfl H rfl | apply hw_load 3 rfl rfl H rfl); (focus (simp; done)); (focus (simp only [segV, seg, NS]; rfl))))
          refine (open_raw (Lx := (pg, tBag, bagC ⟨65536, 0, []⟩ (.slice none 0 0)) :: (La ++ Lb)) hR hp hH (hok j hlt) (by rw [histK_len]; omega) (H.part (Lb := []) pNw5)).mono ?_; rintro e w' ⟨s4, vh', Lh', pn, pl, L1, rfl, hLA, hH', H1⟩; obtain ⟨hs4, H⟩ := H.join (Lb := []) pNw5 H1; clear H1
          go_wp2
          have hM' : MemsAt (memsK ps.length f B' d'' r (j + 1)) ps (La ++ (((p, tMem, #[pV pn, pV pd, .int .i64 B'.rec_.life, .int .i64 1]) :: (pn, tNode, #[pV pl]) :: L1) ++ Lb)) := by
            have := hA.append (.cons (m := liveM ps.length f B' d'' r j) (p := p) ⟨pd, pn, pl, L1, hLA, rfl⟩ hC)
            rw [← E2.out] at this
            rw [memsK_succ _ _ _ _ _ _ hlt]
            exact this
          exact ⟨⟨j + 1, _, vh', _, Lh', by omega, rfl, hM', hH'.cast (by rw [histK_len, histK_len]) (by rw [histK_succ, List.flatMap_append]), H.perm pNw6⟩, by simp [intOf]; omega⟩
        · obtain rfl : j = ps.length := by omega
          go_wp2_with (first | ((first | ((with_reducible apply wlB); refine hw_box rfl rfl H ?_) | ((with_reducible apply wlA); refine hw_alloc rfl H ?_) | ((with_reducible apply wlS); first | refine hw_store 0 rfl rfl rfl H rfl rfl rfl (by simp) rfl ?_ | refine hw_store 1 rfl rfl rfl H rfl rfl rfl (by simp) rfl ?_ | refine hw_store 2 rfl rfl rfl H rfl rfl rfl (by simp) rfl ?_ | refine hw_store 3 rfl rfl rfl H rfl rfl rfl (by simp) rfl ?_)); clear H; intro w' H; (try simp only [Act.eval, Act.put, Value.cells, segV, seg, segPut, NS, Nat.reduceAdd] at H)) | ((with_reducible apply wlL); (first | apply hw_load 0 rfl rfl H rfl | apply hw_load 1 rfl rfl H rfl | apply hw_load 2 rfl rfl H rfl | apply hw_load 3 rfl rfl H rfl); (focus (simp; done)); (focus (simp only [segV, seg, NS]; rfl))))
          have hO : CluAt ⟨f, memsK ps.length f B' d'' r ps.length, ⟨65536, 0, []⟩, histK ps.length f B' r ps.length⟩ pc ((pc, tClu, cluC f (.slice Av ps.length cv) (pV pg) vh) :: (Lr ++ (Lm ++ ([(pg, tBag, bagC ⟨65536, 0, []⟩ (.slice none 0 0))] ++ Lh)))) :=
            ⟨pg, _, vh, ps, Lr, Lm, [(pg, tBag, bagC ⟨65536, 0, []⟩ (.slice none 0 0))], Lh, by rw [memsK_len _ _ _ _ _ _ (Nat.le_refl _)]; exact hR, hM, ⟨_, [], [], [], .nil, .nil, rfl⟩, hH, rfl⟩
          exact bodyPost_ret (res2 rfl (rv_tmp rfl) (rv_tmp rfl)) rfl ⟨_, _, rfl, _, hO, H.perm pNw7⟩
end
end Go.Proofs.YtccgpjhgfjfaoaaGreatDoor
/- cluster: an empty one, and none at all. -/
namespace Go.Proofs.YtccgpjhgfjfaoaaGreatDoor
open Go.RowKit Go.Shelf
attribute [local go_sem] Oper.semAt_some

abbrev zeroClu : Array Value := #[.int .i64 0, .slice none 0 0, .pointer none, .slice none 0 0]
def NoneC (w : World) (v : Value) : Prop := v = .pointer none ∨ ∃ pc, v = pV pc ∧ Blk w pc tClu zeroClu
theorem NoneC.keep {S : Nat → Prop} {w w' : World} {v : Value} (h : NoneC w v) (K : Keeps S w w') (hs : ∀ b, v = pV b → ¬ S b) : NoneC w' v := by
  rcases h with h | ⟨pc, h, hB⟩
  · exact .inl h
  · exact .inr ⟨pc, h, K.blk hB (hs pc h)⟩
section
variable {w : World} {v : Value}
set_option maxRecDepth 100000 in
set_option maxHeartbeats 2000000 in
theorem cSize_none (h : NoneC w v) : Calls Tryz.prog 10 #[v] w (Ret (.int .i64 0) w) := by
  rcases h with rfl | ⟨pc, rfl, hB⟩
  · go_enter Tryz.func10, Tryz.ntmps10
    have H := Hp.start NoS w
    go_wp2_with (first | ((first | ((with_reducible apply wlB); refine hw_box rfl rfl H ?_) | ((with_reducible apply wlA); refine hw_alloc rfl H ?_) | ((with_reducible apply wlS); first | refine hw_store 0 rfl rfl rfl H rfl rfl rfl (by simp) rfl ?_ | refine hw_store 1 rfl rfl rfl H rfl rfl rfl (by simp) rfl ?_ | refine hw_store 2 rfl rfl rfl H rfl rfl rfl (by simp) rfl ?_ | refine hw_store 3 rfl rfl rfl H rfl rfl rfl (by simp) rfl ?_)); clear H; intro w' H; (try simp only [Act.eval, Act.put, Value.cells, segV, seg, segPut, NS, Nat.reduceAdd] at H)) | ((with_reducible apply wlL); (first | apply hw_load 0 rfl rfl H rfl | apply hw_load 1 rfl rfl H rfl | apply hw_load 2 rfl rfl H rfl | apply hw_load 3 rfl rfl H rfl); (focus (simp; done)); (focus (simp only [segV, seg, NS]; rfl))))
    exact bodyPost_ret (res1 rfl (rv_tmp rfl)) rfl ⟨rfl, H.ret⟩
  · go_enter Tryz.func10, Tryz.ntmps10
    have H := (Hp.start NoS w).addR hB id
    go_wp2_with (first | ((with_reducible apply wlL); apply hw_loadR 0 rfl rfl H rfl; (focus (simp; done)); (focus (simp only [segV, seg, NS]; rfl))))
    exact bodyPost_ret (res1 rfl (rv_tmp rfl)) rfl ⟨rfl, H.ret⟩
set_option maxRecDepth 100000 in
set_option maxHeartbeats 2000000 in
theorem cFaults_none (h : NoneC w v) : Calls Tryz.prog 11 #[v] w (Ret (.int .i64 0) w) := by
  rcases h with rfl | ⟨pc, rfl, hB⟩
  · go_enter Tryz.func11, Tryz.ntmps11
    have H := Hp.start NoS w
    go_wp2_with (first | ((first | ((with_reducible apply wlB); refine hw_box rfl rfl H ?_) | ((with_reducible apply wlA); refine hw_alloc rfl H ?_) | ((with_reducible apply wlS); first | refine hw_store 0 rfl rfl rfl H rfl rfl rfl (by simp) rfl ?_ | refine hw_store 1 rfl rfl rfl H rfl rfl rfl (by simp) rfl ?_ | refine hw_store 2 rfl rfl rfl H rfl rfl rfl (by simp) rfl ?_ | refine hw_store 3 rfl rfl rfl H rfl rfl rfl (by simp) rfl ?_)); clear H; intro w' H; (try simp only [Act.eval, Act.put, Value.cells, segV, seg, segPut, NS, Nat.reduceAdd] at H)) | ((with_reducible apply wlL); (first | apply hw_load 0 rfl rfl H rfl | apply hw_load 1 rfl rfl H rfl | apply hw_load 2 rfl rfl H rfl | apply hw_load 3 rfl rfl H rfl); (focus (simp; done)); (focus (simp only [segV, seg, NS]; rfl))))
    exact bodyPost_ret (res1 rfl (rv_tmp rfl)) rfl ⟨rfl, H.ret⟩
  · go_enter Tryz.func11, Tryz.ntmps11
    have H := (Hp.start NoS w).addR hB id
    go_wp2_with (first | ((with_reducible apply wlL); apply hw_loadR 0 rfl rfl H rfl; (focus (simp; done)); (focus (simp only [segV, seg, NS]; rfl))))
    exact bodyPost_ret (res1 rfl (rv_tmp rfl)) rfl ⟨rfl, H.ret⟩
set_option maxRecDepth 100000 in
set_option maxHeartbeats 2000000 in
theorem gRoom_nil (w : World) : Calls Tryz.prog 24 #[.pointer none] w (Ret (.int .i64 0) w) := by
  go_enter Tryz.func24, Tryz.ntmps24
  have H := Hp.start NoS w
  go_wp2_with (first | ((first | ((with_reducible apply wlB); refine hw_box rfl rfl H ?_) | ((with_reducible apply wlA); refine hw_alloc rfl H ?_) | ((with_reducible apply wlS); first | refine hw_store 0 rfl rfl rfl H rfl rfl rfl (by simp) rfl ?_ | refine hw_store 1 rfl rfl rfl H rfl rfl rfl (by simp) rfl ?_ | refine hw_store 2 rfl rfl rfl H rfl rfl rfl (by simp) rfl ?_ | refine hw_store 3 rfl rfl rfl H rfl rfl rfl (by simp) rfl ?_)); clear H; intro w' H; (try simp only [Act.eval, Act.put, Value.cells, segV, seg, segPut, NS, Nat.reduceAdd] at H)) | ((with_reducible apply wlL); (first | apply hw_load 0 rfl rfl H rfl | apply hw_load 1 rfl rfl H rfl | apply hw_load 2 rfl rfl H rfl | apply hw_load 3 rfl rfl H rfl); (focus (simp; done)); (focus (simp only [segV, seg, NS]; rfl))))
  exact bodyPost_ret (res1 rfl (rv_tmp rfl)) rfl ⟨rfl, H.ret⟩
set_option maxRecDepth 100000 in
set_option maxHeartbeats 2000000 in
theorem cRoom_none (h : NoneC w v) : Calls Tryz.prog 12 #[v] w (Ret (.int .i64 0) w) := by
  rcases h with rfl | ⟨pc, rfl, hB⟩
  · go_enter Tryz.func12, Tryz.ntmps12
    have H := Hp.start NoS w
    go_wp2_with (first | ((first | ((with_reducible apply wlB); refine hw_box rfl rfl H ?_) | ((with_reducible apply wlA); refine hw_alloc rfl H ?_) | ((with_reducible apply wlS); first | refine hw_store 0 rfl rfl rfl H rfl rfl rfl (by simp) rfl ?_ | refine hw_store 1 rfl rfl rfl H rfl rfl rfl (by simp) rfl ?_ | refine hw_store 2 rfl rfl rfl H rfl rfl rfl (by simp) rfl ?_ | refine hw_store 3 rfl rfl rfl H rfl rfl rfl (by simp) rfl ?_)); clear H; intro w' H; (try simp only [Act.eval, Act.put, Value.cells, segV, seg, segPut, NS, Nat.reduceAdd] at H)) | ((with_reducible apply wlL); (first | apply hw_load 0 rfl rfl H rfl | apply hw_load 1 rfl rfl H rfl | apply hw_load 2 rfl rfl H rfl | apply hw_load 3 rfl rfl H rfl); (focus (simp; done)); (focus (simp only [segV, seg, NS]; rfl))))
    exact bodyPost_ret (res1 rfl (rv_tmp rfl)) rfl ⟨rfl, H.ret⟩
  · go_enter Tryz.func12, Tryz.ntmps12
    have H := (Hp.start NoS w).addR hB id
    go_wp2_with (first | ((with_reducible apply wlL); apply hw_loadR 0 rfl rfl H rfl; (focus (simp; done)); (focus (simp only [segV, seg, NS]; rfl))))
    refine (gRoom_nil _).mono ?_; rintro e w' ⟨rfl, hb⟩; obtain ⟨s1, hs1, H⟩ := H.call hb; clear hb
    go_wp2_with (first | ((with_reducible apply wlL); apply hw_loadR 0 rfl rfl H rfl; (focus (simp; done)); (focus (simp only [segV, seg, NS]; rfl))))
    exact bodyPost_ret (res1 rfl (rv_tmp rfl)) rfl ⟨rfl, H.ret⟩
set_option maxRecDepth 100000 in
set_option maxHeartbeats 2000000 in
theorem cHistory_none (h : NoneC w v) : Calls Tryz.prog 14 #[v] w (Ret (.slice none 0 0) w) := by
  rcases h with rfl | ⟨pc, rfl, hB⟩
  · go_enter Tryz.func14, Tryz.ntmps14
    have H := Hp.start NoS w
    go_wp2_with (first | ((first | ((with_reducible apply wlB); refine hw_box rfl rfl H ?_) | ((with_reducible apply wlA); refine hw_alloc rfl H ?_) | ((with_reducible apply wlS); first | refine hw_store 0 rfl rfl rfl H rfl rfl rfl (by simp) rfl ?_ | refine hw_store 1 rfl rfl rfl H rfl rfl rfl (by simp) rfl ?_ | refine hw_store 2 rfl rfl rfl H rfl rfl rfl (by simp) rfl ?_ | refine hw_store 3 rfl rfl rfl H rfl rfl rfl (by simp) rfl ?_)); clear H; intro w' H; (try simp only [Act.eval, Act.put, Value.cells, segV, seg, segPut, NS, Nat.reduceAdd] at H)) | ((with_reducible apply wlL); (first | apply hw_load 0 rfl rfl H rfl | apply hw_load 1 rfl rfl H rfl | apply hw_load 2 rfl rfl H rfl | apply hw_load 3 rfl rfl H rfl); (focus (simp; done)); (focus (simp only [segV, seg, NS]; rfl))))
    exact bodyPost_ret (res1 rfl (rv_tmp rfl)) rfl ⟨rfl, H.ret⟩
  · go_enter Tryz.func14, Tryz.ntmps14
    have H := (Hp.start NoS w).addR hB id
    go_wp2_with (first | ((with_reducible apply wlL); apply hw_loadR 0 rfl rfl H rfl; (focus (simp; done)); (focus (simp only [segV, seg, NS]; rfl))))
    refine (Clone_ev (A := none) (m := 0) (c := 0) (news := []) ⟨rfl, fun _ => ⟨rfl, rfl⟩, (fun _ h => by cases h), rfl⟩ (by omega)).mono ?_; rintro e w' ⟨s4, v4, L4, rfl, hR, hv, H1⟩; obtain ⟨hs4, H⟩ := H.fresh H1; clear H1
    obtain rfl := hv.2 rfl
    go_wp2_with (first | ((with_reducible apply wlL); apply hw_loadR 0 rfl rfl H rfl; (focus (simp; done)); (focus (simp only [segV, seg, NS]; rfl))))
    exact bodyPost_ret (res1 rfl (rv_tmp rfl)) rfl ⟨rfl, H.ret⟩
set_option maxRecDepth 100000 in
set_option maxHeartbeats 2000000 in
theorem cUp_none (h : NoneC w v) : Calls Tryz.prog 15 #[v] w (Ret (setV 0) w) := by
  have hS := cSize_none h
  go_enter Tryz.func15, Tryz.ntmps15
  have H := Hp.start NoS w
  go_wp2_with (first | ((first | ((with_reducible apply wlB); refine hw_box rfl rfl H ?_) | ((with_reducible apply wlA); refine hw_alloc rfl H ?_) | ((with_reducible apply wlS); first | refine hw_store 0 rfl rfl rfl H rfl rfl rfl (by simp) rfl ?_ | refine hw_store 1 rfl rfl rfl H rfl rfl rfl (by simp) rfl ?_ | refine hw_store 2 rfl rfl rfl H rfl rfl rfl (by simp) rfl ?_ | refine hw_store 3 rfl rfl rfl H rfl rfl rfl (by simp) rfl ?_)); clear H; intro w' H; (try simp only [Act.eval, Act.put, Value.cells, segV, seg, segPut, NS, Nat.reduceAdd] at H)) | ((with_reducible apply wlL); (first | apply hw_load 0 rfl rfl H rfl | apply hw_load 1 rfl rfl H rfl | apply hw_load 2 rfl rfl H rfl | apply hw_load 3 rfl rfl H rfl); (focus (simp; done)); (focus (simp only [segV, seg, NS]; rfl))))
  refine (cSize_none (h.keep H.keep (fun _ _ h => h))).mono ?_; rintro e w' ⟨rfl, hb⟩; obtain ⟨s1, hs1, H⟩ := H.call hb; clear hb
  go_wp2_with (first | ((first | ((with_reducible apply wlB); refine hw_box rfl rfl H ?_) | ((with_reducible apply wlA); refine hw_alloc rfl H ?_) | ((with_reducible apply wlS); first | refine hw_store 0 rfl rfl rfl H rfl rfl rfl (by simp) rfl ?_ | refine hw_store 1 rfl rfl rfl H rfl rfl rfl (by simp) rfl ?_ | refine hw_store 2 rfl rfl rfl H rfl rfl rfl (by simp) rfl ?_ | refine hw_store 3 rfl rfl rfl H rfl rfl rfl (by simp) rfl ?_)); clear H; intro w' H; (try simp only [Act.eval, Act.put, Value.cells, segV, seg, segPut, NS, Nat.reduceAdd] at H)) | ((with_reducible apply wlL); (first | apply hw_load 0 rfl rfl H rfl | apply hw_load 1 rfl rfl H rfl | apply hw_load 2 rfl rfl H rfl | apply hw_load 3 rfl rfl H rfl); (focus (simp; done)); (focus (simp only [segV, seg, NS]; rfl))))
  go_loopw [7] (fun i wr => ∃ sz : Nat, i = .int .i64 0 ∧ Hp NoS w wr sz [(w.heap.size + 1, 38, setC 0), (w.heap.size, 38, setC 0)] []) (fun _ _ => 0)
  case atStart => exact ⟨_, rfl, by rw [← setC0]; exact H⟩
  case round =>
    clear H
    obtain ⟨sz, rfl, H⟩ := hrel
    go_wp2_with (first | ((first | ((with_reducible apply wlB); refine hw_box rfl rfl H ?_) | ((with_reducible apply wlA); refine hw_alloc rfl H ?_) | ((with_reducible apply wlS); first | refine hw_store 0 rfl rfl rfl H rfl rfl rfl (by simp) rfl ?_ | refine hw_store 1 rfl rfl rfl H rfl rfl rfl (by simp) rfl ?_ | refine hw_store 2 rfl rfl rfl H rfl rfl rfl (by simp) rfl ?_ | refine hw_store 3 rfl rfl rfl H rfl rfl rfl (by simp) rfl ?_)); clear H; intro w' H; (try simp only [Act.eval, Act.put, Value.cells, segV, seg, segPut, NS, Nat.reduceAdd] at H)) | ((with_reducible apply wlL); (first | apply hw_load 0 rfl rfl H rfl | apply hw_load 1 rfl rfl H rfl | apply hw_load 2 rfl rfl H rfl | apply hw_load 3 rfl rfl H rfl); (focus (simp; done)); (focus (simp only [segV, seg, NS]; rfl))))
    exact bodyPost_ret (res1 rfl (rv_cell 1 rfl H rfl (Nat.le_of_ble_eq_true rfl))) rfl ⟨by simp [segV, seg], H.ret⟩
set_option maxRecDepth 100000 in
set_option maxHeartbeats 2000000 in
theorem cSight_none (h : NoneC w v) (id : Int) : Calls Tryz.prog 5 #[v, .int .i64 id] w (Ret (.tuple #[.agg #[.bool false, .int .i64 0, .int .i64 0, .int .i64 0, .int .u32 0, .int .u32 0, .int .u32 0, .int .u32 0, .int .u32 0, .int .u32 0, .int .u32 0, .int .u32 0, .int .u32 0, .int .u32 0, .int .u32 0, .int .u32 0, .slice none 0 0], .int .i64 30]) w) := by
  rcases (show id < 0 ∨ 0 ≤ id by omega) with hid | hid
  · go_enter Tryz.func5, Tryz.ntmps5
    have H := Hp.start NoS w
    go_wp2_with (first | ((first | ((with_reducible apply wlB); refine hw_box rfl rfl H ?_) | ((with_reducible apply wlA); refine hw_alloc rfl H ?_) | ((with_reducible apply wlS); first | refine hw_store 0 rfl rfl rfl H rfl rfl rfl (by simp) rfl ?_ | refine hw_store 1 rfl rfl rfl H rfl rfl rfl (by simp) rfl ?_ | refine hw_store 2 rfl rfl rfl H rfl rfl rfl (by simp) rfl ?_ | refine hw_store 3 rfl rfl rfl H rfl rfl rfl (by simp) rfl ?_)); clear H; intro w' H; (try simp only [Act.eval, Act.put, Value.cells, segV, seg, segPut, NS, Nat.reduceAdd] at H)) | ((with_reducible apply wlL); (first | apply hw_load 0 rfl rfl H rfl | apply hw_load 1 rfl rfl H rfl | apply hw_load 2 rfl rfl H rfl | apply hw_load 3 rfl rfl H rfl); (focus (simp; done)); (focus (simp only [segV, seg, NS]; rfl))))
    exact bodyPost_ret (res2 rfl (rv_cell 0 rfl H rfl (Nat.le_of_ble_eq_true rfl)) (rv_tmp rfl)) rfl ⟨by simp [segV, seg], H.ret⟩
  · go_enter Tryz.func5, Tryz.ntmps5
    have H := Hp.start NoS w
    go_wp2_with (first | ((first | ((with_reducible apply wlB); refine hw_box rfl rfl H ?_) | ((with_reducible apply wlA); refine hw_alloc rfl H ?_) | ((with_reducible apply wlS); first | refine hw_store 0 rfl rfl rfl H rfl rfl rfl (by simp) rfl ?_ | refine hw_store 1 rfl rfl rfl H rfl rfl rfl (by simp) rfl ?_ | refine hw_store 2 rfl rfl rfl H rfl rfl rfl (by simp) rfl ?_ | refine hw_store 3 rfl rfl rfl H rfl rfl rfl (by simp) rfl ?_)); clear H; intro w' H; (try simp only [Act.eval, Act.put, Value.cells, segV, seg, segPut, NS, Nat.reduceAdd] at H)) | ((with_reducible apply wlL); (first | apply hw_load 0 rfl rfl H rfl | apply hw_load 1 rfl rfl H rfl | apply hw_load 2 rfl rfl H rfl | apply hw_load 3 rfl rfl H rfl); (focus (simp; done)); (focus (simp only [segV, seg, NS]; rfl))))
    refine (cSize_none (h.keep H.keep (fun _ _ h => h))).mono ?_; rintro e w' ⟨rfl, hb⟩; obtain ⟨s1, hs1, H⟩ := H.call hb; clear hb
    go_wp2_with (first | ((first | ((with_reducible apply wlB); refine hw_box rfl rfl H ?_) | ((with_reducible apply wlA); refine hw_alloc rfl H ?_) | ((with_reducible apply wlS); first | refine hw_store 0 rfl rfl rfl H rfl rfl rfl (by simp) rfl ?_ | refine hw_store 1 rfl rfl rfl H rfl rfl rfl (by simp) rfl ?_ | refine hw_store 2 rfl rfl rfl H rfl rfl rfl (by simp) rfl ?_ | refine hw_store 3 rfl rfl rfl H rfl rfl rfl (by simp) rfl ?_)); clear H; intro w' H; (try simp only [Act.eval, Act.put, Value.cells, segV, seg, segPut, NS, Nat.reduceAdd] at H)) | ((with_reducible apply wlL); (first | apply hw_load 0 rfl rfl H rfl | apply hw_load 1 rfl rfl H rfl | apply hw_load 2 rfl rfl H rfl | apply hw_load 3 rfl rfl H rfl); (focus (simp; done)); (focus (simp only [segV, seg, NS]; rfl))))
    exact bodyPost_ret (res2 rfl (rv_cell 0 rfl H rfl (Nat.le_of_ble_eq_true rfl)) (rv_tmp rfl)) rfl ⟨by simp [segV, seg], H.ret⟩
set_option maxRecDepth 100000 in
set_option maxHeartbeats 2000000 in
theorem cDisk_none (h : NoneC w v) (id : Int) : Calls Tryz.prog 6 #[v, .int .i64 id] w (Ret (.tuple #[.slice none 0 0, .int .i64 30]) w) := by
  rcases (show id < 0 ∨ 0 ≤ id by omega) with hid | hid
  · go_enter Tryz.func6, Tryz.ntmps6
    have H := Hp.start NoS w
    go_wp2_with (first | ((first | ((with_reducible apply wlB); refine hw_box rfl rfl H ?_) | ((with_reducible apply wlA); refine hw_alloc rfl H ?_) | ((with_reducible apply wlS); first | refine hw_store 0 rfl rfl rfl H rfl rfl rfl (by simp) rfl ?_ | refine hw_store 1 rfl rfl rfl H rfl rfl rfl (by simp) rfl ?_ | refine hw_store 2 rfl rfl rfl H rfl rfl rfl (by simp) rfl ?_ | refine hw_store 3 rfl rfl rfl H rfl rfl rfl (by simp) rfl ?_)); clear H; intro w' H; (try simp only [Act.eval, Act.put, Value.cells, segV, seg, segPut, NS, Nat.reduceAdd] at H)) | ((with_reducible apply wlL); (first | apply hw_load 0 rfl rfl H rfl | apply hw_load 1 rfl rfl H rfl | apply hw_load 2 rfl rfl H rfl | apply hw_load 3 rfl rfl H rfl); (focus (simp; done)); (focus (simp only [segV, seg, NS]; rfl))))
    exact bodyPost_ret (res2 rfl (rv_tmp rfl) (rv_tmp rfl)) rfl ⟨rfl, H.ret⟩
  · go_enter Tryz.func6, Tryz.ntmps6
    have H := Hp.start NoS w
    go_wp2_with (first | ((first | ((with_reducible apply wlB); refine hw_box rfl rfl H ?_) | ((with_reducible apply wlA); refine hw_alloc rfl H ?_) | ((with_reducible apply wlS); first | refine hw_store 0 rfl rfl rfl H rfl rfl rfl (by simp) rfl ?_ | refine hw_store 1 rfl rfl rfl H rfl rfl rfl (by simp) rfl ?_ | refine hw_store 2 rfl rfl rfl H rfl rfl rfl (by simp) rfl ?_ | refine hw_store 3 rfl rfl rfl H rfl rfl rfl (by simp) rfl ?_)); clear H; intro w' H; (try simp only [Act.eval, Act.put, Value.cells, segV, seg, segPut, NS, Nat.reduceAdd] at H)) | ((with_reducible apply wlL); (first | apply hw_load 0 rfl rfl H rfl | apply hw_load 1 rfl rfl H rfl | apply hw_load 2 rfl rfl H rfl | apply hw_load 3 rfl rfl H rfl); (focus (simp; done)); (focus (simp only [segV, seg, NS]; rfl))))
    refine (cSize_none (h.keep H.keep (fun _ _ h => h))).mono ?_; rintro e w' ⟨rfl, hb⟩; obtain ⟨s1, hs1, H⟩ := H.call hb; clear hb
    go_wp2_with (first | ((first | ((with_reducible apply wlB); refine hw_box rfl rfl H ?_) | ((with_reducible apply wlA); refine hw_alloc rfl H ?_) | ((with_reducible apply wlS); first | refine hw_store 0 rfl rfl rfl H rfl rfl rfl (by simp) rfl ?_ | refine hw_store 1 rfl rfl rfl H rfl rfl rfl (by simp) rfl ?_ | refine hw_store 2 rfl rfl rfl H rfl rfl rfl (by simp) rfl ?_ | refine hw_store 3 rfl rfl rfl H rfl rfl rfl (by simp) rfl ?_)); clear H; intro w' H; (try simp only [Act.eval, Act.put, Value.cells, segV, seg, segPut, NS, Nat.reduceAdd] at H)) | ((with_reducible apply wlL); (first | apply hw_load 0 rfl rfl H rfl | apply hw_load 1 rfl rfl H rfl | apply hw_load 2 rfl rfl H rfl | apply hw_load 3 rfl rfl H rfl); (focus (simp; done)); (focus (simp only [segV, seg, NS]; rfl))))
    exact bodyPost_ret (res2 rfl (rv_tmp rfl) (rv_tmp rfl)) rfl ⟨rfl, H.ret⟩
set_option maxRecDepth 100000 in
set_option maxHeartbeats 2000000 in
theorem cLeft_none (h : NoneC w v) (id : Int) : Calls Tryz.prog 7 #[v, .int .i64 id] w (Ret (.tuple #[.int .i64 0, .int .i64 30]) w) := by
  rcases (show id < 0 ∨ 0 ≤ id by omega) with hid | hid
  · go_enter Tryz.func7, Tryz.ntmps7
    have H := Hp.start NoS w
    go_wp2_with (first | ((first | ((with_reducible apply wlB); refine hw_box rfl rfl H ?_) | ((with_reducible apply wlA); refine hw_alloc rfl H ?_) | ((with_reducible apply wlS); first | refine hw_store 0 rfl rfl rfl H rfl rfl rfl (by simp) rfl ?_ | refine hw_store 1 rfl rfl rfl H rfl rfl rfl (by simp) rfl ?_ | refine hw_store 2 rfl rfl rfl H rfl rfl rfl (by simp) rfl ?_ | refine hw_store 3 rfl rfl rfl H rfl rfl rfl (by simp) rfl ?_)); clear H; intro w' H; (try simp only [Act.eval, Act.put, Value.cells, segV, seg, segPut, NS, Nat.reduceAdd] at H)) | ((with_reducible apply wlL); (first | apply hw_load 0 rfl rfl H rfl | apply hw_load 1 rfl rfl H rfl | apply hw_load 2 rfl rfl H rfl | apply hw_load 3 rfl rfl H rfl); (focus (simp; done)); (focus (simp only [segV, seg, NS]; rfl))))
    exact bodyPost_ret (res2 rfl (rv_tmp rfl) (rv_tmp rfl)) rfl ⟨rfl, H.ret⟩
  · go_enter Tryz.func7, Tryz.ntmps7
    have H := Hp.start NoS w
    go_wp2_with (first | ((first | ((with_reducible apply wlB); refine hw_box rfl rfl H ?_) | ((with_reducible apply wlA); refine hw_alloc rfl H ?_) | ((with_reducible apply wlS); first | refine hw_store 0 rfl rfl rfl H rfl rfl rfl (by simp) rfl ?_ | refine hw_store 1 rfl rfl rfl H rfl rfl rfl (by simp) rfl ?_ | refine hw_store 2 rfl rfl rfl H rfl rfl rfl (by simp) rfl ?_ | refine hw_store 3 rfl rfl rfl H rfl rfl rfl (by simp) rfl ?_)); clear H; intro w' H; (try simp only [Act.eval, Act.put, Value.cells, segV, seg, segPut, NS, Nat.reduceAdd] at H)) | ((with_reducible apply wlL); (first | apply hw_load 0 rfl rfl H rfl | apply hw_load 1 rfl rfl H rfl | apply hw_load 2 rfl rfl H rfl | apply hw_load 3 rfl rfl H rfl); (focus (simp; done)); (focus (simp only [segV, seg, NS]; rfl))))
    refine (cSize_none (h.keep H.keep (fun _ _ h => h))).mono ?_; rintro e w' ⟨rfl, hb⟩; obtain ⟨s1, hs1, H⟩ := H.call hb; clear hb
    go_wp2_with (first | ((first | ((with_reducible apply wlB); refine hw_box rfl rfl H ?_) | ((with_reducible apply wlA); refine hw_alloc rfl H ?_) | ((with_reducible apply wlS); first | refine hw_store 0 rfl rfl rfl H rfl rfl rfl (by simp) rfl ?_ | refine hw_store 1 rfl rfl rfl H rfl rfl rfl (by simp) rfl ?_ | refine hw_store 2 rfl rfl rfl H rfl rfl rfl (by simp) rfl ?_ | refine hw_store 3 rfl rfl rfl H rfl rfl rfl (by simp) rfl ?_)); clear H; intro w' H; (try simp only [Act.eval, Act.put, Value.cells, segV, seg, segPut, NS, Nat.reduceAdd] at H)) | ((with_reducible apply wlL); (first | apply hw_load 0 rfl rfl H rfl | apply hw_load 1 rfl rfl H rfl | apply hw_load 2 rfl rfl H rfl | apply hw_load 3 rfl rfl H rfl); (focus (simp; done)); (focus (simp only [segV, seg, NS]; rfl))))
    exact bodyPost_ret (res2 rfl (rv_tmp rfl) (rv_tmp rfl)) rfl ⟨rfl, H.ret⟩
end
end Go.Proofs.YtccgpjhgfjfaoaaGreatDoor
/- A map of the call's own, keyed by ints. -/
namespace Go.Proofs.YtccgpjhgfjfaoaaGreatDoor
open Go.RowKit

section
variable {S : Nat → Prop} {w0 w w' : World} {sz : Nat} {L R : List Bk} {v : Value}
variable {P : Program} {ops : Array Oper} {Q : Exit → Act → World → Prop} {rest : List Oper} {a : Act} {d : Tmp} {ty t k e : TypeId} {pos : String} {after : Array Edge} {g : Option (Nat × Bool)}
theorem Hp.allocObj (H : Hp S w0 w sz L R) (o : Obj) : ∃ sz', Hp S w0 (w.alloc o) sz' L R ∧ (w.alloc o).heap[sz]? = some o := by
  obtain ⟨sz', H'⟩ := H.stable (Keeps.of_below NoS ((Below.refl _ w).alloc (Nat.le_refl _) o))
  refine ⟨sz', H', ?_⟩
  have := World.alloc_heap_new w o
  rwa [H.size] at this
theorem hw_makeMap (hg : Region.wanted ⟨some d, .makeMap t none, ty, pos, after, g⟩ (yielded ops a.tmps) = true) (H : Hp S w0 w sz L R)
    (h : ∀ w' sz', Hp S w0 w' sz' L R → w'.heap[sz]? = some (.map #[] 0) → w0.heap.size ≤ sz → wpList P ops Q rest (a.put (some d) (.map (some sz))) w') : wpList P ops Q (⟨some d, .makeMap t none, ty, pos, after, g⟩ :: rest) a w := by
  refine wpList_step fun K hK => ?_
  rw [if_pos hg]
  unfold Oper.wp
  obtain ⟨sz', H', hm⟩ := H.allocObj (.map #[] 0)
  have hr : (Instr.makeMap t none).run P w = .ok (.map (some sz)) (w.alloc (.map #[] 0)) := by
    unfold Instr.makeMap
    simp [newObj, Sem.run, Result.andThen, H.size]
  simp only [execOp, Option.map_none, hr, Sem.run_bind, Sem.run_pure, Result.andThen, Oper.upon]
  exact hK _ _ (h _ _ H' hm (by have := H.keep.size; rw [H.size] at this; exact this))
theorem run_update {es : Array MapEntry} {n : Nat} {r : Nat} {x : Int} (hu : P.underlying t = some (.map k e)) (hk : P.underlying k = some (.int .i64)) (hm : w.heap[r]? = some (.map es n)) (hf : Instr.findNow (.int .i64) (.int .i64 x) es.toList 0 = some none) :
    (Instr.mapUpdate t (.map (some r)) (.int .i64 x) v).run P w = .ok () (w.putObj r (.map (es.push { key := .int .i64 x, val := v, born := n }) (n + 1))) := by
  have hck : (Instr.checkKey false 10000 k (.int .i64 x)).run P w = .ok () w := by
    unfold Instr.checkKey
    simp [run_underlying hk, go_sem]
  have hfk : (Instr.findKey k (.int .i64 x) es.toList).run P w = .ok none w := by
    simp [Instr.findKey, run_underlying hk, Result.andThen, hf, go_sem]
  unfold Instr.mapUpdate
  simp only [Sem.run_bind, run_underlying hu, Result.andThen, MapKept.run_getObj_map hm, hck, hfk, MapKept.run_setObj_map _ hm]
  rfl
theorem hw_insert {m y z : Operand} {es : Array MapEntry} {n r : Nat} {x : Int} (hg : Region.wanted ⟨none, .insert t m y z, ty, pos, after, g⟩ (yielded ops a.tmps) = true) (hm : evL a m = some (.map (some r))) (hy : evL a y = some (.int .i64 x)) (hz : evL a z = some v)
    (hu : P.underlying t = some (.map k e)) (hk : P.underlying k = some (.int .i64)) (H : Hp S w0 w sz L R) (hb : w0.heap.size ≤ r) (hh : w.heap[r]? = some (.map es n)) (hf : Instr.findNow (.int .i64) (.int .i64 x) es.toList 0 = some none)
    (h : ∀ w', Hp S w0 w' sz L R → w'.heap[r]? = some (.map (es.push { key := .int .i64 x, val := v, born := n }) (n + 1)) → wpList P ops Q rest (a.put none undef) w') : wpList P ops Q (⟨none, .insert t m y z, ty, pos, after, g⟩ :: rest) a w := by
  refine wpList_step fun K hK => ?_
  rw [if_pos hg]
  unfold Oper.wp
  simp only [execOp, evL_eval hm, evL_eval hy, evL_eval hz, run_update hu hk hh hf, Sem.run_bind, Sem.run_pure, Result.andThen, Oper.upon]
  exact hK _ _ (h _ (H.putObj hh rfl hb) (World.putObj_heap_same (Array.getElem?_eq_some_iff.1 hh).1))
theorem run_lookup {es : Array MapEntry} {n r : Nat} {x : Int} (hu : P.underlying t = some (.map k e)) (hk : P.underlying k = some (.int .i64)) (hh : w.heap[r]? = some (.map es n)) {f : Option (Nat × Value)} (hf : Instr.findNow (.int .i64) (.int .i64 x) es.toList 0 = some f) {zv : Value} (hz : (zeroValue e).run P w = .ok zv w) :
    (Instr.lookup t (.map (some r)) (.int .i64 x) false).run P w = .ok ((f.map (·.2)).getD zv) w := by
  have hck : ∀ b, (Instr.checkKey b 10000 k (.int .i64 x)).run P w = .ok () w := fun b => by
    unfold Instr.checkKey
    simp [run_underlying hk, go_sem]
  have hfk : (Instr.findKey k (.int .i64 x) es.toList).run P w = .ok f w := by
    simp [Instr.findKey, run_underlying hk, Result.andThen, hf, go_sem]
  unfold Instr.lookup
  cases f with
  | none => simp [run_underlying hu, Result.andThen, MapKept.run_getObj_map hh, hck, hfk, hz, go_sem]
  | some p => simp [run_underlying hu, Result.andThen, MapKept.run_getObj_map hh, hck, hfk, go_sem]
theorem hw_lookup {m y : Operand} {es : Array MapEntry} {n r : Nat} {x : Int} {i : Nat} (hg : Region.wanted ⟨some d, .lookup t m y false, ty, pos, after, g⟩ (yielded ops a.tmps) = true) (hm : evL a m = some (.map (some r))) (hy : evL a y = some (.int .i64 x))
    (hu : P.underlying t = some (.map k e)) (hk : P.underlying k = some (.int .i64)) (hh : w.heap[r]? = some (.map es n)) {f : Option (Nat × Value)} (hf : Instr.findNow (.int .i64) (.int .i64 x) es.toList 0 = some f) {zv : Value} (hz : (zeroValue e).run P w = .ok zv w)
    (h : wpList P ops Q rest (a.put (some d) ((f.map (·.2)).getD zv)) w) : wpList P ops Q (⟨some d, .lookup t m y false, ty, pos, after, g⟩ :: rest) a w := by
  refine wpList_step fun K hK => ?_
  rw [if_pos hg]
  unfold Oper.wp
  have hck : ∀ b, (Instr.checkKey b 10000 k (.int .i64 x)).run P w = .ok () w := fun b => by
    unfold Instr.checkKey
    simp [run_underlying hk, go_sem]
  have hfk : (Instr.findKey k (.int .i64 x) es.toList).run P w = .ok f w := by
    simp [Instr.findKey, run_underlying hk, Result.andThen, hf, go_sem]
  have hr : (Instr.lookup t (.map (some r)) (.int .i64 x) false).run P w = .ok ((f.map (·.2)).getD zv) w := by
    unfold Instr.lookup
    cases f with
    | none => simp [run_underlying hu, Result.andThen, MapKept.run_getObj_map hh, hck, hfk, hz, go_sem]
    | some p => simp [run_underlying hu, Result.andThen, MapKept.run_getObj_map hh, hck, hfk, go_sem]
  simp only [execOp, evL_eval hm, evL_eval hy, hr, Sem.run_bind, Sem.run_pure, Result.andThen, Oper.upon]
  exact hK _ _ h
end
end Go.Proofs.YtccgpjhgfjfaoaaGreatDoor
/- cluster: does. -/
namespace Go.Proofs.YtccgpjhgfjfaoaaGreatDoor
open Go.RowKit Go.Shelf
attribute [local go_sem] Oper.semAt_some
theorem findNow_ints {x : Int} {es : List MapEntry} : ∀ {i : Nat}, (∀ m ∈ es, ∃ (b : Int) (f : Nat), m.key = .int .i64 b ∧ m.val = .func (.func f) #[] #[]) →
    ∃ r : Option (Nat × Value), Instr.findNow (.int .i64) (.int .i64 x) es i = some r ∧ ((r.map (·.2)).getD .nilFunc = .nilFunc ∨ ∃ f, (r.map (·.2)).getD .nilFunc = .func (.func f) #[] #[]) := by
  induction es with
  | nil => exact fun _ => ⟨none, rfl, .inl rfl⟩
  | cons m es ih =>
    intro i h
    obtain ⟨b, f, hk, hv⟩ := h m (by simp)
    by_cases hx : (x == b) = true
    · exact ⟨some (i, m.val), by simp [Instr.findNow, Instr.sameNow, hk, hx], .inr ⟨f, by simp [hv]⟩⟩
    · obtain ⟨r, h1, h2⟩ := ih (i := i + 1) (fun m hm => h m (by simp [hm]))
      refine ⟨r, ?_, h2⟩
      simp [Instr.findNow, Instr.sameNow, hk] at hx ⊢
      rw [h1, show (x == b) = false by simp [hx]]
theorem look_any {x : Int} {w : World} {r n : Nat} {es : Array MapEntry} (_ : w.heap[r]? = some (.map es n)) (h : ∀ m ∈ es.toList, ∃ (b : Int) (f : Nat), m.key = .int .i64 b ∧ m.val = .func (.func f) #[] #[]) :
    ∃ r : Option (Nat × Value), Instr.findNow (.int .i64) (.int .i64 x) es.toList 0 = some r ∧ ((r.map (·.2)).getD .nilFunc = .nilFunc ∨ ∃ f, (r.map (·.2)).getD .nilFunc = .func (.func f) #[] #[]) := findNow_ints h
section
variable {w : World}
set_option maxRecDepth 100000 in
set_option maxHeartbeats 2000000 in
theorem does_poll (w : World) : Calls Tryz.prog 16 #[.int .i64 1] w (Ret (.func (.func 28) #[] #[]) w) := by
  go_enter Tryz.func16, Tryz.ntmps16
  have H := Hp.start NoS w
  go_wp2_with (first | ((with_reducible show wpList _ _ _ (⟨_, .makeMap _ _, _, _, _, _⟩ :: _) _ _); refine hw_makeMap rfl H ?_; clear H; intro w' sz' H hh hb; have HM := And.intro hb hh; clear hh hb; iterate 12 (refine hw_insert (k := 3) (e := 56) rfl rfl rfl rfl (by kernel_rfl) (by kernel_rfl) H HM.1 HM.2 rfl ?_; clear H; intro w' H hh; replace HM := And.intro HM.1 hh; clear hh)))
  rw [run_lookup (k := 3) (e := 56) (zv := .nilFunc) (f := some (0, .func (.func 28) #[] #[])) (by kernel_rfl) (by kernel_rfl) HM.2 rfl (by kernel_rfl)]
  go_wp2
  exact bodyPost_ret (res1 rfl (rv_tmp rfl)) rfl ⟨rfl, H.ret⟩
set_option maxRecDepth 100000 in
set_option maxHeartbeats 2000000 in
theorem does_any (x : Int) (w : World) : Calls Tryz.prog 16 #[.int .i64 x] w (fun e w' => ∃ v, (v = .nilFunc ∨ ∃ f, v = .func (.func f) #[] #[]) ∧ Ret v w e w') := by
  go_enter Tryz.func16, Tryz.ntmps16
  have H := Hp.start NoS w
  go_wp2_with (first | ((with_reducible show wpList _ _ _ (⟨_, .makeMap _ _, _, _, _, _⟩ :: _) _ _); refine hw_makeMap rfl H ?_; clear H; intro w' sz' H hh hb; have HM := And.intro hb hh; clear hh hb; iterate 12 (refine hw_insert (k := 3) (e := 56) rfl rfl rfl rfl (by kernel_rfl) (by kernel_rfl) H HM.1 HM.2 rfl ?_; clear H; intro w' H hh; replace HM := And.intro HM.1 hh; clear hh)))
  obtain ⟨f, hf, hv⟩ := look_any (x := x) HM.2 (by intro m hm; simp at hm; rcases hm with rfl | rfl | rfl | rfl | rfl | rfl | rfl | rfl | rfl | rfl | rfl | rfl <;> exact ⟨_, _, rfl, rfl⟩)
  rw [run_lookup (k := 3) (e := 56) (zv := .nilFunc) (f := f) (by kernel_rfl) (by kernel_rfl) HM.2 hf (by kernel_rfl)]
  generalize (Option.map (fun y => y.2) f).getD .nilFunc = v at *
  go_wp2
  exact bodyPost_ret (res1 rfl (rv_tmp rfl)) rfl ⟨v, hv, rfl, H.ret⟩
end
end Go.Proofs.YtccgpjhgfjfaoaaGreatDoor
/- A function against nil. -/
namespace Go.Proofs.YtccgpjhgfjfaoaaGreatDoor
open Go.RowKit

def isIfT (P : Program) (t : TypeId) : Bool := match P.underlying t with
  | some (.interface _) => true
  | _ => false
theorem run_eql_ifn {P : Program} {t : TypeId} {u : TypeId} {v : Value} (h : isIfT P t = true) (w : World) : (binOp .eql t .nilIface (.iface u v)).run P w = .ok (.bool false) w := by
  unfold isIfT at h
  split at h
  · rename_i hu
    have h : ∀ d : Nat, (Op.equalIn (d + 1) t .nilIface (.iface u v)).run P w = .ok false w := fun d => by
      simp [Op.equalIn, run_underlying hu]
    simp only [binOp]
    simp [Op.equal, Op.maxDepth, h 9999]
  · cases h
def isFnT (P : Program) (t : TypeId) : Bool := match P.underlying t with
  | some (.func _ _ _) => true
  | _ => false
section
variable {P : Program} {ops : Array Oper} {Q : Exit → Act → World → Prop} {rest : List Oper} {a : Act} {w : World} {d : Tmp} {t ty : TypeId} {pos : String} {after : Array Edge} {g : Option (Nat × Bool)}
theorem run_eql_fn {f : Fn} {bs cs : Array Value} (h : isFnT P t = true) (w : World) : (binOp .eql t (.func f bs cs) .nilFunc).run P w = .ok (.bool false) w := by
  unfold isFnT at h
  split at h
  · rename_i hu
    have h : ∀ d : Nat, (Op.equalIn (d + 1) t (.func f bs cs) .nilFunc).run P w = .ok false w := fun d => by
      simp [Op.equalIn, run_underlying hu]
    simp only [binOp]
    simp [Op.equal, Op.maxDepth, h 9999]
  · cases h
theorem hw_fnnil {x : Operand} {f : Fn} {bs cs : Array Value} (hg : Region.wanted ⟨some d, .binOp .eql t x (.const .nilFunc) t, ty, pos, after, g⟩ (yielded ops a.tmps) = true)
    (hx : evL a x = some (.func f bs cs)) (hf : isFnT P t = true) (h : wpList P ops Q rest (a.put (some d) (.bool false)) w) : wpList P ops Q (⟨some d, .binOp .eql t x (.const .nilFunc) t, ty, pos, after, g⟩ :: rest) a w := by
  refine wpList_step fun K hK => ?_
  rw [if_pos hg]
  unfold Oper.wp
  have hgd : (eqGuard .eql t x (.const .nilFunc) (.func f bs cs) .nilFunc).run P w = .ok () w := rfl
  simp only [execOp, evL_eval hx, show a.eval (.const .nilFunc) = .nilFunc from rfl, run_eql_fn hf, Sem.run_bind, Sem.run_pure, Result.andThen, hgd, Oper.upon]
  exact hK _ _ h
theorem run_eql_fn0 (h : isFnT P t = true) (w : World) : (binOp .eql t .nilFunc .nilFunc).run P w = .ok (.bool true) w := by
  unfold isFnT at h
  split at h
  · rename_i hu
    have h : ∀ d : Nat, (Op.equalIn (d + 1) t .nilFunc .nilFunc).run P w = .ok true w := fun d => by
      simp [Op.equalIn, run_underlying hu]
    simp only [binOp]
    simp [Op.equal, Op.maxDepth, h 9999]
  · cases h
theorem hw_fnnil0 {x : Operand} (hg : Region.wanted ⟨some d, .binOp .eql t x (.const .nilFunc) t, ty, pos, after, g⟩ (yielded ops a.tmps) = true)
    (hx : evL a x = some .nilFunc) (hf : isFnT P t = true) (h : wpList P ops Q rest (a.put (some d) (.bool true)) w) : wpList P ops Q (⟨some d, .binOp .eql t x (.const .nilFunc) t, ty, pos, after, g⟩ :: rest) a w := by
  refine wpList_step fun K hK => ?_
  rw [if_pos hg]
  unfold Oper.wp
  have hgd : (eqGuard .eql t x (.const .nilFunc) .nilFunc .nilFunc).run P w = .ok () w := rfl
  simp only [execOp, evL_eval hx, show a.eval (.const .nilFunc) = .nilFunc from rfl, run_eql_fn0 hf, Sem.run_bind, Sem.run_pure, Result.andThen, hgd, Oper.upon]
  exact hK _ _ h
end
end Go.Proofs.YtccgpjhgfjfaoaaGreatDoor
/- cluster: Do and Bag, where there is no cluster; SameAnswer of nothing. -/
namespace Go.Proofs.YtccgpjhgfjfaoaaGreatDoor
open Go.RowKit Go.Shelf
attribute [local go_sem] Oper.semAt_some

abbrev tAns : TypeId := 34
abbrev tStep : TypeId := 24
instance iClu7_1 : Ty Tryz.prog 34 true 3 := ⟨fun _ => by kernel_rfl, fun _ => by kernel_rfl, fun h => by cases h⟩
instance iClu7_2 : ZeroV Tryz.prog 34 (.agg #[.int .i64 0, .slice none 0 0, .slice none 0 0]) := ⟨fun _ => by kernel_rfl⟩
instance iClu7_3 : Ty Tryz.prog 24 true 5 := ⟨fun _ => by kernel_rfl, fun _ => by kernel_rfl, fun h => by cases h⟩
instance iClu7_4 : Ty Tryz.prog 31 false 1 := ⟨fun _ => by kernel_rfl, fun _ => by kernel_rfl, fun _ => rfl⟩
instance iClu7_5 : Ty Tryz.prog 32 false 1 := ⟨fun _ => by kernel_rfl, fun _ => by kernel_rfl, fun _ => rfl⟩
abbrev stepV (k a b c : Int) (A : Option Addr) (n m : Nat) : Value := .agg #[.int .i64 k, .int .i64 a, .int .i64 b, .int .i64 c, .slice A n m]
abbrev noneV : Value := .agg #[.int .i64 180, .slice none 0 0, .slice none 0 0]
section
variable {w : World} {v : Value}
set_option maxRecDepth 100000 in
set_option maxHeartbeats 2000000 in
theorem cDo_none (h : NoneC w v) (k a b c : Int) (A : Option Addr) (n m : Nat) : Calls Tryz.prog 4 #[v, stepV k a b c A n m] w (Ret noneV w) := by
  go_enter Tryz.func4, Tryz.ntmps4
  have H := Hp.start NoS w
  go_wp2_with (first | ((first | ((with_reducible apply wlB); refine hw_box rfl rfl H ?_) | ((with_reducible apply wlA); refine hw_alloc rfl H ?_) | ((with_reducible apply wlS); first | refine hw_store 0 rfl rfl rfl H rfl rfl rfl (by simp) rfl ?_ | refine hw_store 1 rfl rfl rfl H rfl rfl rfl (by simp) rfl ?_ | refine hw_store 2 rfl rfl rfl H rfl rfl rfl (by simp) rfl ?_ | refine hw_store 3 rfl rfl rfl H rfl rfl rfl (by simp) rfl ?_)); clear H; intro w' H; (try simp only [Act.eval, Act.put, Value.cells, segV, seg, segPut, NS, Nat.reduceAdd] at H)) | ((with_reducible apply wlL); (first | apply hw_load 0 rfl rfl H rfl | apply hw_load 1 rfl rfl H rfl | apply hw_load 2 rfl rfl H rfl | apply hw_load 3 rfl rfl H rfl); (focus (simp; done)); (focus (simp only [segV, seg, NS]; rfl))))
  refine (does_any k _).mono ?_; rintro e w' ⟨u, hu, rfl, hb⟩; obtain ⟨s1, hs1, H⟩ := H.call hb; clear hb
  rcases hu with rfl | ⟨f, rfl⟩
  · go_wp2_with (first | ((with_reducible show wpList _ _ _ (⟨_, .binOp .eql _ _ _ _, _, _, _, _⟩ :: _) _ _); refine hw_fnnil0 rfl rfl (by kernel_rfl) ?_) | ((first | ((with_reducible apply wlB); refine hw_box rfl rfl H ?_) | ((with_reducible apply wlA); refine hw_alloc rfl H ?_) | ((with_reducible apply wlS); first | refine hw_store 0 rfl rfl rfl H rfl rfl rfl (by simp) rfl ?_ | refine hw_store 1 rfl rfl rfl H rfl rfl rfl (by simp) rfl ?_ | refine hw_store 2 rfl rfl rfl H rfl rfl rfl (by simp) rfl ?_ | refine hw_store 3 rfl rfl rfl H rfl rfl rfl (by simp) rfl ?_)); clear H; intro w' H; (try simp only [Act.eval, Act.put, Value.cells, segV, seg, segPut, NS, Nat.reduceAdd] at H)) | ((with_reducible apply wlL); (first | apply hw_load 0 rfl rfl H rfl | apply hw_load 1 rfl rfl H rfl | apply hw_load 2 rfl rfl H rfl | apply hw_load 3 rfl rfl H rfl); (focus (simp; done)); (focus (simp only [segV, seg, NS]; rfl))))
    exact bodyPost_ret (res1 rfl (rv_cell 0 rfl H rfl (Nat.le_of_ble_eq_true rfl))) rfl ⟨by simp [segV, seg], H.ret⟩
  · go_wp2_with (first | ((with_reducible show wpList _ _ _ (⟨_, .binOp .eql _ _ _ _, _, _, _, _⟩ :: _) _ _); refine hw_fnnil rfl rfl (by kernel_rfl) ?_) | ((first | ((with_reducible apply wlB); refine hw_box rfl rfl H ?_) | ((with_reducible apply wlA); refine hw_alloc rfl H ?_) | ((with_reducible apply wlS); first | refine hw_store 0 rfl rfl rfl H rfl rfl rfl (by simp) rfl ?_ | refine hw_store 1 rfl rfl rfl H rfl rfl rfl (by simp) rfl ?_ | refine hw_store 2 rfl rfl rfl H rfl rfl rfl (by simp) rfl ?_ | refine hw_store 3 rfl rfl rfl H rfl rfl rfl (by simp) rfl ?_)); clear H; intro w' H; (try simp only [Act.eval, Act.put, Value.cells, segV, seg, segPut, NS, Nat.reduceAdd] at H)) | ((with_reducible apply wlL); (first | apply hw_load 0 rfl rfl H rfl | apply hw_load 1 rfl rfl H rfl | apply hw_load 2 rfl rfl H rfl | apply hw_load 3 rfl rfl H rfl); (focus (simp; done)); (focus (simp only [segV, seg, NS]; rfl))))
    refine (cSize_none (h.keep H.keep (fun _ _ h => h))).mono ?_; rintro e w' ⟨rfl, hb⟩; obtain ⟨s2, hs2, H⟩ := H.call hb; clear hb
    go_wp2_with (first | ((first | ((with_reducible apply wlB); refine hw_box rfl rfl H ?_) | ((with_reducible apply wlA); refine hw_alloc rfl H ?_) | ((with_reducible apply wlS); first | refine hw_store 0 rfl rfl rfl H rfl rfl rfl (by simp) rfl ?_ | refine hw_store 1 rfl rfl rfl H rfl rfl rfl (by simp) rfl ?_ | refine hw_store 2 rfl rfl rfl H rfl rfl rfl (by simp) rfl ?_ | refine hw_store 3 rfl rfl rfl H rfl rfl rfl (by simp) rfl ?_)); clear H; intro w' H; (try simp only [Act.eval, Act.put, Value.cells, segV, seg, segPut, NS, Nat.reduceAdd] at H)) | ((with_reducible apply wlL); (first | apply hw_load 0 rfl rfl H rfl | apply hw_load 1 rfl rfl H rfl | apply hw_load 2 rfl rfl H rfl | apply hw_load 3 rfl rfl H rfl); (focus (simp; done)); (focus (simp only [segV, seg, NS]; rfl))))
    exact bodyPost_ret (res1 rfl (rv_cell 0 rfl H rfl (Nat.le_of_ble_eq_true rfl))) rfl ⟨by simp [segV, seg], H.ret⟩
set_option maxRecDepth 100000 in
set_option maxHeartbeats 2000000 in
theorem sameErrs_none (w : World) : Calls Tryz.prog 21 #[.slice none 0 0, .slice none 0 0] w (Ret (.bool true) w) := by
  go_enter Tryz.func21, Tryz.ntmps21
  have H := Hp.start NoS w
  go_wp2_with (first | ((first | ((with_reducible apply wlB); refine hw_box rfl rfl H ?_) | ((with_reducible apply wlA); refine hw_alloc rfl H ?_) | ((with_reducible apply wlS); first | refine hw_store 0 rfl rfl rfl H rfl rfl rfl (by simp) rfl ?_ | refine hw_store 1 rfl rfl rfl H rfl rfl rfl (by simp) rfl ?_ | refine hw_store 2 rfl rfl rfl H rfl rfl rfl (by simp) rfl ?_ | refine hw_store 3 rfl rfl rfl H rfl rfl rfl (by simp) rfl ?_)); clear H; intro w' H; (try simp only [Act.eval, Act.put, Value.cells, segV, seg, segPut, NS, Nat.reduceAdd] at H)) | ((with_reducible apply wlL); (first | apply hw_load 0 rfl rfl H rfl | apply hw_load 1 rfl rfl H rfl | apply hw_load 2 rfl rfl H rfl | apply hw_load 3 rfl rfl H rfl); (focus (simp; done)); (focus (simp only [segV, seg, NS]; rfl))))
  go_loopw [5] (fun i wr => i = .int .i64 0 ∧ ∃ sz, Hp NoS w wr sz [] []) (fun _ _ => 0)
  case atStart => exact ⟨rfl, _, H⟩
  case round =>
    clear H
    obtain ⟨rfl, sz, H⟩ := hrel
    go_wp2_with (first | ((first | ((with_reducible apply wlB); refine hw_box rfl rfl H ?_) | ((with_reducible apply wlA); refine hw_alloc rfl H ?_) | ((with_reducible apply wlS); first | refine hw_store 0 rfl rfl rfl H rfl rfl rfl (by simp) rfl ?_ | refine hw_store 1 rfl rfl rfl H rfl rfl rfl (by simp) rfl ?_ | refine hw_store 2 rfl rfl rfl H rfl rfl rfl (by simp) rfl ?_ | refine hw_store 3 rfl rfl rfl H rfl rfl rfl (by simp) rfl ?_)); clear H; intro w' H; (try simp only [Act.eval, Act.put, Value.cells, segV, seg, segPut, NS, Nat.reduceAdd] at H)) | ((with_reducible apply wlL); (first | apply hw_load 0 rfl rfl H rfl | apply hw_load 1 rfl rfl H rfl | apply hw_load 2 rfl rfl H rfl | apply hw_load 3 rfl rfl H rfl); (focus (simp; done)); (focus (simp only [segV, seg, NS]; rfl))))
    exact bodyPost_ret (res1 rfl (rv_tmp rfl)) rfl ⟨rfl, H.ret⟩
set_option maxRecDepth 100000 in
set_option maxHeartbeats 2000000 in
theorem sameEvents_none (w : World) : Calls Tryz.prog 22 #[.slice none 0 0, .slice none 0 0] w (Ret (.bool true) w) := by
  go_enter Tryz.func22, Tryz.ntmps22
  have H := Hp.start NoS w
  go_wp2_with (first | ((first | ((with_reducible apply wlB); refine hw_box rfl rfl H ?_) | ((with_reducible apply wlA); refine hw_alloc rfl H ?_) | ((with_reducible apply wlS); first | refine hw_store 0 rfl rfl rfl H rfl rfl rfl (by simp) rfl ?_ | refine hw_store 1 rfl rfl rfl H rfl rfl rfl (by simp) rfl ?_ | refine hw_store 2 rfl rfl rfl H rfl rfl rfl (by simp) rfl ?_ | refine hw_store 3 rfl rfl rfl H rfl rfl rfl (by simp) rfl ?_)); clear H; intro w' H; (try simp only [Act.eval, Act.put, Value.cells, segV, seg, segPut, NS, Nat.reduceAdd] at H)) | ((with_reducible apply wlL); (first | apply hw_load 0 rfl rfl H rfl | apply hw_load 1 rfl rfl H rfl | apply hw_load 2 rfl rfl H rfl | apply hw_load 3 rfl rfl H rfl); (focus (simp; done)); (focus (simp only [segV, seg, NS]; rfl))))
  go_loopw [5] (fun i wr => i = .int .i64 0 ∧ ∃ sz, Hp NoS w wr sz [] []) (fun _ _ => 0)
  case atStart => exact ⟨rfl, _, H⟩
  case round =>
    clear H
    obtain ⟨rfl, sz, H⟩ := hrel
    go_wp2_with (first | ((first | ((with_reducible apply wlB); refine hw_box rfl rfl H ?_) | ((with_reducible apply wlA); refine hw_alloc rfl H ?_) | ((with_reducible apply wlS); first | refine hw_store 0 rfl rfl rfl H rfl rfl rfl (by simp) rfl ?_ | refine hw_store 1 rfl rfl rfl H rfl rfl rfl (by simp) rfl ?_ | refine hw_store 2 rfl rfl rfl H rfl rfl rfl (by simp) rfl ?_ | refine hw_store 3 rfl rfl rfl H rfl rfl rfl (by simp) rfl ?_)); clear H; intro w' H; (try simp only [Act.eval, Act.put, Value.cells, segV, seg, segPut, NS, Nat.reduceAdd] at H)) | ((with_reducible apply wlL); (first | apply hw_load 0 rfl rfl H rfl | apply hw_load 1 rfl rfl H rfl | apply hw_load 2 rfl rfl H rfl | apply hw_load 3 rfl rfl H rfl); (focus (simp; done)); (focus (simp only [segV, seg, NS]; rfl))))
    exact bodyPost_ret (res1 rfl (rv_tmp rfl)) rfl ⟨rfl, H.ret⟩
set_option maxRecDepth 100000 in
set_option maxHeartbeats 2000000 in
theorem sameAnswer_none (w : World) : Calls Tryz.prog 8 #[noneV, noneV] w (Ret (.bool true) w) := by
  go_enter Tryz.func8, Tryz.ntmps8
  have H := Hp.start NoS w
  go_wp2_with (first | ((first | ((with_reducible apply wlB); refine hw_box rfl rfl H ?_) | ((with_reducible apply wlA); refine hw_alloc rfl H ?_) | ((with_reducible apply wlS); first | refine hw_store 0 rfl rfl rfl H rfl rfl rfl (by simp) rfl ?_ | refine hw_store 1 rfl rfl rfl H rfl rfl rfl (by simp) rfl ?_ | refine hw_store 2 rfl rfl rfl H rfl rfl rfl (by simp) rfl ?_ | refine hw_store 3 rfl rfl rfl H rfl rfl rfl (by simp) rfl ?_)); clear H; intro w' H; (try simp only [Act.eval, Act.put, Value.cells, segV, seg, segPut, NS, Nat.reduceAdd] at H)) | ((with_reducible apply wlL); (first | apply hw_load 0 rfl rfl H rfl | apply hw_load 1 rfl rfl H rfl | apply hw_load 2 rfl rfl H rfl | apply hw_load 3 rfl rfl H rfl); (focus (simp; done)); (focus (simp only [segV, seg, NS]; rfl))))
  refine (sameErrs_none _).mono ?_; rintro e w' ⟨rfl, hb⟩; obtain ⟨s2, hs2, H⟩ := H.call hb; clear hb
  go_wp2_with (first | ((first | ((with_reducible apply wlB); refine hw_box rfl rfl H ?_) | ((with_reducible apply wlA); refine hw_alloc rfl H ?_) | ((with_reducible apply wlS); first | refine hw_store 0 rfl rfl rfl H rfl rfl rfl (by simp) rfl ?_ | refine hw_store 1 rfl rfl rfl H rfl rfl rfl (by simp) rfl ?_ | refine hw_store 2 rfl rfl rfl H rfl rfl rfl (by simp) rfl ?_ | refine hw_store 3 rfl rfl rfl H rfl rfl rfl (by simp) rfl ?_)); clear H; intro w' H; (try simp only [Act.eval, Act.put, Value.cells, segV, seg, segPut, NS, Nat.reduceAdd] at H)) | ((with_reducible apply wlL); (first | apply hw_load 0 rfl rfl H rfl | apply hw_load 1 rfl rfl H rfl | apply hw_load 2 rfl rfl H rfl | apply hw_load 3 rfl rfl H rfl); (focus (simp; done)); (focus (simp only [segV, seg, NS]; rfl))))
  refine (sameEvents_none _).mono ?_; rintro e w' ⟨rfl, hb⟩; obtain ⟨s3, hs3, H⟩ := H.call hb; clear hb
  go_wp2_with (first | ((first | ((with_reducible apply wlB); refine hw_box rfl rfl H ?_) | ((with_reducible apply wlA); refine hw_alloc rfl H ?_) | ((with_reducible apply wlS); first | refine hw_store 0 rfl rfl rfl H rfl rfl rfl (by simp) rfl ?_ | refine hw_store 1 rfl rfl rfl H rfl rfl rfl (by simp) rfl ?_ | refine hw_store 2 rfl rfl rfl H rfl rfl rfl (by simp) rfl ?_ | refine hw_store 3 rfl rfl rfl H rfl rfl rfl (by simp) rfl ?_)); clear H; intro w' H; (try simp only [Act.eval, Act.put, Value.cells, segV, seg, segPut, NS, Nat.reduceAdd] at H)) | ((with_reducible apply wlL); (first | apply hw_load 0 rfl rfl H rfl | apply hw_load 1 rfl rfl H rfl | apply hw_load 2 rfl rfl H rfl | apply hw_load 3 rfl rfl H rfl); (focus (simp; done)); (focus (simp only [segV, seg, NS]; rfl))))
  exact bodyPost_ret (res1 rfl (rv_tmp rfl)) rfl ⟨rfl, H.ret⟩
set_option maxRecDepth 100000 in
set_option maxHeartbeats 2000000 in
theorem gAll_nil (w : World) : Calls Tryz.prog 49 #[.pointer none] w (fun e w' => ∃ sz q, e = .returned (.func (.func 75) #[] #[pV q]) ∧ Hp NoS w w' sz [(q, tGrams, #[.slice none 0 0])] []) := by
  go_enter Tryz.func49, Tryz.ntmps49
  have H := Hp.start NoS w
  go_wp2_with (first | ((first | ((with_reducible apply wlB); refine hw_box rfl rfl H ?_) | ((with_reducible apply wlA); refine hw_alloc rfl H ?_) | ((with_reducible apply wlS); first | refine hw_store 0 rfl rfl rfl H rfl rfl rfl (by simp) rfl ?_ | refine hw_store 1 rfl rfl rfl H rfl rfl rfl (by simp) rfl ?_ | refine hw_store 2 rfl rfl rfl H rfl rfl rfl (by simp) rfl ?_ | refine hw_store 3 rfl rfl rfl H rfl rfl rfl (by simp) rfl ?_)); clear H; intro w' H; (try simp only [Act.eval, Act.put, Value.cells, segV, seg, segPut, NS, Nat.reduceAdd] at H)) | ((with_reducible apply wlL); (first | apply hw_load 0 rfl rfl H rfl | apply hw_load 1 rfl rfl H rfl | apply hw_load 2 rfl rfl H rfl | apply hw_load 3 rfl rfl H rfl); (focus (simp; done)); (focus (simp only [segV, seg, NS]; rfl))))
  exact bodyPost_ret (res1 rfl (rv_tmp rfl)) rfl ⟨_, _, rfl, H⟩
set_option maxRecDepth 100000 in
set_option maxHeartbeats 2000000 in
theorem gAll1_nil {q : Nat} {T : Nat → Prop} (hq : Blk w q tGrams #[.slice none 0 0]) (hqT : ¬ T q) : SeqY Tryz.prog 75 #[pV q] GrmY [] w T := by
  intro n lr J W hn hW hst hJk hY h0
  have hqW := (hJk _ _ h0).blk hq hqT
  refine callsIn_of_wp Tryz.func75 rfl trivial ?_ rfl
  simp only [Tryz.ntmps75, List.size_toArray, List.length_cons, List.length_nil, Nat.reduceAdd, Nat.reduceSub, Array.replicate_succ, Array.replicate_zero, List.push_toArray, List.append_toArray, List.nil_append, List.cons_append]
  have H := (Hp.start NoS W).addR hqW id
  gi_wp2_with (first | (refine op_inW rfl ?_; (first | ((with_reducible apply wlL); apply hw_loadR 0 rfl rfl H rfl; (focus (simp; done)); (focus (simp only [segV, seg, NS]; rfl)))); refine ⟨rfl, ?_⟩))
  gi_loopw [7] (fun t wr => t = .int .i64 0 ∧ J [] wr) (fun _ _ => 0)
  case atStart => exact ⟨rfl, h0⟩
  case round =>
    obtain ⟨rfl, hJ⟩ := hrel
    gi_wp2
    go_end0
    exact ⟨⟨_, rfl⟩, hJ⟩
set_option maxRecDepth 100000 in
set_option maxHeartbeats 2000000 in
theorem gList_nil (w : World) : Calls Tryz.prog 25 #[.pointer none] w (Ret (.slice none 0 0) w) := by
  refine calls_of_marks Tryz.func25 rfl ?_
  simp only [Tryz.ntmps25, List.size_toArray, List.length_cons, List.length_nil, Nat.reduceAdd, Nat.reduceSub, Array.replicate_succ, Array.replicate_zero, List.push_toArray, List.append_toArray, List.nil_append, List.cons_append]
  have H := Hp.start NoS w
  go_wp2_with (first | ((first | ((with_reducible apply wlB); refine hw_box rfl rfl H ?_) | ((with_reducible apply wlA); refine hw_alloc rfl H ?_) | ((with_reducible apply wlS); first | refine hw_store 0 rfl rfl rfl H rfl rfl rfl (by simp) rfl ?_ | refine hw_store 1 rfl rfl rfl H rfl rfl rfl (by simp) rfl ?_ | refine hw_store 2 rfl rfl rfl H rfl rfl rfl (by simp) rfl ?_ | refine hw_store 3 rfl rfl rfl H rfl rfl rfl (by simp) rfl ?_)); clear H; intro w' H; (try simp only [Act.eval, Act.put, Value.cells, segV, seg, segPut, NS, Nat.reduceAdd] at H)) | ((with_reducible apply wlL); (first | apply hw_load 0 rfl rfl H rfl | apply hw_load 1 rfl rfl H rfl | apply hw_load 2 rfl rfl H rfl | apply hw_load 3 rfl rfl H rfl); (focus (simp; done)); (focus (simp only [segV, seg, NS]; rfl))))
  refine (gAll_nil _).mono ?_; rintro e w' ⟨s1, q, rfl, H1⟩; obtain ⟨hs1, H⟩ := H.fresh H1; clear H1
  simp only [List.cons_append, List.nil_append] at H
  go_wp2_with (first | ((first | ((with_reducible apply wlB); refine hw_box rfl rfl H ?_) | ((with_reducible apply wlA); refine hw_alloc rfl H ?_) | ((with_reducible apply wlS); first | refine hw_store 0 rfl rfl rfl H rfl rfl rfl (by simp) rfl ?_ | refine hw_store 1 rfl rfl rfl H rfl rfl rfl (by simp) rfl ?_ | refine hw_store 2 rfl rfl rfl H rfl rfl rfl (by simp) rfl ?_ | refine hw_store 3 rfl rfl rfl H rfl rfl rfl (by simp) rfl ?_)); clear H; intro w' H; (try simp only [Act.eval, Act.put, Value.cells, segV, seg, segPut, NS, Nat.reduceAdd] at H)) | ((with_reducible apply wlL); (first | apply hw_load 0 rfl rfl H rfl | apply hw_load 1 rfl rfl H rfl | apply hw_load 2 rfl rfl H rfl | apply hw_load 3 rfl rfl H rfl); (focus (simp; done)); (focus (simp only [segV, seg, NS]; rfl))))
  have HI := H.innerR (La := [_]) (Lb := [_]) (List.Perm.refl _)
  simp only [List.cons_append, List.nil_append, List.append_nil] at HI
  refine wp_rangeY (Y := GrmY) (xs := []) (gf := 75) (lb := #[pV q]) rfl (enters_of Tryz.func75 (by kernel_rfl) rfl) (fun x args hY => by obtain ⟨i, A, c, rfl⟩ := hY; rfl) HI
    (gAll1_nil (HI.ro _ (.head _)).1 (HI.ro _ (.head _)).2.1)
    (fun pre Lc => pre = [] ∧ Lc = [(w.heap.size, tGrams, #[.slice none 0 0])]) ⟨rfl, rfl⟩ ?_ ?_
  · rintro lr n pre x args W Lc hn3 hY ⟨post, hx⟩
    simp at hx
  · rintro D W sz _ hD ⟨-, rfl⟩ HB hK
    have Hf := H
    clear H HI
    have H := HB.inner
    go_wp2_with (first | ((first | ((with_reducible apply wlB); refine hw_box rfl rfl H ?_) | ((with_reducible apply wlA); refine hw_alloc rfl H ?_) | ((with_reducible apply wlS); first | refine hw_store 0 rfl rfl rfl H rfl rfl rfl (by simp) rfl ?_ | refine hw_store 1 rfl rfl rfl H rfl rfl rfl (by simp) rfl ?_ | refine hw_store 2 rfl rfl rfl H rfl rfl rfl (by simp) rfl ?_ | refine hw_store 3 rfl rfl rfl H rfl rfl rfl (by simp) rfl ?_)); clear H; intro w' H; (try simp only [Act.eval, Act.put, Value.cells, segV, seg, segPut, NS, Nat.reduceAdd] at H)) | ((with_reducible apply wlL); (first | apply hw_load 0 rfl rfl H rfl | apply hw_load 1 rfl rfl H rfl | apply hw_load 2 rfl rfl H rfl | apply hw_load 3 rfl rfl H rfl); (focus (simp; done)); (focus (simp only [segV, seg, NS]; rfl))))
    have hK2 := H.still (H1 := HB) hK rfl
    have HO := (HB.outer H).putObj (o' := .deferred none) hK2 rfl hD
    refine marks_ret rfl hK2 (res1 rfl (rv_tmp rfl)) ⟨rfl, (Hf.join (La := [_]) (Lb := [(q, tGrams, #[.slice none 0 0])]) (List.Perm.refl _) HO).2.ret⟩
set_option maxRecDepth 100000 in
set_option maxHeartbeats 2000000 in
theorem cBag_none (h : NoneC w v) : Calls Tryz.prog 13 #[v] w (Ret (.slice none 0 0) w) := by
  rcases h with rfl | ⟨pc, rfl, hB⟩
  · go_enter Tryz.func13, Tryz.ntmps13
    have H := Hp.start NoS w
    go_wp2_with (first | ((first | ((with_reducible apply wlB); refine hw_box rfl rfl H ?_) | ((with_reducible apply wlA); refine hw_alloc rfl H ?_) | ((with_reducible apply wlS); first | refine hw_store 0 rfl rfl rfl H rfl rfl rfl (by simp) rfl ?_ | refine hw_store 1 rfl rfl rfl H rfl rfl rfl (by simp) rfl ?_ | refine hw_store 2 rfl rfl rfl H rfl rfl rfl (by simp) rfl ?_ | refine hw_store 3 rfl rfl rfl H rfl rfl rfl (by simp) rfl ?_)); clear H; intro w' H; (try simp only [Act.eval, Act.put, Value.cells, segV, seg, segPut, NS, Nat.reduceAdd] at H)) | ((with_reducible apply wlL); (first | apply hw_load 0 rfl rfl H rfl | apply hw_load 1 rfl rfl H rfl | apply hw_load 2 rfl rfl H rfl | apply hw_load 3 rfl rfl H rfl); (focus (simp; done)); (focus (simp only [segV, seg, NS]; rfl))))
    exact bodyPost_ret (res1 rfl (rv_tmp rfl)) rfl ⟨rfl, H.ret⟩
  · go_enter Tryz.func13, Tryz.ntmps13
    have H := (Hp.start NoS w).addR hB id
    go_wp2_with (first | ((with_reducible apply wlL); apply hw_loadR 0 rfl rfl H rfl; (focus (simp; done)); (focus (simp only [segV, seg, NS]; rfl))))
    refine (gList_nil _).mono ?_; rintro e w' ⟨rfl, hb⟩; obtain ⟨s1, hs1, H⟩ := H.call hb; clear hb
    go_wp2_with (first | ((with_reducible apply wlL); apply hw_loadR 0 rfl rfl H rfl; (focus (simp; done)); (focus (simp only [segV, seg, NS]; rfl))))
    exact bodyPost_ret (res1 rfl (rv_tmp rfl)) rfl ⟨rfl, H.ret⟩
end
end Go.Proofs.YtccgpjhgfjfaoaaGreatDoor
/- cluster: fate, errors.Is of nil, asked. -/
namespace Go.Proofs.YtccgpjhgfjfaoaaGreatDoor
open Go.RowKit

abbrev tErr : TypeId := 139
instance iClu8_1 : Ty Tryz.prog 139 false 1 := ⟨fun _ => by kernel_rfl, fun _ => by kernel_rfl, fun _ => rfl⟩
theorem Hp.disj {S : Nat → Prop} {w0 w : World} {sz : Nat} {L R La Lb : List Bk} (H : Hp S w0 w sz L R) (hp : L.Perm (La ++ Lb)) : ∀ y ∈ Lb, ¬ InL La y.1 := by
  intro y hy hi
  have hnd := (H.perm hp).nodup
  rw [List.map_append, List.nodup_append] at hnd
  exact hnd.2.2 _ hi _ (List.mem_map_of_mem hy) rfl
section
variable {w : World}
set_option maxRecDepth 100000 in
set_option maxHeartbeats 2000000 in
theorem fate_170 (w : World) : Calls Tryz.prog 85 #[.int .i64 170] w (Ret .nilIface w) := by
  go_enter Tryz.func85, Tryz.ntmps85
  have H := Hp.start NoS w
  go_wp2_with (first | ((first | ((with_reducible apply wlB); refine hw_box rfl rfl H ?_) | ((with_reducible apply wlA); refine hw_alloc rfl H ?_) | ((with_reducible apply wlS); first | refine hw_store 0 rfl rfl rfl H rfl rfl rfl (by simp) rfl ?_ | refine hw_store 1 rfl rfl rfl H rfl rfl rfl (by simp) rfl ?_ | refine hw_store 2 rfl rfl rfl H rfl rfl rfl (by simp) rfl ?_ | refine hw_store 3 rfl rfl rfl H rfl rfl rfl (by simp) rfl ?_)); clear H; intro w' H; (try simp only [Act.eval, Act.put, Value.cells, segV, seg, segPut, NS, Nat.reduceAdd] at H)) | ((with_reducible apply wlL); (first | apply hw_load 0 rfl rfl H rfl | apply hw_load 1 rfl rfl H rfl | apply hw_load 2 rfl rfl H rfl | apply hw_load 3 rfl rfl H rfl); (focus (simp; done)); (focus (simp only [segV, seg, NS]; rfl))))
  exact bodyPost_ret (res1 rfl (rv_tmp rfl)) rfl ⟨rfl, H.ret⟩
set_option maxRecDepth 100000 in
set_option maxHeartbeats 2000000 in
theorem errIs_nil (t : TypeId) (u : Value) (w : World) : Calls Tryz.prog 84 #[.nilIface, .iface t u] w (Ret (.bool false) w) := by
  go_enter Tryz.func84, Tryz.ntmps84
  have H := Hp.start NoS w
  go_wp2_with (first | ((first | ((with_reducible apply wlB); refine hw_box rfl rfl H ?_) | ((with_reducible apply wlA); refine hw_alloc rfl H ?_) | ((with_reducible apply wlS); first | refine hw_store 0 rfl rfl rfl H rfl rfl rfl (by simp) rfl ?_ | refine hw_store 1 rfl rfl rfl H rfl rfl rfl (by simp) rfl ?_ | refine hw_store 2 rfl rfl rfl H rfl rfl rfl (by simp) rfl ?_ | refine hw_store 3 rfl rfl rfl H rfl rfl rfl (by simp) rfl ?_)); clear H; intro w' H; (try simp only [Act.eval, Act.put, Value.cells, segV, seg, segPut, NS, Nat.reduceAdd] at H)) | ((with_reducible apply wlL); (first | apply hw_load 0 rfl rfl H rfl | apply hw_load 1 rfl rfl H rfl | apply hw_load 2 rfl rfl H rfl | apply hw_load 3 rfl rfl H rfl); (focus (simp; done)); (focus (simp only [segV, seg, NS]; rfl))))
  rw [run_eql_ifn (by kernel_rfl)]
  go_wp2
  exact bodyPost_ret (res1 rfl (rv_tmp rfl)) rfl ⟨rfl, H.ret⟩
set_option maxRecDepth 100000 in
set_option maxHeartbeats 2000000 in
theorem asked_ok {pc pg f : Nat} {vh : Value} {A : Option Addr} {n c : Nat} (hB : Blk w pc tClu (cluC f (.slice A n c) (pV pg) vh)) (i : Nat) (hi : i < n) : Calls Tryz.prog 52 #[pV pc, .int .i64 i] w (Ret (.int .i64 0) w) := by
  go_enter Tryz.func52, Tryz.ntmps52
  have H := (Hp.start NoS w).addR hB id
  go_wp2_with (first | ((with_reducible apply wlL); apply hw_loadR 0 rfl rfl H rfl; (focus (simp; done)); (focus (simp only [segV, seg, NS]; rfl))))
  exact bodyPost_ret (res1 rfl (rv_tmp rfl)) rfl ⟨rfl, H.ret⟩
end
end Go.Proofs.YtccgpjhgfjfaoaaGreatDoor
