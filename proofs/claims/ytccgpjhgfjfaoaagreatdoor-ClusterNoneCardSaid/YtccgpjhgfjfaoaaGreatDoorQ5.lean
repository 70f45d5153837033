/- earshotlaw18.ClusterNone: the row and the tied card: FOR EVERY STEP AND EVERY ID the law returns true; what came in reads as it did. Conditions: none beyond the card's own (errors.errorType, refute.errNoDefence, cluster.errHalted start as the program's text lays them). -/
import Derived.Test.YtccgpjhgfjfaoaaGreatDoorQ4
import Derived.Test.YtccgpjhgfjfaoaaGreatDoorCards
import Derived.Test.YtccgpjhgfjfaoaaGreatDoorTie
import Derived.Conc.Holds
import Derived.ProofKit
import Derived.Carry
import Derived.LaidLaws
import Derived.LaidMore
import Derived.LaidHandle
import Derived.OpenShut
import Derived.Stop.LaidErr
import Derived.SevenTiedAt
import Derived.Lib.SmallJoins
set_option linter.unusedSimpArgs false
set_option linter.unusedVariables false
/- cluster: behind, where the error is 'waiting'. -/
namespace Go.Proofs.YtccgpjhgfjfaoaaGreatDoor
open Go.RowKit

def Bg.sends (B : Bg) (i : Int) (os : List (Int × List UInt8)) : Bg := os.foldl (fun B o => B.put ⟨0, i, o.1, o.2⟩) B
theorem OutCs.len {os : List (Int × List UInt8)} {cs : List Value} {L : List Bk} (h : OutCs os cs L) : cs.length = os.length * 2 := by
  induction h with
  | nil => rfl
  | snoc _ _ ih => simp [ih]; omega
theorem OutCs.at {os : List (Int × List UInt8)} {cs : List Value} {L : List Bk} (h : OutCs os cs L) (k : Nat) (hk : k < os.length) : ∃ v L1, (cs.drop (k * 2)).take 2 = [.int .i64 os[k].1, v] ∧ GL tU8 1 v os[k].2.length (os[k].2.map bv) L1 ∧ ∀ y ∈ L1, y ∈ L := by
  induction h with
  | nil => simp at hk
  | @snoc os cs L q bs v L1 h hG ih =>
    have hl := h.len
    by_cases hlt : k < os.length
    · obtain ⟨v', L', h1, h2, h3⟩ := ih hlt
      refine ⟨v', L', ?_, ?_, fun y hy => by simp [h3 y hy]⟩
      · rw [List.drop_append_of_le_length (by omega), List.take_append_of_le_length (by rw [List.length_drop]; omega), h1, List.getElem_append_left hlt]
      · rw [List.getElem_append_left hlt]; exact h2
    · have hke : k = os.length := by simp at hk; omega
      subst hke
      refine ⟨v, L1, ?_, ?_, fun y hy => by simp [hy]⟩
      · rw [← hl, List.drop_left]; simp
      · simpa using hG
instance iClu9_1 : Ty Tryz.prog 146 true 2 := ⟨fun _ => by kernel_rfl, fun _ => by kernel_rfl, fun h => by cases h⟩
instance iClu9_2 : ZeroV Tryz.prog 146 (.agg #[.int .i64 0, .slice none 0 0]) := ⟨fun _ => by kernel_rfl⟩
theorem pBeh1 {α : Type} {a b n : α} {L R H G : List α} : (a :: b :: n :: (L ++ (R ++ (H ++ G)))).Perm ((a :: b :: n :: (L ++ (R ++ (H ++ [])))) ++ G) := by
  apply perm_count; intro x; simp only [List.count_append, List.count_cons, List.count_nil]; omega
theorem pBeh2 {α : Type} {z a b n s : α} {L R H G D X : List α} : (z :: a :: b :: n :: (L ++ (R ++ (H ++ (G ++ s :: (D ++ X)))))).Perm (G ++ (z :: a :: b :: n :: (L ++ (R ++ (H ++ s :: (D ++ X)))))) := by
  apply perm_count; intro x; simp only [List.count_append, List.count_cons, List.count_nil]; omega
theorem pBeh3 {α : Type} {z a b n s : α} {L R H G D X : List α} : (G ++ (z :: a :: b :: n :: (L ++ (R ++ (H ++ s :: (D ++ X)))))).Perm (z :: a :: b :: n :: (L ++ (R ++ (H ++ (G ++ s :: (D ++ X)))))) := pBeh2.symm
theorem sends_facts (i : Int) : ∀ (os : List (Int × List UInt8)) (B : Bg), (B.sends i os).room = B.room ∧ ((B.sends i os).grams.length : Int) = B.grams.length + os.length ∧ (B.sends i os).last = B.last + os.length
  | [], B => by simp [Bg.sends]
  | o :: os, B => by
    have := sends_facts i os (B.put ⟨0, i, o.1, o.2⟩)
    simp only [Bg.sends, List.foldl_cons] at this ⊢
    obtain ⟨h1, h2, h3⟩ := this
    refine ⟨h1, ?_, ?_⟩
    · rw [h2]; simp [Bg.put]; omega
    · rw [h3]; simp [Bg.put]; omega
theorem GL.notIn {e : TypeId} {size n c : Nat} {A : Option Addr} {xs : List Value} {L1 La : List Bk} (h : GL e size (.slice A n c) n xs L1) (hd : ∀ y ∈ L1, ¬ InL La y.1) : ∀ ad, A = Option.some ad → ¬ InL La ad.block := by
  intro ad ha
  subst ha
  cases h with
  | row b _ cap _ pad => exact hd _ (.head _)
section
variable {w : World} {pc pg pm pn pl pd : Nat} {f : Nat} {x : Lf} {d : Dsk} {vl vh vo : Value} {ps : List Nat} {hist : List Evt} {L1 Lr Lh Lg LO Lx : List Bk} {seen i : Nat} {life : Int} {B : Bg} {os : List (Int × List UInt8)}
set_option maxRecDepth 100000 in
set_option maxHeartbeats 2000000 in
theorem behind_wait (hR : GL tMemP 1 vl ps.length (ps.map pV) Lr) (hp : ps[i]? = some pm) (hI : LifeAt x d pl pd L1) (hH : GL tEv 15 vh hist.length (hist.flatMap encE) Lh)
    (h0 : 0 < x.past.length) (hs : seen ≤ x.past.length) (hpl : x.past.length ≤ 100000) (hhl : hist.length ≤ 100000) (hB : BagAt B pg Lg) (hO : OutsIs os vo LO)
    (hroom : 0 ≤ B.room) (hroom1 : B.room ≤ 65536) (hfit : (B.grams.length + os.length : Int) ≤ B.room) (hl0 : 0 ≤ B.last) (hl1 : B.last + os.length ≤ 1099511627775) (hsz : ∀ o ∈ os, o.2.length ≤ 1024)
    (H0 : Own w ((pc, tClu, cluC f vl (pV pg) vh) :: (pm, tMem, #[pV pn, pV pd, .int .i64 life, .int .i64 seen]) :: (pn, tNode, #[pV pl]) :: (L1 ++ (Lr ++ (Lh ++ (Lg ++ (LO ++ Lx)))))))
    {t0 t : TypeId} {u : Value} (hg : Blk w 0 t0 #[.iface t u]) (hg0 : ¬ InL ((pc, tClu, cluC f vl (pV pg) vh) :: (pm, tMem, #[pV pn, pV pd, .int .i64 life, .int .i64 seen]) :: (pn, tNode, #[pV pl]) :: (L1 ++ (Lr ++ (Lh ++ (Lg ++ (LO ++ Lx)))))) 0) :
    Calls Tryz.prog 54 #[pV pc, .int .i64 i, vo, .int .i64 170] w
      (fun e w' => ∃ sz vh' Lh' Lg', e = .returned (.int .i64 170) ∧ GL tEv 15 vh' (hist.length + (x.past.length - seen)) (hist.flatMap encE ++ (x.past.drop seen).flatMap encE) Lh' ∧ BagAt (B.sends i os) pg Lg' ∧
        Hp (InL ((pc, tClu, cluC f vl (pV pg) vh) :: (pm, tMem, #[pV pn, pV pd, .int .i64 life, .int .i64 seen]) :: (pn, tNode, #[pV pl]) :: (L1 ++ (Lr ++ (Lh ++ (Lg ++ (LO ++ Lx))))))) w w' sz
          ((pc, tClu, cluC f vl (pV pg) vh') :: (pm, tMem, #[pV pn, pV pd, .int .i64 life, .int .i64 x.past.length]) :: (pn, tNode, #[pV pl]) :: (L1 ++ (Lr ++ (Lh' ++ (Lg' ++ (LO ++ Lx)))))) []) := by
  go_enter Tryz.func54, Tryz.ntmps54
  have H := Hp.addR H0 hg hg0
  go_wp2_with (first | ((first | ((with_reducible apply wlB); refine hw_box rfl rfl H ?_) | ((with_reducible apply wlA); refine hw_alloc rfl H ?_) | ((with_reducible apply wlS); first | refine hw_store 0 rfl rfl rfl H rfl rfl rfl (by simp) rfl ?_ | refine hw_store 1 rfl rfl rfl H rfl rfl rfl (by simp) rfl ?_ | refine hw_store 2 rfl rfl rfl H rfl rfl rfl (by simp) rfl ?_ | refine hw_store 3 rfl rfl rfl H rfl rfl rfl (by simp) rfl ?_)); clear H; intro w' H; (try simp only [Act.eval, Act.put, Value.cells, segV, seg, segPut, NS, Nat.reduceAdd] at H)) | ((with_reducible apply wlL); (first | apply hw_load 0 rfl rfl H rfl | apply hw_load 1 rfl rfl H rfl | apply hw_load 2 rfl rfl H rfl | apply hw_load 3 rfl rfl H rfl); (focus (simp; done)); (focus (simp only [segV, seg, NS]; rfl))))
  refine (gather_raw (Lx := []) hR hp hI hH h0 hs hpl hhl (H.part (Lb := Lg ++ (LO ++ Lx)) pBeh1) rfl).mono ?_; rintro e w' ⟨s1, vh', Lh', rfl, hH', H1⟩; obtain ⟨hs1, H⟩ := H.join (Lb := Lg ++ (LO ++ Lx)) pBeh1 H1; clear H1
  simp only [List.append_nil, List.cons_append, List.append_assoc] at H
  go_wp2_with (first | ((first | ((with_reducible apply wlB); refine hw_box rfl rfl H ?_) | ((with_reducible apply wlA); refine hw_alloc rfl H ?_) | ((with_reducible apply wlS); first | refine hw_store 0 rfl rfl rfl H rfl rfl rfl (by simp) rfl ?_ | refine hw_store 1 rfl rfl rfl H rfl rfl rfl (by simp) rfl ?_ | refine hw_store 2 rfl rfl rfl H rfl rfl rfl (by simp) rfl ?_ | refine hw_store 3 rfl rfl rfl H rfl rfl rfl (by simp) rfl ?_)); clear H; intro w' H; (try simp only [Act.eval, Act.put, Value.cells, segV, seg, segPut, NS, Nat.reduceAdd] at H)) | ((with_reducible apply wlL); (first | apply hw_load 0 rfl rfl H rfl | apply hw_load 1 rfl rfl H rfl | apply hw_load 2 rfl rfl H rfl | apply hw_load 3 rfl rfl H rfl); (focus (simp; done)); (focus (simp only [segV, seg, NS]; rfl))))
  (try simp only [Act.eval, Act.put, Value.cells, segV, seg, segPut, NS, Nat.reduceAdd])
  refine region_det 4 (HpX _ _ _ _ _) rfl (by kernel_rfl) ⟨_, Nat.le_refl _, H.drew⟩ ?_; clear H; simp only [List.take_succ_cons, List.take_zero, List.drop_succ_cons, List.drop_zero]
  repeat (first | (apply det_op rfl; (focus (rintro w' ⟨s1, hs1, H⟩; go_wp2_with (first | ((with_reducible apply wlL); apply hw_loadR 0 rfl rfl H rfl; (focus (simp; done)); (focus (simp only [segV, seg, NS]; rfl))) | (go_at_call 85; refine (fate_170 _).mono ?_; rintro e w' ⟨rfl, hb⟩; obtain ⟨s2, hs2, H⟩ := H.call hb; clear hb) | (go_at_call 84; refine (errIs_nil _ _ _).mono ?_; rintro e w' ⟨rfl, hb⟩; obtain ⟨s2, hs2, H⟩ := H.call hb; clear hb)); refine ⟨rfl, rfl, ?_, _, by omega, H⟩; (first | (simp only [SlotIs, Array.getD_eq_getD_getElem?, List.getElem?_toArray, List.getElem?_cons_succ, List.getElem?_cons_zero, Option.getD_some]; exact rfl) | exact rfl))); (try simp only [Act.put, List.setIfInBounds_toArray, List.set_cons_zero, List.set_cons_succ])) | (apply det_skip rfl; (try simp only [Act.put, List.setIfInBounds_toArray, List.set_cons_zero, List.set_cons_succ])))
  rintro w' ⟨s4, hs4, H⟩; (try simp only [Act.eval, Act.put, Value.cells, segV, seg, segPut, NS, Nat.reduceAdd])
  obtain ⟨cs, LD, LS, hD, hS, rfl⟩ := hO
  obtain ⟨Ao, co, rfl⟩ := GL.isSl hS
  go_wp2_with (first | ((first | ((with_reducible apply wlB); refine hw_box rfl rfl H ?_) | ((with_reducible apply wlA); refine hw_alloc rfl H ?_) | ((with_reducible apply wlS); first | refine hw_store 0 rfl rfl rfl H rfl rfl rfl (by simp) rfl ?_ | refine hw_store 1 rfl rfl rfl H rfl rfl rfl (by simp) rfl ?_ | refine hw_store 2 rfl rfl rfl H rfl rfl rfl (by simp) rfl ?_ | refine hw_store 3 rfl rfl rfl H rfl rfl rfl (by simp) rfl ?_)); clear H; intro w' H; (try simp only [Act.eval, Act.put, Value.cells, segV, seg, segPut, NS, Nat.reduceAdd] at H)) | ((with_reducible apply wlL); (first | apply hw_load 0 rfl rfl H rfl | apply hw_load 1 rfl rfl H rfl | apply hw_load 2 rfl rfl H rfl | apply hw_load 3 rfl rfl H rfl); (focus (simp; done)); (focus (simp only [segV, seg, NS]; rfl))))
  have hos : GL tOut 2 (.slice Ao os.length co) os.length cs LS := hS
  simp only [List.append_assoc] at H
  go_loopw [23] (fun j wr => ∃ (k sz : Nat) (Lg' : List Bk), k ≤ os.length ∧ j = .int .i64 k ∧ BagAt (B.sends i (os.take k)) pg Lg' ∧
      Hp (InL ((pc, tClu, cluC f vl (pV pg) vh) :: (pm, tMem, #[pV pn, pV pd, .int .i64 life, .int .i64 seen]) :: (pn, tNode, #[pV pl]) :: (L1 ++ (Lr ++ (Lh ++ (Lg ++ (LS ++ (LD ++ Lx)))))))) w wr sz
        ((pc, tClu, cluC f vl (pV pg) vh') :: (pm, tMem, #[pV pn, pV pd, .int .i64 life, .int .i64 x.past.length]) :: (pn, tNode, #[pV pl]) :: (L1 ++ (Lr ++ (Lh' ++ (Lg' ++ (LS ++ (LD ++ Lx))))))) [(0, t0, #[.iface t u])]) (fun j _ => os.length - (intOf j).toNat)
  case atStart => exact ⟨0, _, Lg, Nat.zero_le _, rfl, hB, H⟩
  case round =>
    clear H
    obtain ⟨k, sz, Lg', hk, rfl, hBg, H⟩ := hrel
    by_cases hlt : k < os.length
    · obtain ⟨bo, co', pad, he, hc, rfl, hx, hpd⟩ := hos.some (by omega)
      cases he
      obtain ⟨vd, Ld, hseg, hGd, hsub⟩ := hD.at k hlt
      obtain ⟨Ad, cd, rfl⟩ := GL.isSl hGd
      have hl2 := hD.len
      have hbW := H.blk (bo, tOut, (cs ++ pad).toArray) (by simp)
      have HB := Lib.hid (show k * 2 + 2 ≤ (cs ++ pad).toArray.size by simp; omega)
      have HV := Lib.hid (show segV true (cs ++ pad).toArray (k * 2) 2 = .agg #[.int .i64 os[k].1, .slice Ad os[k].2.length cd] by
        simp only [segV, if_true, seg]
        rw [List.drop_append_of_le_length (by omega), List.take_append_of_le_length (by rw [List.length_drop]; omega), hseg])
      have HT := Lib.hid (show os.take (k + 1) = os.take k ++ [os[k]] from List.take_succ_eq_append_getElem hlt)
      have hdk := hsz _ (List.getElem_mem hlt)
      have hF := sends_facts i (os.take k) B
      have hkl : (os.take k).length = k := by simp; omega
      rw [hkl] at hF
      obtain ⟨F1, F2, F3⟩ := hF
      have F1 := Lib.hid F1; have F2 := Lib.hid F2; have F3 := Lib.hid F3
      clear hkl hseg
      generalize os[k] = o at *
      obtain ⟨oq, od⟩ := o
      go_wp2_with (first | ((with_reducible show wpList _ _ _ (⟨_, .load _ _, _, _, _, _⟩ :: _) _ _); apply hw_loadB rfl rfl hbW; (focus exact HB.out); (focus exact HV.out)) | ((first | ((with_reducible apply wlB); refine hw_box rfl rfl H ?_) | ((with_reducible apply wlA); refine hw_alloc rfl H ?_) | ((with_reducible apply wlS); first | refine hw_store 0 rfl rfl rfl H rfl rfl rfl (by simp) rfl ?_ | refine hw_store 1 rfl rfl rfl H rfl rfl rfl (by simp) rfl ?_ | refine hw_store 2 rfl rfl rfl H rfl rfl rfl (by simp) rfl ?_ | refine hw_store 3 rfl rfl rfl H rfl rfl rfl (by simp) rfl ?_)); clear H; intro w' H; (try simp only [Act.eval, Act.put, Value.cells, segV, seg, segPut, NS, Nat.reduceAdd] at H)) | ((with_reducible apply wlL); (first | apply hw_load 0 rfl rfl H rfl | apply hw_load 1 rfl rfl H rfl | apply hw_load 2 rfl rfl H rfl | apply hw_load 3 rfl rfl H rfl); (focus (simp; done)); (focus (simp only [segV, seg, NS]; rfl))))
      (try simp only [Act.eval, Act.put, Value.cells, segV, seg, segPut, NS, Nat.reduceAdd])
      clear hbW
      refine region_det 9 (HpX _ _ _ _ _) rfl (by kernel_rfl) ⟨_, Nat.le_refl _, H.drew⟩ ?_; clear H; simp only [List.take_succ_cons, List.take_zero, List.drop_succ_cons, List.drop_zero]
      repeat (first | (apply det_op rfl; (focus (rintro w' ⟨s1, hs1, H⟩; go_wp2_with (first | ((with_reducible apply wlL); apply hw_load 0 rfl rfl H rfl; (focus (simp; done)); (focus (simp only [segV, seg, NS]; rfl))) | ((with_reducible apply wlL); apply hw_load 1 rfl rfl H rfl; (focus (simp; done)); (focus (simp only [segV, seg, NS]; rfl)))); refine ⟨rfl, rfl, ?_, _, by omega, H⟩; (first | (simp only [SlotIs, Array.getD_eq_getD_getElem?, List.getElem?_toArray, List.getElem?_cons_succ, List.getElem?_cons_zero, Option.getD_some]; exact rfl) | exact rfl))); (try simp only [Act.put, List.setIfInBounds_toArray, List.set_cons_zero, List.set_cons_succ])) | (apply det_skip rfl; (try simp only [Act.put, List.setIfInBounds_toArray, List.set_cons_zero, List.set_cons_succ])))
      rintro w' ⟨s5, hs5, H⟩; (try simp only [Act.eval, Act.put, Value.cells, segV, seg, segPut, NS, Nat.reduceAdd])
      go_wp2_with (first | ((first | ((with_reducible apply wlB); refine hw_box rfl rfl H ?_) | ((with_reducible apply wlA); refine hw_alloc rfl H ?_) | ((with_reducible apply wlS); first | refine hw_store 0 rfl rfl rfl H rfl rfl rfl (by simp) rfl ?_ | refine hw_store 1 rfl rfl rfl H rfl rfl rfl (by simp) rfl ?_ | refine hw_store 2 rfl rfl rfl H rfl rfl rfl (by simp) rfl ?_ | refine hw_store 3 rfl rfl rfl H rfl rfl rfl (by simp) rfl ?_)); clear H; intro w' H; (try simp only [Act.eval, Act.put, Value.cells, segV, seg, segPut, NS, Nat.reduceAdd] at H)) | ((with_reducible apply wlL); (first | apply hw_load 0 rfl rfl H rfl | apply hw_load 1 rfl rfl H rfl | apply hw_load 2 rfl rfl H rfl | apply hw_load 3 rfl rfl H rfl); (focus (simp; done)); (focus (simp only [segV, seg, NS]; rfl))))
      have hdj := H.disj pBeh2
      refine (gSend_ok hBg (H.part pBeh2) (by rw [F1.out]; omega) (by rw [F1.out]; omega) (by rw [F1.out, F2.out]; omega) (by rw [F3.out]; omega) (by rw [F3.out]; omega) i oq (hGd.rd2 H (fun y hy => by simp [hsub y hy]) (by simp [bv, Value.oneCell'])) (hGd.notIn (fun y hy => hdj y (by simp [hsub y hy]))) hdk).mono ?_
      rintro e w' ⟨s6, Lg2, rfl, hBg2, H1⟩; obtain ⟨hs6, H⟩ := H.join pBeh2 H1; clear H1
      go_wp2
      have hBg3 : BagAt (B.sends i (os.take (k + 1))) pg Lg2 := by
        rw [HT.out]
        unfold Bg.sends
        rw [List.foldl_append]
        exact hBg2
      exact ⟨⟨k + 1, _, Lg2, by omega, rfl, hBg3, (H.perm pBeh3).drop1⟩, by simp [intOf]; omega⟩
    · obtain rfl : k = os.length := by omega
      go_wp2_with (first | ((first | ((with_reducible apply wlB); refine hw_box rfl rfl H ?_) | ((with_reducible apply wlA); refine hw_alloc rfl H ?_) | ((with_reducible apply wlS); first | refine hw_store 0 rfl rfl rfl H rfl rfl rfl (by simp) rfl ?_ | refine hw_store 1 rfl rfl rfl H rfl rfl rfl (by simp) rfl ?_ | refine hw_store 2 rfl rfl rfl H rfl rfl rfl (by simp) rfl ?_ | refine hw_store 3 rfl rfl rfl H rfl rfl rfl (by simp) rfl ?_)); clear H; intro w' H; (try simp only [Act.eval, Act.put, Value.cells, segV, seg, segPut, NS, Nat.reduceAdd] at H)) | ((with_reducible apply wlL); (first | apply hw_load 0 rfl rfl H rfl | apply hw_load 1 rfl rfl H rfl | apply hw_load 2 rfl rfl H rfl | apply hw_load 3 rfl rfl H rfl); (focus (simp; done)); (focus (simp only [segV, seg, NS]; rfl))))
      rw [List.take_length] at hBg
      exact bodyPost_ret (res1 rfl (rv_tmp rfl)) rfl ⟨_, vh', Lh', Lg', rfl, hH', hBg, by simp only [List.append_assoc]; exact H.noR⟩
end
end Go.Proofs.YtccgpjhgfjfaoaaGreatDoor
/- cluster: poll, where the node waits. -/
namespace Go.Proofs.YtccgpjhgfjfaoaaGreatDoor
open Go.RowKit

def PlF (x' : Lf) (d : Dsk) (pn pl pd : Nat) (os : List (Int × List UInt8)) (Rest : List Bk) : St → Prop
  | [] => True
  | [(u, X)] => ∃ A c L1 L2, u = .tuple #[.slice A os.length c, .int .i64 170] ∧ LifeAt x' d pl pd L1 ∧ OutsIs os (.slice A os.length c) L2 ∧ X = (pn, tNode, #[pV pl]) :: (L1 ++ (L2 ++ Rest))
  | _ => False
section
variable {x' : Lf} {d : Dsk} {pn pl pd : Nat} {os : List (Int × List UInt8)} {Rest : List Bk} {st : St}
theorem PlF.one (hF : PlF x' d pn pl pd os Rest st) (h : st.length = 1) : ∃ A c L1 L2, st = [(.tuple #[.slice A os.length c, .int .i64 170], (pn, tNode, #[pV pl]) :: (L1 ++ (L2 ++ Rest)))] ∧ LifeAt x' d pl pd L1 ∧ OutsIs os (.slice A os.length c) L2 := by
  match st, hF with
  | [(u, X)], ⟨A, c, L1, L2, hu, hL, hO, hx⟩ => subst hu hx; exact ⟨A, c, L1, L2, rfl, hL, hO⟩
theorem PlF.tup (hF : PlF x' d pn pl pd os Rest st) (h : 1 ≤ st.length) : ∃ A c, vq st 0 = .tuple #[.slice A os.length c, .int .i64 170] := by
  match st, hF with
  | [(u, X)], ⟨A, c, L1, L2, hu, hL, hO, hx⟩ => subst hu; exact ⟨A, c, rfl⟩
end
theorem outsN_sz (self : Int) (B : List UInt8) (k : Nat) (h : B.length ≤ 1024) : ∀ o ∈ outsN self B k, o.2.length ≤ 1024 := by
  intro o ho
  unfold outsN at ho
  obtain ⟨i, _, rfl⟩ := List.mem_map.1 ho
  exact h
theorem pPl1 {α : Type} {z a b n R : α} {L X : List α} : (z :: a :: b :: n :: (L ++ R :: X)).Perm (z :: a :: b :: R :: n :: (L ++ X)) := by
  apply perm_count; intro x; simp only [List.count_append, List.count_cons, List.count_nil]; omega
theorem pPl2 {α : Type} {z a b n r : α} {L X : List α} : (z :: a :: b :: r :: n :: (L ++ X)).Perm ((n :: L) ++ (z :: a :: b :: r :: X)) := by
  apply perm_count; intro x; simp only [List.count_append, List.count_cons, List.count_nil]; omega
theorem pPl3 {α : Type} {z a b n r : α} {L O X : List α} : ((n :: (L ++ O)) ++ (z :: a :: b :: r :: X)).Perm (z :: a :: b :: r :: n :: (L ++ (O ++ X))) := by
  apply perm_count; intro x; simp only [List.count_append, List.count_cons, List.count_nil]; omega
theorem pPl4 {α : Type} {z a b n r : α} {L O H G X : List α} : (z :: a :: b :: r :: n :: (L ++ (O ++ (H ++ (G ++ X))))).Perm ((a :: b :: n :: (L ++ ([r] ++ (H ++ (G ++ (O ++ [])))))) ++ (z :: X)) := by
  apply perm_count; intro x; simp only [List.count_append, List.count_cons, List.count_nil]; omega
theorem pPl5 {α : Type} {z a b n r : α} {L O H G X : List α} : ((a :: b :: n :: (L ++ ([r] ++ (H ++ (G ++ (O ++ [])))))) ++ (z :: X)).Perm ((a :: b :: n :: (L ++ r :: (H ++ (G ++ (O ++ X))))) ++ [z]) := by
  apply perm_count; intro x; simp only [List.count_append, List.count_cons, List.count_nil]; omega
section
variable {w : World} {pc pg pm pn pl pd : Nat} {f : Nat} {x : Lf} {d : Dsk} {vl vh : Value} {ps : List Nat} {hist : List Evt} {L1 Lr Lh Lg Lx : List Bk} {seen i : Nat} {life : Int} {B : Bg}
set_option maxRecDepth 100000 in
set_option maxHeartbeats 2000000 in
theorem poll_wait (hR : GL tMemP 1 vl ps.length (ps.map pV) Lr) (hp : ps[i]? = some pm) (hI : LifeAt x d pl pd L1) (hH : GL tEv 15 vh hist.length (hist.flatMap encE) Lh)
    (ok : okLf x) (hnews : newsN x.book = []) (hd : x.down = false) (hr : readyB x.T.need x.T.heards.length = false)
    (hs : seen ≤ x.past.length) (hpl : x.past.length ≤ 90000) (hhl : hist.length ≤ 100000) (hB : BagAt B pg Lg)
    (hroom : 0 ≤ B.room) (hroom1 : B.room ≤ 65536) (hfit : (B.grams.length + 100 : Int) ≤ B.room) (hl0 : 0 ≤ B.last) (hl1 : B.last + 100 ≤ 1099511627775)
    (H0 : Own w ((pc, tClu, cluC f vl (pV pg) vh) :: (pm, tMem, #[pV pn, pV pd, .int .i64 life, .int .i64 seen]) :: (pn, tNode, #[pV pl]) :: (L1 ++ (Lr ++ (Lh ++ (Lg ++ Lx))))))
    {t0 t : TypeId} {u : Value} (hg : Blk w 0 t0 #[.iface t u]) (hg0 : ¬ InL ((pc, tClu, cluC f vl (pV pg) vh) :: (pm, tMem, #[pV pn, pV pd, .int .i64 life, .int .i64 seen]) :: (pn, tNode, #[pV pl]) :: (L1 ++ (Lr ++ (Lh ++ (Lg ++ Lx))))) 0)
    (k b c : Int) (A : Option Addr) (n m : Nat) (ans : Value) :
    Calls Tryz.prog 28 #[pV pc, stepV k i b c A n m, ans] w
      (fun e w' => ∃ sz vh' Lh' Lg' L1' LO, e = .returned (.int .i64 170) ∧ LifeAt (x.happens { kind := 2, round := x.T.round }) d pl pd L1' ∧
        GL tEv 15 vh' (hist.length + (x.past.length + 1 - seen)) (hist.flatMap encE ++ ((x.happens { kind := 2, round := x.T.round }).past.drop seen).flatMap encE) Lh' ∧ BagAt (B.sends i (outsN x.self (askB x) x.n.toNat)) pg Lg' ∧
        Hp (InL ((pc, tClu, cluC f vl (pV pg) vh) :: (pm, tMem, #[pV pn, pV pd, .int .i64 life, .int .i64 seen]) :: (pn, tNode, #[pV pl]) :: (L1 ++ (Lr ++ (Lh ++ (Lg ++ Lx)))))) w w' sz
          ((pc, tClu, cluC f vl (pV pg) vh') :: (pm, tMem, #[pV pn, pV pd, .int .i64 life, .int .i64 (x.past.length + 1 : Nat)]) :: (pn, tNode, #[pV pl]) :: (L1' ++ (Lr ++ (Lh' ++ (Lg' ++ (LO ++ Lx)))))) []) := by
  have hi : i < ps.length := (List.getElem?_eq_some_iff.1 hp).1
  have hp0 := Lib.hid hp
  have hR0 := hR
  obtain ⟨br, cr, pad, rfl, hc, rfl, hx, hpd⟩ := hR.some (by omega)
  obtain ⟨HV, HB⟩ := row_at (pad := pad) hp
  have HV := Lib.hid HV
  have HB := Lib.hid HB
  have HD := Lib.hid hd
  clear hp hd
  obtain ⟨pb, pk, pr, pt, pv, LT, LP, hIs⟩ := hI
  have hEq := Lib.hid hIs.eq
  simp only [List.cons_append, List.nil_append] at H0 hg0 ⊢
  go_enter Tryz.func28, Tryz.ntmps28
  have H := Hp.addR H0 hg hg0
  go_wp2_with (first | ((first | ((with_reducible apply wlB); refine hw_box rfl rfl H ?_) | ((with_reducible apply wlA); refine hw_alloc rfl H ?_) | ((with_reducible apply wlS); first | refine hw_store 0 rfl rfl rfl H rfl rfl rfl (by simp) rfl ?_ | refine hw_store 1 rfl rfl rfl H rfl rfl rfl (by simp) rfl ?_ | refine hw_store 2 rfl rfl rfl H rfl rfl rfl (by simp) rfl ?_ | refine hw_store 3 rfl rfl rfl H rfl rfl rfl (by simp) rfl ?_)); clear H; intro w' H; (try simp only [Act.eval, Act.put, Value.cells, segV, seg, segPut, NS, Nat.reduceAdd] at H)) | ((with_reducible apply wlL); (first | apply hw_load 0 rfl rfl H rfl | apply hw_load 1 rfl rfl H rfl | apply hw_load 2 rfl rfl H rfl | apply hw_load 3 rfl rfl H rfl); (focus (simp; done)); (focus (simp only [segV, seg, NS]; rfl))))
  refine (asked_ok (H.blk (pc, tClu, cluC f (.slice (some ⟨br, 0, none⟩) ps.length cr) (pV pg) vh) (by simp)) i hi).mono ?_; rintro e w' ⟨rfl, hb⟩; obtain ⟨s1, hs1, H⟩ := H.call hb; clear hb
  go_wp2_with (first | ((first | ((with_reducible apply wlB); refine hw_box rfl rfl H ?_) | ((with_reducible apply wlA); refine hw_alloc rfl H ?_) | ((with_reducible apply wlS); first | refine hw_store 0 rfl rfl rfl H rfl rfl rfl (by simp) rfl ?_ | refine hw_store 1 rfl rfl rfl H rfl rfl rfl (by simp) rfl ?_ | refine hw_store 2 rfl rfl rfl H rfl rfl rfl (by simp) rfl ?_ | refine hw_store 3 rfl rfl rfl H rfl rfl rfl (by simp) rfl ?_)); clear H; intro w' H; (try simp only [Act.eval, Act.put, Value.cells, segV, seg, segPut, NS, Nat.reduceAdd] at H)) | ((with_reducible apply wlL); (first | apply hw_load 0 rfl rfl H rfl | apply hw_load 1 rfl rfl H rfl | apply hw_load 2 rfl rfl H rfl | apply hw_load 3 rfl rfl H rfl); (focus (simp; done)); (focus (simp only [segV, seg, NS]; rfl))))
  (try simp only [Act.eval, Act.put, Value.cells, segV, seg, segPut, NS, Nat.reduceAdd])
  replace H := H.perm pPl1
  refine region_det 13 (HpX _ _ _ _ _) rfl (by kernel_rfl) ⟨_, Nat.le_refl _, H.drew⟩ ?_; clear H; simp only [List.take_succ_cons, List.take_zero, List.drop_succ_cons, List.drop_zero]
  repeat (first | (apply det_op rfl; (focus (rintro w' ⟨s1, hs1, H⟩; go_wp2_with (first | ((with_reducible apply wlL); apply hw_load 0 rfl rfl H rfl; (focus (simp; done)); (focus (simp only [segV, seg, NS]; rfl))) | ((with_reducible apply wlL); apply hw_load 1 rfl rfl H rfl; (focus (simp; done)); (focus (simp only [segV, seg, NS]; rfl))) | ((with_reducible apply wlL); apply hw_load 2 rfl rfl H rfl; (focus (simp; done)); (focus (simp only [segV, seg, NS]; rfl))) | ((with_reducible show wpList _ _ _ (⟨_, .load _ _, _, _, _, _⟩ :: _) _ _); apply hw_load 3 rfl rfl H rfl; (focus exact HB.out); (focus exact HV.out)) | (go_at_call 26; refine (nUp_any (H.blk (pn, tNode, #[pV pl]) (by simp)) (H.blk (pl, tLife, lifeC x pb pk pt pv) (by simp [hEq.out]))).mono ?_; rw [HD.out]; rintro e w' ⟨rfl, hb⟩; obtain ⟨s2, hs2, H⟩ := H.call hb; clear hb)); refine ⟨rfl, rfl, ?_, _, by omega, H⟩; (first | (simp only [SlotIs, Array.getD_eq_getD_getElem?, List.getElem?_toArray, List.getElem?_cons_succ, List.getElem?_cons_zero, Option.getD_some]; exact rfl) | exact rfl))); (try simp only [Act.put, List.setIfInBounds_toArray, List.set_cons_zero, List.set_cons_succ])) | (apply det_skip rfl; (try simp only [Act.put, List.setIfInBounds_toArray, List.set_cons_zero, List.set_cons_succ])))
  rintro w' ⟨s4, hs4, H⟩; (try simp only [Act.eval, Act.put, Value.cells, segV, seg, segPut, NS, Nat.reduceAdd])
  go_wp2_with (first | ((first | ((with_reducible apply wlB); refine hw_box rfl rfl H ?_) | ((with_reducible apply wlA); refine hw_alloc rfl H ?_) | ((with_reducible apply wlS); first | refine hw_store 0 rfl rfl rfl H rfl rfl rfl (by simp) rfl ?_ | refine hw_store 1 rfl rfl rfl H rfl rfl rfl (by simp) rfl ?_ | refine hw_store 2 rfl rfl rfl H rfl rfl rfl (by simp) rfl ?_ | refine hw_store 3 rfl rfl rfl H rfl rfl rfl (by simp) rfl ?_)); clear H; intro w' H; (try simp only [Act.eval, Act.put, Value.cells, segV, seg, segPut, NS, Nat.reduceAdd] at H)) | ((with_reducible apply wlL); (first | apply hw_load 0 rfl rfl H rfl | apply hw_load 1 rfl rfl H rfl | apply hw_load 2 rfl rfl H rfl | apply hw_load 3 rfl rfl H rfl); (focus (simp; done)); (focus (simp only [segV, seg, NS]; rfl))))
  (try simp only [Act.eval, Act.put, Value.cells, segV, seg, segPut, NS, Nat.reduceAdd])
  refine region_GS0 17 [11] (fun i => if 11 ≤ i then 1 else 0) (PlF (x.happens { kind := 2, round := x.T.round }) d pn pl pd (outsN x.self (askB x) x.n.toNat) (Lh ++ (Lg ++ Lx))) (fun st => (w.heap.size, tStep, #[.int .i64 k, .int .i64 i, .int .i64 b, .int .i64 c, .slice A n m]) :: (pc, tClu, cluC f (.slice (some ⟨br, 0, none⟩) ps.length cr) (pV pg) vh) :: (pm, tMem, #[pV pn, pV pd, .int .i64 life, .int .i64 seen]) :: (br, tMemP, (ps.map pV ++ pad).toArray) :: OpL ((pn, tNode, #[pV pl]) :: (L1 ++ (Lh ++ (Lg ++ Lx)))) st) H trivial rfl (by kernel_rfl) ?_; clear H; simp only [List.take_succ_cons, List.take_zero, List.drop_succ_cons, List.drop_zero]
  repeat (first | (apply detG_op (by decide); (focus (rintro st hlv w' ⟨hF, s1, hs1, H⟩; go_wp2_with (first | ((with_reducible apply wlL); apply hw_load 0 rfl rfl H rfl; (focus (simp; done)); (focus (simp only [segV, seg, NS]; rfl))) | ((with_reducible apply wlL); apply hw_load 1 rfl rfl H rfl; (focus (simp; done)); (focus (simp only [segV, seg, NS]; rfl))) | ((with_reducible apply wlL); apply hw_load 2 rfl rfl H rfl; (focus (simp; done)); (focus (simp only [segV, seg, NS]; rfl))) | ((with_reducible show wpList _ _ _ (⟨_, .load _ _, _, _, _, _⟩ :: _) _ _); apply hw_load 3 rfl rfl H rfl; (focus exact HB.out); (focus exact HV.out))); refine ⟨rfl, rfl, ?_, hF, _, by omega, H⟩; (first | (simp only [SlotIs, Array.getD_eq_getD_getElem?, List.getElem?_toArray, List.getElem?_cons_succ, List.getElem?_cons_zero, Option.getD_some]; exact rfl) | exact rfl))); (focus (intros; rfl)); (try simp only [Act.put, List.setIfInBounds_toArray, List.set_cons_zero, List.set_cons_succ])))
  apply stgG_op (q := 0) (V := fun st => vq st 0) rfl nth1 (h := ?_) (hp := ?_) (hr := ?_)
  · rintro st hlv w' ⟨hF, s1, hs1, H⟩
    obtain rfl := List.eq_nil_of_length_eq_zero hlv
    simp only [OpL] at H
    go_wp2_with (first | ((first | ((with_reducible apply wlB); refine hw_box rfl rfl H ?_) | ((with_reducible apply wlA); refine hw_alloc rfl H ?_) | ((with_reducible apply wlS); first | refine hw_store 0 rfl rfl rfl H rfl rfl rfl (by simp) rfl ?_ | refine hw_store 1 rfl rfl rfl H rfl rfl rfl (by simp) rfl ?_ | refine hw_store 2 rfl rfl rfl H rfl rfl rfl (by simp) rfl ?_ | refine hw_store 3 rfl rfl rfl H rfl rfl rfl (by simp) rfl ?_)); clear H; intro w' H; (try simp only [Act.eval, Act.put, Value.cells, segV, seg, segPut, NS, Nat.reduceAdd] at H)) | ((with_reducible apply wlL); (first | apply hw_load 0 rfl rfl H rfl | apply hw_load 1 rfl rfl H rfl | apply hw_load 2 rfl rfl H rfl | apply hw_load 3 rfl rfl H rfl); (focus (simp; done)); (focus (simp only [segV, seg, NS]; rfl))))
    refine (nPoll_wait (pn := pn) ⟨pb, pk, pr, pt, pv, LT, LP, hIs⟩ (H.part pPl2) ok hnews (by omega) HD.out hr).mono ?_; rintro e w' ⟨s4, vv, L1', L2, rfl, hL, hO, H1⟩; obtain ⟨hs4, H⟩ := H.join pPl2 H1; clear H1
    have hO' := hO
    obtain ⟨cs, LD, LS, hD, hS, rfl⟩ := hO
    obtain ⟨Ao, co, rfl⟩ := GL.isSl hS
    go_wp2_with (first | ((first | ((with_reducible apply wlB); refine hw_box rfl rfl H ?_) | ((with_reducible apply wlA); refine hw_alloc rfl H ?_) | ((with_reducible apply wlS); first | refine hw_store 0 rfl rfl rfl H rfl rfl rfl (by simp) rfl ?_ | refine hw_store 1 rfl rfl rfl H rfl rfl rfl (by simp) rfl ?_ | refine hw_store 2 rfl rfl rfl H rfl rfl rfl (by simp) rfl ?_ | refine hw_store 3 rfl rfl rfl H rfl rfl rfl (by simp) rfl ?_)); clear H; intro w' H; (try simp only [Act.eval, Act.put, Value.cells, segV, seg, segPut, NS, Nat.reduceAdd] at H)) | ((with_reducible apply wlL); (first | apply hw_load 0 rfl rfl H rfl | apply hw_load 1 rfl rfl H rfl | apply hw_load 2 rfl rfl H rfl | apply hw_load 3 rfl rfl H rfl); (focus (simp; done)); (focus (simp only [segV, seg, NS]; rfl))))
    exact ⟨rfl, rfl, [(_, (pn, tNode, #[pV pl]) :: (L1' ++ ((LS ++ LD) ++ (Lh ++ (Lg ++ Lx)))))], rfl, .inr ⟨_, rfl⟩, rfl, ⟨_, _, _, _, rfl, hL, hO', rfl⟩, _, by omega, H.perm pPl3⟩
  · exact fun st st' hl ha => vq_adv (by omega) ha
  (try simp only [Act.put, List.setIfInBounds_toArray, List.set_cons_zero, List.set_cons_succ])
  apply detG_op (by decide) (V := fun st => vq st 0) (h := ?_) (hp := ?_) (hr := ?_)
  · rintro st hlv w' ⟨hF, s1, hs1, H⟩
    go_wp2_with (first | ((first | ((with_reducible apply wlB); refine hw_box rfl rfl H ?_) | ((with_reducible apply wlA); refine hw_alloc rfl H ?_) | ((with_reducible apply wlS); first | refine hw_store 0 rfl rfl rfl H rfl rfl rfl (by simp) rfl ?_ | refine hw_store 1 rfl rfl rfl H rfl rfl rfl (by simp) rfl ?_ | refine hw_store 2 rfl rfl rfl H rfl rfl rfl (by simp) rfl ?_ | refine hw_store 3 rfl rfl rfl H rfl rfl rfl (by simp) rfl ?_)); clear H; intro w' H; (try simp only [Act.eval, Act.put, Value.cells, segV, seg, segPut, NS, Nat.reduceAdd] at H)) | ((with_reducible apply wlL); (first | apply hw_load 0 rfl rfl H rfl | apply hw_load 1 rfl rfl H rfl | apply hw_load 2 rfl rfl H rfl | apply hw_load 3 rfl rfl H rfl); (focus (simp; done)); (focus (simp only [segV, seg, NS]; rfl))))
    exact ⟨rfl, rfl, rfl, hF, _, by omega, H⟩
  · exact fun st st' hl ha => vq_adv hl ha
  (try simp only [Act.put, List.setIfInBounds_toArray, List.set_cons_zero, List.set_cons_succ])
  apply detG_extract (q := 0) (by decide) (by decide) (fun _ => rfl) (hF := fun st w hl ⟨hF, _⟩ => by obtain ⟨A1, c1, hv⟩ := hF.tup hl; exact ⟨_, hv, by simp⟩) (hr := ?_)
  (try simp only [Act.put, List.setIfInBounds_toArray, List.set_cons_zero, List.set_cons_succ])
  apply detG_extract (q := 0) (by decide) (by decide) (fun _ => rfl) (hF := fun st w hl ⟨hF, _⟩ => by obtain ⟨A1, c1, hv⟩ := hF.tup hl; exact ⟨_, hv, by simp⟩) (hr := ?_)
  (try simp only [Act.put, List.setIfInBounds_toArray, List.set_cons_zero, List.set_cons_succ])
  apply detG_op (by decide) (V := fun st => tupAt (vq st 0) 0) (h := ?_) (hp := ?_) (hr := ?_)
  · rintro st hlv w' ⟨hF, s1, hs1, H⟩
    go_wp2_with (first | ((first | ((with_reducible apply wlB); refine hw_box rfl rfl H ?_) | ((with_reducible apply wlA); refine hw_alloc rfl H ?_) | ((with_reducible apply wlS); first | refine hw_store 0 rfl rfl rfl H rfl rfl rfl (by simp) rfl ?_ | refine hw_store 1 rfl rfl rfl H rfl rfl rfl (by simp) rfl ?_ | refine hw_store 2 rfl rfl rfl H rfl rfl rfl (by simp) rfl ?_ | refine hw_store 3 rfl rfl rfl H rfl rfl rfl (by simp) rfl ?_)); clear H; intro w' H; (try simp only [Act.eval, Act.put, Value.cells, segV, seg, segPut, NS, Nat.reduceAdd] at H)) | ((with_reducible apply wlL); (first | apply hw_load 0 rfl rfl H rfl | apply hw_load 1 rfl rfl H rfl | apply hw_load 2 rfl rfl H rfl | apply hw_load 3 rfl rfl H rfl); (focus (simp; done)); (focus (simp only [segV, seg, NS]; rfl))))
    exact ⟨rfl, rfl, rfl, hF, _, by omega, H⟩
  · intro st st' hl ha
    show tupAt _ _ = tupAt _ _
    rw [vq_adv hl ha]
  (try simp only [Act.put, List.setIfInBounds_toArray, List.set_cons_zero, List.set_cons_succ])
  apply detG_op (by decide) (V := fun st => tupAt (vq st 0) 1) (h := ?_) (hp := ?_) (hr := ?_)
  · rintro st hlv w' ⟨hF, s1, hs1, H⟩
    go_wp2_with (first | ((first | ((with_reducible apply wlB); refine hw_box rfl rfl H ?_) | ((with_reducible apply wlA); refine hw_alloc rfl H ?_) | ((with_reducible apply wlS); first | refine hw_store 0 rfl rfl rfl H rfl rfl rfl (by simp) rfl ?_ | refine hw_store 1 rfl rfl rfl H rfl rfl rfl (by simp) rfl ?_ | refine hw_store 2 rfl rfl rfl H rfl rfl rfl (by simp) rfl ?_ | refine hw_store 3 rfl rfl rfl H rfl rfl rfl (by simp) rfl ?_)); clear H; intro w' H; (try simp only [Act.eval, Act.put, Value.cells, segV, seg, segPut, NS, Nat.reduceAdd] at H)) | ((with_reducible apply wlL); (first | apply hw_load 0 rfl rfl H rfl | apply hw_load 1 rfl rfl H rfl | apply hw_load 2 rfl rfl H rfl | apply hw_load 3 rfl rfl H rfl); (focus (simp; done)); (focus (simp only [segV, seg, NS]; rfl))))
    exact ⟨rfl, rfl, rfl, hF, _, by omega, H⟩
  · intro st st' hl ha
    show tupAt _ _ = tupAt _ _
    rw [vq_adv hl ha]
  (try simp only [Act.put, List.setIfInBounds_toArray, List.set_cons_zero, List.set_cons_succ])
  rintro st w' hl ⟨hF, s5, hs5, H⟩
  obtain ⟨Ao, co, L1', LO, rfl, hLA, hO⟩ := hF.one hl
  simp only [OpL, show ∀ (u : Value) (L : List Bk), vq [(u, L)] 0 = u from fun _ _ => rfl, show ∀ u v : Value, tupAt (.tuple #[u, v]) 0 = u from fun _ _ => rfl, show ∀ u v : Value, tupAt (.tuple #[u, v]) 1 = v from fun _ _ => rfl, List.nil_append] at H ⊢
  go_wp2_with (first | ((first | ((with_reducible apply wlB); refine hw_box rfl rfl H ?_) | ((with_reducible apply wlA); refine hw_alloc rfl H ?_) | ((with_reducible apply wlS); first | refine hw_store 0 rfl rfl rfl H rfl rfl rfl (by simp) rfl ?_ | refine hw_store 1 rfl rfl rfl H rfl rfl rfl (by simp) rfl ?_ | refine hw_store 2 rfl rfl rfl H rfl rfl rfl (by simp) rfl ?_ | refine hw_store 3 rfl rfl rfl H rfl rfl rfl (by simp) rfl ?_)); clear H; intro w' H; (try simp only [Act.eval, Act.put, Value.cells, segV, seg, segPut, NS, Nat.reduceAdd] at H)) | ((with_reducible apply wlL); (first | apply hw_load 0 rfl rfl H rfl | apply hw_load 1 rfl rfl H rfl | apply hw_load 2 rfl rfl H rfl | apply hw_load 3 rfl rfl H rfl); (focus (simp; done)); (focus (simp only [segV, seg, NS]; rfl))))
  have HI := H.innerR (Lb := (w.heap.size, tStep, #[.int .i64 k, .int .i64 i, .int .i64 b, .int .i64 c, .slice A n m]) :: Lx) pPl4
  have hgx := HI.ro (0, t0, #[.iface t u]) (by simp)
  have hpl' : (x.happens { kind := 2, round := x.T.round }).past.length = x.past.length + 1 := by simp [Lf.happens]
  have HPL := Lib.hid hpl'
  clear hpl' HI
  have hol := outsN_len x.self (askB x) x.n.toNat
  have hon : x.n ≤ 100 := by obtain ⟨⟨_, h, _, _, _, _⟩, _, _, _⟩ := ok; exact h
  refine (behind_wait (Lx := []) hR0 hp0.out hLA hH (by rw [HPL.out]; omega) (by rw [HPL.out]; omega) (by rw [HPL.out]; omega) hhl hB hO hroom hroom1 (by omega) hl0 (by omega) (outsN_sz _ _ _ (by rw [show (askB x).length = 15 from query0_len _ _ _]; decide)) (H.part pPl4) hgx.1 hgx.2.1).mono ?_
  rintro e w' ⟨s7, vh', Lh', Lg', rfl, hH', hB', H1⟩; obtain ⟨hs7, H⟩ := H.join pPl4 H1; clear H1
  go_wp2
  exact bodyPost_ret (res1 rfl (rv_tmp rfl)) rfl ⟨_, vh', Lh', Lg', L1', LO, rfl, hLA, hH'.cast (by rw [HPL.out]) rfl, hB', HPL.out ▸ (H.noR.perm pPl5).front⟩
end
end Go.Proofs.YtccgpjhgfjfaoaaGreatDoor
/- cluster: Do of a poll, where the node waits. -/
namespace Go.Proofs.YtccgpjhgfjfaoaaGreatDoor
open Go.RowKit

theorem pDo1 {α : Type} {z1 z2 z3 a b n : α} {L R H G : List α} : (z1 :: z2 :: z3 :: a :: b :: n :: (L ++ (R ++ (H ++ G)))).Perm ((a :: b :: n :: (L ++ (R ++ (H ++ (G ++ []))))) ++ [z1, z2, z3]) := by
  apply perm_count; intro x; simp only [List.count_append, List.count_cons, List.count_nil]; omega
theorem pDo2 {α : Type} {z1 z2 z3 a b n : α} {L R H G O : List α} : ((a :: b :: n :: (L ++ (R ++ (H ++ (G ++ (O ++ [])))))) ++ [z1, z2, z3]).Perm (z1 :: z2 :: z3 :: a :: b :: n :: (L ++ (R ++ (H ++ (G ++ O))))) := by
  apply perm_count; intro x; simp only [List.count_append, List.count_cons, List.count_nil]; omega
section
variable {w : World} {pc pg pm pn pl pd : Nat} {f : Nat} {x : Lf} {d : Dsk} {vl vh : Value} {ps : List Nat} {hist : List Evt} {L1 Lr Lh Lg : List Bk} {seen i : Nat} {life : Int} {B : Bg}
set_option maxRecDepth 100000 in
set_option maxHeartbeats 2000000 in
theorem cSize_ok {A : Option Addr} {n c : Nat} {vg : Value} (hB : Blk w pc tClu (cluC f (.slice A n c) vg vh)) : Calls Tryz.prog 10 #[pV pc] w (Ret (.int .i64 n) w) := by
  go_enter Tryz.func10, Tryz.ntmps10
  have H := (Hp.start NoS w).addR hB id
  go_wp2_with (first | ((with_reducible apply wlL); apply hw_loadR 0 rfl rfl H rfl; (focus (simp; done)); (focus (simp only [segV, seg, NS]; rfl))))
  exact bodyPost_ret (res1 rfl (rv_tmp rfl)) rfl ⟨rfl, H.ret⟩
set_option maxRecDepth 100000 in
set_option maxHeartbeats 2000000 in
theorem do_poll (hR : GL tMemP 1 vl ps.length (ps.map pV) Lr) (hp : ps[i]? = some pm) (hI : LifeAt x d pl pd L1) (hH : GL tEv 15 vh hist.length (hist.flatMap encE) Lh)
    (ok : okLf x) (hnews : newsN x.book = []) (hd : x.down = false) (hr : readyB x.T.need x.T.heards.length = false)
    (hs : seen ≤ x.past.length) (hpl : x.past.length ≤ 90000) (hhl : hist.length ≤ 100000) (hB : BagAt B pg Lg)
    (hroom : 0 ≤ B.room) (hroom1 : B.room ≤ 65536) (hfit : (B.grams.length + 100 : Int) ≤ B.room) (hl0 : 0 ≤ B.last) (hl1 : B.last + 100 ≤ 1099511627775)
    (H0 : Own w ((pc, tClu, cluC f vl (pV pg) vh) :: (pm, tMem, #[pV pn, pV pd, .int .i64 life, .int .i64 seen]) :: (pn, tNode, #[pV pl]) :: (L1 ++ (Lr ++ (Lh ++ Lg)))))
    {t0 t : TypeId} {u : Value} (hg : Blk w 0 t0 #[.iface t u]) (hg0 : ¬ InL ((pc, tClu, cluC f vl (pV pg) vh) :: (pm, tMem, #[pV pn, pV pd, .int .i64 life, .int .i64 seen]) :: (pn, tNode, #[pV pl]) :: (L1 ++ (Lr ++ (Lh ++ Lg)))) 0)
    (b c : Int) (A : Option Addr) (n m : Nat) :
    Calls Tryz.prog 4 #[pV pc, stepV 1 i b c A n m] w
      (fun e w' => ∃ sz vh' Lh' Lg' L1' LO A5 c5 L5, e = .returned (.agg #[.int .i64 170, .slice none 0 0, .slice A5 (x.past.length + 1 - seen) c5]) ∧ LifeAt (x.happens { kind := 2, round := x.T.round }) d pl pd L1' ∧
        GL tEv 15 vh' (hist.length + (x.past.length + 1 - seen)) (hist.flatMap encE ++ ((x.happens { kind := 2, round := x.T.round }).past.drop seen).flatMap encE) Lh' ∧ BagAt (B.sends i (outsN x.self (askB x) x.n.toNat)) pg Lg' ∧
        Hp (InL ((pc, tClu, cluC f vl (pV pg) vh) :: (pm, tMem, #[pV pn, pV pd, .int .i64 life, .int .i64 seen]) :: (pn, tNode, #[pV pl]) :: (L1 ++ (Lr ++ (Lh ++ Lg))))) w w' sz
          ((pc, tClu, cluC f vl (pV pg) vh') :: (pm, tMem, #[pV pn, pV pd, .int .i64 life, .int .i64 (x.past.length + 1 : Nat)]) :: (pn, tNode, #[pV pl]) :: (L1' ++ (Lr ++ (Lh' ++ (Lg' ++ (LO ++ L5)))))) []) := by
  have hi : i < ps.length := (List.getElem?_eq_some_iff.1 hp).1
  obtain ⟨Al, cl, rfl⟩ := GL.isSl hR
  obtain ⟨Ah, ch, rfl⟩ := GL.isSl hH
  have hq : ((ps.length : Int) == 0) = false := by rw [beq_eq_false_iff_ne]; omega
  go_enter Tryz.func4, Tryz.ntmps4
  have H := Hp.addR H0 hg hg0
  go_wp2_with (first | ((first | ((with_reducible apply wlB); refine hw_box rfl rfl H ?_) | ((with_reducible apply wlA); refine hw_alloc rfl H ?_) | ((with_reducible apply wlS); first | refine hw_store 0 rfl rfl rfl H rfl rfl rfl (by simp) rfl ?_ | refine hw_store 1 rfl rfl rfl H rfl rfl rfl (by simp) rfl ?_ | refine hw_store 2 rfl rfl rfl H rfl rfl rfl (by simp) rfl ?_ | refine hw_store 3 rfl rfl rfl H rfl rfl rfl (by simp) rfl ?_)); clear H; intro w' H; (try simp only [Act.eval, Act.put, Value.cells, segV, seg, segPut, NS, Nat.reduceAdd] at H)) | ((with_reducible apply wlL); (first | apply hw_load 0 rfl rfl H rfl | apply hw_load 1 rfl rfl H rfl | apply hw_load 2 rfl rfl H rfl | apply hw_load 3 rfl rfl H rfl); (focus (simp; done)); (focus (simp only [segV, seg, NS]; rfl))))
  refine (does_poll _).mono ?_; rintro e w' ⟨rfl, hb⟩; obtain ⟨s1, hs1, H⟩ := H.call hb; clear hb
  go_wp2_with (first | ((with_reducible show wpList _ _ _ (⟨_, .binOp .eql _ _ _ _, _, _, _, _⟩ :: _) _ _); refine hw_fnnil rfl rfl (by kernel_rfl) ?_) | ((first | ((with_reducible apply wlB); refine hw_box rfl rfl H ?_) | ((with_reducible apply wlA); refine hw_alloc rfl H ?_) | ((with_reducible apply wlS); first | refine hw_store 0 rfl rfl rfl H rfl rfl rfl (by simp) rfl ?_ | refine hw_store 1 rfl rfl rfl H rfl rfl rfl (by simp) rfl ?_ | refine hw_store 2 rfl rfl rfl H rfl rfl rfl (by simp) rfl ?_ | refine hw_store 3 rfl rfl rfl H rfl rfl rfl (by simp) rfl ?_)); clear H; intro w' H; (try simp only [Act.eval, Act.put, Value.cells, segV, seg, segPut, NS, Nat.reduceAdd] at H)) | ((with_reducible apply wlL); (first | apply hw_load 0 rfl rfl H rfl | apply hw_load 1 rfl rfl H rfl | apply hw_load 2 rfl rfl H rfl | apply hw_load 3 rfl rfl H rfl); (focus (simp; done)); (focus (simp only [segV, seg, NS]; rfl))))
  refine (cSize_ok (H.blk (pc, tClu, cluC f (.slice Al ps.length cl) (pV pg) (.slice Ah hist.length ch)) (by simp))).mono ?_; rintro e w' ⟨rfl, hb⟩; obtain ⟨s2, hs2, H⟩ := H.call hb; clear hb
  go_wp2_with (first | ((first | ((with_reducible apply wlB); refine hw_box rfl rfl H ?_) | ((with_reducible apply wlA); refine hw_alloc rfl H ?_) | ((with_reducible apply wlS); first | refine hw_store 0 rfl rfl rfl H rfl rfl rfl (by simp) rfl ?_ | refine hw_store 1 rfl rfl rfl H rfl rfl rfl (by simp) rfl ?_ | refine hw_store 2 rfl rfl rfl H rfl rfl rfl (by simp) rfl ?_ | refine hw_store 3 rfl rfl rfl H rfl rfl rfl (by simp) rfl ?_)); clear H; intro w' H; (try simp only [Act.eval, Act.put, Value.cells, segV, seg, segPut, NS, Nat.reduceAdd] at H)) | ((with_reducible apply wlL); (first | apply hw_load 0 rfl rfl H rfl | apply hw_load 1 rfl rfl H rfl | apply hw_load 2 rfl rfl H rfl | apply hw_load 3 rfl rfl H rfl); (focus (simp; done)); (focus (simp only [segV, seg, NS]; rfl))))
  have HI := H.innerR pDo1
  have hgx := HI.ro (0, t0, #[.iface t u]) (by simp)
  clear HI
  refine (poll_wait (Lx := []) hR hp hI hH ok hnews hd hr hs hpl hhl hB hroom hroom1 hfit hl0 hl1 (H.part pDo1) hgx.1 hgx.2.1 1 b c A n m _).mono ?_
  rintro e w' ⟨s7, vh', Lh', Lg', L1', LO, rfl, hLA, hH', hB', H1⟩; obtain ⟨hs7, H⟩ := H.join pDo1 H1; clear H1
  replace H := H.perm pDo2
  have hlen : hist.length + (x.past.length + 1 - seen) > hist.length := by omega
  obtain ⟨bh, ch', pad, rfl, hc', rfl, hx, hpd⟩ := hH'.some (by omega)
  have hne : ¬ ch' = hist.length := by omega
  go_wp2_with (first | ((with_reducible apply wlS); refine hw_store 0 rfl rfl rfl H rfl rfl rfl (by simp) rfl ?_; clear H; intro w' H; (try simp only [Act.eval, Act.put, Value.cells, segV, seg, segPut, NS, Nat.reduceAdd] at H)) | ((with_reducible apply wlL); apply hw_load 3 rfl rfl H rfl; (focus (simp; done)); (focus (simp only [segV, seg, NS]; rfl))))
  have hDl : ((x.happens { kind := 2, round := x.T.round }).past.drop seen).length = x.past.length + 1 - seen := by simp [Lf.happens]
  have hRd := ev_rd (w := w') (b := bh) (l := hist ++ (x.happens { kind := 2, round := x.T.round }).past.drop seen) (i := hist.length) (c := ch') (pad := pad) (by rw [List.flatMap_append]; exact H.blk (bh, tEv, (hist.flatMap encE ++ ((x.happens { kind := 2, round := x.T.round }).past.drop seen).flatMap encE ++ pad).toArray) (by simp)) (by simp)
  rw [List.length_append, Nat.add_sub_cancel_left, List.drop_left, hDl] at hRd
  clear hDl
  refine (Clone_ev hRd (by omega)).mono ?_; rintro e w' ⟨s9, v9, L9, rfl, hR9, -, H1⟩; obtain ⟨hs9, H⟩ := H.fresh H1; clear H1 hRd
  obtain ⟨A9, c9, rfl⟩ := GL.isSl hR9
  simp only [List.cons_append, List.append_assoc] at H
  go_wp2_with (first | ((with_reducible apply wlS); refine hw_store 0 rfl rfl rfl H rfl rfl rfl (by simp) rfl ?_; clear H; intro w' H; (try simp only [Act.eval, Act.put, Value.cells, segV, seg, segPut, NS, Nat.reduceAdd] at H)) | ((with_reducible apply wlS); refine hw_store 1 rfl rfl rfl H rfl rfl rfl (by simp) rfl ?_; clear H; intro w' H; (try simp only [Act.eval, Act.put, Value.cells, segV, seg, segPut, NS, Nat.reduceAdd] at H)) | ((with_reducible apply wlL); apply hw_load 0 rfl rfl H rfl; (focus (simp; done)); (focus (simp only [segV, seg, NS]; rfl))))
  exact bodyPost_ret (res1 rfl (rv_cell 1 rfl H rfl (Nat.le_of_ble_eq_true rfl))) rfl ⟨_, _, _, Lg', L1', LO, A9, c9, L9, by simp [segV, seg], hLA, hH', hB', by simp only [List.append_assoc, List.cons_append, List.nil_append]; exact H.noR.drop1.drop1.drop1⟩
end
end Go.Proofs.YtccgpjhgfjfaoaaGreatDoor
/- The numbers of a fresh cluster of three. -/
namespace Go.Proofs.YtccgpjhgfjfaoaaGreatDoor
open Go.RowKit

def oB : Bt := (openM newDsk).1.getD ⟨⟨0, 0, 0⟩, 0, 0⟩
def oD : Dsk := (openM newDsk).2.1
def oB' : Bt := (nextM oB oD).1
def oD' : Dsk := (nextM oB oD).2.1
def oR : Int := (nextM oB oD).2.2.1
theorem oM : openM newDsk = (some oB, oD, 0) := by kernel_rfl
theorem oN : nextM oB oD = (oB', oD', oR, 0) := by kernel_rfl
theorem oBok : okBt oB := ⟨⟨by decide +kernel, by decide +kernel, by decide +kernel, by decide +kernel, by decide +kernel, by decide +kernel⟩, by decide +kernel, by decide +kernel, by decide +kernel, by decide +kernel⟩
theorem oR1 : oR = 1 := by decide +kernel
theorem oOk (i : Nat) (hi : i < 3) : OpenOk 3 1 i newDsk oB' oD' oR where
  im := by kernel_rfl
  n1 := by decide
  n2 := by decide
  f1 := by decide
  i1 := hi
  mid := ⟨oB, oD, oM, oBok, by kernel_rfl, oN⟩
  r0 := by rw [oR1]; decide
  r1 := by rw [oR1]; decide
  v := by
    match i, hi with
    | 0, _ => decide +kernel
    | 1, _ => decide +kernel
    | 2, _ => decide +kernel
  w := by kernel_rfl
abbrev x0 : Lf := opened 3 1 0 oB' oR
theorem x0_ok : okLf x0 := ⟨⟨by decide, by decide, by decide, by decide, by decide, by decide⟩, by decide +kernel, by decide +kernel, by decide +kernel⟩
theorem x0_news : newsN x0.book = [] := by kernel_rfl
theorem x0_ready : readyB x0.T.need x0.T.heards.length = false := by kernel_rfl
theorem x0_outs : (outsN x0.self (askB x0) x0.n.toNat).length = 2 := by kernel_rfl
end Go.Proofs.YtccgpjhgfjfaoaaGreatDoor
/- alive(): readers of a cluster. -/
namespace Go.Proofs.YtccgpjhgfjfaoaaGreatDoor
open Go.RowKit

section
variable {w : World} {pc pg : Nat} {f : Nat} {vl vh vg : Value} {B : Bg} {Lg Lh : List Bk} {hist : List Evt}
set_option maxRecDepth 100000 in
set_option maxHeartbeats 2000000 in
theorem cFaults_ok (hC : Blk w pc tClu (cluC f vl vg vh)) : Calls Tryz.prog 11 #[pV pc] w (Ret (.int .i64 f) w) := by
  go_enter Tryz.func11, Tryz.ntmps11
  have H := (Hp.start NoS w).addR hC id
  go_wp2_with (first | ((with_reducible apply wlL); apply hw_loadR 0 rfl rfl H rfl; (focus (simp; done)); (focus (simp only [segV, seg, NS]; rfl))))
  exact bodyPost_ret (res1 rfl (rv_tmp rfl)) rfl ⟨rfl, H.ret⟩
set_option maxRecDepth 100000 in
set_option maxHeartbeats 2000000 in
theorem cBag_ok (hC : Blk w pc tClu (cluC f vl (pV pg) vh)) (hI : BagAt B pg Lg) (H0 : Own w Lg) (hn : B.grams.length ≤ 65536) (hn0 : 0 < B.grams.length) (hd : ∀ g ∈ B.grams, g.data.length ≤ 1024) : Calls Tryz.prog 13 #[pV pc] w
    (fun e w' => ∃ A c, Ret (.slice A B.grams.length c) w e w') := by
  go_enter Tryz.func13, Tryz.ntmps13
  have H := (Hp.start NoS w).addR hC id
  go_wp2_with (first | ((with_reducible apply wlL); apply hw_loadR 0 rfl rfl H rfl; (focus (simp; done)); (focus (simp only [segV, seg, NS]; rfl))))
  refine (gList_any hI H0 hn hn0 hd).mono ?_; rintro e w' ⟨s1, v, cs, LR, rfl, hG, H1⟩; obtain ⟨hs1, H⟩ := H.fresh H1; clear H1
  obtain ⟨A, c, rfl⟩ := GL.isSl hG
  go_wp2_with (first | ((with_reducible apply wlL); apply hw_loadR 0 rfl rfl H rfl; (focus (simp; done)); (focus (simp only [segV, seg, NS]; rfl))))
  exact bodyPost_ret (res1 rfl (rv_tmp rfl)) rfl ⟨A, c, rfl, H.ret⟩
set_option maxRecDepth 100000 in
set_option maxHeartbeats 2000000 in
theorem cHistory_ok (hC : Blk w pc tClu (cluC f vl vg vh)) (hH : GL tEv 15 vh hist.length (hist.flatMap encE) Lh) (H0 : Own w Lh) (hn : hist.length ≤ 100000) : Calls Tryz.prog 14 #[pV pc] w
    (fun e w' => ∃ A c, Ret (.slice A hist.length c) w e w') := by
  obtain ⟨Ah, ch, rfl⟩ := GL.isSl hH
  have hRd := hH.rd2 H0 (fun y hy => hy) (by simp [encE, Value.oneCell'])
  go_enter Tryz.func14, Tryz.ntmps14
  have H := (Hp.start NoS w).addR hC id
  go_wp2_with (first | ((with_reducible apply wlL); apply hw_loadR 0 rfl rfl H rfl; (focus (simp; done)); (focus (simp only [segV, seg, NS]; rfl))))
  refine (Clone_ev hRd (by omega)).mono ?_; rintro e w' ⟨s1, v, LR, rfl, hG, -, H1⟩; obtain ⟨hs1, H⟩ := H.fresh H1; clear H1
  obtain ⟨A, c, rfl⟩ := GL.isSl hG
  go_wp2_with (first | ((with_reducible apply wlL); apply hw_loadR 0 rfl rfl H rfl; (focus (simp; done)); (focus (simp only [segV, seg, NS]; rfl))))
  exact bodyPost_ret (res1 rfl (rv_tmp rfl)) rfl ⟨A, c, rfl, H.ret⟩
end
theorem sends_data (i : Int) (P : List UInt8 → Prop) : ∀ (os : List (Int × List UInt8)) (B : Bg), (∀ g ∈ B.grams, P g.data) → (∀ o ∈ os, P o.2) → ∀ g ∈ (B.sends i os).grams, P g.data
  | [], B, h, _ => h
  | o :: os, B, h, ho => by
    refine sends_data i P os (B.put ⟨0, i, o.1, o.2⟩) ?_ (fun o' h' => ho o' (by simp [h']))
    intro g hg
    simp only [Bg.put, List.mem_append, List.mem_singleton] at hg
    rcases hg with hg | rfl
    · exact h g hg
    · exact ho o (by simp)
end Go.Proofs.YtccgpjhgfjfaoaaGreatDoor
/- alive() is true. -/
namespace Go.Proofs.YtccgpjhgfjfaoaaGreatDoor
open Go.RowKit

theorem pAl1 {α : Type} {c p n : α} {R L B G H : List α} : (c :: (R ++ ((p :: n :: L ++ B) ++ (G ++ H)))).Perm ((c :: p :: n :: (L ++ (R ++ (H ++ G)))) ++ B) := by
  apply perm_count; intro x; simp only [List.count_append, List.count_cons, List.count_nil]; omega
theorem pAl2 {α : Type} {z a b n : α} {L R H G X B : List α} : (z :: a :: b :: n :: (L ++ (R ++ (H ++ (G ++ X))) ++ B)).Perm (G ++ (z :: a :: b :: n :: (L ++ (R ++ (H ++ X)) ++ B))) := by
  apply perm_count; intro x; simp only [List.count_append, List.count_cons, List.count_nil]; omega
theorem pAl3 {α : Type} {z a b n : α} {L R H X B : List α} : (z :: a :: b :: n :: (L ++ (R ++ (H ++ X)) ++ B)).Perm (H ++ (z :: a :: b :: n :: (L ++ (R ++ X) ++ B))) := by
  apply perm_count; intro x; simp only [List.count_append, List.count_cons, List.count_nil]; omega
section
variable {w : World}
set_option maxRecDepth 100000 in
set_option maxHeartbeats 2000000 in
theorem alive_any {t0 t : TypeId} {u : Value} (hg : Blk w 0 t0 #[.iface t u]) : Calls Tryz.prog 9 #[] w (Ret (.bool true) w) := by
  go_enter Tryz.func9, Tryz.ntmps9
  have H := (Hp.start NoS w).addR hg id
  go_wp2_with (first | ((first | ((with_reducible apply wlB); refine hw_box rfl rfl H ?_) | ((with_reducible apply wlA); refine hw_alloc rfl H ?_) | ((with_reducible apply wlS); first | refine hw_store 0 rfl rfl rfl H rfl rfl rfl (by simp) rfl ?_ | refine hw_store 1 rfl rfl rfl H rfl rfl rfl (by simp) rfl ?_ | refine hw_store 2 rfl rfl rfl H rfl rfl rfl (by simp) rfl ?_ | refine hw_store 3 rfl rfl rfl H rfl rfl rfl (by simp) rfl ?_)); clear H; intro w' H; (try simp only [Act.eval, Act.put, Value.cells, segV, seg, segPut, NS, Nat.reduceAdd] at H)) | ((with_reducible apply wlL); (first | apply hw_load 0 rfl rfl H rfl | apply hw_load 1 rfl rfl H rfl | apply hw_load 2 rfl rfl H rfl | apply hw_load 3 rfl rfl H rfl); (focus (simp; done)); (focus (simp only [segV, seg, NS]; rfl))))
  refine (cNew_ok (B' := oB') (d'' := oD') (r := oR) 3 1 (by decide) (by decide) (by decide) oOk).mono ?_; rintro e w' ⟨s1, pc, L, rfl, hC, H1⟩; obtain ⟨hs1, H⟩ := H.fresh H1; clear H1
  obtain ⟨pg, vl, vh, ps, Lr, Lm, Lg, Lh, hR, hM, hB, hH, rfl⟩ := hC
  have hM1 : MemsAt ([] ++ liveM 3 1 oB' oD' oR 0 :: [liveM 3 1 oB' oD' oR 1, liveM 3 1 oB' oD' oR 2]) ps Lm := hM
  have hpl : ps.length = 3 := hM1.len
  obtain ⟨qs, pm, qs', La, Le, Lb, e1, e2, ⟨pd, pn, pl, L1, hLA, rfl⟩, rfl, hA, -⟩ := hM1.mid
  obtain rfl := List.eq_nil_of_length_eq_zero e1
  cases hA
  have hp : ps[0]? = some pm := by rw [e2]; rfl
  have hR' : GL tMemP 1 vl ps.length (ps.map pV) Lr := by rw [hpl]; exact hR
  simp only [List.nil_append] at H
  clear hM hM1 e1 e2 hR
  have HPL := Lib.hid hpl
  clear hpl
  go_wp2_with (first | ((first | ((with_reducible apply wlB); refine hw_box rfl rfl H ?_) | ((with_reducible apply wlA); refine hw_alloc rfl H ?_) | ((with_reducible apply wlS); first | refine hw_store 0 rfl rfl rfl H rfl rfl rfl (by simp) rfl ?_ | refine hw_store 1 rfl rfl rfl H rfl rfl rfl (by simp) rfl ?_ | refine hw_store 2 rfl rfl rfl H rfl rfl rfl (by simp) rfl ?_ | refine hw_store 3 rfl rfl rfl H rfl rfl rfl (by simp) rfl ?_)); clear H; intro w' H; (try simp only [Act.eval, Act.put, Value.cells, segV, seg, segPut, NS, Nat.reduceAdd] at H)) | ((with_reducible apply wlL); (first | apply hw_load 0 rfl rfl H rfl | apply hw_load 1 rfl rfl H rfl | apply hw_load 2 rfl rfl H rfl | apply hw_load 3 rfl rfl H rfl); (focus (simp; done)); (focus (simp only [segV, seg, NS]; rfl))))
  have HI := H.innerR pAl1
  have hgx := HI.ro (0, t0, #[.iface t u]) (by simp)
  clear HI
  refine (do_poll (i := 0) (seen := 1) (x := x0) hR' hp hLA hH x0_ok x0_news rfl x0_ready (by decide) (by decide) (by rw [histK_len]; decide) hB (by decide) (by decide) (by decide) (by decide) (by decide) (H.part pAl1) hgx.1 hgx.2.1 0 0 none 0 0).mono ?_
  rintro e w' ⟨s3, vh', Lh', Lg', L1', LO, A5, c5, L5, rfl, hLA', hH', hB', H1⟩; obtain ⟨hs3, H⟩ := H.join pAl1 H1; clear H1
  have hgf := sends_facts ((0 : Nat) : Int) (outsN x0.self (askB x0) x0.n.toNat) ⟨65536, 0, []⟩
  have hgl : (Bg.sends ⟨65536, 0, []⟩ ((0 : Nat) : Int) (outsN x0.self (askB x0) x0.n.toNat)).grams.length = 2 := by
    have := hgf.2.1
    rw [x0_outs, show ((⟨65536, 0, []⟩ : Bg).grams.length : Int) = 0 from rfl] at this
    omega
  have hgd := sends_data ((0 : Nat) : Int) (fun l => l.length ≤ 1024) (outsN x0.self (askB x0) x0.n.toNat) ⟨65536, 0, []⟩ (fun _ h => by cases h) (outsN_sz _ _ _ (by rw [show (askB x0).length = 15 from query0_len _ _ _]; decide))
  generalize Bg.sends ⟨65536, 0, []⟩ ((0 : Nat) : Int) (outsN x0.self (askB x0) x0.n.toNat) = BB at *
  clear hgf
  obtain ⟨Al, cl, rfl⟩ := GL.isSl hR'
  have hb2 : ((BB.grams.length : Int) == 2) = true := by rw [hgl]; rfl
  have hs3 : ((ps.length : Int) == 3) = true := by rw [HPL.out]; rfl
  have hh4 : (((histK 3 1 oB' oR 3).length + (x0.past.length + 1 - 1) : Nat) : Int) == 4 := by rw [histK_len]; rfl
  have HGL := Lib.hid hgl
  clear hgl
  go_wp2_with (first | ((first | ((with_reducible apply wlB); refine hw_box rfl rfl H ?_) | ((with_reducible apply wlA); refine hw_alloc rfl H ?_) | ((with_reducible apply wlS); first | refine hw_store 0 rfl rfl rfl H rfl rfl rfl (by simp) rfl ?_ | refine hw_store 1 rfl rfl rfl H rfl rfl rfl (by simp) rfl ?_ | refine hw_store 2 rfl rfl rfl H rfl rfl rfl (by simp) rfl ?_ | refine hw_store 3 rfl rfl rfl H rfl rfl rfl (by simp) rfl ?_)); clear H; intro w' H; (try simp only [Act.eval, Act.put, Value.cells, segV, seg, segPut, NS, Nat.reduceAdd] at H)) | ((with_reducible apply wlL); (first | apply hw_load 0 rfl rfl H rfl | apply hw_load 1 rfl rfl H rfl | apply hw_load 2 rfl rfl H rfl | apply hw_load 3 rfl rfl H rfl); (focus (simp; done)); (focus (simp only [segV, seg, NS]; rfl))))
  refine (cBag_ok (H.blk (pc, tClu, cluC 1 (.slice Al ps.length cl) (pV pg) vh') (by simp)) hB' (H.part pAl2) (by rw [HGL.out]; decide) (by rw [HGL.out]; decide) hgd).mono ?_
  rintro e w' ⟨A7, c7, rfl, hb⟩; obtain ⟨s7, hs7, H⟩ := H.call hb; clear hb
  go_wp2_with (first | ((first | ((with_reducible apply wlB); refine hw_box rfl rfl H ?_) | ((with_reducible apply wlA); refine hw_alloc rfl H ?_) | ((with_reducible apply wlS); first | refine hw_store 0 rfl rfl rfl H rfl rfl rfl (by simp) rfl ?_ | refine hw_store 1 rfl rfl rfl H rfl rfl rfl (by simp) rfl ?_ | refine hw_store 2 rfl rfl rfl H rfl rfl rfl (by simp) rfl ?_ | refine hw_store 3 rfl rfl rfl H rfl rfl rfl (by simp) rfl ?_)); clear H; intro w' H; (try simp only [Act.eval, Act.put, Value.cells, segV, seg, segPut, NS, Nat.reduceAdd] at H)) | ((with_reducible apply wlL); (first | apply hw_load 0 rfl rfl H rfl | apply hw_load 1 rfl rfl H rfl | apply hw_load 2 rfl rfl H rfl | apply hw_load 3 rfl rfl H rfl); (focus (simp; done)); (focus (simp only [segV, seg, NS]; rfl))))
  refine (cSize_ok (H.blk (pc, tClu, cluC 1 (.slice Al ps.length cl) (pV pg) vh') (by simp))).mono ?_; rintro e w' ⟨rfl, hb⟩; obtain ⟨s8, hs8, H⟩ := H.call hb; clear hb
  go_wp2_with (first | ((first | ((with_reducible apply wlB); refine hw_box rfl rfl H ?_) | ((with_reducible apply wlA); refine hw_alloc rfl H ?_) | ((with_reducible apply wlS); first | refine hw_store 0 rfl rfl rfl H rfl rfl rfl (by simp) rfl ?_ | refine hw_store 1 rfl rfl rfl H rfl rfl rfl (by simp) rfl ?_ | refine hw_store 2 rfl rfl rfl H rfl rfl rfl (by simp) rfl ?_ | refine hw_store 3 rfl rfl rfl H rfl rfl rfl (by simp) rfl ?_)); clear H; intro w' H; (try simp only [Act.eval, Act.put, Value.cells, segV, seg, segPut, NS, Nat.reduceAdd] at H)) | ((with_reducible apply wlL); (first | apply hw_load 0 rfl rfl H rfl | apply hw_load 1 rfl rfl H rfl | apply hw_load 2 rfl rfl H rfl | apply hw_load 3 rfl rfl H rfl); (focus (simp; done)); (focus (simp only [segV, seg, NS]; rfl))))
  refine (cFaults_ok (H.blk (pc, tClu, cluC 1 (.slice Al ps.length cl) (pV pg) vh') (by simp))).mono ?_; rintro e w' ⟨rfl, hb⟩; obtain ⟨s9, hs9, H⟩ := H.call hb; clear hb
  go_wp2_with (first | ((first | ((with_reducible apply wlB); refine hw_box rfl rfl H ?_) | ((with_reducible apply wlA); refine hw_alloc rfl H ?_) | ((with_reducible apply wlS); first | refine hw_store 0 rfl rfl rfl H rfl rfl rfl (by simp) rfl ?_ | refine hw_store 1 rfl rfl rfl H rfl rfl rfl (by simp) rfl ?_ | refine hw_store 2 rfl rfl rfl H rfl rfl rfl (by simp) rfl ?_ | refine hw_store 3 rfl rfl rfl H rfl rfl rfl (by simp) rfl ?_)); clear H; intro w' H; (try simp only [Act.eval, Act.put, Value.cells, segV, seg, segPut, NS, Nat.reduceAdd] at H)) | ((with_reducible apply wlL); (first | apply hw_load 0 rfl rfl H rfl | apply hw_load 1 rfl rfl H rfl | apply hw_load 2 rfl rfl H rfl | apply hw_load 3 rfl rfl H rfl); (focus (simp; done)); (focus (simp only [segV, seg, NS]; rfl))))
  refine (cHistory_ok (hist := histK 3 1 oB' oR 3 ++ (x0.happens { kind := 2, round := x0.T.round }).past.drop 1) (H.blk (pc, tClu, cluC 1 (.slice Al ps.length cl) (pV pg) vh') (by simp)) (hH'.cast (by rw [List.length_append]; rfl) (by rw [List.flatMap_append])) (H.part pAl3) (by rw [List.length_append, histK_len]; decide)).mono ?_
  rintro e w' ⟨A9, c9, rfl, hb⟩; obtain ⟨s10, hs10, H⟩ := H.call hb; clear hb
  have hl4 : (histK 3 1 oB' oR 3 ++ (x0.happens { kind := 2, round := x0.T.round }).past.drop 1).length = 4 := by rw [List.length_append, histK_len]; rfl
  generalize (histK 3 1 oB' oR 3 ++ (x0.happens { kind := 2, round := x0.T.round }).past.drop 1).length = q4 at *
  subst hl4
  go_wp2
  exact bodyPost_ret (res1 rfl (rv_tmp rfl)) rfl ⟨rfl, H.ret⟩
end
end Go.Proofs.YtccgpjhgfjfaoaaGreatDoor
/- A drawn region with two variables that are made at some time, in any order: their addresses are not fixed, all else is. -/
namespace Go.Proofs.YtccgpjhgfjfaoaaGreatDoor
open Go

/-- The check: detB, and operations k1, k2 make variables that none of the first n looks at. -/
def detB2 (ops : Array Oper) (n k1 k2 : Nat) (d1 d2 : Tmp) (T1 T2 : TypeId) : Bool :=
  detB1 ops n k1 d1 T1 && detB1 ops n k2 d2 T2 && decide (k1 ≠ k2) && decide (d1 ≠ d2)

section
variable {P : Program} {ops : Array Oper} {Q : Exit → Act → World → Prop} {I : Option Nat → Option Nat → World → Prop} {n k1 k2 : Nat} {d1 d2 : Tmp} {T1 T2 : TypeId}

/-- Operations k1, k2 aside, every operation of the list yields one value, whatever has been made. -/
def wpDetF2 (P : Program) (ops : Array Oper) (I : Option Nat → Option Nat → World → Prop) (k1 k2 : Nat) (fin : Act → Prop) : List Oper → Nat → Act → Prop
  | [], _, a => fin a
  | o :: rest, i, a => if i = k1 ∨ i = k2 then wpDetF2 P ops I k1 k2 fin rest (i + 1) (a.put o.dst undef) else ∃ v, (∀ e e', DetOp P ops (I e e') o v a) ∧ wpDetF2 P ops I k1 k2 fin rest (i + 1) (a.put o.dst v)

structure DetInv2 (ops : Array Oper) (n k1 k2 : Nat) (d1 d2 : Tmp) (vs : Nat → Value) (a : Act) (listed : Array Bool) (e e' : Option Nat) (b : Act) : Prop where
  size : b.tmps.size = a.tmps.size
  defers : b.defers = a.defers
  done : ∀ j t, j < n → j ≠ k1 → j ≠ k2 → dstOf ops j = some t → listed.getD j false = true → b.tmps[t]? = (stg ops vs a n).tmps[t]?
  other : ∀ t, (∀ j, j < n → dstOf ops j ≠ some t) → b.tmps[t]? = a.tmps[t]?
  made1 : ∀ p, e = some p → b.tmps[d1]? = if d1 < a.tmps.size then some (.pointer (some ⟨p, 0, none⟩)) else none
  made2 : ∀ p, e' = some p → b.tmps[d2]? = if d2 < a.tmps.size then some (.pointer (some ⟨p, 0, none⟩)) else none
  state1 : listed.getD k1 true = false ↔ e = none
  state2 : listed.getD k2 true = false ↔ e' = none

theorem any_det2 (S : DetSpec ops n) (hkn1 : k1 < n) (hkn2 : k2 < n) (hkk : k1 ≠ k2) (hdd : d1 ≠ d2) {ok1 ok2 : Oper} (hok1 : ops[k1]? = some ok1) (hop1 : ok1.op = .alloc T1) (hgd1 : ok1.guard = none) (hod1 : ok1.dst = some d1)
    (hok2 : ops[k2]? = some ok2) (hop2 : ok2.op = .alloc T2) (hgd2 : ok2.guard = none) (hod2 : ok2.dst = some d2) (hlook1 : ∀ i o, i < n → ops[i]? = some o → d1 ∉ o.looksAt ops) (hlook2 : ∀ i o, i < n → ops[i]? = some o → d2 ∉ o.looksAt ops)
    (vs : Nat → Value) (a : Act) (hdet : ∀ i o, i < n → i ≠ k1 → i ≠ k2 → ops[i]? = some o → ∀ e e', DetOp P ops (I e e') o (vs i) (stg ops vs a i))
    (hmk1 : ∀ e' w, I none e' w → ∃ z, (zeroValue T1).run P w = .ok z w ∧ I (some w.heap.size) e' (w.alloc (.cells z.cells T1)))
    (hmk2 : ∀ e w, I e none w → ∃ z, (zeroValue T2).run P w = .ok z w ∧ I e (some w.heap.size) (w.alloc (.cells z.cells T2)))
    (hfin : ∀ p p' w, I (some p) (some p') w → wpList P ops Q (ops.toList.drop n) (((stg ops vs a n).put (some d1) (.pointer (some ⟨p, 0, none⟩))).put (some d2) (.pointer (some ⟨p', 0, none⟩))) w) :
    ∀ (m : Nat) (U : List Nat) (listed : Array Bool) (b : Act) (w : World) (e e' : Option Nat), U.length = m → U.Nodup → (∀ i, i ∈ U ↔ i < n ∧ listed.getD i true = false) →
      HeadInv .any ops n listed → DetInv2 ops n k1 k2 d1 d2 vs a listed e e' b → I e e' w → wpAny P .any ops Q (m + (ops.size - n)) listed b w := by
  have hdk1 : dstOf ops k1 = some d1 := by simp [dstOf, hok1, hod1]
  have hdk2 : dstOf ops k2 = some d2 := by simp [dstOf, hok2, hod2]
  intro m
  induction m with
  | zero =>
    intro U listed b w e e' hl hnd hU hinv hb hI
    have hnil : U = [] := List.eq_nil_of_length_eq_zero hl
    subst hnil
    have hdone : ∀ i, i < n → listed.getD i true = true := fun i hi => by
      cases h : listed.getD i true with
      | true => rfl
      | false => exact absurd ((hU i).2 ⟨hi, h⟩) (by simp)
    have hlist : listed = (Array.range ops.size).map fun i => decide (i < n) := by
      apply Array.ext
      · simp [hinv.size]
      · intro i h1 h2
        have hi : i < ops.size := by rw [← hinv.size]; exact h1
        by_cases hin : i < n
        · have := hdone i hin
          rw [Array.getD_eq_getD_getElem?, Array.getElem?_eq_getElem h1] at this
          simpa [hin] using this
        · have := hinv.tail i (by omega) hi
          rw [Array.getD_eq_getD_getElem?, Array.getElem?_eq_getElem h1] at this
          simpa [hin] using this
    obtain ⟨p, rfl⟩ : ∃ p, e = some p := by
      cases e with
      | some p => exact ⟨p, rfl⟩
      | none => have := hb.state1.2 rfl; rw [hdone k1 hkn1] at this; cases this
    obtain ⟨p', rfl⟩ : ∃ p', e' = some p' := by
      cases e' with
      | some p' => exact ⟨p', rfl⟩
      | none => have := hb.state2.2 rfl; rw [hdone k2 hkn2] at this; cases this
    have hbe : b = ((stg ops vs a n).put (some d1) (.pointer (some ⟨p, 0, none⟩))).put (some d2) (.pointer (some ⟨p', 0, none⟩)) := by
      have ht : b.tmps = (((stg ops vs a n).put (some d1) (.pointer (some ⟨p, 0, none⟩))).put (some d2) (.pointer (some ⟨p', 0, none⟩))).tmps := by
        apply Array.ext_getElem?
        intro t
        by_cases htd2 : t = d2
        · subst htd2
          rw [hb.made2 p' rfl, put_get_eq, put_size, stg_size]
        · rw [put_get_ne _ _ (fun h => htd2 (Option.some.inj h).symm)]
          by_cases htd : t = d1
          · subst htd
            rw [hb.made1 p rfl, put_get_eq, stg_size]
          · rw [put_get_ne _ _ (fun h => htd (Option.some.inj h).symm)]
            by_cases hx : ∃ j, j < n ∧ dstOf ops j = some t
            · obtain ⟨j, hj, hd⟩ := hx
              have hjk1 : j ≠ k1 := fun h => by subst h; rw [hdk1] at hd; exact htd (Option.some.inj hd).symm
              have hjk2 : j ≠ k2 := fun h => by subst h; rw [hdk2] at hd; exact htd2 (Option.some.inj hd).symm
              refine hb.done j t hj hjk1 hjk2 hd ?_
              have hjs : j < listed.size := by rw [hinv.size]; have := S.le; omega
              have := hdone j hj
              rw [Array.getD_eq_getD_getElem?, Array.getElem?_eq_getElem hjs] at this ⊢
              simpa using this
            · have hx' : ∀ j, j < n → dstOf ops j ≠ some t := fun j hj hd => hx ⟨j, hj, hd⟩
              rw [hb.other t hx', stg_ne vs a t n hx']
      have hd : b.defers = (((stg ops vs a n).put (some d1) (.pointer (some ⟨p, 0, none⟩))).put (some d2) (.pointer (some ⟨p', 0, none⟩))).defers := by rw [put_defers, put_defers, hb.defers, stg_defers]
      generalize ((stg ops vs a n).put (some d1) (.pointer (some ⟨p, 0, none⟩))).put (some d2) (.pointer (some ⟨p', 0, none⟩)) = c at ht hd
      cases b; cases c; simp only at ht hd; rw [ht, hd]
    subst hlist hbe
    have hsz : (ops.toList.drop n).length = ops.size - n := by simp
    have := wpAny_of_seq (P := P) (md := .any) (ops := ops) (Q' := Q) (ops.toList.drop n) n _ _ w (fun j => by simp [List.getElem?_drop]) (by rw [hsz]; exact S.seq) (hfin p p' w hI)
    rw [hsz] at this
    rw [Nat.zero_add]
    exact this
  | succ m ih =>
    intro U listed b w e e' hl hnd hU hinv hb hI
    have hex : ∃ i, i < n ∧ listed.getD i true = false := by
      cases U with
      | nil => simp at hl
      | cons i U => exact ⟨i, (hU i).1 (by simp)⟩
    have hfloat : ∀ t, t ∈ Region.ready .any ops listed → t < n := fun t ht => by
      rcases Nat.lt_or_ge t n with h | h
      · exact h
      · rcases S.tail with e | ⟨hs, hc⟩
        · obtain ⟨_, o, ho, _⟩ := mem_ready.1 ht
          have := (Array.getElem?_eq_some_iff.1 ho).1
          omega
        · obtain ⟨i, hi, hun⟩ := hex
          rcases Nat.lt_or_ge n ops.size with hn | hn
          · exact absurd ht (tail_waits hs hc hn hinv _ i rfl hi hun t h)
          · obtain ⟨_, o, ho, _⟩ := mem_ready.1 ht
            have := (Array.getElem?_eq_some_iff.1 ho).1
            omega
    have hne : Region.ready .any ops listed ≠ [] := by
      have key : ∀ i, i < n → listed.getD i true = false → ∃ j, j ∈ Region.ready .any ops listed := by
        intro i
        induction i using Nat.strongRecOn with
        | _ i ihi =>
          intro hi hun
          have ho : ops[i]? = some (ops[i]'(by have := S.le; omega)) := by simp [show i < ops.size by have := S.le; omega]
          by_cases hall : ∀ e ∈ (ops[i]'(by have := S.le; omega)).after, Region.binds .any e = true → listed.getD e.on false = true
          · exact ⟨i, mem_ready.2 ⟨hun, _, ho, hall⟩⟩
          · have : ∃ e, e ∈ (ops[i]'(by have := S.le; omega)).after ∧ Region.binds .any e = true ∧ ¬ listed.getD e.on false = true := by
              apply Classical.byContradiction
              intro hc
              exact hall fun e he hb => Classical.byContradiction fun h => hc ⟨e, he, hb, h⟩
            obtain ⟨e, he, hbd, hl⟩ := this
            have hlt := S.edges i _ hi ho e he hbd
            refine ihi e.on hlt (by omega) ?_
            have hsz : e.on < listed.size := by rw [hinv.size]; have := S.le; omega
            rw [Array.getD_eq_getD_getElem?, Array.getElem?_eq_getElem hsz] at hl ⊢
            simpa using hl
      obtain ⟨i, hi, hun⟩ := hex
      obtain ⟨j, hj⟩ := key i hi hun
      intro h; rw [h] at hj; cases hj
    rw [show m + 1 + (ops.size - n) = (m + (ops.size - n)) + 1 by omega]
    refine ⟨fun h => absurd h hne, fun i hi => ?_⟩
    have hin := hfloat i hi
    obtain ⟨hun, o, ho, hall⟩ := mem_ready.1 hi
    have hisz : i < listed.size := by rw [hinv.size]; have := S.le; omega
    have hdst : dstOf ops i = o.dst := by simp [dstOf, ho]
    have hUe : ∀ j, j ∈ U.erase i ↔ j < n ∧ (listed.setIfInBounds i true).getD j true = false := fun j => by
      rw [hnd.mem_erase_iff, hU]
      by_cases e : j = i
      · subst e
        simp [Array.getElem?_setIfInBounds, hisz]
      · simp [Array.getElem?_setIfInBounds_ne (Ne.symm e), e]
    by_cases hik1 : i = k1
    · subst hik1
      rw [hok1] at ho
      obtain rfl := Option.some.inj ho
      have he : e = none := hb.state1.1 hun
      subst he
      obtain ⟨z, hz, hI'⟩ := hmk1 e' w hI
      unfold wpOp
      simp only [hok1]
      rw [if_pos (by simp [Region.wanted, hgd1])]
      refine .inl ?_
      unfold Oper.wp
      obtain ⟨odst, oop, oty, opos, oaft, ogd⟩ := ok1
      simp only at hop1 hgd1 hod1
      subst hop1 hgd1 hod1
      simp only [execOp, Instr.alloc, hz, newVar, newRow, newObj, Sem.run_bind, Sem.run, Result.andThen, Oper.upon]
      refine ih (U.erase i) _ _ _ (some w.heap.size) e' (by rw [List.length_erase_of_mem ((hU i).2 ⟨hin, hun⟩), hl]; rfl) (hnd.erase i) hUe (hinv.set hi hin) ⟨?_, ?_, ?_, ?_, ?_, ?_, ?_, ?_⟩ hI'
      · rw [put_size, hb.size]
      · rw [put_defers, hb.defers]
      · intro j t hj hjk1 hjk2 hd hlj
        have hne : some d1 ≠ some t := by rw [← hdk1]; exact S.uniq i j t hin hj hjk1 hd
        rw [put_get_ne _ _ hne]
        refine hb.done j t hj hjk1 hjk2 hd ?_
        rw [Array.getD_eq_getD_getElem?, Array.getElem?_setIfInBounds_ne (Ne.symm hjk1), ← Array.getD_eq_getD_getElem?] at hlj
        exact hlj
      · intro t ht
        have hne : some d1 ≠ some t := by rw [← hdk1]; exact ht i hin
        rw [put_get_ne _ _ hne]
        exact hb.other t ht
      · intro p hp
        obtain rfl := Option.some.inj hp
        rw [put_get_eq, hb.size]
      · intro p hp
        have hne : some d1 ≠ some d2 := fun h => hdd (Option.some.inj h)
        rw [put_get_ne _ _ hne]
        exact hb.made2 p hp
      · simp [Array.getElem?_setIfInBounds, hisz]
      · rw [← hb.state2]
        simp [Array.getElem?_setIfInBounds_ne hkk]
    by_cases hik2 : i = k2
    · subst hik2
      rw [hok2] at ho
      obtain rfl := Option.some.inj ho
      have he : e' = none := hb.state2.1 hun
      subst he
      obtain ⟨z, hz, hI'⟩ := hmk2 e w hI
      unfold wpOp
      simp only [hok2]
      rw [if_pos (by simp [Region.wanted, hgd2])]
      refine .inl ?_
      unfold Oper.wp
      obtain ⟨odst, oop, oty, opos, oaft, ogd⟩ := ok2
      simp only at hop2 hgd2 hod2
      subst hop2 hgd2 hod2
      simp only [execOp, Instr.alloc, hz, newVar, newRow, newObj, Sem.run_bind, Sem.run, Result.andThen, Oper.upon]
      refine ih (U.erase i) _ _ _ e (some w.heap.size) (by rw [List.length_erase_of_mem ((hU i).2 ⟨hin, hun⟩), hl]; rfl) (hnd.erase i) hUe (hinv.set hi hin) ⟨?_, ?_, ?_, ?_, ?_, ?_, ?_, ?_⟩ hI'
      · rw [put_size, hb.size]
      · rw [put_defers, hb.defers]
      · intro j t hj hjk1 hjk2 hd hlj
        have hne : some d2 ≠ some t := by rw [← hdk2]; exact S.uniq i j t hin hj hjk2 hd
        rw [put_get_ne _ _ hne]
        refine hb.done j t hj hjk1 hjk2 hd ?_
        rw [Array.getD_eq_getD_getElem?, Array.getElem?_setIfInBounds_ne (Ne.symm hjk2), ← Array.getD_eq_getD_getElem?] at hlj
        exact hlj
      · intro t ht
        have hne : some d2 ≠ some t := by rw [← hdk2]; exact ht i hin
        rw [put_get_ne _ _ hne]
        exact hb.other t ht
      · intro p hp
        have hne : some d2 ≠ some d1 := fun h => hdd.symm (Option.some.inj h)
        rw [put_get_ne _ _ hne]
        exact hb.made1 p hp
      · intro p hp
        obtain rfl := Option.some.inj hp
        rw [put_get_eq, hb.size]
      · rw [← hb.state1]
        simp [Array.getElem?_setIfInBounds_ne (Ne.symm hkk)]
      · simp [Array.getElem?_setIfInBounds, hisz]
    · have hag : ∀ t, t ∈ o.looksAt ops → (stg ops vs a i).tmps[t]? = b.tmps[t]? := fun t ht => by
        by_cases hx : ∃ k, k < n ∧ dstOf ops k = some t
        · obtain ⟨j, hk, hd⟩ := hx
          have hjk1 : j ≠ k1 := fun h => by
            subst h
            rw [hdk1] at hd
            exact hlook1 i o hin ho (by rw [Option.some.inj hd]; exact ht)
          have hjk2 : j ≠ k2 := fun h => by
            subst h
            rw [hdk2] at hd
            exact hlook2 i o hin ho (by rw [Option.some.inj hd]; exact ht)
          obtain ⟨hki, hw⟩ := S.looks i o j t hin ho hd ht
          obtain ⟨oj, hoj, e, he, hbd, heo⟩ := Region.waitsFor_spec hw
          rw [ho] at hoj
          obtain rfl := Option.some.inj hoj
          have hlk : listed.getD j false = true := heo ▸ hall e he hbd
          rw [hb.done j t hk hjk1 hjk2 hd hlk, stg_eq vs a t j hd i hki (fun j' hj hne => S.uniq j' j t (by omega) hk (Ne.symm hne) hd),
            stg_eq vs a t j hd n hk (fun j' hj hne => S.uniq j' j t hj hk (Ne.symm hne) hd)]
        · have hx' : ∀ j, j < n → dstOf ops j ≠ some t := fun j hj hd => hx ⟨j, hj, hd⟩
          rw [hb.other t hx', stg_ne vs a t i fun j hj => hx' j (by omega)]
      refine DetOp.moved ho (Region.noSelect_spec S.sel i o · · ho) ((stg_size vs a i).trans hb.size.symm) ((stg_defers vs a i).trans hb.defers.symm) hag (hdet i o hin hik1 hik2 ho e e') hI fun w' hI' => ?_
      refine ih (U.erase i) _ _ _ e e' (by rw [List.length_erase_of_mem ((hU i).2 ⟨hin, hun⟩), hl]; rfl) (hnd.erase i) hUe (hinv.set hi hin) ⟨?_, ?_, ?_, ?_, ?_, ?_, ?_, ?_⟩ hI'
      · rw [put_size, hb.size]
      · rw [put_defers, hb.defers]
      · intro j t hj hjk1 hjk2 hd hlj
        by_cases e : j = i
        · subst e
          rw [hdst] at hd
          rw [hd, put_get_eq, hb.size, stg_eq vs a t j (hdst.trans hd) n hj (fun k hk hne => S.uniq k j t hk hj (Ne.symm hne) (hdst.trans hd))]
        · have hne : o.dst ≠ some t := by rw [← hdst]; exact S.uniq i j t hin hj e hd
          rw [put_get_ne _ _ hne]
          refine hb.done j t hj hjk1 hjk2 hd ?_
          rw [Array.getD_eq_getD_getElem?, Array.getElem?_setIfInBounds_ne (Ne.symm e), ← Array.getD_eq_getD_getElem?] at hlj
          exact hlj
      · intro t ht
        have hne : o.dst ≠ some t := by rw [← hdst]; exact ht i hin
        rw [put_get_ne _ _ hne]
        exact hb.other t ht
      · intro p hp
        have hne : o.dst ≠ some d1 := by rw [← hdst]; exact S.uniq i k1 d1 hin hkn1 (Ne.symm hik1) hdk1
        rw [put_get_ne _ _ hne]
        exact hb.made1 p hp
      · intro p hp
        have hne : o.dst ≠ some d2 := by rw [← hdst]; exact S.uniq i k2 d2 hin hkn2 (Ne.symm hik2) hdk2
        rw [put_get_ne _ _ hne]
        exact hb.made2 p hp
      · rw [← hb.state1]
        simp [Array.getElem?_setIfInBounds_ne hik1]
      · rw [← hb.state2]
        simp [Array.getElem?_setIfInBounds_ne hik2]

theorem wpDetF2_values {fin : Act → Prop} : ∀ (l : List Oper) (i : Nat) (a : Act), (∀ j, j < l.length → l[j]? = ops[i + j]?) → wpDetF2 P ops I k1 k2 fin l i a →
    ∃ vs : Nat → Value, ∀ (c : Nat → Act), c 0 = a → (∀ j, j < l.length → c (j + 1) = (c j).put (dstOf ops (i + j)) (vs j)) →
      (∀ j o, j < l.length → i + j ≠ k1 → i + j ≠ k2 → ops[i + j]? = some o → ∀ e e', DetOp P ops (I e e') o (vs j) (c j)) ∧ fin (c l.length)
  | [], i, a, _, h => ⟨fun _ => undef, fun c hc _ => ⟨fun j o hj => absurd hj (by simp), by rw [show c ([] : List Oper).length = a from hc]; exact h⟩⟩
  | o :: l, i, a, hl, h => by
    have h0 : ops[i]? = some o := by simpa using (hl 0 (by simp)).symm
    have key : ∃ v, (i ≠ k1 → i ≠ k2 → ∀ e e', DetOp P ops (I e e') o v a) ∧ wpDetF2 P ops I k1 k2 fin l (i + 1) (a.put o.dst v) := by
      unfold wpDetF2 at h
      split at h
      · rename_i hik; exact ⟨undef, fun hne hne' => hik.elim (absurd · hne) (absurd · hne'), h⟩
      · obtain ⟨v, hv, hr⟩ := h; exact ⟨v, fun _ _ => hv, hr⟩
    obtain ⟨v, hv, hr⟩ := key
    obtain ⟨vs, hvs⟩ := wpDetF2_values l (i + 1) _ (fun j hj => by have := hl (j + 1) (by simp; omega); simpa [Nat.add_assoc, Nat.add_comm 1 j] using this) hr
    refine ⟨fun j => match j with | 0 => v | j + 1 => vs j, fun c hc hs => ?_⟩
    have h1 := hvs (fun j => c (j + 1)) (by rw [hs 0 (by simp), hc]; simp [dstOf, h0]) (fun j hj => by
      have := hs (j + 1) (by simp; omega)
      rw [this]
      simp only [Nat.add_assoc, Nat.add_comm 1 j])
    refine ⟨fun j o' hj hjk hjk' ho' => ?_, ?_⟩
    · cases j with
      | zero =>
        have : o' = o := by have h2 := ho'; simp only [Nat.add_zero, h0] at h2; exact (Option.some.inj h2).symm
        rw [hc, this]
        exact hv hjk hjk'
      | succ j =>
        exact h1.1 j o' (by simp at hj; omega) (by omega) (by omega) (by rw [← ho']; congr 1; omega)
    · exact h1.2

/-- **A drawn region by the order of its text, but for two variables.** -/
theorem region_det2 {id : Nat} {a : Act} {w : World} {l : List Oper} (n k1 k2 : Nat) (d1 d2 : Tmp) (T1 T2 : TypeId) (I : Option Nat → Option Nat → World → Prop) (hm : P.follows .mixedOrders = true) (hB : detB2 l.toArray n k1 k2 d1 d2 T1 T2 = true) (hI : I none none w.drew)
    (hmk1 : ∀ e' w, I none e' w → ∃ z, (zeroValue T1).run P w = .ok z w ∧ I (some w.heap.size) e' (w.alloc (.cells z.cells T1)))
    (hmk2 : ∀ e w, I e none w → ∃ z, (zeroValue T2).run P w = .ok z w ∧ I e (some w.heap.size) (w.alloc (.cells z.cells T2)))
    (h : wpDetF2 P l.toArray I k1 k2 (fun a' => ∀ p p' w', I (some p) (some p') w' → wpList P l.toArray Q (l.drop n) ((a'.put (some d1) (.pointer (some ⟨p, 0, none⟩))).put (some d2) (.pointer (some ⟨p', 0, none⟩))) w') (l.take n) 0 a) : (Code.region id l.toArray true).wp P Q a w := by
  simp only [detB2, detB1, Bool.and_eq_true, decide_eq_true_eq, List.all_eq_true, List.mem_range] at hB
  obtain ⟨⟨⟨⟨⟨⟨hB, hkn1⟩, hk1⟩, hlook1⟩, ⟨⟨-, hkn2⟩, hk2⟩, hlook2⟩, hkk⟩, hdd⟩ := hB
  have S := DetSpec.of hB
  have hn : n ≤ l.length := by simpa using S.le
  have hlen : (l.take n).length = n := by simp; omega
  obtain ⟨vs, hvs⟩ := wpDetF2_values (ops := l.toArray) (l.take n) 0 a (fun j hj => by rw [hlen] at hj; simp [hj]) h
  obtain ⟨h1, h2⟩ := hvs (stg l.toArray vs a) rfl (fun j _ => by simp [stg])
  rw [hlen] at h1 h2
  refine wp_region_any hm ?_
  have inv0 : HeadInv .any l.toArray n (Array.replicate l.toArray.size false) :=
    ⟨by simp, fun j oj _ hl => (by rw [getD_replicate_false] at hl; cases hl), fun t _ ht => getD_in (by simpa using ht) (getD_replicate_false _ _)⟩
  have hok1 : ∃ ok, l.toArray[k1]? = some ok ∧ ok.op = .alloc T1 ∧ ok.guard = none ∧ ok.dst = some d1 := by
    split at hk1
    · rename_i d' T' _ _ _ heq
      simp only [Bool.and_eq_true, beq_iff_eq] at hk1
      obtain ⟨rfl, rfl⟩ := hk1
      exact ⟨_, heq, rfl, rfl, rfl⟩
    · cases hk1
  have hok2 : ∃ ok, l.toArray[k2]? = some ok ∧ ok.op = .alloc T2 ∧ ok.guard = none ∧ ok.dst = some d2 := by
    split at hk2
    · rename_i d' T' _ _ _ heq
      simp only [Bool.and_eq_true, beq_iff_eq] at hk2
      obtain ⟨rfl, rfl⟩ := hk2
      exact ⟨_, heq, rfl, rfl, rfl⟩
    · cases hk2
  obtain ⟨ok1, hok1, hop1, hgd1, hod1⟩ := hok1
  obtain ⟨ok2, hok2, hop2, hgd2, hod2⟩ := hok2
  have := any_det2 (P := P) (Q := Q) (I := I) S hkn1 hkn2 hkk hdd hok1 hop1 hgd1 hod1 hok2 hop2 hgd2 hod2 (fun i o hi ho hm => by
    have := hlook1 i hi
    simp only [ho, Bool.not_eq_true', List.contains_eq_mem, decide_eq_false_iff_not] at this
    exact this hm) (fun i o hi ho hm => by
    have := hlook2 i hi
    simp only [ho, Bool.not_eq_true', List.contains_eq_mem, decide_eq_false_iff_not] at this
    exact this hm) vs a (fun i o hi hik hik' ho e e' => h1 i o hi (by simpa using hik) (by simpa using hik') (by simpa using ho) e e') hmk1 hmk2 (fun p p' w' hI' => by simpa using h2 p p' w' hI') n (List.range n) (Array.replicate l.toArray.size false) a w.drew none none
    (by simp) List.nodup_range (fun i => by
      simp only [List.mem_range]
      constructor
      · intro hi; exact ⟨hi, getD_in (by simp; omega) (getD_replicate_false _ _)⟩
      · exact fun h => h.1) inv0 ⟨rfl, rfl, fun j t _ _ _ _ hl => (by rw [getD_replicate_false] at hl; cases hl), fun _ _ => rfl, fun p h => (by cases h), fun p h => (by cases h), ⟨fun _ => rfl, fun _ => getD_in (by simp; omega) (getD_replicate_false _ _)⟩, ⟨fun _ => rfl, fun _ => getD_in (by simp; omega) (getD_replicate_false _ _)⟩⟩ hI
  have hs := S.le
  rw [show n + (l.toArray.size - n) = l.toArray.size by omega] at this
  exact this
end
section
variable {P : Program} {ops : Array Oper} {I : Option Nat → Option Nat → World → Prop} {fin : Act → Prop} {rest : List Oper} {a : Act} {v : Value} {dst : Option Tmp} {op : Op} {ty : TypeId} {pos : String} {after : Array Edge} {g : Option (Nat × Bool)} {i k1 k2 : Nat}
theorem detF2_op (hik1 : i ≠ k1) (hik2 : i ≠ k2) (hw : Region.wanted ⟨dst, op, ty, pos, after, g⟩ (yielded ops a.tmps) = true)
    (h : ∀ e e' w, I e e' w → wpList P #[] (DetQ a.defers dst v (I e e')) [⟨dst, op, ty, pos, after, none⟩] a w)
    (hr : wpDetF2 P ops I k1 k2 fin rest (i + 1) (a.put dst v)) : wpDetF2 P ops I k1 k2 fin (⟨dst, op, ty, pos, after, g⟩ :: rest) i a := by
  unfold wpDetF2
  rw [if_neg (fun h => h.elim hik1 hik2)]
  refine ⟨v, fun e e' => ?_, hr⟩
  refine .inl ⟨hw, fun w hI => ?_⟩
  have h1 := h e e' w hI
  unfold wpList at h1
  rw [if_pos (by simp [Region.wanted])] at h1
  rcases h1 with h1 | ⟨_, a1, w1, h1⟩
  · have h2 : Oper.wp P ⟨dst, op, ty, pos, after, g⟩ a w (wpList P #[] (DetQ a.defers dst v (I e e')) []) (DetQ a.defers dst v (I e e')) := h1
    unfold Oper.wp at h2 ⊢
    generalize (execOp a.eval ⟨dst, op, ty, pos, after, g⟩).run P w = r at h2 ⊢
    cases r with
    | ok n w' =>
      cases n <;> simp only [Oper.upon, wpList, DetQ] at h2 ⊢
      case value u => exact ⟨put_of_slot h2.2.2.1, h2.2.2.2⟩
      case skip => exact ⟨put_of_slot h2.2.2.1, h2.2.2.2⟩
      case defer dd => exact absurd (congrArg List.length h2.2.1) (by rw [put_defers]; simp)
      case enter f args =>
        refine Calls.mono h2 fun e w'' he => ?_
        cases e with
        | returned u => exact ⟨put_of_slot he.2.2.1, he.2.2.2⟩
        | panicked c => exact absurd he.1 (by simp)
        | outgrown => obtain ⟨_, _, h⟩ := he; exact absurd h.1 (by simp)
      case row row args => exact Rows.mono h2 fun u w'' he => ⟨put_of_slot he.2.2.1, he.2.2.2⟩
    | halt x w' =>
      cases x <;> simp only [Oper.upon, DetQ] at h2 ⊢
      case panic u => exact absurd h2.1 (by simp)
  · exact absurd h1.1 (by simp)
theorem detF2_mk (hik : i = k1 ∨ i = k2) (hr : wpDetF2 P ops I k1 k2 fin rest (i + 1) (a.put dst undef)) : wpDetF2 P ops I k1 k2 fin (⟨dst, op, ty, pos, after, g⟩ :: rest) i a := by
  unfold wpDetF2
  rw [if_pos hik]
  exact hr
end
def HpF2 (S : Nat → Prop) (w0 : World) (s0 : Nat) (L R : List Bk) (T1 T2 : TypeId) (z1 z2 : Array Value) (e e' : Option Nat) (w : World) : Prop := ∃ s, s0 ≤ s ∧ Hp S w0 w s (L ++ (extF T1 z1 e ++ extF T2 z2 e')) R
theorem HpF2.mk1 {P : Program} {S : Nat → Prop} {w0 : World} {s0 : Nat} {L R : List Bk} {T1 T2 : TypeId} {z1 : Value} {z2 : Array Value} [hz : ZeroV P T1 z1] (e' : Option Nat) (w : World) (h : HpF2 S w0 s0 L R T1 T2 z1.cells z2 none e' w) : ∃ z', (zeroValue T1).run P w = .ok z' w ∧ HpF2 S w0 s0 L R T1 T2 z1.cells z2 (some w.heap.size) e' (w.alloc (.cells z'.cells T1)) := by
  obtain ⟨s, hs, H⟩ := h
  refine ⟨z1, hz.zero w, s + 1, by omega, ?_⟩
  have := H.alloc T1 z1.cells
  rw [H.size]
  exact this.perm (by apply perm_count; intro x; simp only [extF, List.count_append, List.count_cons, List.count_nil]; omega)
theorem HpF2.mk2 {P : Program} {S : Nat → Prop} {w0 : World} {s0 : Nat} {L R : List Bk} {T1 T2 : TypeId} {z1 : Array Value} {z2 : Value} [hz : ZeroV P T2 z2] (e : Option Nat) (w : World) (h : HpF2 S w0 s0 L R T1 T2 z1 z2.cells e none w) : ∃ z', (zeroValue T2).run P w = .ok z' w ∧ HpF2 S w0 s0 L R T1 T2 z1 z2.cells e (some w.heap.size) (w.alloc (.cells z'.cells T2)) := by
  obtain ⟨s, hs, H⟩ := h
  refine ⟨z2, hz.zero w, s + 1, by omega, ?_⟩
  have := H.alloc T2 z2.cells
  rw [H.size]
  exact this.perm (by apply perm_count; intro x; simp only [extF, List.count_append, List.count_cons, List.count_nil]; omega)
end Go.Proofs.YtccgpjhgfjfaoaaGreatDoor
/- earshotlaw18.ClusterNone returns true, given the block of errHalted. -/
namespace Go.Proofs.YtccgpjhgfjfaoaaGreatDoor
open Go.RowKit

theorem set00 (w : World) : (Op.equalIn 10000 38 (setV 0) (.agg #[.int .u32 0, .int .u32 0, .int .u32 0, .int .u32 0])).run Tryz.prog w = .ok true w := by
  have := set_eqIn 0 0 w
  rw [show setV 0 = .agg #[.int .u32 0, .int .u32 0, .int .u32 0, .int .u32 0] by simp only [setV, wd0]] at this ⊢
  exact this
section
variable {w : World}
set_option maxRecDepth 100000 in
set_option maxHeartbeats 2000000 in
theorem law_none {t0 t : TypeId} {u : Value} (hg : Blk w 0 t0 #[.iface t u]) (k a b c id : Int) (A : Option Addr) (n m : Nat) : Calls Tryz.prog 3 #[stepV k a b c A n m, .int .i64 id] w (Ret (.bool true) w) := by
  go_enter Tryz.func3, Tryz.ntmps3
  have H := (Hp.start NoS w).addR hg (fun h => h)
  go_wp2_with (first | ((first | ((with_reducible apply wlB); refine hw_box rfl rfl H ?_) | ((with_reducible apply wlA); refine hw_alloc rfl H ?_) | ((with_reducible apply wlS); first | refine hw_store 0 rfl rfl rfl H rfl rfl rfl (by simp) rfl ?_ | refine hw_store 1 rfl rfl rfl H rfl rfl rfl (by simp) rfl ?_ | refine hw_store 2 rfl rfl rfl H rfl rfl rfl (by simp) rfl ?_ | refine hw_store 3 rfl rfl rfl H rfl rfl rfl (by simp) rfl ?_)); clear H; intro w' H; (try simp only [Act.eval, Act.put, Value.cells, segV, seg, segPut, NS, Nat.reduceAdd] at H)) | ((with_reducible apply wlL); (first | apply hw_load 0 rfl rfl H rfl | apply hw_load 1 rfl rfl H rfl | apply hw_load 2 rfl rfl H rfl | apply hw_load 3 rfl rfl H rfl); (focus (simp; done)); (focus (simp only [segV, seg, NS]; rfl))))
  (try simp only [Act.eval, Act.put, Value.cells, segV, seg, segPut, NS, Nat.reduceAdd])
  refine region_det2 8 6 7 7 8 tAns tAns (HpF2 _ _ _ _ _ _ _ _ _) rfl (by kernel_rfl) ⟨_, Nat.le_refl _, by simp only [extF, List.append_nil]; exact H.drew⟩ HpF2.mk1 HpF2.mk2 ?_; clear H; simp only [List.take_succ_cons, List.take_zero, List.drop_succ_cons, List.drop_zero]
  apply detF2_op (by decide) (by decide) rfl
  · rintro e0 e1 w' ⟨s1, hs1, H⟩; go_wp2; refine ⟨rfl, rfl, ?_, _, by omega, H⟩; (first | (simp only [SlotIs, Array.getD_eq_getD_getElem?, List.getElem?_toArray, List.getElem?_cons_succ, List.getElem?_cons_zero, Option.getD_some]; exact rfl) | exact rfl)
  (try simp only [Act.put, List.setIfInBounds_toArray, List.set_cons_zero, List.set_cons_succ])
  apply detF2_op (by decide) (by decide) rfl
  · rintro e0 e1 w' ⟨s1, hs1, H⟩; go_wp2_with (first | ((with_reducible apply wlL); apply hw_load 1 rfl rfl H rfl; (focus (simp; done)); (focus (simp only [segV, seg, NS]; rfl)))); refine ⟨rfl, rfl, ?_, _, by omega, H⟩; (first | (simp only [SlotIs, Array.getD_eq_getD_getElem?, List.getElem?_toArray, List.getElem?_cons_succ, List.getElem?_cons_zero, Option.getD_some]; exact rfl) | exact rfl)
  (try simp only [Act.put, List.setIfInBounds_toArray, List.set_cons_zero, List.set_cons_succ])
  apply detF2_op (by decide) (by decide) rfl
  · rintro e0 e1 w' ⟨s1, hs1, H⟩; go_wp2_with (first | (go_at_call 4; refine (cDo_none (v := .pointer none) (.inl rfl) k a b c A n m).mono ?_; rintro e w' ⟨rfl, hb⟩; obtain ⟨s2, hs2, H⟩ := H.call hb; clear hb)); refine ⟨rfl, rfl, ?_, _, by omega, H⟩; (first | (simp only [SlotIs, Array.getD_eq_getD_getElem?, List.getElem?_toArray, List.getElem?_cons_succ, List.getElem?_cons_zero, Option.getD_some]; exact rfl) | exact rfl)
  (try simp only [Act.put, List.setIfInBounds_toArray, List.set_cons_zero, List.set_cons_succ])
  apply detF2_op (by decide) (by decide) rfl
  · rintro e0 e1 w' ⟨s1, hs1, H⟩; go_wp2; refine ⟨rfl, rfl, ?_, _, by omega, H⟩; (first | (simp only [SlotIs, Array.getD_eq_getD_getElem?, List.getElem?_toArray, List.getElem?_cons_succ, List.getElem?_cons_zero, Option.getD_some]; exact rfl) | exact rfl)
  (try simp only [Act.put, List.setIfInBounds_toArray, List.set_cons_zero, List.set_cons_succ])
  apply detF2_op (by decide) (by decide) rfl
  · rintro e0 e1 w' ⟨s1, hs1, H⟩; go_wp2_with (first | ((with_reducible apply wlL); apply hw_load 1 rfl rfl H rfl; (focus (simp; done)); (focus (simp only [segV, seg, NS]; rfl)))); refine ⟨rfl, rfl, ?_, _, by omega, H⟩; (first | (simp only [SlotIs, Array.getD_eq_getD_getElem?, List.getElem?_toArray, List.getElem?_cons_succ, List.getElem?_cons_zero, Option.getD_some]; exact rfl) | exact rfl)
  (try simp only [Act.put, List.setIfInBounds_toArray, List.set_cons_zero, List.set_cons_succ])
  apply detF2_op (by decide) (by decide) rfl
  · rintro e0 e1 w' ⟨s1, hs1, H⟩; go_wp2_with (first | (go_at_call 4; refine (cDo_none (v := pV (w.heap.size + 1)) (.inr ⟨_, rfl, H.blk _ (.head _)⟩) k a b c A n m).mono ?_; rintro e w' ⟨rfl, hb⟩; obtain ⟨s2, hs2, H⟩ := H.call hb; clear hb)); refine ⟨rfl, rfl, ?_, _, by omega, H⟩; (first | (simp only [SlotIs, Array.getD_eq_getD_getElem?, List.getElem?_toArray, List.getElem?_cons_succ, List.getElem?_cons_zero, Option.getD_some]; exact rfl) | exact rfl)
  (try simp only [Act.put, List.setIfInBounds_toArray, List.set_cons_zero, List.set_cons_succ])
  apply detF2_mk (by decide)
  (try simp only [Act.put, List.setIfInBounds_toArray, List.set_cons_zero, List.set_cons_succ])
  apply detF2_mk (by decide)
  (try simp only [Act.put, List.setIfInBounds_toArray, List.set_cons_zero, List.set_cons_succ])
  rintro p p' w' ⟨s5, hs5, H⟩; simp only [extF, List.cons_append, List.nil_append, Value.cells] at H; (try simp only [Act.eval, Act.put, Value.cells, segV, seg, segPut, NS, Nat.reduceAdd])
  go_wp2_with (first | ((first | ((with_reducible apply wlB); refine hw_box rfl rfl H ?_) | ((with_reducible apply wlA); refine hw_alloc rfl H ?_) | ((with_reducible apply wlS); first | refine hw_store 0 rfl rfl rfl H rfl rfl rfl (by simp) rfl ?_ | refine hw_store 1 rfl rfl rfl H rfl rfl rfl (by simp) rfl ?_ | refine hw_store 2 rfl rfl rfl H rfl rfl rfl (by simp) rfl ?_ | refine hw_store 3 rfl rfl rfl H rfl rfl rfl (by simp) rfl ?_)); clear H; intro w' H; (try simp only [Act.eval, Act.put, Value.cells, segV, seg, segPut, NS, Nat.reduceAdd] at H)) | ((with_reducible apply wlL); (first | apply hw_load 0 rfl rfl H rfl | apply hw_load 1 rfl rfl H rfl | apply hw_load 2 rfl rfl H rfl | apply hw_load 3 rfl rfl H rfl); (focus (simp; done)); (focus (simp only [segV, seg, NS]; rfl))))
  refine (cSight_none (v := .pointer none) (.inl rfl) id).mono ?_; rintro e w' ⟨rfl, hb⟩; obtain ⟨s6, hs6, H⟩ := H.call hb; clear hb
  go_wp2_with (first | ((first | ((with_reducible apply wlB); refine hw_box rfl rfl H ?_) | ((with_reducible apply wlA); refine hw_alloc rfl H ?_) | ((with_reducible apply wlS); first | refine hw_store 0 rfl rfl rfl H rfl rfl rfl (by simp) rfl ?_ | refine hw_store 1 rfl rfl rfl H rfl rfl rfl (by simp) rfl ?_ | refine hw_store 2 rfl rfl rfl H rfl rfl rfl (by simp) rfl ?_ | refine hw_store 3 rfl rfl rfl H rfl rfl rfl (by simp) rfl ?_)); clear H; intro w' H; (try simp only [Act.eval, Act.put, Value.cells, segV, seg, segPut, NS, Nat.reduceAdd] at H)) | ((with_reducible apply wlL); (first | apply hw_load 0 rfl rfl H rfl | apply hw_load 1 rfl rfl H rfl | apply hw_load 2 rfl rfl H rfl | apply hw_load 3 rfl rfl H rfl); (focus (simp; done)); (focus (simp only [segV, seg, NS]; rfl))))
  refine (cSight_none (v := pV (w.heap.size + 1)) (.inr ⟨_, rfl, H.blk (w.heap.size + 1, tClu, zeroClu) (by simp)⟩) id).mono ?_; rintro e w' ⟨rfl, hb⟩; obtain ⟨s6, hs6, H⟩ := H.call hb; clear hb
  go_wp2_with (first | ((first | ((with_reducible apply wlB); refine hw_box rfl rfl H ?_) | ((with_reducible apply wlA); refine hw_alloc rfl H ?_) | ((with_reducible apply wlS); first | refine hw_store 0 rfl rfl rfl H rfl rfl rfl (by simp) rfl ?_ | refine hw_store 1 rfl rfl rfl H rfl rfl rfl (by simp) rfl ?_ | refine hw_store 2 rfl rfl rfl H rfl rfl rfl (by simp) rfl ?_ | refine hw_store 3 rfl rfl rfl H rfl rfl rfl (by simp) rfl ?_)); clear H; intro w' H; (try simp only [Act.eval, Act.put, Value.cells, segV, seg, segPut, NS, Nat.reduceAdd] at H)) | ((with_reducible apply wlL); (first | apply hw_load 0 rfl rfl H rfl | apply hw_load 1 rfl rfl H rfl | apply hw_load 2 rfl rfl H rfl | apply hw_load 3 rfl rfl H rfl); (focus (simp; done)); (focus (simp only [segV, seg, NS]; rfl))))
  refine (cDisk_none (v := .pointer none) (.inl rfl) id).mono ?_; rintro e w' ⟨rfl, hb⟩; obtain ⟨s6, hs6, H⟩ := H.call hb; clear hb
  go_wp2_with (first | ((first | ((with_reducible apply wlB); refine hw_box rfl rfl H ?_) | ((with_reducible apply wlA); refine hw_alloc rfl H ?_) | ((with_reducible apply wlS); first | refine hw_store 0 rfl rfl rfl H rfl rfl rfl (by simp) rfl ?_ | refine hw_store 1 rfl rfl rfl H rfl rfl rfl (by simp) rfl ?_ | refine hw_store 2 rfl rfl rfl H rfl rfl rfl (by simp) rfl ?_ | refine hw_store 3 rfl rfl rfl H rfl rfl rfl (by simp) rfl ?_)); clear H; intro w' H; (try simp only [Act.eval, Act.put, Value.cells, segV, seg, segPut, NS, Nat.reduceAdd] at H)) | ((with_reducible apply wlL); (first | apply hw_load 0 rfl rfl H rfl | apply hw_load 1 rfl rfl H rfl | apply hw_load 2 rfl rfl H rfl | apply hw_load 3 rfl rfl H rfl); (focus (simp; done)); (focus (simp only [segV, seg, NS]; rfl))))
  refine (cDisk_none (v := pV (w.heap.size + 1)) (.inr ⟨_, rfl, H.blk (w.heap.size + 1, tClu, zeroClu) (by simp)⟩) id).mono ?_; rintro e w' ⟨rfl, hb⟩; obtain ⟨s6, hs6, H⟩ := H.call hb; clear hb
  go_wp2_with (first | ((first | ((with_reducible apply wlB); refine hw_box rfl rfl H ?_) | ((with_reducible apply wlA); refine hw_alloc rfl H ?_) | ((with_reducible apply wlS); first | refine hw_store 0 rfl rfl rfl H rfl rfl rfl (by simp) rfl ?_ | refine hw_store 1 rfl rfl rfl H rfl rfl rfl (by simp) rfl ?_ | refine hw_store 2 rfl rfl rfl H rfl rfl rfl (by simp) rfl ?_ | refine hw_store 3 rfl rfl rfl H rfl rfl rfl (by simp) rfl ?_)); clear H; intro w' H; (try simp only [Act.eval, Act.put, Value.cells, segV, seg, segPut, NS, Nat.reduceAdd] at H)) | ((with_reducible apply wlL); (first | apply hw_load 0 rfl rfl H rfl | apply hw_load 1 rfl rfl H rfl | apply hw_load 2 rfl rfl H rfl | apply hw_load 3 rfl rfl H rfl); (focus (simp; done)); (focus (simp only [segV, seg, NS]; rfl))))
  refine (cLeft_none (v := .pointer none) (.inl rfl) id).mono ?_; rintro e w' ⟨rfl, hb⟩; obtain ⟨s6, hs6, H⟩ := H.call hb; clear hb
  go_wp2_with (first | ((first | ((with_reducible apply wlB); refine hw_box rfl rfl H ?_) | ((with_reducible apply wlA); refine hw_alloc rfl H ?_) | ((with_reducible apply wlS); first | refine hw_store 0 rfl rfl rfl H rfl rfl rfl (by simp) rfl ?_ | refine hw_store 1 rfl rfl rfl H rfl rfl rfl (by simp) rfl ?_ | refine hw_store 2 rfl rfl rfl H rfl rfl rfl (by simp) rfl ?_ | refine hw_store 3 rfl rfl rfl H rfl rfl rfl (by simp) rfl ?_)); clear H; intro w' H; (try simp only [Act.eval, Act.put, Value.cells, segV, seg, segPut, NS, Nat.reduceAdd] at H)) | ((with_reducible apply wlL); (first | apply hw_load 0 rfl rfl H rfl | apply hw_load 1 rfl rfl H rfl | apply hw_load 2 rfl rfl H rfl | apply hw_load 3 rfl rfl H rfl); (focus (simp; done)); (focus (simp only [segV, seg, NS]; rfl))))
  refine (cLeft_none (v := pV (w.heap.size + 1)) (.inr ⟨_, rfl, H.blk (w.heap.size + 1, tClu, zeroClu) (by simp)⟩) id).mono ?_; rintro e w' ⟨rfl, hb⟩; obtain ⟨s6, hs6, H⟩ := H.call hb; clear hb
  go_wp2_with (first | ((with_reducible apply wlL); apply hw_load 0 rfl rfl H rfl; (focus (simp; done)); (focus (simp only [segV, seg, NS]; rfl))) | ((with_reducible apply wlL); apply hw_load 5 rfl rfl H rfl; (focus (simp; done)); (focus (simp only [segV, seg, NS]; rfl))) | ((with_reducible apply wlL); apply hw_load 6 rfl rfl H rfl; (focus (simp; done)); (focus (simp only [segV, seg, NS]; rfl))) | ((with_reducible apply wlA); refine hw_alloc rfl H ?_; clear H; intro w' H; (try simp only [Act.eval, Act.put, Value.cells, segV, seg, segPut, NS, Nat.reduceAdd] at H)) | ((with_reducible apply wlS); refine hw_store 0 rfl rfl rfl H rfl rfl rfl (by simp) rfl ?_; clear H; intro w' H; (try simp only [Act.eval, Act.put, Value.cells, segV, seg, segPut, NS, Nat.reduceAdd] at H)))
  refine (sameAnswer_none _).mono ?_; rintro e w' ⟨rfl, hb⟩; obtain ⟨s6, hs6, H⟩ := H.call hb; clear hb
  go_wp2_with (first | ((with_reducible apply wlL); apply hw_load 0 rfl rfl H rfl; (focus (simp; done)); (focus (simp only [segV, seg, NS]; rfl))) | ((with_reducible apply wlL); apply hw_load 5 rfl rfl H rfl; (focus (simp; done)); (focus (simp only [segV, seg, NS]; rfl))) | ((with_reducible apply wlL); apply hw_load 6 rfl rfl H rfl; (focus (simp; done)); (focus (simp only [segV, seg, NS]; rfl))))
  refine (sameAnswer_none _).mono ?_; rintro e w' ⟨rfl, hb⟩; obtain ⟨s6, hs6, H⟩ := H.call hb; clear hb
  go_wp2_with (first | ((with_reducible apply wlL); apply hw_load 0 rfl rfl H rfl; (focus (simp; done)); (focus (simp only [segV, seg, NS]; rfl))) | ((with_reducible apply wlL); apply hw_load 5 rfl rfl H rfl; (focus (simp; done)); (focus (simp only [segV, seg, NS]; rfl))) | ((with_reducible apply wlL); apply hw_load 6 rfl rfl H rfl; (focus (simp; done)); (focus (simp only [segV, seg, NS]; rfl))))
  refine (alive_any (H.ro _ (.head _)).1).mono ?_; rintro e w' ⟨rfl, hb⟩; obtain ⟨s6, hs6, H⟩ := H.call hb; clear hb
  go_wp2_with (first | ((with_reducible apply wlL); apply hw_load 0 rfl rfl H rfl; (focus (simp; done)); (focus (simp only [segV, seg, NS]; rfl))) | ((with_reducible apply wlL); apply hw_load 5 rfl rfl H rfl; (focus (simp; done)); (focus (simp only [segV, seg, NS]; rfl))) | ((with_reducible apply wlL); apply hw_load 6 rfl rfl H rfl; (focus (simp; done)); (focus (simp only [segV, seg, NS]; rfl))))
  refine (cSize_none (v := .pointer none) (.inl rfl)).mono ?_; rintro e w' ⟨rfl, hb⟩; obtain ⟨s6, hs6, H⟩ := H.call hb; clear hb
  go_wp2_with (first | ((with_reducible apply wlL); apply hw_load 0 rfl rfl H rfl; (focus (simp; done)); (focus (simp only [segV, seg, NS]; rfl))) | ((with_reducible apply wlL); apply hw_load 5 rfl rfl H rfl; (focus (simp; done)); (focus (simp only [segV, seg, NS]; rfl))) | ((with_reducible apply wlL); apply hw_load 6 rfl rfl H rfl; (focus (simp; done)); (focus (simp only [segV, seg, NS]; rfl))))
  refine (cFaults_none (v := .pointer none) (.inl rfl)).mono ?_; rintro e w' ⟨rfl, hb⟩; obtain ⟨s6, hs6, H⟩ := H.call hb; clear hb
  go_wp2_with (first | ((with_reducible apply wlL); apply hw_load 0 rfl rfl H rfl; (focus (simp; done)); (focus (simp only [segV, seg, NS]; rfl))) | ((with_reducible apply wlL); apply hw_load 5 rfl rfl H rfl; (focus (simp; done)); (focus (simp only [segV, seg, NS]; rfl))) | ((with_reducible apply wlL); apply hw_load 6 rfl rfl H rfl; (focus (simp; done)); (focus (simp only [segV, seg, NS]; rfl))))
  refine (cRoom_none (v := .pointer none) (.inl rfl)).mono ?_; rintro e w' ⟨rfl, hb⟩; obtain ⟨s6, hs6, H⟩ := H.call hb; clear hb
  go_wp2_with (first | ((with_reducible apply wlL); apply hw_load 0 rfl rfl H rfl; (focus (simp; done)); (focus (simp only [segV, seg, NS]; rfl))) | ((with_reducible apply wlL); apply hw_load 5 rfl rfl H rfl; (focus (simp; done)); (focus (simp only [segV, seg, NS]; rfl))) | ((with_reducible apply wlL); apply hw_load 6 rfl rfl H rfl; (focus (simp; done)); (focus (simp only [segV, seg, NS]; rfl))))
  refine (cBag_none (v := .pointer none) (.inl rfl)).mono ?_; rintro e w' ⟨rfl, hb⟩; obtain ⟨s6, hs6, H⟩ := H.call hb; clear hb
  go_wp2_with (first | ((with_reducible apply wlL); apply hw_load 0 rfl rfl H rfl; (focus (simp; done)); (focus (simp only [segV, seg, NS]; rfl))) | ((with_reducible apply wlL); apply hw_load 5 rfl rfl H rfl; (focus (simp; done)); (focus (simp only [segV, seg, NS]; rfl))) | ((with_reducible apply wlL); apply hw_load 6 rfl rfl H rfl; (focus (simp; done)); (focus (simp only [segV, seg, NS]; rfl))))
  refine (cHistory_none (v := .pointer none) (.inl rfl)).mono ?_; rintro e w' ⟨rfl, hb⟩; obtain ⟨s6, hs6, H⟩ := H.call hb; clear hb
  go_wp2_with (first | ((with_reducible apply wlL); apply hw_load 0 rfl rfl H rfl; (focus (simp; done)); (focus (simp only [segV, seg, NS]; rfl))) | ((with_reducible apply wlL); apply hw_load 5 rfl rfl H rfl; (focus (simp; done)); (focus (simp only [segV, seg, NS]; rfl))) | ((with_reducible apply wlL); apply hw_load 6 rfl rfl H rfl; (focus (simp; done)); (focus (simp only [segV, seg, NS]; rfl))))
  refine (cUp_none (v := .pointer none) (.inl rfl)).mono ?_; rintro e w' ⟨rfl, hb⟩; obtain ⟨s6, hs6, H⟩ := H.call hb; clear hb
  go_wp2_with (first | ((with_reducible show wpList _ _ _ (⟨_, .binOp .eql _ _ _ _, _, _, _, _⟩ :: _) _ _); refine hw_eqA (b := true) set00 (by kernel_rfl) rfl rfl rfl ?_) | ((with_reducible apply wlL); apply hw_load 0 rfl rfl H rfl; (focus (simp; done)); (focus (simp only [segV, seg, NS]; rfl))) | ((with_reducible apply wlL); apply hw_load 5 rfl rfl H rfl; (focus (simp; done)); (focus (simp only [segV, seg, NS]; rfl))) | ((with_reducible apply wlL); apply hw_load 6 rfl rfl H rfl; (focus (simp; done)); (focus (simp only [segV, seg, NS]; rfl))))
  refine (cSize_none (v := pV (w.heap.size + 1)) (.inr ⟨_, rfl, H.blk (w.heap.size + 1, tClu, zeroClu) (by simp)⟩)).mono ?_; rintro e w' ⟨rfl, hb⟩; obtain ⟨s6, hs6, H⟩ := H.call hb; clear hb
  go_wp2_with (first | ((with_reducible apply wlL); apply hw_load 0 rfl rfl H rfl; (focus (simp; done)); (focus (simp only [segV, seg, NS]; rfl))) | ((with_reducible apply wlL); apply hw_load 5 rfl rfl H rfl; (focus (simp; done)); (focus (simp only [segV, seg, NS]; rfl))) | ((with_reducible apply wlL); apply hw_load 6 rfl rfl H rfl; (focus (simp; done)); (focus (simp only [segV, seg, NS]; rfl))))
  refine (cFaults_none (v := pV (w.heap.size + 1)) (.inr ⟨_, rfl, H.blk (w.heap.size + 1, tClu, zeroClu) (by simp)⟩)).mono ?_; rintro e w' ⟨rfl, hb⟩; obtain ⟨s6, hs6, H⟩ := H.call hb; clear hb
  go_wp2_with (first | ((with_reducible apply wlL); apply hw_load 0 rfl rfl H rfl; (focus (simp; done)); (focus (simp only [segV, seg, NS]; rfl))) | ((with_reducible apply wlL); apply hw_load 5 rfl rfl H rfl; (focus (simp; done)); (focus (simp only [segV, seg, NS]; rfl))) | ((with_reducible apply wlL); apply hw_load 6 rfl rfl H rfl; (focus (simp; done)); (focus (simp only [segV, seg, NS]; rfl))))
  refine (cRoom_none (v := pV (w.heap.size + 1)) (.inr ⟨_, rfl, H.blk (w.heap.size + 1, tClu, zeroClu) (by simp)⟩)).mono ?_; rintro e w' ⟨rfl, hb⟩; obtain ⟨s6, hs6, H⟩ := H.call hb; clear hb
  go_wp2_with (first | ((with_reducible apply wlL); apply hw_load 0 rfl rfl H rfl; (focus (simp; done)); (focus (simp only [segV, seg, NS]; rfl))) | ((with_reducible apply wlL); apply hw_load 5 rfl rfl H rfl; (focus (simp; done)); (focus (simp only [segV, seg, NS]; rfl))) | ((with_reducible apply wlL); apply hw_load 6 rfl rfl H rfl; (focus (simp; done)); (focus (simp only [segV, seg, NS]; rfl))))
  refine (cBag_none (v := pV (w.heap.size + 1)) (.inr ⟨_, rfl, H.blk (w.heap.size + 1, tClu, zeroClu) (by simp)⟩)).mono ?_; rintro e w' ⟨rfl, hb⟩; obtain ⟨s6, hs6, H⟩ := H.call hb; clear hb
  go_wp2_with (first | ((with_reducible apply wlL); apply hw_load 0 rfl rfl H rfl; (focus (simp; done)); (focus (simp only [segV, seg, NS]; rfl))) | ((with_reducible apply wlL); apply hw_load 5 rfl rfl H rfl; (focus (simp; done)); (focus (simp only [segV, seg, NS]; rfl))) | ((with_reducible apply wlL); apply hw_load 6 rfl rfl H rfl; (focus (simp; done)); (focus (simp only [segV, seg, NS]; rfl))))
  refine (cHistory_none (v := pV (w.heap.size + 1)) (.inr ⟨_, rfl, H.blk (w.heap.size + 1, tClu, zeroClu) (by simp)⟩)).mono ?_; rintro e w' ⟨rfl, hb⟩; obtain ⟨s6, hs6, H⟩ := H.call hb; clear hb
  go_wp2_with (first | ((with_reducible apply wlL); apply hw_load 0 rfl rfl H rfl; (focus (simp; done)); (focus (simp only [segV, seg, NS]; rfl))) | ((with_reducible apply wlL); apply hw_load 5 rfl rfl H rfl; (focus (simp; done)); (focus (simp only [segV, seg, NS]; rfl))) | ((with_reducible apply wlL); apply hw_load 6 rfl rfl H rfl; (focus (simp; done)); (focus (simp only [segV, seg, NS]; rfl))))
  refine (cUp_none (v := pV (w.heap.size + 1)) (.inr ⟨_, rfl, H.blk (w.heap.size + 1, tClu, zeroClu) (by simp)⟩)).mono ?_; rintro e w' ⟨rfl, hb⟩; obtain ⟨s6, hs6, H⟩ := H.call hb; clear hb
  go_wp2_with (first | ((with_reducible show wpList _ _ _ (⟨_, .binOp .eql _ _ _ _, _, _, _, _⟩ :: _) _ _); refine hw_eqA (b := true) set00 (by kernel_rfl) rfl rfl rfl ?_) | ((with_reducible apply wlL); apply hw_load 0 rfl rfl H rfl; (focus (simp; done)); (focus (simp only [segV, seg, NS]; rfl))) | ((with_reducible apply wlL); apply hw_load 5 rfl rfl H rfl; (focus (simp; done)); (focus (simp only [segV, seg, NS]; rfl))) | ((with_reducible apply wlL); apply hw_load 6 rfl rfl H rfl; (focus (simp; done)); (focus (simp only [segV, seg, NS]; rfl))))
  exact bodyPost_ret (res1 rfl (rv_tmp rfl)) rfl ⟨rfl, H.ret⟩
end
end Go.Proofs.YtccgpjhgfjfaoaaGreatDoor
/- earshotlaw18.ClusterNone: the row and the tied card: FOR EVERY STEP AND EVERY ID the law returns true; what came in reads as it did. Conditions: none beyond the card's own (errors.errorType, refute.errNoDefence, cluster.errHalted start as the program's text lays them). -/
namespace Go.Proofs.YtccgpjhgfjfaoaaGreatDoor
open Go Go.ChangeShapes Go.WideShapes Go.RowKit

theorem own : ownKnob Tryz.prog.godebug = none := by kernel_rfl
theorem laidOut : laidOutB Tryz.prog = true := by kernel_rfl
theorem u_int : Tryz.prog.underlying 3 = some (.int .i64) := by kernel_rfl
theorem u_bool : Tryz.prog.underlying 4 = some .bool := by kernel_rfl

/-- A row over one goroutine meets the form that lets others be leaving. -/
theorem leaving_of_handed {a : Assume} {C : Checked} {os : Os} {f : FuncId} {r : Reach} {Pre : World → Array Value → Prop} {Post : World → Array Value → Value → World → Prop} (h : ReturnsInHanded a C os f r Pre Post) : ReturnsInLeavingWide a C os f r Pre Post := by
  intro enter
  obtain ⟨h1, h2, h3, h4, h5⟩ := h enter
  refine ⟨h1, h2, h3, h4, fun w tape i hf => ?_⟩
  obtain ⟨n, v, w', a1, a2, a3, a4, ⟨j, last, b1, b2, ⟨q1, q2⟩, b4, b5⟩, a6⟩ := h5 w tape i hf
  refine ⟨n, v, w', a1, a2, a3, a4, ⟨j, last, b1, b2, b4, ⟨fun g hg => ⟨0, ?_⟩, q2⟩, b5⟩, a6⟩
  have := List.all_eq_true.1 q1 g hg
  show g.status = .finished
  simpa using this

/-- What is laid for a variable of an interface type: its block. -/
theorem laid_iface {P : Program} {n nm : String} {d : DataW Unit} {r : List (String × DataW Unit)} {W : World} {g : Nat} {ti : TypeId} {ms : Array (String × TypeId)} (h : laidMet P ((n, .iface nm d) :: r) W)
    (hg : P.globalNamed n = some g) (ht : (P.globals[g]?).map (·.type) = some ti) (hi : P.underlying ti = some (.interface ms)) : ∃ t u v, Blk W g t #[.iface u v] := by
  obtain ⟨ps, ⟨g0, t0, cs0, f0, p0, q0, hg0, ht0, hv0, hd0, _, e0⟩, _, hrows⟩ := h
  obtain rfl := Option.some.inj (hg.symm.trans hg0)
  obtain rfl := Option.some.inj (ht.symm.trans ht0)
  subst e0
  obtain ⟨l0⟩ := cs0
  obtain ⟨f1, u, v, he, -, -⟩ := iface_of_trod hi hd0
  simp only at he
  subst he
  obtain ⟨⟨c, t, hb⟩, -⟩ := hrows g 0 (by simp [MemPlace.row])
  have hc : c = #[.iface u v] := by
    simp only [World.var?, hg, Option.bind_some, hb] at hv0
    exact Option.some.inj hv0
  subst hc
  exact ⟨t, u, v, hb⟩

theorem list5 {α : Type} {l : List α} (h : l.length = 5) : ∃ a b c d e, l = [a, b, c, d, e] := by
  match l, h with
  | [a, b, c, d, e], _ => exact ⟨a, b, c, d, e, rfl⟩
section
variable {H : Type} {enc : TypeId × Value → H} {w : World} {base : Nat} {spare : Nat → Bool} {held : Bool}
set_option maxRecDepth 100000 in
theorem step_shape {r : Reach} {b0 : Nat} {v : Value} {d : DataW H} {p : List MemPlace} (hv : Value.okWide Tryz.prog w r b0 24 v) (h : DataW.Trod enc Tryz.prog w base spare held 24 v d p) :
    ∃ k a b c A n m, v = stepV k a b c A n m := by
  obtain ⟨fs, hs, h0, h1, h2, h3, h4⟩ : ∃ fs : Array Field, Tryz.prog.underlying 24 = some (.struct fs) ∧ (fs[0]?).map (fun f => (f.type, f.offset)) = some (3, 0) ∧ (fs[1]?).map (fun f => (f.type, f.offset)) = some (3, 1) ∧ (fs[2]?).map (fun f => (f.type, f.offset)) = some (3, 2) ∧ (fs[3]?).map (fun f => (f.type, f.offset)) = some (3, 3) ∧ (fs[4]?).map (fun f => (f.type, f.offset)) = some (22, 4) :=
    ⟨_, Tryz.underlying24, rfl, rfl, rfl, rfl, rfl⟩
  have hC : Tryz.prog.cellsOf 24 = 5 := by kernel_rfl
  have c3 : Tryz.prog.cellsOf 3 = 1 := by kernel_rfl
  have c4 : Tryz.prog.cellsOf 22 = 1 := by kernel_rfl
  obtain ⟨cs, rfl, hsz⟩ := okWide_struct hs hv
  obtain ⟨l⟩ := cs
  obtain ⟨fuel, hf⟩ := h
  obtain ⟨xs, n, _, _, _, hlen, hfi⟩ := DataW.trod_struct hs hf
  have key : ∀ (i : Nat) (T : TypeId) (o : Nat), (fs[i]?).map (fun f => (f.type, f.offset)) = some (T, o) → ∃ x, DataW.trod enc Tryz.prog w base spare held n T ((l.drop o).take (Tryz.prog.cellsOf T)) = some x := by
    intro i T o hi
    obtain ⟨f, hf1, hf2⟩ := Option.map_eq_some_iff.1 hi
    simp only [Prod.mk.injEq] at hf2
    obtain ⟨rfl, rfl⟩ := hf2
    have := hfi i f hf1
    have hil : i < xs.length := by rw [hlen]; exact (Array.getElem?_eq_some_iff.1 hf1).1
    rw [List.getElem?_eq_getElem hil] at this
    exact ⟨_, this⟩
  obtain ⟨x0, k0⟩ := key 0 _ _ h0
  obtain ⟨x1, k1⟩ := key 1 _ _ h1
  obtain ⟨x2, k2⟩ := key 2 _ _ h2
  obtain ⟨x3, k3⟩ := key 3 _ _ h3
  obtain ⟨x4, k4⟩ := key 4 _ _ h4
  rw [c3] at k0 k1 k2 k3
  rw [c4] at k4
  obtain ⟨c0, c1, c2, c3', c4', rfl⟩ := list5 (hsz.trans hC : l.length = 5)
  simp only [List.drop_zero, List.drop_succ_cons, List.take_succ_cons, List.take_zero] at k0 k1 k2 k3 k4
  obtain ⟨n0, e0, -, -⟩ := DataW.trod_int u_int k0
  obtain ⟨n1, e1, -, -⟩ := DataW.trod_int u_int k1
  obtain ⟨n2, e2, -, -⟩ := DataW.trod_int u_int k2
  obtain ⟨n3, e3, -, -⟩ := DataW.trod_int u_int k3
  obtain ⟨A, m, c, e4⟩ := Joins.slice_form (e := 5) (by kernel_rfl) k4
  rw [(List.cons.inj e0).1, (List.cons.inj e1).1, (List.cons.inj e2).1, (List.cons.inj e3).1, (List.cons.inj e4).1]
  exact ⟨_, _, _, _, _, _, _, rfl⟩
end

abbrev laidNone {H : Type} : List (String × DataW H) := [("errors.errorType", Rows.laid_errors_errorType), ("earshot/refute.errNoDefence", Rows.laid_earshot_refute_errNoDefence), ("earshot/cluster.errHalted", Rows.laid_earshot_cluster_errHalted)]

theorem err_of_laid {W : World} (h : laidMetH Tryz.prog laidNone W) : ∃ t u v, Blk W 0 t #[.iface u v] := by
  have h' : laidMet Tryz.prog [("earshot/refute.errNoDefence", Rows.laid_earshot_refute_errNoDefence), ("earshot/cluster.errHalted", Rows.laid_earshot_cluster_errHalted)] W ∧ handlesMet Tryz.prog [("errors.errorType", Rows.laid_errors_errorType)] W := h
  have h2 := laidMet.tail h'.1
  unfold Rows.laid_earshot_cluster_errHalted at h2
  exact laid_iface (ti := 139) h2 (by kernel_rfl) (by kernel_rfl) Tryz.underlying139

set_option maxRecDepth 100000 in
theorem door_met (os : Os) (args : Array Value) : laidMetH Tryz.prog laidNone ((World.doorLaid Tryz.prog 400 os).forCall (fun _ _ => 0) ⟨#[], args, []⟩).memory :=
  laidMetH_of_parts3 (fuel := 8) (laidMet_of_run' 8 (by kernel_rfl) (by kernel_rfl)) (by kernel_rfl) (by kernel_rfl)

set_option maxRecDepth 100000 in
theorem none_lifted (os : Os) (started : os.Started) (H : Type) (enc : TypeId × Value → H) :
    ReturnsInHanded {} Tryz.checked os 3 .any (fun w args => (Rows.clusterNoneSpec.pre enc Tryz.prog Tryz.f3 [] false w args ∧ laidMetH Tryz.prog laidNone w) ∧ sizedMet enc Tryz.prog Tryz.f3 (OpenSpec.ofChange Rows.clusterNoneSpec) false w args)
      (Rows.clusterNoneSpec.post enc Tryz.prog Tryz.f3 false true false false) := by
  refine returnsInHanded_of_change_and (C := Tryz.checked) (X := fun w _ => laidMetH Tryz.prog laidNone w) (fun _ _ _ hh h => h.of_heap hh) own started (by kernel_rfl) Tryz.func3
    (ChangeSpec.witness_shaped (enc := enc) (C := Tryz.checked) (os := os) (X := fun w _ => laidMetH Tryz.prog laidNone w) false (World.doorLaid Tryz.prog 400 os) #[stepV 0 0 0 0 none 0 0, .int .i64 0] 8 rfl (World.shaped_of_RefB (by kernel_rfl) (by kernel_rfl)) (by kernel_rfl) (by kernel_rfl) (by kernel_rfl) (door_met os _)) ?_
  intro W base args ds gs before hval0 hW _ _ hL _
  have hval : ∀ (j : Nat) t v, Tryz.f3.params[j]? = some t → args[j]? = some v → Value.okWide Tryz.prog W .any base t v := hval0
  have hW' := hW
  obtain ⟨p, q, hA0, hV, rfl, hfz, hnd⟩ := hW
  have hA : DataW.TrodAll enc Tryz.prog W 0 (fun _ => true) true Tryz.f3.params.toList args.toList ds p := hA0
  have hpar : Tryz.f3.params = #[24, 3] := by kernel_rfl
  rw [hpar] at hA hval
  obtain ⟨v0, v1, d0, d1, p0, p1, rfl, rfl, rfl, h0, h1⟩ := trodAll_two hA
  obtain ⟨rfl, rfl⟩ := trodVars_none hV
  obtain ⟨id, rfl, rfl, rfl, hwf⟩ := open_int u_int (hval 1 3 v1 rfl rfl) h1
  obtain ⟨k, a, b, c, A, n, m, rfl⟩ := step_shape (hval 0 24 v0 rfl rfl) h0
  obtain ⟨t, u, v, hg⟩ := err_of_laid hL
  clear hA0 hval0
  have hlt : ∀ x ∈ p0, x.block < W.heap.size := fun x hx => hW'.lt x (by simp [hx])
  refine (law_none hg k a b c id A n m).mono fun e W' ⟨he, hb⟩ => ?_
  subst he
  refine ⟨_, rfl, _, _, _, [], p0 ++ [], [], hW', ?_, ?_, ?_, hb.frame _, (fun h => by cases h)⟩
  · exact trodAll_mk1 (shut_bool u_bool true)
  · exact trodAll_mk2 (Below.trod laidOut (by kernel_rfl) (of_decide_eq_true (by kernel_rfl)) h0 hb hlt) (shut_int u_int hwf)
  · rfl

theorem none_row : Rows.ClusterNoneSaid :=
  OpenClaim.holds_of_wide_leaving 3 Tryz.f3 rfl rfl rfl rfl rfl rfl rfl ⟨rfl, rfl, rfl, rfl, rfl⟩ rfl rfl rfl rfl rfl (by kernel_rfl) Tryz.func3 (by kernel_rfl)
    (of_decide_eq_true (by kernel_rfl)) (by unfold Func.isWrapper; first | (rw [if_pos (by decide +kernel)]; kernel_rfl) | (rw [if_neg (by decide +kernel)]; exact ⟨rfl, rfl⟩))
    (fun os started H enc _ => leaving_of_handed (none_lifted os started H enc))

theorem none_holds : Rows.ClusterNoneCardSaid := by
  have h6 : ∀ r : OpenClaim, Claim7.isSixth { stood := { row := r, standIns := [], harness := Rows.clusterNoneCard.stood.harness, looks := true }, kinds := [] } = false := fun r => by simp [Claim7.isSixth, Rows.clusterNoneCard]
  refine ⟨Claim7.tied_new_at .later [.handle, .sentinel, .sentinel] true (Claim7.new_of_sixth none_row Rows.clusterNoneCard.stood.harness true rfl ⟨rfl, rfl⟩ (by kernel_rfl) (h6 _) ?_) (by kernel_rfl), (fun D hD => by cases hD), clusterNone_row_tie, (fun h => by cases h), (by kernel_rfl)⟩
  intro f fn hf hfn
  obtain rfl : f = 3 := Option.some.inj ((show Tryz.prog.funcNamed "earshot/earshotlaw18.ClusterNone" = some 3 by kernel_rfl).symm.trans hf) |>.symm
  obtain rfl : fn = Tryz.f3 := (Option.some.inj (Tryz.func3.symm.trans hfn)).symm
  refine ⟨by kernel_rfl, fun j t ht => ?_⟩
  have hpar : Tryz.f3.params = #[24, 3] := by kernel_rfl
  rw [hpar] at ht
  have h3 : t = 24 ∨ t = 3 := by
    rcases j with _ | _ | j
    · exact .inl (by simpa using ht.symm)
    · exact .inr (by simpa using ht.symm)
    · simp at ht
  rcases h3 with rfl | rfl
  · exact (show Tryz.prog.wantsStandIn 24 = false by kernel_rfl)
  · exact (show Tryz.prog.wantsStandIn 3 = false by kernel_rfl)
#print axioms none_holds
end Go.Proofs.YtccgpjhgfjfaoaaGreatDoor
