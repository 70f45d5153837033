/- Part 3 of the proof: Slot2, Region1, Slot3, Slot4, Slot5, Boot1, Boot2, Boot3, Boot4, Life1, Life2. -/
import Derived.Test.YtccgpjhgfjfaoaaGreatDoorQ2
import Derived.Stop.BytesEq
set_option linter.unusedSimpArgs false
set_option linter.unusedVariables false
/- slot: a slot's bytes. -/
namespace Go.Proofs.YtccgpjhgfjfaoaaGreatDoor
open Go.RowKit

section
variable {S : Nat → Prop} {w0 w w' : World} {sz : Nat} {L R : List Bk} {e : TypeId} {size bytes : Nat}
variable {P : Program} {ops : Array Oper} {Q : Exit → Act → World → Prop} {rest : List Oper} {a : Act} {ty t : TypeId} {pos : String} {after : Array Edge} {g : Option (Nat × Bool)}
/-- copy of a string's bytes into a known block. -/
theorem hw_copyS {x y : Operand} {tx ty' : TypeId} {b o dl dc m : Nat} {s : ByteArray} {tb : TypeId} {cs : Array Value} {dst : Option Tmp} (j : Nat) [hT : SlT P tx e size bytes]
    (hg : Region.wanted ⟨dst, .call { callee := .builtin .copy, args := #[x, y], argTypes := #[tx, ty'] }, ty, pos, after, g⟩ (yielded ops a.tmps) = true)
    (hx : evL a x = some (.slice (some ⟨b, o, none⟩) dl dc)) (hy : evL a y = some (.string s)) (H : Hp S w0 w sz L R) (hj : L[j]? = some (b, tb, cs)) (hm : Nat.min s.size dl = m)
    {news : List Value} (hn : ((s.extract 0 m).data.map fun b => .int .u8 b.toNat) = news.toArray) (h1 : news.all Value.oneCell' = true) (hfit : o + news.length ≤ cs.size)
    (h : ∀ w', Hp S w0 w' sz (L.set j (b, tb, segPut cs o news)) R → wpList P ops Q rest (a.put dst (goInt m)) w') :
    wpList P ops Q (⟨dst, .call { callee := .builtin .copy, args := #[x, y], argTypes := #[tx, ty'] }, ty, pos, after, g⟩ :: rest) a w := by
  obtain ⟨i, z', hi, hz', hsize, hby, hzs⟩ := hT.info
  have hB := H.blk _ (List.mem_of_getElem? hj)
  have h2 : ∀ w, (sizeOf e).run P w = .ok size w := fun w => by simp [sizeOf, typeInfo, hi, hsize]
  have hst := run_storeCells_at (P := P) b o tb news 0 cs w hB (by omega) (by simpa using h1)
  refine wpList_step fun K hK => ?_
  rw [if_pos hg]
  unfold Oper.wp
  have hrun : (Builtin.copy_ #[tx, ty'] ty #[.slice (some ⟨b, o, none⟩) dl dc, .string s]).run P w = .ok (goInt m) (w.setRow b (segPut cs o news)) := by
    simp only [Builtin.copy_, Builtin.lenOf, Sem.run_bind, Sem.run_pure, Result.andThen, run_underlying hT.under, h2]
    simp only [hm, Builtin.firstCells, hn, List.getElem?_toArray, List.getElem?_cons_zero, List.getElem?_cons_succ, Sem.run_bind, Sem.run_pure, Result.andThen, run_underlying hT.under, h2]
    simp only [Nat.add_zero] at hst
    rw [hst]
    simp [segPut]
  simp only [execOp, resolve, invoke, builtin, Sem.run_bind, Sem.run_pure, Result.andThen, List.map_toArray, List.map_cons, List.map_nil, evL_eval hx, evL_eval hy, hrun, Oper.upon]
  exact hK _ _ (h _ (H.put j hj _))
end
structure Rec where
  life : Int
  round : Int
  tag : Int
  deriving DecidableEq
abbrev recV (r : Rec) : Value := .agg #[.int .i64 r.life, .int .i64 r.round, .int .i64 r.tag]
abbrev keptV (r : Rec) (s : Int) : Value := .agg #[.int .i64 r.life, .int .i64 r.round, .int .i64 r.tag, .int .i64 s]
def mayBeB (r : Rec) : Bool := decide (1 ≤ r.life ∧ r.life ≤ 1073741824 ∧ 0 ≤ r.round ∧ r.round ≤ 1099511627775 ∧ 0 ≤ r.tag ∧ r.tag ≤ 1048576)
def isSeqB (s : Int) : Bool := decide (1 ≤ s ∧ s ≤ 1099511627776)
def zB (n : Nat) : List UInt8 := List.replicate n 0
def headB : List UInt8 := [101, 97, 114, 49]
def midB : List UInt8 := [101, 97, 114, 50]
def encB (r : Rec) (s : Int) : List UInt8 :=
  headB ++ beB 8 s.toNat ++ beB 4 r.life.toNat ++ beB 5 r.round.toNat ++ zB 11 ++ (midB ++ beB 8 s.toNat ++ beB 3 r.tag.toNat ++ zB 17)
theorem encB_len (r : Rec) (s : Int) : (encB r s).length = 64 := by simp [encB, headB, midB, zB, beB_len]
instance : Ty Tryz.prog 325 true 64 := ⟨fun _ => by kernel_rfl, fun _ => by kernel_rfl, fun h => by cases h⟩
instance : Ty Tryz.prog 116 true 3 := ⟨fun _ => by kernel_rfl, fun _ => by kernel_rfl, fun h => by cases h⟩
instance : Ty Tryz.prog 297 true 4 := ⟨fun _ => by kernel_rfl, fun _ => by kernel_rfl, fun h => by cases h⟩
instance : ZeroV Tryz.prog 116 (.agg #[.int .i64 0, .int .i64 0, .int .i64 0]) := ⟨fun _ => by kernel_rfl⟩
instance : ZeroV Tryz.prog 297 (.agg #[.int .i64 0, .int .i64 0, .int .i64 0, .int .i64 0]) := ⟨fun _ => by kernel_rfl⟩
instance : ZeroV Tryz.prog 325 (.agg ((zB 64).map bv).toArray) := ⟨fun _ => by kernel_rfl⟩
set_option maxRecDepth 100000 in
set_option maxHeartbeats 2000000 in
theorem mayBe_any (r : Rec) (w : World) : Calls Tryz.prog 227 #[recV r] w (Ret (.bool (mayBeB r)) w) := by
  go_enter Tryz.func227, Tryz.ntmps227
  have H := Hp.start NoS w
  go_wp2_with (first | ((first | ((with_reducible apply wlB); refine hw_box rfl rfl H ?_) | ((with_reducible apply wlA); refine hw_alloc rfl H ?_) | ((with_reducible apply wlS); first | refine hw_store 0 rfl rfl rfl H rfl rfl rfl (by simp) rfl ?_ | refine hw_store 1 rfl rfl rfl H rfl rfl rfl (by simp) rfl ?_ | refine hw_store 2 rfl rfl rfl H rfl rfl rfl (by simp) rfl ?_ | refine hw_store 3 rfl rfl rfl H rfl rfl rfl (by simp) rfl ?_)); clear H; intro w' H; (try simp only [Act.eval, Act.put, Value.cells, segV, seg, segPut, NS, Nat.reduceAdd] at H)) | ((with_reducible apply wlL); (first | apply hw_load 0 rfl rfl H rfl | apply hw_load 1 rfl rfl H rfl | apply hw_load 2 rfl rfl H rfl | apply hw_load 3 rfl rfl H rfl); (focus (simp; done)); (focus (simp only [segV, seg, NS]; rfl))))
  all_goals ((refine bodyPost_ret (res1 rfl (rv_tmp rfl)) rfl ⟨?_, H.ret⟩; go_light; simp only [Ending.returned.injEq]; show Value.bool _ = Value.bool _; congr 1; simp_all [mayBeB]; try omega))
set_option maxRecDepth 100000 in
set_option maxHeartbeats 2000000 in
theorem isSeq_any (s : Int) (w : World) : Calls Tryz.prog 235 #[.int .i64 s] w (Ret (.bool (isSeqB s)) w) := by
  go_enter Tryz.func235, Tryz.ntmps235
  have H := Hp.start NoS w
  go_wp2
  all_goals ((refine bodyPost_ret (res1 rfl (rv_tmp rfl)) rfl ⟨?_, H.ret⟩; go_light; simp only [Ending.returned.injEq]; show Value.bool _ = Value.bool _; congr 1; simp_all [isSeqB]; try omega))
theorem segPut_mid {A B C vs : List Value} {cs : Array Value} (o : Nat) (h : cs = (A ++ B ++ C).toArray) (ho : A.length = o) (hB : B.length = vs.length) : segPut cs o vs = (A ++ vs ++ C).toArray := by
  subst h ho
  unfold segPut
  congr 1
  simp only [List.append_assoc]
  rw [List.take_left, ← hB, ← List.drop_drop]
  simp
theorem put_step {P vs : List Value} {o k m : Nat} (hP : P.length = o) (hv : vs.length = k) : segPut (P ++ (zB (k + m)).map bv).toArray o vs = ((P ++ vs) ++ (zB m).map bv).toArray := by
  have e : (zB (k + m)).map bv = (zB k).map bv ++ (zB m).map bv := by simp [zB, List.replicate_append_replicate]
  rw [e, ← List.append_assoc]
  exact segPut_mid o rfl hP (by simp [zB, hv])
theorem put_step0 (vs : List Value) (hv : vs.length = 4) : segPut ((zB 64).map bv).toArray 0 vs = (vs ++ (zB 60).map bv).toArray := put_step (P := []) (m := 60) rfl hv
theorem seg_all (l : List Value) (n : Nat) (h : l.length = n) : segV true l.toArray 0 n = .agg l.toArray := by
  subst h; simp [segV, seg]
theorem put_all (vs : List Value) (h : vs.length = 64) : segPut ((zB 64).map bv).toArray 0 vs = vs.toArray := by
  simp [segPut, zB, h]
set_option maxRecDepth 100000 in
set_option maxHeartbeats 2000000 in
theorem bytes_any (r : Rec) (s : Int) (hr : mayBeB r = true) (hs : isSeqB s = true) (w : World) : Calls Tryz.prog 236 #[keptV r s] w (Ret (.agg ((encB r s).map bv).toArray) w) := by
  obtain ⟨life, round, tag⟩ := r
  simp only [mayBeB, isSeqB, decide_eq_true_eq] at hr hs
  obtain ⟨s, rfl⟩ := Int.eq_ofNat_of_zero_le (show 0 ≤ s by omega)
  obtain ⟨life, rfl⟩ := Int.eq_ofNat_of_zero_le (show 0 ≤ life by omega)
  obtain ⟨round, rfl⟩ := Int.eq_ofNat_of_zero_le (show 0 ≤ round by omega)
  obtain ⟨tag, rfl⟩ := Int.eq_ofNat_of_zero_le (show 0 ≤ tag by omega)
  go_enter Tryz.func236, Tryz.ntmps236
  have H := Hp.start NoS w
  go_wp2_with (first | ((first | ((with_reducible apply wlB); refine hw_box rfl rfl H ?_) | ((with_reducible apply wlA); refine hw_alloc rfl H ?_) | ((with_reducible apply wlS); first | refine hw_store 0 rfl rfl rfl H rfl rfl rfl (by simp) rfl ?_ | refine hw_store 1 rfl rfl rfl H rfl rfl rfl (by simp) rfl ?_ | refine hw_store 2 rfl rfl rfl H rfl rfl rfl (by simp) rfl ?_ | refine hw_store 3 rfl rfl rfl H rfl rfl rfl (by simp) rfl ?_)); clear H; intro w' H; (try simp only [Act.eval, Act.put, Value.cells, segV, seg, segPut, NS, Nat.reduceAdd] at H)) | ((with_reducible apply wlL); (first | apply hw_load 0 rfl rfl H rfl | apply hw_load 1 rfl rfl H rfl | apply hw_load 2 rfl rfl H rfl | apply hw_load 3 rfl rfl H rfl); (focus (simp; done)); (focus (simp only [segV, seg, NS]; rfl))) | ((with_reducible show wpList _ _ _ (⟨_, .call { callee := .builtin .copy, args := _, argTypes := _ }, _, _, _, _⟩ :: _) _ _); apply hw_copyS 0 rfl rfl rfl H rfl rfl (news := headB.map bv) (by kernel_rfl) (by decide) (by simp [zB, headB]); clear H; intro w' H; rw [List.set_cons_zero, show segPut (List.map bv (zB 64)).toArray 0 (List.map bv headB) = (List.map bv headB ++ (zB 60).map bv).toArray from put_step0 _ rfl] at H))
  have hs1 : s < 9223372036854775808 := by omega
  have hs2 : life < 9223372036854775808 := by omega
  have hs3 : round < 9223372036854775808 := by omega
  have hs4 : tag < 9223372036854775808 := by omega
  have hE := Lib.hid (show (List.map bv headB ++ List.map bv (beB 8 s) ++ List.map bv (beB 4 life) ++ List.map bv (beB 5 round) ++ List.map bv (zB 11) ++ List.map bv midB ++ List.map bv (beB 8 s) ++ List.map bv (beB 3 tag) ++ List.map bv (zB 17)).toArray = ((encB ⟨life, round, tag⟩ s).map bv).toArray by simp [encB, List.append_assoc])
  clear hr hs
  (try simp only [Act.eval, Act.put, Value.cells, segV, seg, segPut, NS, Nat.reduceAdd])
  refine region_det 3 (HpX _ _ _ _ _) rfl (by kernel_rfl) ⟨_, Nat.le_refl _, H.drew⟩ ?_; clear H; simp only [List.take_succ_cons, List.take_zero, List.drop_succ_cons, List.drop_zero]
  repeat (first | (apply det_op rfl; (focus (rintro w' ⟨s1, hs1, H⟩; go_wp2_with (first | ((with_reducible apply wlL); apply hw_load 0 rfl rfl H rfl; (focus (simp; done)); (focus (simp only [segV, seg, NS]; rfl))) | ((with_reducible apply wlL); apply hw_load 1 rfl rfl H rfl; (focus (simp; done)); (focus (simp only [segV, seg, NS]; rfl))) | ((with_reducible apply wlL); apply hw_load 2 rfl rfl H rfl; (focus (simp; done)); (focus (simp only [segV, seg, NS]; rfl)))); refine ⟨rfl, rfl, ?_, _, by omega, H⟩; (first | (simp only [SlotIs, Array.getD_eq_getD_getElem?, List.getElem?_toArray, List.getElem?_cons_succ, List.getElem?_cons_zero, Option.getD_some]; exact rfl) | exact rfl))); (try simp only [Act.put, List.setIfInBounds_toArray, List.set_cons_zero, List.set_cons_succ])) | (apply det_skip rfl; (try simp only [Act.put, List.setIfInBounds_toArray, List.set_cons_zero, List.set_cons_succ])))
  rintro w' ⟨s1, hs1, H⟩; (try simp only [Act.eval, Act.put, Value.cells, segV, seg, segPut, NS, Nat.reduceAdd])
  go_wp2_with (first | (go_at_call 237; (refine (put_any (H.blk _ (.head _)) (by simp [zB, beB_len, headB, midB]) (by decide) s (by assumption)).mono ?_); rintro e w' ⟨s2, rfl, H1⟩; replace H := (H.trans (La := [_]) (List.Perm.refl _) H1 (fun k hk => List.mem_singleton.2 hk)).2.perm List.perm_append_comm; clear H1; simp only [List.cons_append, List.nil_append] at H; rw [put_step (k := 8) (m := 52) (by simp [zB, beB_len, headB, midB]) (by simp [beB_len])] at H) )
  (try simp only [Act.eval, Act.put, Value.cells, segV, seg, segPut, NS, Nat.reduceAdd])
  refine region_det 4 (HpX _ _ _ _ _) rfl (by kernel_rfl) ⟨_, Nat.le_refl _, H.drew⟩ ?_; clear H; simp only [List.take_succ_cons, List.take_zero, List.drop_succ_cons, List.drop_zero]
  repeat (first | (apply det_op rfl; (focus (rintro w' ⟨s1, hs1, H⟩; go_wp2_with (first | ((with_reducible apply wlL); apply hw_load 0 rfl rfl H rfl; (focus (simp; done)); (focus (simp only [segV, seg, NS]; rfl))) | ((with_reducible apply wlL); apply hw_load 1 rfl rfl H rfl; (focus (simp; done)); (focus (simp only [segV, seg, NS]; rfl))) | ((with_reducible apply wlL); apply hw_load 2 rfl rfl H rfl; (focus (simp; done)); (focus (simp only [segV, seg, NS]; rfl)))); refine ⟨rfl, rfl, ?_, _, by omega, H⟩; (first | (simp only [SlotIs, Array.getD_eq_getD_getElem?, List.getElem?_toArray, List.getElem?_cons_succ, List.getElem?_cons_zero, Option.getD_some]; exact rfl) | exact rfl))); (try simp only [Act.put, List.setIfInBounds_toArray, List.set_cons_zero, List.set_cons_succ])) | (apply det_skip rfl; (try simp only [Act.put, List.setIfInBounds_toArray, List.set_cons_zero, List.set_cons_succ])))
  rintro w' ⟨s1, hs1, H⟩; (try simp only [Act.eval, Act.put, Value.cells, segV, seg, segPut, NS, Nat.reduceAdd])
  go_wp2_with (first | (go_at_call 237; (refine (put_any (H.blk _ (.head _)) (by simp [zB, beB_len, headB, midB]) (by decide) life (by assumption)).mono ?_); rintro e w' ⟨s2, rfl, H1⟩; replace H := (H.trans (La := [_]) (List.Perm.refl _) H1 (fun k hk => List.mem_singleton.2 hk)).2.perm List.perm_append_comm; clear H1; simp only [List.cons_append, List.nil_append] at H; rw [put_step (k := 4) (m := 48) (by simp [zB, beB_len, headB, midB]) (by simp [beB_len])] at H) )
  (try simp only [Act.eval, Act.put, Value.cells, segV, seg, segPut, NS, Nat.reduceAdd])
  refine region_det 4 (HpX _ _ _ _ _) rfl (by kernel_rfl) ⟨_, Nat.le_refl _, H.drew⟩ ?_; clear H; simp only [List.take_succ_cons, List.take_zero, List.drop_succ_cons, List.drop_zero]
  repeat (first | (apply det_op rfl; (focus (rintro w' ⟨s1, hs1, H⟩; go_wp2_with (first | ((with_reducible apply wlL); apply hw_load 0 rfl rfl H rfl; (focus (simp; done)); (focus (simp only [segV, seg, NS]; rfl))) | ((with_reducible apply wlL); apply hw_load 1 rfl rfl H rfl; (focus (simp; done)); (focus (simp only [segV, seg, NS]; rfl))) | ((with_reducible apply wlL); apply hw_load 2 rfl rfl H rfl; (focus (simp; done)); (focus (simp only [segV, seg, NS]; rfl)))); refine ⟨rfl, rfl, ?_, _, by omega, H⟩; (first | (simp only [SlotIs, Array.getD_eq_getD_getElem?, List.getElem?_toArray, List.getElem?_cons_succ, List.getElem?_cons_zero, Option.getD_some]; exact rfl) | exact rfl))); (try simp only [Act.put, List.setIfInBounds_toArray, List.set_cons_zero, List.set_cons_succ])) | (apply det_skip rfl; (try simp only [Act.put, List.setIfInBounds_toArray, List.set_cons_zero, List.set_cons_succ])))
  rintro w' ⟨s1, hs1, H⟩; (try simp only [Act.eval, Act.put, Value.cells, segV, seg, segPut, NS, Nat.reduceAdd])
  go_wp2_with (first | (go_at_call 237; (refine (put_any (H.blk _ (.head _)) (by simp [zB, beB_len, headB, midB]) (by decide) round (by assumption)).mono ?_); rintro e w' ⟨s2, rfl, H1⟩; replace H := (H.trans (La := [_]) (List.Perm.refl _) H1 (fun k hk => List.mem_singleton.2 hk)).2.perm List.perm_append_comm; clear H1; simp only [List.cons_append, List.nil_append] at H; rw [put_step (k := 5) (m := 43) (by simp [zB, beB_len, headB, midB]) (by simp [beB_len])] at H) | ((with_reducible show wpList _ _ _ (⟨_, .call { callee := .builtin .copy, args := _, argTypes := _ }, _, _, _, _⟩ :: _) _ _); rw [show ∀ P : List Value, (P ++ (zB 43).map bv).toArray = ((P ++ (zB 11).map bv) ++ (zB 32).map bv).toArray from fun P => by rw [List.append_assoc]; rfl] at H; (apply hw_copyS 0 rfl rfl rfl H rfl rfl (news := midB.map bv) (by kernel_rfl) (by decide) (by simp [zB, headB, midB, beB_len])); clear H; intro w' H; rw [List.set_cons_zero, put_step (k := 4) (m := 28) (by simp [zB, beB_len, headB, midB]) rfl] at H))
  (try simp only [Act.eval, Act.put, Value.cells, segV, seg, segPut, NS, Nat.reduceAdd])
  refine region_det 3 (HpX _ _ _ _ _) rfl (by kernel_rfl) ⟨_, Nat.le_refl _, H.drew⟩ ?_; clear H; simp only [List.take_succ_cons, List.take_zero, List.drop_succ_cons, List.drop_zero]
  repeat (first | (apply det_op rfl; (focus (rintro w' ⟨s1, hs1, H⟩; go_wp2_with (first | ((with_reducible apply wlL); apply hw_load 0 rfl rfl H rfl; (focus (simp; done)); (focus (simp only [segV, seg, NS]; rfl))) | ((with_reducible apply wlL); apply hw_load 1 rfl rfl H rfl; (focus (simp; done)); (focus (simp only [segV, seg, NS]; rfl))) | ((with_reducible apply wlL); apply hw_load 2 rfl rfl H rfl; (focus (simp; done)); (focus (simp only [segV, seg, NS]; rfl)))); refine ⟨rfl, rfl, ?_, _, by omega, H⟩; (first | (simp only [SlotIs, Array.getD_eq_getD_getElem?, List.getElem?_toArray, List.getElem?_cons_succ, List.getElem?_cons_zero, Option.getD_some]; exact rfl) | exact rfl))); (try simp only [Act.put, List.setIfInBounds_toArray, List.set_cons_zero, List.set_cons_succ])) | (apply det_skip rfl; (try simp only [Act.put, List.setIfInBounds_toArray, List.set_cons_zero, List.set_cons_succ])))
  rintro w' ⟨s1, hs1, H⟩; (try simp only [Act.eval, Act.put, Value.cells, segV, seg, segPut, NS, Nat.reduceAdd])
  go_wp2_with (first | (go_at_call 237; (refine (put_any (H.blk _ (.head _)) (by simp [zB, beB_len, headB, midB]) (by decide) s (by assumption)).mono ?_); rintro e w' ⟨s2, rfl, H1⟩; replace H := (H.trans (La := [_]) (List.Perm.refl _) H1 (fun k hk => List.mem_singleton.2 hk)).2.perm List.perm_append_comm; clear H1; simp only [List.cons_append, List.nil_append] at H; rw [put_step (k := 8) (m := 20) (by simp [zB, beB_len, headB, midB]) (by simp [beB_len])] at H) )
  (try simp only [Act.eval, Act.put, Value.cells, segV, seg, segPut, NS, Nat.reduceAdd])
  refine region_det 4 (HpX _ _ _ _ _) rfl (by kernel_rfl) ⟨_, Nat.le_refl _, H.drew⟩ ?_; clear H; simp only [List.take_succ_cons, List.take_zero, List.drop_succ_cons, List.drop_zero]
  repeat (first | (apply det_op rfl; (focus (rintro w' ⟨s1, hs1, H⟩; go_wp2_with (first | ((with_reducible apply wlL); apply hw_load 0 rfl rfl H rfl; (focus (simp; done)); (focus (simp only [segV, seg, NS]; rfl))) | ((with_reducible apply wlL); apply hw_load 1 rfl rfl H rfl; (focus (simp; done)); (focus (simp only [segV, seg, NS]; rfl))) | ((with_reducible apply wlL); apply hw_load 2 rfl rfl H rfl; (focus (simp; done)); (focus (simp only [segV, seg, NS]; rfl)))); refine ⟨rfl, rfl, ?_, _, by omega, H⟩; (first | (simp only [SlotIs, Array.getD_eq_getD_getElem?, List.getElem?_toArray, List.getElem?_cons_succ, List.getElem?_cons_zero, Option.getD_some]; exact rfl) | exact rfl))); (try simp only [Act.put, List.setIfInBounds_toArray, List.set_cons_zero, List.set_cons_succ])) | (apply det_skip rfl; (try simp only [Act.put, List.setIfInBounds_toArray, List.set_cons_zero, List.set_cons_succ])))
  rintro w' ⟨s1, hs1, H⟩; (try simp only [Act.eval, Act.put, Value.cells, segV, seg, segPut, NS, Nat.reduceAdd])
  go_wp2_with (first | (go_at_call 237; (refine (put_any (H.blk _ (.head _)) (by simp [zB, beB_len, headB, midB]) (by decide) tag (by assumption)).mono ?_); rintro e w' ⟨s2, rfl, H1⟩; replace H := (H.trans (La := [_]) (List.Perm.refl _) H1 (fun k hk => List.mem_singleton.2 hk)).2.perm List.perm_append_comm; clear H1; simp only [List.cons_append, List.nil_append] at H; rw [put_step (k := 3) (m := 17) (by simp [zB, beB_len, headB, midB]) (by simp [beB_len])] at H) | ((with_reducible show wpList _ _ _ (⟨_, .load _ _, _, _, _, _⟩ :: _) _ _); rw [hE.out] at H; apply hw_load 0 rfl rfl H rfl; (focus (simp [encB_len])); (focus (exact seg_all _ 64 (by simp [encB_len])))) | ((with_reducible show wpList _ _ _ (⟨_, .store _ _ _, _, _, _, _⟩ :: _) _ _); (refine hw_store 1 rfl rfl rfl H rfl (vs := (encB _ _).map bv) rfl (by simp [encB_len]) (by simp [zB]) (bv_one _) ?_); clear H; intro w' H; rw [List.set_cons_succ, List.set_cons_zero, put_all _ (by simp [encB_len])] at H))
  exact bodyPost_ret (res1 rfl (rv_cell 1 rfl H rfl (by simp [encB_len]))) rfl ⟨by rw [seg_all _ 64 (by simp [encB_len])], H.ret⟩
end Go.Proofs.YtccgpjhgfjfaoaaGreatDoor
/- A drawn region with one variable that is made at some time: its address is not fixed, all else is. -/
namespace Go.Proofs.YtccgpjhgfjfaoaaGreatDoor
open Go

/-- The check: detB, and operation k makes a variable that none of the first n looks at. -/
def detB1 (ops : Array Oper) (n k : Nat) (d : Tmp) (T : TypeId) : Bool :=
  detB ops n && decide (k < n) && (match ops[k]? with
    | some ⟨some d', .alloc T', _, _, _, none⟩ => (d' == d) && (T' == T)
    | _ => false) && (List.range n).all fun i => match ops[i]? with
      | some o => !(o.looksAt ops).contains d
      | none => false

section
variable {P : Program} {ops : Array Oper} {Q : Exit → Act → World → Prop} {I : Option Nat → World → Prop} {n k : Nat} {d : Tmp} {T : TypeId}

/-- Operation k aside, every operation of the list yields one value, whatever has been made. -/
def wpDetF (P : Program) (ops : Array Oper) (I : Option Nat → World → Prop) (k : Nat) (fin : Act → Prop) : List Oper → Nat → Act → Prop
  | [], _, a => fin a
  | o :: rest, i, a => if i = k then wpDetF P ops I k fin rest (i + 1) (a.put o.dst undef) else ∃ v, (∀ e, DetOp P ops (I e) o v a) ∧ wpDetF P ops I k fin rest (i + 1) (a.put o.dst v)

structure DetInv1 (ops : Array Oper) (n k : Nat) (d : Tmp) (vs : Nat → Value) (a : Act) (listed : Array Bool) (e : Option Nat) (b : Act) : Prop where
  size : b.tmps.size = a.tmps.size
  defers : b.defers = a.defers
  done : ∀ j t, j < n → j ≠ k → dstOf ops j = some t → listed.getD j false = true → b.tmps[t]? = (stg ops vs a n).tmps[t]?
  other : ∀ t, (∀ j, j < n → dstOf ops j ≠ some t) → b.tmps[t]? = a.tmps[t]?
  made : ∀ p, e = some p → b.tmps[d]? = if d < a.tmps.size then some (.pointer (some ⟨p, 0, none⟩)) else none
  state : listed.getD k true = false ↔ e = none

theorem any_det1 (S : DetSpec ops n) (hkn : k < n) {ok : Oper} (hok : ops[k]? = some ok) (hop : ok.op = .alloc T) (hgd : ok.guard = none) (hod : ok.dst = some d) (hlook : ∀ i o, i < n → ops[i]? = some o → d ∉ o.looksAt ops)
    (vs : Nat → Value) (a : Act) (hdet : ∀ i o, i < n → i ≠ k → ops[i]? = some o → ∀ e, DetOp P ops (I e) o (vs i) (stg ops vs a i))
    (hmk : ∀ w, I none w → ∃ z, (zeroValue T).run P w = .ok z w ∧ I (some w.heap.size) (w.alloc (.cells z.cells T)))
    (hfin : ∀ p w, I (some p) w → wpList P ops Q (ops.toList.drop n) ((stg ops vs a n).put (some d) (.pointer (some ⟨p, 0, none⟩))) w) :
    ∀ (m : Nat) (U : List Nat) (listed : Array Bool) (b : Act) (w : World) (e : Option Nat), U.length = m → U.Nodup → (∀ i, i ∈ U ↔ i < n ∧ listed.getD i true = false) →
      HeadInv .any ops n listed → DetInv1 ops n k d vs a listed e b → I e w → wpAny P .any ops Q (m + (ops.size - n)) listed b w := by
  have hdk : dstOf ops k = some d := by simp [dstOf, hok, hod]
  intro m
  induction m with
  | zero =>
    intro U listed b w e hl hnd hU hinv hb hI
    have hnil : U = [] := List.eq_nil_of_length_eq_zero hl
    subst hnil
    have hdone : ∀ i, i < n → listed.getD i true = true := fun i hi => by
      cases h : listed.getD i true with
      | true => rfl
      | false => exact absurd ((hU i).2 ⟨hi, h⟩) (by simp)
    have hlist : listed = (Array.range ops.size).map fun i => decide (i < n) := by
      apply Array.ext
      · simp [hinv.size]
      · intro i h1 h2
        have hi : i < ops.size := by rw [← hinv.size]; exact h1
        by_cases hin : i < n
        · have := hdone i hin
          rw [Array.getD_eq_getD_getElem?, Array.getElem?_eq_getElem h1] at this
          simpa [hin] using this
        · have := hinv.tail i (by omega) hi
          rw [Array.getD_eq_getD_getElem?, Array.getElem?_eq_getElem h1] at this
          simpa [hin] using this
    obtain ⟨p, rfl⟩ : ∃ p, e = some p := by
      cases e with
      | some p => exact ⟨p, rfl⟩
      | none => have := hb.state.2 rfl; rw [hdone k hkn] at this; cases this
    have hbe : b = (stg ops vs a n).put (some d) (.pointer (some ⟨p, 0, none⟩)) := by
      have ht : b.tmps = ((stg ops vs a n).put (some d) (.pointer (some ⟨p, 0, none⟩))).tmps := by
        apply Array.ext_getElem?
        intro t
        by_cases htd : t = d
        · subst htd
          rw [hb.made p rfl, put_get_eq, stg_size]
        · rw [put_get_ne _ _ (fun h => htd (Option.some.inj h).symm)]
          by_cases hx : ∃ j, j < n ∧ dstOf ops j = some t
          · obtain ⟨j, hj, hd⟩ := hx
            have hjk : j ≠ k := fun h => by subst h; rw [hdk] at hd; exact htd (Option.some.inj hd).symm
            refine hb.done j t hj hjk hd ?_
            have hjs : j < listed.size := by rw [hinv.size]; have := S.le; omega
            have := hdone j hj
            rw [Array.getD_eq_getD_getElem?, Array.getElem?_eq_getElem hjs] at this ⊢
            simpa using this
          · have hx' : ∀ j, j < n → dstOf ops j ≠ some t := fun j hj hd => hx ⟨j, hj, hd⟩
            rw [hb.other t hx', stg_ne vs a t n hx']
      have hd : b.defers = ((stg ops vs a n).put (some d) (.pointer (some ⟨p, 0, none⟩))).defers := by rw [put_defers, hb.defers, stg_defers]
      generalize (stg ops vs a n).put (some d) (.pointer (some ⟨p, 0, none⟩)) = c at ht hd
      cases b; cases c; simp only at ht hd; rw [ht, hd]
    subst hlist hbe
    have hsz : (ops.toList.drop n).length = ops.size - n := by simp
    have := wpAny_of_seq (P := P) (md := .any) (ops := ops) (Q' := Q) (ops.toList.drop n) n _ _ w (fun j => by simp [List.getElem?_drop]) (by rw [hsz]; exact S.seq) (hfin p w hI)
    rw [hsz] at this
    rw [Nat.zero_add]
    exact this
  | succ m ih =>
    intro U listed b w e hl hnd hU hinv hb hI
    have hex : ∃ i, i < n ∧ listed.getD i true = false := by
      cases U with
      | nil => simp at hl
      | cons i U => exact ⟨i, (hU i).1 (by simp)⟩
    have hfloat : ∀ t, t ∈ Region.ready .any ops listed → t < n := fun t ht => by
      rcases Nat.lt_or_ge t n with h | h
      · exact h
      · rcases S.tail with e | ⟨hs, hc⟩
        · obtain ⟨_, o, ho, _⟩ := mem_ready.1 ht
          have := (Array.getElem?_eq_some_iff.1 ho).1
          omega
        · obtain ⟨i, hi, hun⟩ := hex
          rcases Nat.lt_or_ge n ops.size with hn | hn
          · exact absurd ht (tail_waits hs hc hn hinv _ i rfl hi hun t h)
          · obtain ⟨_, o, ho, _⟩ := mem_ready.1 ht
            have := (Array.getElem?_eq_some_iff.1 ho).1
            omega
    have hne : Region.ready .any ops listed ≠ [] := by
      have key : ∀ i, i < n → listed.getD i true = false → ∃ j, j ∈ Region.ready .any ops listed := by
        intro i
        induction i using Nat.strongRecOn with
        | _ i ihi =>
          intro hi hun
          have ho : ops[i]? = some (ops[i]'(by have := S.le; omega)) := by simp [show i < ops.size by have := S.le; omega]
          by_cases hall : ∀ e ∈ (ops[i]'(by have := S.le; omega)).after, Region.binds .any e = true → listed.getD e.on false = true
          · exact ⟨i, mem_ready.2 ⟨hun, _, ho, hall⟩⟩
          · have : ∃ e, e ∈ (ops[i]'(by have := S.le; omega)).after ∧ Region.binds .any e = true ∧ ¬ listed.getD e.on false = true := by
              apply Classical.byContradiction
              intro hc
              exact hall fun e he hb => Classical.byContradiction fun h => hc ⟨e, he, hb, h⟩
            obtain ⟨e, he, hbd, hl⟩ := this
            have hlt := S.edges i _ hi ho e he hbd
            refine ihi e.on hlt (by omega) ?_
            have hsz : e.on < listed.size := by rw [hinv.size]; have := S.le; omega
            rw [Array.getD_eq_getD_getElem?, Array.getElem?_eq_getElem hsz] at hl ⊢
            simpa using hl
      obtain ⟨i, hi, hun⟩ := hex
      obtain ⟨j, hj⟩ := key i hi hun
      intro h; rw [h] at hj; cases hj
    rw [show m + 1 + (ops.size - n) = (m + (ops.size - n)) + 1 by omega]
    refine ⟨fun h => absurd h hne, fun i hi => ?_⟩
    have hin := hfloat i hi
    obtain ⟨hun, o, ho, hall⟩ := mem_ready.1 hi
    have hisz : i < listed.size := by rw [hinv.size]; have := S.le; omega
    have hdst : dstOf ops i = o.dst := by simp [dstOf, ho]
    have hUe : ∀ j, j ∈ U.erase i ↔ j < n ∧ (listed.setIfInBounds i true).getD j true = false := fun j => by
      rw [hnd.mem_erase_iff, hU]
      by_cases e : j = i
      · subst e
        simp [Array.getElem?_setIfInBounds, hisz]
      · simp [Array.getElem?_setIfInBounds_ne (Ne.symm e), e]
    by_cases hik : i = k
    · subst hik
      rw [hok] at ho
      obtain rfl := Option.some.inj ho
      have he : e = none := hb.state.1 hun
      subst he
      obtain ⟨z, hz, hI'⟩ := hmk w hI
      unfold wpOp
      simp only [hok]
      rw [if_pos (by simp [Region.wanted, hgd])]
      refine .inl ?_
      unfold Oper.wp
      obtain ⟨odst, oop, oty, opos, oaft, ogd⟩ := ok
      simp only at hop hgd hod
      subst hop hgd hod
      simp only [execOp, Instr.alloc, hz, newVar, newRow, newObj, Sem.run_bind, Sem.run, Result.andThen, Oper.upon]
      refine ih (U.erase i) _ _ _ (some w.heap.size) (by rw [List.length_erase_of_mem ((hU i).2 ⟨hin, hun⟩), hl]; rfl) (hnd.erase i) hUe (hinv.set hi hin) ⟨?_, ?_, ?_, ?_, ?_, ?_⟩ hI'
      · rw [put_size, hb.size]
      · rw [put_defers, hb.defers]
      · intro j t hj hjk hd hlj
        have hne : some d ≠ some t := by rw [← hdk]; exact S.uniq i j t hin hj hjk hd
        rw [put_get_ne _ _ hne]
        refine hb.done j t hj hjk hd ?_
        rw [Array.getD_eq_getD_getElem?, Array.getElem?_setIfInBounds_ne (Ne.symm hjk), ← Array.getD_eq_getD_getElem?] at hlj
        exact hlj
      · intro t ht
        have hne : some d ≠ some t := by rw [← hdk]; exact ht i hin
        rw [put_get_ne _ _ hne]
        exact hb.other t ht
      · intro p hp
        obtain rfl := Option.some.inj hp
        rw [put_get_eq, hb.size]
      · simp [Array.getElem?_setIfInBounds, hisz]
    · have hag : ∀ t, t ∈ o.looksAt ops → (stg ops vs a i).tmps[t]? = b.tmps[t]? := fun t ht => by
        by_cases hx : ∃ k, k < n ∧ dstOf ops k = some t
        · obtain ⟨j, hk, hd⟩ := hx
          have hjk : j ≠ k := fun h => by
            subst h
            rw [hdk] at hd
            exact hlook i o hin ho (by rw [Option.some.inj hd]; exact ht)
          obtain ⟨hki, hw⟩ := S.looks i o j t hin ho hd ht
          obtain ⟨oj, hoj, e, he, hbd, heo⟩ := Region.waitsFor_spec hw
          rw [ho] at hoj
          obtain rfl := Option.some.inj hoj
          have hlk : listed.getD j false = true := heo ▸ hall e he hbd
          rw [hb.done j t hk hjk hd hlk, stg_eq vs a t j hd i hki (fun j' hj hne => S.uniq j' j t (by omega) hk (Ne.symm hne) hd),
            stg_eq vs a t j hd n hk (fun j' hj hne => S.uniq j' j t hj hk (Ne.symm hne) hd)]
        · have hx' : ∀ j, j < n → dstOf ops j ≠ some t := fun j hj hd => hx ⟨j, hj, hd⟩
          rw [hb.other t hx', stg_ne vs a t i fun j hj => hx' j (by omega)]
      refine DetOp.moved ho (Region.noSelect_spec S.sel i o · · ho) ((stg_size vs a i).trans hb.size.symm) ((stg_defers vs a i).trans hb.defers.symm) hag (hdet i o hin hik ho e) hI fun w' hI' => ?_
      refine ih (U.erase i) _ _ _ e (by rw [List.length_erase_of_mem ((hU i).2 ⟨hin, hun⟩), hl]; rfl) (hnd.erase i) hUe (hinv.set hi hin) ⟨?_, ?_, ?_, ?_, ?_, ?_⟩ hI'
      · rw [put_size, hb.size]
      · rw [put_defers, hb.defers]
      · intro j t hj hjk hd hlj
        by_cases e : j = i
        · subst e
          rw [hdst] at hd
          rw [hd, put_get_eq, hb.size, stg_eq vs a t j (hdst.trans hd) n hj (fun k hk hne => S.uniq k j t hk hj (Ne.symm hne) (hdst.trans hd))]
        · have hne : o.dst ≠ some t := by rw [← hdst]; exact S.uniq i j t hin hj e hd
          rw [put_get_ne _ _ hne]
          refine hb.done j t hj hjk hd ?_
          rw [Array.getD_eq_getD_getElem?, Array.getElem?_setIfInBounds_ne (Ne.symm e), ← Array.getD_eq_getD_getElem?] at hlj
          exact hlj
      · intro t ht
        have hne : o.dst ≠ some t := by rw [← hdst]; exact ht i hin
        rw [put_get_ne _ _ hne]
        exact hb.other t ht
      · intro p hp
        have hne : o.dst ≠ some d := by rw [← hdst]; exact S.uniq i k d hin hkn (Ne.symm hik) hdk
        rw [put_get_ne _ _ hne]
        exact hb.made p hp
      · rw [← hb.state]
        simp [Array.getElem?_setIfInBounds_ne hik]

theorem wpDetF_values {fin : Act → Prop} : ∀ (l : List Oper) (i : Nat) (a : Act), (∀ j, j < l.length → l[j]? = ops[i + j]?) → wpDetF P ops I k fin l i a →
    ∃ vs : Nat → Value, ∀ (c : Nat → Act), c 0 = a → (∀ j, j < l.length → c (j + 1) = (c j).put (dstOf ops (i + j)) (vs j)) →
      (∀ j o, j < l.length → i + j ≠ k → ops[i + j]? = some o → ∀ e, DetOp P ops (I e) o (vs j) (c j)) ∧ fin (c l.length)
  | [], i, a, _, h => ⟨fun _ => undef, fun c hc _ => ⟨fun j o hj => absurd hj (by simp), by rw [show c ([] : List Oper).length = a from hc]; exact h⟩⟩
  | o :: l, i, a, hl, h => by
    have h0 : ops[i]? = some o := by simpa using (hl 0 (by simp)).symm
    have key : ∃ v, (i ≠ k → ∀ e, DetOp P ops (I e) o v a) ∧ wpDetF P ops I k fin l (i + 1) (a.put o.dst v) := by
      unfold wpDetF at h
      split at h
      · rename_i hik; exact ⟨undef, fun hne => absurd hik hne, h⟩
      · obtain ⟨v, hv, hr⟩ := h; exact ⟨v, fun _ => hv, hr⟩
    obtain ⟨v, hv, hr⟩ := key
    obtain ⟨vs, hvs⟩ := wpDetF_values l (i + 1) _ (fun j hj => by have := hl (j + 1) (by simp; omega); simpa [Nat.add_assoc, Nat.add_comm 1 j] using this) hr
    refine ⟨fun j => match j with | 0 => v | j + 1 => vs j, fun c hc hs => ?_⟩
    have h1 := hvs (fun j => c (j + 1)) (by rw [hs 0 (by simp), hc]; simp [dstOf, h0]) (fun j hj => by
      have := hs (j + 1) (by simp; omega)
      rw [this]
      simp only [Nat.add_assoc, Nat.add_comm 1 j])
    refine ⟨fun j o' hj hjk ho' => ?_, ?_⟩
    · cases j with
      | zero =>
        have : o' = o := by have h2 := ho'; simp only [Nat.add_zero, h0] at h2; exact (Option.some.inj h2).symm
        rw [hc, this]
        exact hv hjk
      | succ j =>
        exact h1.1 j o' (by simp at hj; omega) (by omega) (by rw [← ho']; congr 1; omega)
    · exact h1.2

/-- **A drawn region by the order of its text, but for one variable.** -/
theorem region_det1 {id : Nat} {a : Act} {w : World} {l : List Oper} (n k : Nat) (d : Tmp) (T : TypeId) (I : Option Nat → World → Prop) (hm : P.follows .mixedOrders = true) (hB : detB1 l.toArray n k d T = true) (hI : I none w.drew)
    (hmk : ∀ w, I none w → ∃ z, (zeroValue T).run P w = .ok z w ∧ I (some w.heap.size) (w.alloc (.cells z.cells T)))
    (h : wpDetF P l.toArray I k (fun a' => ∀ p w', I (some p) w' → wpList P l.toArray Q (l.drop n) (a'.put (some d) (.pointer (some ⟨p, 0, none⟩))) w') (l.take n) 0 a) : (Code.region id l.toArray true).wp P Q a w := by
  simp only [detB1, Bool.and_eq_true, decide_eq_true_eq, List.all_eq_true, List.mem_range] at hB
  obtain ⟨⟨⟨hB, hkn⟩, hk⟩, hlook⟩ := hB
  have S := DetSpec.of hB
  have hn : n ≤ l.length := by simpa using S.le
  have hlen : (l.take n).length = n := by simp; omega
  obtain ⟨vs, hvs⟩ := wpDetF_values (ops := l.toArray) (l.take n) 0 a (fun j hj => by rw [hlen] at hj; simp [hj]) h
  obtain ⟨h1, h2⟩ := hvs (stg l.toArray vs a) rfl (fun j _ => by simp [stg])
  rw [hlen] at h1 h2
  refine wp_region_any hm ?_
  have inv0 : HeadInv .any l.toArray n (Array.replicate l.toArray.size false) :=
    ⟨by simp, fun j oj _ hl => (by rw [getD_replicate_false] at hl; cases hl), fun t _ ht => getD_in (by simpa using ht) (getD_replicate_false _ _)⟩
  have hok : ∃ ok, l.toArray[k]? = some ok ∧ ok.op = .alloc T ∧ ok.guard = none ∧ ok.dst = some d := by
    split at hk
    · rename_i d' T' _ _ _ heq
      simp only [Bool.and_eq_true, beq_iff_eq] at hk
      obtain ⟨rfl, rfl⟩ := hk
      exact ⟨_, heq, rfl, rfl, rfl⟩
    · cases hk
  obtain ⟨ok, hok, hop, hgd, hod⟩ := hok
  have := any_det1 (P := P) (Q := Q) (I := I) S hkn hok hop hgd hod (fun i o hi ho hm => by
    have := hlook i hi
    simp only [ho, Bool.not_eq_true', List.contains_eq_mem, decide_eq_false_iff_not] at this
    exact this hm) vs a (fun i o hi hik ho e => h1 i o hi (by simpa using hik) (by simpa using ho) e) hmk (fun p w' hI' => by simpa using h2 p w' hI') n (List.range n) (Array.replicate l.toArray.size false) a w.drew none
    (by simp) List.nodup_range (fun i => by
      simp only [List.mem_range]
      constructor
      · intro hi; exact ⟨hi, getD_in (by simp; omega) (getD_replicate_false _ _)⟩
      · exact fun h => h.1) inv0 ⟨rfl, rfl, fun j t _ _ _ hl => (by rw [getD_replicate_false] at hl; cases hl), fun _ _ => rfl, fun p h => (by cases h), ⟨fun _ => rfl, fun _ => getD_in (by simp; omega) (getD_replicate_false _ _)⟩⟩ hI
  have hs := S.le
  rw [show n + (l.toArray.size - n) = l.toArray.size by omega] at this
  exact this
end
section
variable {P : Program} {ops : Array Oper} {I : Option Nat → World → Prop} {fin : Act → Prop} {rest : List Oper} {a : Act} {v : Value} {dst : Option Tmp} {op : Op} {ty : TypeId} {pos : String} {after : Array Edge} {g : Option (Nat × Bool)} {i k : Nat}
theorem detF_op (hik : i ≠ k) (hw : Region.wanted ⟨dst, op, ty, pos, after, g⟩ (yielded ops a.tmps) = true)
    (h : ∀ e w, I e w → wpList P #[] (DetQ a.defers dst v (I e)) [⟨dst, op, ty, pos, after, none⟩] a w)
    (hr : wpDetF P ops I k fin rest (i + 1) (a.put dst v)) : wpDetF P ops I k fin (⟨dst, op, ty, pos, after, g⟩ :: rest) i a := by
  unfold wpDetF
  rw [if_neg hik]
  refine ⟨v, fun e => ?_, hr⟩
  have h1 : wpDet P ops (I e) (fun _ => True) [⟨dst, op, ty, pos, after, g⟩] a := det_op hw (h e) trivial
  have hd : ∀ v', DetOp P ops (I e) ⟨dst, op, ty, pos, after, g⟩ v' a → DetOp P ops (I e) ⟨dst, op, ty, pos, after, g⟩ v' a := fun _ h => h
  refine .inl ⟨hw, fun w hI => ?_⟩
  have h1 := h e w hI
  unfold wpList at h1
  rw [if_pos (by simp [Region.wanted])] at h1
  rcases h1 with h1 | ⟨_, a1, w1, h1⟩
  · have h2 : Oper.wp P ⟨dst, op, ty, pos, after, g⟩ a w (wpList P #[] (DetQ a.defers dst v (I e)) []) (DetQ a.defers dst v (I e)) := h1
    unfold Oper.wp at h2 ⊢
    generalize (execOp a.eval ⟨dst, op, ty, pos, after, g⟩).run P w = r at h2 ⊢
    cases r with
    | ok n w' =>
      cases n <;> simp only [Oper.upon, wpList, DetQ] at h2 ⊢
      case value u => exact ⟨put_of_slot h2.2.2.1, h2.2.2.2⟩
      case skip => exact ⟨put_of_slot h2.2.2.1, h2.2.2.2⟩
      case defer dd => exact absurd (congrArg List.length h2.2.1) (by rw [put_defers]; simp)
      case enter f args =>
        refine Calls.mono h2 fun e w'' he => ?_
        cases e with
        | returned u => exact ⟨put_of_slot he.2.2.1, he.2.2.2⟩
        | panicked c => exact absurd he.1 (by simp)
        | outgrown => obtain ⟨_, _, h⟩ := he; exact absurd h.1 (by simp)
      case row row args => exact Rows.mono h2 fun u w'' he => ⟨put_of_slot he.2.2.1, he.2.2.2⟩
    | halt x w' =>
      cases x <;> simp only [Oper.upon, DetQ] at h2 ⊢
      case panic u => exact absurd h2.1 (by simp)
  · exact absurd h1.1 (by simp)
theorem detF_skip (hik : i ≠ k) (hw : Region.wanted ⟨dst, op, ty, pos, after, g⟩ (yielded ops a.tmps) = false)
    (hr : wpDetF P ops I k fin rest (i + 1) (a.put dst undef)) : wpDetF P ops I k fin (⟨dst, op, ty, pos, after, g⟩ :: rest) i a := by
  unfold wpDetF
  rw [if_neg hik]
  exact ⟨undef, fun e => .inr ⟨hw, rfl⟩, hr⟩
theorem detF_mk (hik : i = k) (hr : wpDetF P ops I k fin rest (i + 1) (a.put dst undef)) : wpDetF P ops I k fin (⟨dst, op, ty, pos, after, g⟩ :: rest) i a := by
  unfold wpDetF
  rw [if_pos hik]
  exact hr
end
def extF (T : TypeId) (z : Array Value) : Option Nat → List Bk
  | none => []
  | some p => [(p, T, z)]
def HpF (S : Nat → Prop) (w0 : World) (s0 : Nat) (L R : List Bk) (T : TypeId) (z : Array Value) (e : Option Nat) (w : World) : Prop := ∃ s, s0 ≤ s ∧ Hp S w0 w s (L ++ extF T z e) R
theorem HpF.mk' {P : Program} {S : Nat → Prop} {w0 : World} {s0 : Nat} {L R : List Bk} {T : TypeId} {z : Value} [hz : ZeroV P T z] (w : World) (h : HpF S w0 s0 L R T z.cells none w) : ∃ z', (zeroValue T).run P w = .ok z' w ∧ HpF S w0 s0 L R T z.cells (some w.heap.size) (w.alloc (.cells z'.cells T)) := by
  obtain ⟨s, hs, H⟩ := h
  refine ⟨z, hz.zero w, s + 1, by omega, ?_⟩
  rw [show extF T z.cells none = [] from rfl, List.append_nil] at H
  have := H.alloc T z.cells
  rw [H.size]
  exact this.perm (List.perm_append_comm (l₁ := [_]))
end Go.Proofs.YtccgpjhgfjfaoaaGreatDoor
/- slot: Encode, Decode. -/
namespace Go.Proofs.YtccgpjhgfjfaoaaGreatDoor
open Go.RowKit

set_option maxRecDepth 100000 in
set_option maxHeartbeats 2000000 in
theorem Encode_no (r : Rec) (s : Int) (h : (mayBeB r && isSeqB s) = false) (w : World) : Calls Tryz.prog 228 #[recV r, .int .i64 s] w (Ret (.tuple #[.slice none 0 0, .int .i64 1]) w) := by
  go_enter Tryz.func228, Tryz.ntmps228
  have H := Hp.start NoS w
  go_wp2_with (first | ((first | ((with_reducible apply wlB); refine hw_box rfl rfl H ?_) | ((with_reducible apply wlA); refine hw_alloc rfl H ?_) | ((with_reducible apply wlS); first | refine hw_store 0 rfl rfl rfl H rfl rfl rfl (by simp) rfl ?_ | refine hw_store 1 rfl rfl rfl H rfl rfl rfl (by simp) rfl ?_ | refine hw_store 2 rfl rfl rfl H rfl rfl rfl (by simp) rfl ?_ | refine hw_store 3 rfl rfl rfl H rfl rfl rfl (by simp) rfl ?_)); clear H; intro w' H; (try simp only [Act.eval, Act.put, Value.cells, segV, seg, segPut, NS, Nat.reduceAdd] at H)) | ((with_reducible apply wlL); (first | apply hw_load 0 rfl rfl H rfl | apply hw_load 1 rfl rfl H rfl | apply hw_load 2 rfl rfl H rfl | apply hw_load 3 rfl rfl H rfl); (focus (simp; done)); (focus (simp only [segV, seg, NS]; rfl))) | ((with_reducible show wpList _ _ _ (⟨_, _, _, _, _, some _⟩ :: _) _ _); (first | refine hw_guardT rfl ?_ ?_ | refine hw_guardF rfl ?_ ?_) <;> (intro hgd; first | (exact absurd hgd (by decide)) | (cases hgd; done) | (cases hgd) | ((try simp only [hgd]); (try simp at hgd)))) | (go_at_call 227; refine (mayBe_any _ _).mono ?_; rintro e w' ⟨rfl, hb⟩; obtain ⟨s1, hs1, H⟩ := H.call hb; clear hb) | (go_at_call 235; refine (isSeq_any _ _).mono ?_; rintro e w' ⟨rfl, hb⟩; obtain ⟨s2, hs2, H⟩ := H.call hb; clear hb))
  all_goals first | exact bodyPost_ret (res2 rfl (rv_tmp rfl) (rv_tmp rfl)) rfl ⟨rfl, H.ret⟩ | (exfalso; simp_all; done)
set_option maxRecDepth 100000 in
set_option maxHeartbeats 2000000 in
theorem Encode_ok (r : Rec) (s : Int) (hr : mayBeB r = true) (hs : isSeqB s = true) (w : World) : Calls Tryz.prog 228 #[recV r, .int .i64 s] w
    (fun e w' => ∃ sz b, e = .returned (.tuple #[.slice (some ⟨b, 0, none⟩) 64 64, .int .i64 0]) ∧ Hp NoS w w' sz [(b, 325, ((encB r s).map bv).toArray)] []) := by
  go_enter Tryz.func228, Tryz.ntmps228
  have H := Hp.start NoS w
  go_wp2_with (first | ((with_reducible show wpList _ _ _ (⟨_, .store _ _ _, _, _, _, _⟩ :: _) _ _); (refine hw_store 0 rfl rfl rfl H rfl (vs := (encB _ _).map bv) rfl (by simp [encB_len]) (by simp [zB]) (bv_one _) ?_); clear H; intro w' H; rw [List.set_cons_zero, put_all _ (by simp [encB_len])] at H) | ((first | ((with_reducible apply wlB); refine hw_box rfl rfl H ?_) | ((with_reducible apply wlA); refine hw_alloc rfl H ?_) | ((with_reducible apply wlS); first | refine hw_store 0 rfl rfl rfl H rfl rfl rfl (by simp) rfl ?_ | refine hw_store 1 rfl rfl rfl H rfl rfl rfl (by simp) rfl ?_ | refine hw_store 2 rfl rfl rfl H rfl rfl rfl (by simp) rfl ?_ | refine hw_store 3 rfl rfl rfl H rfl rfl rfl (by simp) rfl ?_)); clear H; intro w' H; (try simp only [Act.eval, Act.put, Value.cells, segV, seg, segPut, NS, Nat.reduceAdd] at H)) | ((with_reducible apply wlL); (first | apply hw_load 0 rfl rfl H rfl | apply hw_load 1 rfl rfl H rfl | apply hw_load 2 rfl rfl H rfl | apply hw_load 3 rfl rfl H rfl); (focus (simp; done)); (focus (simp only [segV, seg, NS]; rfl))) | ((with_reducible show wpList _ _ _ (⟨_, _, _, _, _, some _⟩ :: _) _ _); (first | refine hw_guardT rfl ?_ ?_ | refine hw_guardF rfl ?_ ?_) <;> (intro hgd; first | (exact absurd hgd (by decide)) | (cases hgd; done) | (cases hgd) | ((try simp only [hgd]); (try simp at hgd)))) | (go_at_call 227; refine (mayBe_any _ _).mono ?_; rw [hr]; rintro e w' ⟨rfl, hb⟩; obtain ⟨s1, hs1, H⟩ := H.call hb; clear hb) | (go_at_call 235; refine (isSeq_any _ _).mono ?_; rw [hs]; rintro e w' ⟨rfl, hb⟩; obtain ⟨s1, hs1, H⟩ := H.call hb; clear hb) | (go_at_call 236; refine (bytes_any r s hr hs _).mono ?_; rintro e w' ⟨rfl, hb⟩; obtain ⟨s3, hs3, H⟩ := H.call hb; clear hb))
  exact bodyPost_ret (res2 rfl (rv_tmp rfl) (rv_tmp rfl)) rfl ⟨_, _, rfl, H.perm (List.perm_append_comm (l₁ := [_])) |>.drop1⟩
def sub (l : List UInt8) (i j : Nat) : List UInt8 := (l.take j).drop i
def decRec (l : List UInt8) : Rec := ⟨takeFrom 0 (sub l 12 16), takeFrom 0 (sub l 16 21), takeFrom 0 (sub l 44 47)⟩
def decSeq (l : List UInt8) : Int := takeFrom 0 (sub l 4 12)
def decB (l : List UInt8) : Bool := mayBeB (decRec l) && isSeqB (decSeq l) && decide (encB (decRec l) (decSeq l) = l)
def decV (l : List UInt8) : Value := .tuple (if decB l then #[recV (decRec l), .int .i64 (decSeq l), .int .i64 0] else #[recV ⟨0, 0, 0⟩, .int .i64 0, .int .i64 70])
section
variable {w : World} {P : Program} {ops : Array Oper} {Q : Exit → Act → World → Prop} {rest : List Oper} {a : Act} {d : Tmp} {ty t e : TypeId} {pos : String} {after : Array Edge} {g : Option (Nat × Bool)}
theorem hw_arrAt {x : Operand} {A : Option Addr} {m c n : Nat} {t : TypeId} [ht : ArT P t n e] (hg : Region.wanted ⟨some d, .sliceToArrayPointer t x, ty, pos, after, g⟩ (yielded ops a.tmps) = true)
    (hx : evL a x = some (.slice A m c)) (hm : n ≤ m) (h : wpList P ops Q rest (a.put (some d) (.pointer A)) w) : wpList P ops Q (⟨some d, .sliceToArrayPointer t x, ty, pos, after, g⟩ :: rest) a w := by
  refine wpList_step fun K hK => ?_
  rw [if_pos hg]
  unfold Oper.wp
  have hn : ¬ m < n := by omega
  simp only [execOp, evL_eval hx, Instr.arrayAt, run_underlying ht.under, hn, if_false, Sem.run_bind, Sem.run_pure, Result.andThen, Oper.upon]
  exact hK _ _ h
theorem hw_neqB {x y : Operand} {n : Nat} {xs ys : List UInt8} [ht : ArT P t n e] (he : P.underlying e = some (.int .u8)) (hsz : ∀ w, (sizeOf e).run P w = .ok 1 w) (hgt : P.eqGuardType P.depth t = false) (hg : Region.wanted ⟨some d, .binOp .neq t x y t, ty, pos, after, g⟩ (yielded ops a.tmps) = true)
    (hx : evL a x = some (.agg (xs.map bv).toArray)) (hy : evL a y = some (.agg (ys.map bv).toArray)) (hlx : xs.length = n) (hly : ys.length = n) (h : wpList P ops Q rest (a.put (some d) (.bool (!(xs == ys)))) w) : wpList P ops Q (⟨some d, .binOp .neq t x y t, ty, pos, after, g⟩ :: rest) a w := by
  have hr : (binOp .neq t (.agg (xs.map bv).toArray) (.agg (ys.map bv).toArray)).run P w = .ok (.bool (!(xs == ys))) w := by
    have := run_equalIn_bytes (P := P) w 9998 t e n ht.under he hsz xs ys hlx hly
    have hc : (Extern.Stop.cell : UInt8 → Value) = bv := rfl
    rw [hc] at this
    simp only [binOp, Op.equal, Op.maxDepth, Sem.run_bind]
    rw [this]
    rfl
  refine wpList_step fun K hK => ?_
  rw [if_pos hg]
  unfold Oper.wp
  simp only [execOp, evL_eval hx, evL_eval hy, run_eqGuard_agg w .neq t x y _ _ hgt, hr, Sem.run_bind, Sem.run_pure, Result.andThen, Oper.upon]
  exact hK _ _ h
end
instance : ArT Tryz.prog 325 64 5 := ⟨by kernel_rfl⟩
section
variable {w : World} {b c : Nat} {t : TypeId} {cs : Array Value} {l : List UInt8}
theorem seg_sub (hl : l.length = 64) (hs : seg cs 0 64 = l.map bv) (i j : Nat) (hij : i ≤ j) (hj : j ≤ 64) : seg cs i (sub l i j).length = (sub l i j).map bv := by
  have e : (sub l i j).length = j - i := by simp [sub, hl]; omega
  rw [e]
  have : sub l i j = (l.drop i).take (j - i) := by simp [sub, List.take_drop, show i + (j - i) = j by omega]
  rw [this, List.map_take, List.map_drop, ← hs]
  simp only [seg, Nat.sub_zero, List.drop_zero]
  rw [List.drop_take, List.take_take]
  congr 1; omega
set_option maxRecDepth 100000 in
set_option maxHeartbeats 2000000 in
theorem take_sub (hB : Blk w b t cs) (hl : l.length = 64) (hs : seg cs 0 64 = l.map bv) (i m : Nat) (hj : i + m ≤ 64) : Calls Tryz.prog 234 #[.slice (some ⟨b, i, none⟩) m c] w (Ret (.int .i64 (takeFrom 0 (sub l i (i + m)))) w) := by
  have e : (sub l i (i + m)).length = m := by simp [sub, hl]; omega
  have := take_any (c := c) (l := sub l i (i + m)) hB (seg_sub hl hs i (i + m) (by omega) hj) (by omega)
  rw [e] at this
  exact this
set_option maxRecDepth 100000 in
set_option maxHeartbeats 2000000 in
theorem Decode_a (hB : Blk w b t cs) (hl : l.length = 64) (hs : seg cs 0 64 = l.map bv) (hc : 64 ≤ c) (h1 : mayBeB (decRec l) = false) : Calls Tryz.prog 226 #[.slice (some ⟨b, 0, none⟩) 64 c] w (Ret (decV l) w) := by
  have hv : decV l = .tuple #[recV ⟨0, 0, 0⟩, .int .i64 0, .int .i64 70] := by simp [decV, decB, h1]
  rw [hv]
  go_enter Tryz.func226, Tryz.ntmps226
  have H := (Hp.start NoS w).addR hB id
  have HS := Lib.hid hs
  clear hs hv
  go_wp2_with (first | ((first | ((with_reducible apply wlB); refine hw_box rfl rfl H ?_) | ((with_reducible apply wlA); refine hw_alloc rfl H ?_) | ((with_reducible apply wlS); first | refine hw_store 0 rfl rfl rfl H rfl rfl rfl (by simp) rfl ?_ | refine hw_store 1 rfl rfl rfl H rfl rfl rfl (by simp) rfl ?_ | refine hw_store 2 rfl rfl rfl H rfl rfl rfl (by simp) rfl ?_ | refine hw_store 3 rfl rfl rfl H rfl rfl rfl (by simp) rfl ?_)); clear H; intro w' H; (try simp only [Act.eval, Act.put, Value.cells, segV, seg, segPut, NS, Nat.reduceAdd] at H)) | ((with_reducible apply wlL); (first | apply hw_load 0 rfl rfl H rfl | apply hw_load 1 rfl rfl H rfl | apply hw_load 2 rfl rfl H rfl | apply hw_load 3 rfl rfl H rfl); (focus (simp; done)); (focus (simp only [segV, seg, NS]; rfl))))
  (try simp only [Act.eval, Act.put, Value.cells, segV, seg, segPut, NS, Nat.reduceAdd])
  refine region_det1 15 14 5 297 (HpF _ _ _ _ _ _ _) rfl (by kernel_rfl) ⟨_, Nat.le_refl _, by rw [show extF _ _ none = [] from rfl, List.append_nil]; exact H.drew⟩ HpF.mk' ?_; clear H; simp only [List.take_succ_cons, List.take_zero, List.drop_succ_cons, List.drop_zero]
  repeat (first | (apply detF_op (by decide) rfl; (focus (rintro e0 w' ⟨s1, hs1, H⟩; go_wp2_with (first | (go_at_call 234; refine (take_sub (H.ro _ (.head _)).1 hl HS.out _ _ (by decide)).mono ?_; rintro e w' ⟨rfl, hb⟩; obtain ⟨s2, hs2, H⟩ := H.call hb; clear hb)); refine ⟨rfl, rfl, ?_, _, by omega, H⟩; (first | (simp only [SlotIs, Array.getD_eq_getD_getElem?, List.getElem?_toArray, List.getElem?_cons_succ, List.getElem?_cons_zero, Option.getD_some]; exact rfl) | exact rfl))); (try simp only [Act.put, List.setIfInBounds_toArray, List.set_cons_zero, List.set_cons_succ])) | (apply detF_mk rfl; (try simp only [Act.put, List.setIfInBounds_toArray, List.set_cons_zero, List.set_cons_succ])) | (apply detF_skip (by decide) rfl; (try simp only [Act.put, List.setIfInBounds_toArray, List.set_cons_zero, List.set_cons_succ])))
  rintro p w' ⟨s3, hs3, H⟩; simp only [extF, List.cons_append, List.nil_append, Value.cells] at H; (try simp only [Act.eval, Act.put, Value.cells, segV, seg, segPut, NS, Nat.reduceAdd])
  go_wp2_with (first | ((with_reducible apply wlS); refine hw_store 1 rfl rfl rfl H rfl rfl rfl (by simp) rfl ?_; clear H; intro w' H; (try simp only [Act.eval, Act.put, Value.cells, segV, seg, segPut, NS, Nat.reduceAdd] at H)))
  (try simp only [Act.eval, Act.put, Value.cells, segV, seg, segPut, NS, Nat.reduceAdd])
  refine region_det 18 (HpX _ _ _ _ _) rfl (by kernel_rfl) ⟨_, Nat.le_refl _, H.drew⟩ ?_; clear H; simp only [List.take_succ_cons, List.take_zero, List.drop_succ_cons, List.drop_zero]
  repeat (first | (apply det_op rfl; (focus (rintro w' ⟨s1, hs1, H⟩; go_wp2_with (first | ((with_reducible apply wlL); apply hw_load 1 rfl rfl H rfl; (focus (simp; done)); (focus (simp only [segV, seg, NS]; rfl))) | (go_at_call 227; refine (mayBe_any (decRec l) _).mono ?_; rw [h1]; rintro e w' ⟨rfl, hb⟩; obtain ⟨s2, hs2, H⟩ := H.call hb; clear hb)); refine ⟨rfl, rfl, ?_, _, by omega, H⟩; (first | (simp only [SlotIs, Array.getD_eq_getD_getElem?, List.getElem?_toArray, List.getElem?_cons_succ, List.getElem?_cons_zero, Option.getD_some]; exact rfl) | exact rfl))); (try simp only [Act.put, List.setIfInBounds_toArray, List.set_cons_zero, List.set_cons_succ])) | (apply det_skip rfl; (try simp only [Act.put, List.setIfInBounds_toArray, List.set_cons_zero, List.set_cons_succ])))
  rintro w' ⟨s4, hs4, H⟩; (try simp only [Act.eval, Act.put, Value.cells, segV, seg, segPut, NS, Nat.reduceAdd])
  go_wp2_with (first | ((first | ((with_reducible apply wlB); refine hw_box rfl rfl H ?_) | ((with_reducible apply wlA); refine hw_alloc rfl H ?_) | ((with_reducible apply wlS); first | refine hw_store 0 rfl rfl rfl H rfl rfl rfl (by simp) rfl ?_ | refine hw_store 1 rfl rfl rfl H rfl rfl rfl (by simp) rfl ?_ | refine hw_store 2 rfl rfl rfl H rfl rfl rfl (by simp) rfl ?_ | refine hw_store 3 rfl rfl rfl H rfl rfl rfl (by simp) rfl ?_)); clear H; intro w' H; (try simp only [Act.eval, Act.put, Value.cells, segV, seg, segPut, NS, Nat.reduceAdd] at H)) | ((with_reducible apply wlL); (first | apply hw_load 0 rfl rfl H rfl | apply hw_load 1 rfl rfl H rfl | apply hw_load 2 rfl rfl H rfl | apply hw_load 3 rfl rfl H rfl); (focus (simp; done)); (focus (simp only [segV, seg, NS]; rfl))))
  exact bodyPost_ret (res3 rfl (rv_cell 0 rfl H rfl (Nat.le_of_ble_eq_true rfl)) (rv_tmp rfl) (rv_tmp rfl)) rfl ⟨by simp [segV, seg], H.ret⟩
set_option maxRecDepth 100000 in
set_option maxHeartbeats 2000000 in
theorem Decode_b (hB : Blk w b t cs) (hl : l.length = 64) (hs : seg cs 0 64 = l.map bv) (hc : 64 ≤ c) (h1 : mayBeB (decRec l) = true) (h2 : isSeqB (decSeq l) = false) : Calls Tryz.prog 226 #[.slice (some ⟨b, 0, none⟩) 64 c] w (Ret (decV l) w) := by
  have hv : decV l = .tuple #[recV ⟨0, 0, 0⟩, .int .i64 0, .int .i64 70] := by simp [decV, decB, h2]
  rw [hv]
  go_enter Tryz.func226, Tryz.ntmps226
  have H := (Hp.start NoS w).addR hB id
  have HS := Lib.hid hs
  clear hs hv
  go_wp2_with (first | ((first | ((with_reducible apply wlB); refine hw_box rfl rfl H ?_) | ((with_reducible apply wlA); refine hw_alloc rfl H ?_) | ((with_reducible apply wlS); first | refine hw_store 0 rfl rfl rfl H rfl rfl rfl (by simp) rfl ?_ | refine hw_store 1 rfl rfl rfl H rfl rfl rfl (by simp) rfl ?_ | refine hw_store 2 rfl rfl rfl H rfl rfl rfl (by simp) rfl ?_ | refine hw_store 3 rfl rfl rfl H rfl rfl rfl (by simp) rfl ?_)); clear H; intro w' H; (try simp only [Act.eval, Act.put, Value.cells, segV, seg, segPut, NS, Nat.reduceAdd] at H)) | ((with_reducible apply wlL); (first | apply hw_load 0 rfl rfl H rfl | apply hw_load 1 rfl rfl H rfl | apply hw_load 2 rfl rfl H rfl | apply hw_load 3 rfl rfl H rfl); (focus (simp; done)); (focus (simp only [segV, seg, NS]; rfl))))
  (try simp only [Act.eval, Act.put, Value.cells, segV, seg, segPut, NS, Nat.reduceAdd])
  refine region_det1 15 14 5 297 (HpF _ _ _ _ _ _ _) rfl (by kernel_rfl) ⟨_, Nat.le_refl _, by rw [show extF _ _ none = [] from rfl, List.append_nil]; exact H.drew⟩ HpF.mk' ?_; clear H; simp only [List.take_succ_cons, List.take_zero, List.drop_succ_cons, List.drop_zero]
  repeat (first | (apply detF_op (by decide) rfl; (focus (rintro e0 w' ⟨s1, hs1, H⟩; go_wp2_with (first | (go_at_call 234; refine (take_sub (H.ro _ (.head _)).1 hl HS.out _ _ (by decide)).mono ?_; rintro e w' ⟨rfl, hb⟩; obtain ⟨s2, hs2, H⟩ := H.call hb; clear hb)); refine ⟨rfl, rfl, ?_, _, by omega, H⟩; (first | (simp only [SlotIs, Array.getD_eq_getD_getElem?, List.getElem?_toArray, List.getElem?_cons_succ, List.getElem?_cons_zero, Option.getD_some]; exact rfl) | exact rfl))); (try simp only [Act.put, List.setIfInBounds_toArray, List.set_cons_zero, List.set_cons_succ])) | (apply detF_mk rfl; (try simp only [Act.put, List.setIfInBounds_toArray, List.set_cons_zero, List.set_cons_succ])) | (apply detF_skip (by decide) rfl; (try simp only [Act.put, List.setIfInBounds_toArray, List.set_cons_zero, List.set_cons_succ])))
  rintro p w' ⟨s3, hs3, H⟩; simp only [extF, List.cons_append, List.nil_append, Value.cells] at H; (try simp only [Act.eval, Act.put, Value.cells, segV, seg, segPut, NS, Nat.reduceAdd])
  go_wp2_with (first | ((with_reducible apply wlS); refine hw_store 1 rfl rfl rfl H rfl rfl rfl (by simp) rfl ?_; clear H; intro w' H; (try simp only [Act.eval, Act.put, Value.cells, segV, seg, segPut, NS, Nat.reduceAdd] at H)))
  (try simp only [Act.eval, Act.put, Value.cells, segV, seg, segPut, NS, Nat.reduceAdd])
  refine region_det 18 (HpX _ _ _ _ _) rfl (by kernel_rfl) ⟨_, Nat.le_refl _, H.drew⟩ ?_; clear H; simp only [List.take_succ_cons, List.take_zero, List.drop_succ_cons, List.drop_zero]
  repeat (first | (apply det_op rfl; (focus (rintro w' ⟨s1, hs1, H⟩; go_wp2_with (first | ((with_reducible apply wlL); apply hw_load 1 rfl rfl H rfl; (focus (simp; done)); (focus (simp only [segV, seg, NS]; rfl))) | (go_at_call 227; refine (mayBe_any (decRec l) _).mono ?_; rw [h1]; rintro e w' ⟨rfl, hb⟩; obtain ⟨s2, hs2, H⟩ := H.call hb; clear hb) | (go_at_call 235; refine (isSeq_any (decSeq l) _).mono ?_; rw [h2]; rintro e w' ⟨rfl, hb⟩; obtain ⟨s2, hs2, H⟩ := H.call hb; clear hb)); refine ⟨rfl, rfl, ?_, _, by omega, H⟩; (first | (simp only [SlotIs, Array.getD_eq_getD_getElem?, List.getElem?_toArray, List.getElem?_cons_succ, List.getElem?_cons_zero, Option.getD_some]; exact rfl) | exact rfl))); (try simp only [Act.put, List.setIfInBounds_toArray, List.set_cons_zero, List.set_cons_succ])) | (apply det_skip rfl; (try simp only [Act.put, List.setIfInBounds_toArray, List.set_cons_zero, List.set_cons_succ])))
  rintro w' ⟨s4, hs4, H⟩; (try simp only [Act.eval, Act.put, Value.cells, segV, seg, segPut, NS, Nat.reduceAdd])
  go_wp2_with (first | ((first | ((with_reducible apply wlB); refine hw_box rfl rfl H ?_) | ((with_reducible apply wlA); refine hw_alloc rfl H ?_) | ((with_reducible apply wlS); first | refine hw_store 0 rfl rfl rfl H rfl rfl rfl (by simp) rfl ?_ | refine hw_store 1 rfl rfl rfl H rfl rfl rfl (by simp) rfl ?_ | refine hw_store 2 rfl rfl rfl H rfl rfl rfl (by simp) rfl ?_ | refine hw_store 3 rfl rfl rfl H rfl rfl rfl (by simp) rfl ?_)); clear H; intro w' H; (try simp only [Act.eval, Act.put, Value.cells, segV, seg, segPut, NS, Nat.reduceAdd] at H)) | ((with_reducible apply wlL); (first | apply hw_load 0 rfl rfl H rfl | apply hw_load 1 rfl rfl H rfl | apply hw_load 2 rfl rfl H rfl | apply hw_load 3 rfl rfl H rfl); (focus (simp; done)); (focus (simp only [segV, seg, NS]; rfl))))
  exact bodyPost_ret (res3 rfl (rv_cell 0 rfl H rfl (Nat.le_of_ble_eq_true rfl)) (rv_tmp rfl) (rv_tmp rfl)) rfl ⟨by simp [segV, seg], H.ret⟩
set_option maxRecDepth 100000 in
set_option maxHeartbeats 2000000 in
theorem Decode_c (hB : Blk w b t cs) (hl : l.length = 64) (hs : seg cs 0 64 = l.map bv) (hc : 64 ≤ c) (h1 : mayBeB (decRec l) = true) (h2 : isSeqB (decSeq l) = true) : Calls Tryz.prog 226 #[.slice (some ⟨b, 0, none⟩) 64 c] w (Ret (decV l) w) := by
  have hv : decV l = .tuple (if encB (decRec l) (decSeq l) = l then #[recV (decRec l), .int .i64 (decSeq l), .int .i64 0] else #[recV ⟨0, 0, 0⟩, .int .i64 0, .int .i64 70]) := by simp [decV, decB, h1, h2]
  have hall : segV true cs 0 64 = .agg (l.map bv).toArray := by simp only [segV, if_true, hs]
  have hcs : 0 + 64 ≤ cs.size := by have := seg_lt hs (k := 63) (by simp [hl]); omega
  have HA := Lib.hid hall
  clear hall
  go_enter Tryz.func226, Tryz.ntmps226
  have H := (Hp.start NoS w).addR hB id
  have HS := Lib.hid hs
  clear hs
  go_wp2_with (first | ((first | ((with_reducible apply wlB); refine hw_box rfl rfl H ?_) | ((with_reducible apply wlA); refine hw_alloc rfl H ?_) | ((with_reducible apply wlS); first | refine hw_store 0 rfl rfl rfl H rfl rfl rfl (by simp) rfl ?_ | refine hw_store 1 rfl rfl rfl H rfl rfl rfl (by simp) rfl ?_ | refine hw_store 2 rfl rfl rfl H rfl rfl rfl (by simp) rfl ?_ | refine hw_store 3 rfl rfl rfl H rfl rfl rfl (by simp) rfl ?_)); clear H; intro w' H; (try simp only [Act.eval, Act.put, Value.cells, segV, seg, segPut, NS, Nat.reduceAdd] at H)) | ((with_reducible apply wlL); (first | apply hw_load 0 rfl rfl H rfl | apply hw_load 1 rfl rfl H rfl | apply hw_load 2 rfl rfl H rfl | apply hw_load 3 rfl rfl H rfl); (focus (simp; done)); (focus (simp only [segV, seg, NS]; rfl))))
  (try simp only [Act.eval, Act.put, Value.cells, segV, seg, segPut, NS, Nat.reduceAdd])
  refine region_det1 15 14 5 297 (HpF _ _ _ _ _ _ _) rfl (by kernel_rfl) ⟨_, Nat.le_refl _, by rw [show extF _ _ none = [] from rfl, List.append_nil]; exact H.drew⟩ HpF.mk' ?_; clear H; simp only [List.take_succ_cons, List.take_zero, List.drop_succ_cons, List.drop_zero]
  repeat (first | (apply detF_op (by decide) rfl; (focus (rintro e0 w' ⟨s1, hs1, H⟩; go_wp2_with (first | (go_at_call 234; refine (take_sub (H.ro _ (.head _)).1 hl HS.out _ _ (by decide)).mono ?_; rintro e w' ⟨rfl, hb⟩; obtain ⟨s2, hs2, H⟩ := H.call hb; clear hb)); refine ⟨rfl, rfl, ?_, _, by omega, H⟩; (first | (simp only [SlotIs, Array.getD_eq_getD_getElem?, List.getElem?_toArray, List.getElem?_cons_succ, List.getElem?_cons_zero, Option.getD_some]; exact rfl) | exact rfl))); (try simp only [Act.put, List.setIfInBounds_toArray, List.set_cons_zero, List.set_cons_succ])) | (apply detF_mk rfl; (try simp only [Act.put, List.setIfInBounds_toArray, List.set_cons_zero, List.set_cons_succ])) | (apply detF_skip (by decide) rfl; (try simp only [Act.put, List.setIfInBounds_toArray, List.set_cons_zero, List.set_cons_succ])))
  rintro p w' ⟨s3, hs3, H⟩; simp only [extF, List.cons_append, List.nil_append, Value.cells] at H; (try simp only [Act.eval, Act.put, Value.cells, segV, seg, segPut, NS, Nat.reduceAdd])
  go_wp2_with (first | ((with_reducible apply wlS); refine hw_store 1 rfl rfl rfl H rfl rfl rfl (by simp) rfl ?_; clear H; intro w' H; (try simp only [Act.eval, Act.put, Value.cells, segV, seg, segPut, NS, Nat.reduceAdd] at H)))
  (try simp only [Act.eval, Act.put, Value.cells, segV, seg, segPut, NS, Nat.reduceAdd])
  refine region_det 18 (HpX _ _ _ _ _) rfl (by kernel_rfl) ⟨_, Nat.le_refl _, H.drew⟩ ?_; clear H; simp only [List.take_succ_cons, List.take_zero, List.drop_succ_cons, List.drop_zero]
  repeat (first | (apply det_op rfl; (focus (rintro w' ⟨s1, hs1, H⟩; go_wp2_with (first | ((with_reducible apply wlL); apply hw_load 1 rfl rfl H rfl; (focus (simp; done)); (focus (simp only [segV, seg, NS]; rfl))) | (go_at_call 227; refine (mayBe_any (decRec l) _).mono ?_; rw [h1]; rintro e w' ⟨rfl, hb⟩; obtain ⟨s2, hs2, H⟩ := H.call hb; clear hb) | (go_at_call 235; refine (isSeq_any (decSeq l) _).mono ?_; rw [h2]; rintro e w' ⟨rfl, hb⟩; obtain ⟨s2, hs2, H⟩ := H.call hb; clear hb) | (go_at_call 236; refine (bytes_any (decRec l) (decSeq l) h1 h2 _).mono ?_; rintro e w' ⟨rfl, hb⟩; obtain ⟨s2, hs2, H⟩ := H.call hb; clear hb) | ((with_reducible show wpList _ _ _ (⟨_, .load _ _, _, _, _, _⟩ :: _) _ _); apply hw_loadR 0 rfl rfl H rfl; (focus exact hcs); (focus exact HA.out)) | ((with_reducible show wpList _ _ _ (⟨_, .sliceToArrayPointer _ _, _, _, _, _⟩ :: _) _ _); refine hw_arrAt rfl rfl (by decide) ?_) | ((with_reducible show wpList _ _ _ (⟨_, .binOp .neq _ _ _ _, _, _, _, _⟩ :: _) _ _); refine hw_neqB (by kernel_rfl) (fun _ => by kernel_rfl) (by kernel_rfl) rfl rfl rfl (encB_len _ _) hl ?_)); refine ⟨rfl, rfl, ?_, _, by omega, H⟩; (first | (simp only [SlotIs, Array.getD_eq_getD_getElem?, List.getElem?_toArray, List.getElem?_cons_succ, List.getElem?_cons_zero, Option.getD_some]; exact rfl) | exact rfl))); (try simp only [Act.put, List.setIfInBounds_toArray, List.set_cons_zero, List.set_cons_succ])) | (apply det_skip rfl; (try simp only [Act.put, List.setIfInBounds_toArray, List.set_cons_zero, List.set_cons_succ])))
  rintro w' ⟨s4, hs4, H⟩; (try simp only [Act.eval, Act.put, Value.cells, segV, seg, segPut, NS, Nat.reduceAdd])
  have HV := Lib.hid hv
  clear hv
  rcases Bool.eq_false_or_eq_true (encB (decRec l) (decSeq l) == l) with hb | hb
  · have HE := Lib.hid (show encB (decRec l) (decSeq l) = l by simpa using hb)
    rw [hb]
    clear hb
    go_wp2_with fail
    (try simp only [Act.eval, Act.put, Value.cells, segV, seg, segPut, NS, Nat.reduceAdd])
    refine region_stH 5 4 0 #[.int .i64 (takeFrom 0 (sub l 12 16)), .int .i64 (takeFrom 0 (sub l 16 21)), .int .i64 (takeFrom 0 (sub l 44 47))] H rfl rfl (by kernel_rfl) ?_; clear H; simp only [List.take_succ_cons, List.take_zero, List.drop_succ_cons, List.drop_zero]
    repeat (first | (apply detS_op (by decide) rfl; (focus (rintro e0 w' ⟨s1, hs1, H⟩; (try simp only [List.set_cons_zero, List.set_cons_succ] at H); go_wp2_with (first | ((with_reducible apply wlL); apply hw_load 1 rfl rfl H rfl; (focus (simp; done)); (focus (simp only [segV, seg, NS]; rfl)))); refine ⟨rfl, rfl, ?_, _, by omega, H⟩; (first | (simp only [SlotIs, Array.getD_eq_getD_getElem?, List.getElem?_toArray, List.getElem?_cons_succ, List.getElem?_cons_zero, Option.getD_some]; exact rfl) | exact rfl))); (try simp only [Act.put, List.setIfInBounds_toArray, List.set_cons_zero, List.set_cons_succ])) | (apply detS_st (by decide) rfl; (focus (rintro w' ⟨s1, hs1, H⟩; (try simp only [List.set_cons_zero, List.set_cons_succ, cond_false] at H); go_wp2_with (first | ((with_reducible apply wlS); refine hw_store 0 rfl rfl rfl H rfl rfl rfl (by simp) rfl ?_; clear H; intro w' H; (try simp only [Act.eval, Act.put, Value.cells, segV, seg, segPut, NS, Nat.reduceAdd] at H))); refine ⟨rfl, rfl, ?_, _, by omega, H⟩; (first | (simp only [SlotIs, Array.getD_eq_getD_getElem?, List.getElem?_toArray, List.getElem?_cons_succ, List.getElem?_cons_zero, Option.getD_some]; exact rfl) | exact rfl))); (try simp only [Act.put, List.setIfInBounds_toArray, List.set_cons_zero, List.set_cons_succ])) | (apply detS_skip (by decide) rfl; (try simp only [Act.put, List.setIfInBounds_toArray, List.set_cons_zero, List.set_cons_succ])))
    rintro w' ⟨s5, hs5, H⟩; (try simp only [Act.eval, Act.put, Value.cells, segV, seg, segPut, NS, Nat.reduceAdd])
    go_wp2
    exact bodyPost_ret (res3 rfl (rv_cell 0 rfl H rfl (Nat.le_of_ble_eq_true rfl)) (rv_tmp rfl) (rv_tmp rfl)) rfl ⟨by rw [HV.out, if_pos HE.out]; simp [segV, seg, decRec, decSeq], H.ret⟩
  · have HE := Lib.hid (show ¬ encB (decRec l) (decSeq l) = l by simpa using hb)
    rw [hb]
    clear hb
    go_wp2_with (first | ((first | ((with_reducible apply wlB); refine hw_box rfl rfl H ?_) | ((with_reducible apply wlA); refine hw_alloc rfl H ?_) | ((with_reducible apply wlS); first | refine hw_store 0 rfl rfl rfl H rfl rfl rfl (by simp) rfl ?_ | refine hw_store 1 rfl rfl rfl H rfl rfl rfl (by simp) rfl ?_ | refine hw_store 2 rfl rfl rfl H rfl rfl rfl (by simp) rfl ?_ | refine hw_store 3 rfl rfl rfl H rfl rfl rfl (by simp) rfl ?_)); clear H; intro w' H; (try simp only [Act.eval, Act.put, Value.cells, segV, seg, segPut, NS, Nat.reduceAdd] at H)) | ((with_reducible apply wlL); (first | apply hw_load 0 rfl rfl H rfl | apply hw_load 1 rfl rfl H rfl | apply hw_load 2 rfl rfl H rfl | apply hw_load 3 rfl rfl H rfl); (focus (simp; done)); (focus (simp only [segV, seg, NS]; rfl))))
    exact bodyPost_ret (res3 rfl (rv_cell 0 rfl H rfl (Nat.le_of_ble_eq_true rfl)) (rv_tmp rfl) (rv_tmp rfl)) rfl ⟨by rw [HV.out, if_neg HE.out]; simp [segV, seg], H.ret⟩
theorem Decode_any (hB : Blk w b t cs) (hl : l.length = 64) (hs : seg cs 0 64 = l.map bv) (hc : 64 ≤ c) : Calls Tryz.prog 226 #[.slice (some ⟨b, 0, none⟩) 64 c] w (Ret (decV l) w) := by
  rcases Bool.eq_false_or_eq_true (mayBeB (decRec l)) with h1 | h1
  · rcases Bool.eq_false_or_eq_true (isSeqB (decSeq l)) with h2 | h2
    · exact Decode_c hB hl hs hc h1 h2
    · exact Decode_b hB hl hs hc h1 h2
  · exact Decode_a hB hl hs hc h1
end
end Go.Proofs.YtccgpjhgfjfaoaaGreatDoor
/- slot: load, Load, Save. -/
namespace Go.Proofs.YtccgpjhgfjfaoaaGreatDoor
open Go.RowKit

structure Bst where
  r : Rec
  s : Int
  at_ : Int
def half (im : List UInt8) (i : Nat) : List UInt8 := (im.drop (64 * i)).take 64
theorem half_eq (im : List UInt8) (i : Nat) : (im.drop (32 * (2 * i))).take 32 ++ (im.drop (32 * (2 * i + 1))).take 32 = half im i := by
  unfold half
  rw [show 32 * (2 * i) = 64 * i by omega, show 32 * (2 * i + 1) = 64 * i + 32 by omega, show 64 = 32 + 32 from rfl, List.take_add, List.drop_drop]
theorem half_len {im : List UInt8} (h : im.length = 256) {i : Nat} (hi : i < 4) : (half im i).length = 64 := by simp [half, h]; omega
def loadStep (im : List UInt8) (st : Bst) (i : Nat) : Bst := if decB (half im i) && decide (st.s < decSeq (half im i)) then ⟨decRec (half im i), decSeq (half im i), i⟩ else st
def loadN (im : List UInt8) : Nat → Bst
  | 0 => ⟨⟨0, 0, 0⟩, 0, -1⟩
  | k + 1 => loadStep im (loadN im k) k
def bestC (b : Bst) : Array Value := #[.int .i64 b.r.life, .int .i64 b.r.round, .int .i64 b.r.tag, .int .i64 b.s]
section
variable {w : World} {b : Nat} {d : Dsk}
set_option maxRecDepth 100000 in
set_option maxHeartbeats 2000000 in
theorem load_off (hB : Blk w b tDisk (dskC d)) (hd : d.im.length = 256) (ho : d.off = true) : Calls Tryz.prog 199 #[.pointer (some ⟨b, 0, none⟩)] w (Ret (.tuple #[keptV ⟨0, 0, 0⟩ 0, .int .i64 (-1), .int .i64 100]) w) := by
  have hm : mayE d 0 = 100 := by simp [mayE, ho]
  have hm' : mayE d 0 ≠ 0 := by rw [hm]; decide
  go_enter Tryz.func199, Tryz.ntmps199
  have H := (Hp.start NoS w).addR hB id
  go_wp2_with (first | ((first | ((with_reducible apply wlB); refine hw_box rfl rfl H ?_) | ((with_reducible apply wlA); refine hw_alloc rfl H ?_) | ((with_reducible apply wlS); first | refine hw_store 0 rfl rfl rfl H rfl rfl rfl (by simp) rfl ?_ | refine hw_store 1 rfl rfl rfl H rfl rfl rfl (by simp) rfl ?_ | refine hw_store 2 rfl rfl rfl H rfl rfl rfl (by simp) rfl ?_ | refine hw_store 3 rfl rfl rfl H rfl rfl rfl (by simp) rfl ?_)); clear H; intro w' H; (try simp only [Act.eval, Act.put, Value.cells, segV, seg, segPut, NS, Nat.reduceAdd] at H)) | ((with_reducible apply wlL); (first | apply hw_load 0 rfl rfl H rfl | apply hw_load 1 rfl rfl H rfl | apply hw_load 2 rfl rfl H rfl | apply hw_load 3 rfl rfl H rfl); (focus (simp; done)); (focus (simp only [segV, seg, NS]; rfl))))
  refine wp_loop_rounds 1 ?_
  rw [rounds_succ]
  go_wp2_with (first | ((first | ((with_reducible apply wlB); refine hw_box rfl rfl H ?_) | ((with_reducible apply wlA); refine hw_alloc rfl H ?_) | ((with_reducible apply wlS); first | refine hw_store 0 rfl rfl rfl H rfl rfl rfl (by simp) rfl ?_ | refine hw_store 1 rfl rfl rfl H rfl rfl rfl (by simp) rfl ?_ | refine hw_store 2 rfl rfl rfl H rfl rfl rfl (by simp) rfl ?_ | refine hw_store 3 rfl rfl rfl H rfl rfl rfl (by simp) rfl ?_)); clear H; intro w' H; (try simp only [Act.eval, Act.put, Value.cells, segV, seg, segPut, NS, Nat.reduceAdd] at H)) | ((with_reducible apply wlL); (first | apply hw_load 0 rfl rfl H rfl | apply hw_load 1 rfl rfl H rfl | apply hw_load 2 rfl rfl H rfl | apply hw_load 3 rfl rfl H rfl); (focus (simp; done)); (focus (simp only [segV, seg, NS]; rfl))) | (go_at_call 225; (refine (Read_e (H.ro _ (.head _)).1 hd 0 hm').mono ?_); rw [hm]; rintro e w' ⟨rfl, hb⟩; obtain ⟨s1, hs1, H⟩ := H.call hb; clear hb))
  exact bodyPost_ret (res3 rfl (rv_cell 1 rfl H rfl (Nat.le_of_ble_eq_true rfl)) (rv_tmp rfl) (rv_tmp rfl)) rfl ⟨by simp [segV, seg], H.ret⟩
set_option maxRecDepth 100000 in
set_option maxHeartbeats 2000000 in
theorem load_ok (hB : Blk w b tDisk (dskC d)) (hd : d.im.length = 256) (ho : d.off = false) : Calls Tryz.prog 199 #[.pointer (some ⟨b, 0, none⟩)] w (Ret (.tuple #[keptV (loadN d.im 2).r (loadN d.im 2).s, .int .i64 (loadN d.im 2).at_, .int .i64 0]) w) := by
  go_enter Tryz.func199, Tryz.ntmps199
  have H := (Hp.start NoS w).addR hB id
  have HO := Lib.hid ho
  clear ho
  go_wp2_with (first | ((first | ((with_reducible apply wlB); refine hw_box rfl rfl H ?_) | ((with_reducible apply wlA); refine hw_alloc rfl H ?_) | ((with_reducible apply wlS); first | refine hw_store 0 rfl rfl rfl H rfl rfl rfl (by simp) rfl ?_ | refine hw_store 1 rfl rfl rfl H rfl rfl rfl (by simp) rfl ?_ | refine hw_store 2 rfl rfl rfl H rfl rfl rfl (by simp) rfl ?_ | refine hw_store 3 rfl rfl rfl H rfl rfl rfl (by simp) rfl ?_)); clear H; intro w' H; (try simp only [Act.eval, Act.put, Value.cells, segV, seg, segPut, NS, Nat.reduceAdd] at H)) | ((with_reducible apply wlL); (first | apply hw_load 0 rfl rfl H rfl | apply hw_load 1 rfl rfl H rfl | apply hw_load 2 rfl rfl H rfl | apply hw_load 3 rfl rfl H rfl); (focus (simp; done)); (focus (simp only [segV, seg, NS]; rfl))))
  go_loopw [6, 14] (fun v i wr => ∃ (k sz : Nat), k ≤ 2 ∧ v = .int .i64 (loadN d.im k).at_ ∧ i = .int .i64 k ∧ Hp NoS w wr sz [(w.heap.size + 1, 297, bestC (loadN d.im k)), (w.heap.size, 297, #[.int .i64 0, .int .i64 0, .int .i64 0, .int .i64 0])] [(b, tDisk, dskC d)]) (fun _ i _ => 2 - (intOf i).toNat)
  case atStart => exact ⟨0, _, by omega, rfl, rfl, H⟩
  case round =>
    obtain ⟨k, sz, hk, rfl, rfl, H⟩ := hrel
    by_cases hlt : k < 2
    · have hlen := half_len hd (show k < 4 by omega)
      have hD := half_eq d.im k
      go_wp2_with (first | ((first | ((with_reducible apply wlB); refine hw_box rfl rfl H ?_) | ((with_reducible apply wlA); refine hw_alloc rfl H ?_) | ((with_reducible apply wlS); first | refine hw_store 0 rfl rfl rfl H rfl rfl rfl (by simp) rfl ?_ | refine hw_store 1 rfl rfl rfl H rfl rfl rfl (by simp) rfl ?_ | refine hw_store 2 rfl rfl rfl H rfl rfl rfl (by simp) rfl ?_ | refine hw_store 3 rfl rfl rfl H rfl rfl rfl (by simp) rfl ?_)); clear H; intro w' H; (try simp only [Act.eval, Act.put, Value.cells, segV, seg, segPut, NS, Nat.reduceAdd] at H)) | ((with_reducible apply wlL); (first | apply hw_load 0 rfl rfl H rfl | apply hw_load 1 rfl rfl H rfl | apply hw_load 2 rfl rfl H rfl | apply hw_load 3 rfl rfl H rfl); (focus (simp; done)); (focus (simp only [segV, seg, NS]; rfl))))
      refine (Read_ok (H.ro _ (.head _)).1 hd _ (by omega) (by omega) HO.out).mono ?_; rintro e w' ⟨s1, L2, v2, rfl, hG2, H1⟩; obtain ⟨hs2, H⟩ := H.fresh H1; clear H1; simp only [List.cons_append, List.nil_append] at H
      go_wp2_with (first | ((first | ((with_reducible apply wlB); refine hw_box rfl rfl H ?_) | ((with_reducible apply wlA); refine hw_alloc rfl H ?_) | ((with_reducible apply wlS); first | refine hw_store 0 rfl rfl rfl H rfl rfl rfl (by simp) rfl ?_ | refine hw_store 1 rfl rfl rfl H rfl rfl rfl (by simp) rfl ?_ | refine hw_store 2 rfl rfl rfl H rfl rfl rfl (by simp) rfl ?_ | refine hw_store 3 rfl rfl rfl H rfl rfl rfl (by simp) rfl ?_)); clear H; intro w' H; (try simp only [Act.eval, Act.put, Value.cells, segV, seg, segPut, NS, Nat.reduceAdd] at H)) | ((with_reducible apply wlL); (first | apply hw_load 0 rfl rfl H rfl | apply hw_load 1 rfl rfl H rfl | apply hw_load 2 rfl rfl H rfl | apply hw_load 3 rfl rfl H rfl); (focus (simp; done)); (focus (simp only [segV, seg, NS]; rfl))))
      refine (Read_ok (H.ro _ (.head _)).1 hd _ (by omega) (by omega) HO.out).mono ?_; rintro e w' ⟨s1, L3, v3, rfl, hG3, H1⟩; obtain ⟨hs3, H⟩ := H.fresh H1; clear H1; simp only [List.cons_append, List.nil_append] at H
      rw [show (2 * (k : Int)).toNat = 2 * k by omega] at hG2
      rw [show (2 * (k : Int) + 1).toNat = 2 * k + 1 by omega] at hG3
      generalize (d.im.drop (32 * (2 * k))).take 32 = x2 at hG2 hD
      generalize (d.im.drop (32 * (2 * k + 1))).take 32 = x3 at hG3 hD
      obtain ⟨A3, c3, rfl, hR3⟩ := hG3.rd H (fun x hx => by simp [hx]) (bv_one _)
      go_wp2_with (first | ((with_reducible show wpList _ _ _ (⟨_, .call { callee := .builtin .append, args := _, argTypes := _ }, _, _, _, _⟩ :: _) _ _); (apply hw_append (L0 := _) rfl rfl rfl H hG2 pF2 hR3.len hR3.nil hR3.cell (bv_one _) (by decide) (by decide)); clear H; intro v' w' sz' L1' hle HG' hnil H; (try simp only [Act.eval, Act.put, Value.cells, segV, seg, segPut, NS, Nat.reduceAdd] at H)))
      replace HG' := HG'.cast (n' := 64) (xs' := (half d.im k).map bv) rfl (by rw [← List.map_append, hD])
      obtain ⟨b4, cap, pad, rfl, hcap, rfl, hl4, hp4⟩ := HG'.some (by decide)
      clear HG' hnil hG2 hG3 hR3 hD x2 x3
      replace H := H.sub (((List.sublist_append_right L3 [_]).cons_cons _).cons_cons _)
      have hdec := Decode_any (H.blk _ (.tail _ (.tail _ (.head _)))) hlen (seg_pre (n := 64) (by simp [hlen])) hcap
      have hstp : loadN d.im (k + 1) = loadStep d.im (loadN d.im k) k := rfl
      rcases Bool.eq_false_or_eq_true (decB (half d.im k)) with hd | hd
      · rcases Bool.eq_false_or_eq_true (decide ((loadN d.im k).s < decSeq (half d.im k))) with hq | hq
        · have HN := Lib.hid (hstp.trans (show _ = Bst.mk (decRec (half d.im k)) (decSeq (half d.im k)) k by unfold loadStep; rw [hd, hq]; rfl))
          have hV : decV (half d.im k) = .tuple #[recV (decRec (half d.im k)), .int .i64 (decSeq (half d.im k)), .int .i64 0] := by unfold decV; rw [if_pos hd]
          refine hdec.mono ?_; rw [hV]; rintro e w' ⟨rfl, hb⟩; obtain ⟨s5, hs5, H⟩ := H.call hb; clear hb hV hdec hd hstp
          simp only [bestC] at H
          go_wp2_with (first | ((first | ((with_reducible apply wlB); refine hw_box rfl rfl H ?_) | ((with_reducible apply wlA); refine hw_alloc rfl H ?_) | ((with_reducible apply wlS); first | refine hw_store 0 rfl rfl rfl H rfl rfl rfl (by simp) rfl ?_ | refine hw_store 1 rfl rfl rfl H rfl rfl rfl (by simp) rfl ?_ | refine hw_store 2 rfl rfl rfl H rfl rfl rfl (by simp) rfl ?_ | refine hw_store 3 rfl rfl rfl H rfl rfl rfl (by simp) rfl ?_)); clear H; intro w' H; (try simp only [Act.eval, Act.put, Value.cells, segV, seg, segPut, NS, Nat.reduceAdd] at H)) | ((with_reducible apply wlL); (first | apply hw_load 0 rfl rfl H rfl | apply hw_load 1 rfl rfl H rfl | apply hw_load 2 rfl rfl H rfl | apply hw_load 3 rfl rfl H rfl); (focus (simp; done)); (focus (simp only [segV, seg, NS]; rfl))))
          exact ⟨⟨k + 1, _, by omega, by rw [HN.out], by go_num, by rw [HN.out]; exact H.drop1.tk 2⟩, by simp [intOf]; omega⟩
        · have HN := Lib.hid (hstp.trans (show _ = loadN d.im k by unfold loadStep; rw [hd, hq]; rfl))
          have hV : decV (half d.im k) = .tuple #[recV (decRec (half d.im k)), .int .i64 (decSeq (half d.im k)), .int .i64 0] := by unfold decV; rw [if_pos hd]
          refine hdec.mono ?_; rw [hV]; rintro e w' ⟨rfl, hb⟩; obtain ⟨s5, hs5, H⟩ := H.call hb; clear hb hV hdec hd hstp
          simp only [bestC] at H
          go_wp2_with (first | ((first | ((with_reducible apply wlB); refine hw_box rfl rfl H ?_) | ((with_reducible apply wlA); refine hw_alloc rfl H ?_) | ((with_reducible apply wlS); first | refine hw_store 0 rfl rfl rfl H rfl rfl rfl (by simp) rfl ?_ | refine hw_store 1 rfl rfl rfl H rfl rfl rfl (by simp) rfl ?_ | refine hw_store 2 rfl rfl rfl H rfl rfl rfl (by simp) rfl ?_ | refine hw_store 3 rfl rfl rfl H rfl rfl rfl (by simp) rfl ?_)); clear H; intro w' H; (try simp only [Act.eval, Act.put, Value.cells, segV, seg, segPut, NS, Nat.reduceAdd] at H)) | ((with_reducible apply wlL); (first | apply hw_load 0 rfl rfl H rfl | apply hw_load 1 rfl rfl H rfl | apply hw_load 2 rfl rfl H rfl | apply hw_load 3 rfl rfl H rfl); (focus (simp; done)); (focus (simp only [segV, seg, NS]; rfl))))
          exact ⟨⟨k + 1, _, by omega, by rw [HN.out], by go_num, by rw [HN.out]; exact H.drop1.tk 2⟩, by simp [intOf]; omega⟩
      · have HN := Lib.hid (hstp.trans (show _ = loadN d.im k by unfold loadStep; rw [hd]; rfl))
        have hV : decV (half d.im k) = .tuple #[recV ⟨0, 0, 0⟩, .int .i64 0, .int .i64 70] := by unfold decV; rw [hd]; rfl
        refine hdec.mono ?_; rw [hV]; rintro e w' ⟨rfl, hb⟩; obtain ⟨s5, hs5, H⟩ := H.call hb; clear hb hV hdec hd hstp
        simp only [bestC] at H
        go_wp2_with (first | ((first | ((with_reducible apply wlB); refine hw_box rfl rfl H ?_) | ((with_reducible apply wlA); refine hw_alloc rfl H ?_) | ((with_reducible apply wlS); first | refine hw_store 0 rfl rfl rfl H rfl rfl rfl (by simp) rfl ?_ | refine hw_store 1 rfl rfl rfl H rfl rfl rfl (by simp) rfl ?_ | refine hw_store 2 rfl rfl rfl H rfl rfl rfl (by simp) rfl ?_ | refine hw_store 3 rfl rfl rfl H rfl rfl rfl (by simp) rfl ?_)); clear H; intro w' H; (try simp only [Act.eval, Act.put, Value.cells, segV, seg, segPut, NS, Nat.reduceAdd] at H)) | ((with_reducible apply wlL); (first | apply hw_load 0 rfl rfl H rfl | apply hw_load 1 rfl rfl H rfl | apply hw_load 2 rfl rfl H rfl | apply hw_load 3 rfl rfl H rfl); (focus (simp; done)); (focus (simp only [segV, seg, NS]; rfl))))
        exact ⟨⟨k + 1, _, by omega, by rw [HN.out], by go_num, by rw [HN.out]; exact H.drop1.tk 2⟩, by simp [intOf]; omega⟩
    · obtain rfl : k = 2 := by omega
      simp only [bestC] at H
      go_wp2_with (first | ((first | ((with_reducible apply wlB); refine hw_box rfl rfl H ?_) | ((with_reducible apply wlA); refine hw_alloc rfl H ?_) | ((with_reducible apply wlS); first | refine hw_store 0 rfl rfl rfl H rfl rfl rfl (by simp) rfl ?_ | refine hw_store 1 rfl rfl rfl H rfl rfl rfl (by simp) rfl ?_ | refine hw_store 2 rfl rfl rfl H rfl rfl rfl (by simp) rfl ?_ | refine hw_store 3 rfl rfl rfl H rfl rfl rfl (by simp) rfl ?_)); clear H; intro w' H; (try simp only [Act.eval, Act.put, Value.cells, segV, seg, segPut, NS, Nat.reduceAdd] at H)) | ((with_reducible apply wlL); (first | apply hw_load 0 rfl rfl H rfl | apply hw_load 1 rfl rfl H rfl | apply hw_load 2 rfl rfl H rfl | apply hw_load 3 rfl rfl H rfl); (focus (simp; done)); (focus (simp only [segV, seg, NS]; rfl))))
      exact bodyPost_ret (res3 rfl (rv_cell 1 rfl H rfl (Nat.le_of_ble_eq_true rfl)) (rv_tmp rfl) (rv_tmp rfl)) rfl ⟨by simp [segV, seg, bestC], H.ret⟩
set_option maxRecDepth 100000 in
set_option maxHeartbeats 2000000 in
theorem Load_off (hB : Blk w b tDisk (dskC d)) (hd : d.im.length = 256) (ho : d.off = true) : Calls Tryz.prog 153 #[.pointer (some ⟨b, 0, none⟩)] w (Ret (.tuple #[recV ⟨0, 0, 0⟩, .int .i64 0, .int .i64 100]) w) := by
  go_enter Tryz.func153, Tryz.ntmps153
  have H := (Hp.start NoS w).addR hB id
  go_wp2_with (first | ((first | ((with_reducible apply wlB); refine hw_box rfl rfl H ?_) | ((with_reducible apply wlA); refine hw_alloc rfl H ?_) | ((with_reducible apply wlS); first | refine hw_store 0 rfl rfl rfl H rfl rfl rfl (by simp) rfl ?_ | refine hw_store 1 rfl rfl rfl H rfl rfl rfl (by simp) rfl ?_ | refine hw_store 2 rfl rfl rfl H rfl rfl rfl (by simp) rfl ?_ | refine hw_store 3 rfl rfl rfl H rfl rfl rfl (by simp) rfl ?_)); clear H; intro w' H; (try simp only [Act.eval, Act.put, Value.cells, segV, seg, segPut, NS, Nat.reduceAdd] at H)) | ((with_reducible apply wlL); (first | apply hw_load 0 rfl rfl H rfl | apply hw_load 1 rfl rfl H rfl | apply hw_load 2 rfl rfl H rfl | apply hw_load 3 rfl rfl H rfl); (focus (simp; done)); (focus (simp only [segV, seg, NS]; rfl))) | (go_at_call 199; refine (load_off (H.ro _ (.head _)).1 hd ho).mono ?_; rintro e w' ⟨rfl, hb⟩; obtain ⟨s1, hs1, H⟩ := H.call hb; clear hb))
  exact bodyPost_ret (res3 rfl (rv_cell 1 rfl H rfl (Nat.le_of_ble_eq_true rfl)) (rv_tmp rfl) (rv_tmp rfl)) rfl ⟨by simp [segV, seg], H.ret⟩
def loadV (im : List UInt8) : Value := if (loadN im 2).at_ < 0 then .tuple #[recV ⟨0, 0, 0⟩, .int .i64 0, .int .i64 40] else .tuple #[recV (loadN im 2).r, .int .i64 (loadN im 2).s, .int .i64 0]
set_option maxRecDepth 100000 in
set_option maxHeartbeats 2000000 in
theorem Load_ok (hB : Blk w b tDisk (dskC d)) (hd : d.im.length = 256) (ho : d.off = false) : Calls Tryz.prog 153 #[.pointer (some ⟨b, 0, none⟩)] w (Ret (loadV d.im) w) := by
  go_enter Tryz.func153, Tryz.ntmps153
  have H := (Hp.start NoS w).addR hB id
  have HO := Lib.hid ho
  clear ho
  by_cases h : (loadN d.im 2).at_ < 0
  · have HV := Lib.hid (show loadV d.im = _ from if_pos h)
    go_wp2_with (first | ((first | ((with_reducible apply wlB); refine hw_box rfl rfl H ?_) | ((with_reducible apply wlA); refine hw_alloc rfl H ?_) | ((with_reducible apply wlS); first | refine hw_store 0 rfl rfl rfl H rfl rfl rfl (by simp) rfl ?_ | refine hw_store 1 rfl rfl rfl H rfl rfl rfl (by simp) rfl ?_ | refine hw_store 2 rfl rfl rfl H rfl rfl rfl (by simp) rfl ?_ | refine hw_store 3 rfl rfl rfl H rfl rfl rfl (by simp) rfl ?_)); clear H; intro w' H; (try simp only [Act.eval, Act.put, Value.cells, segV, seg, segPut, NS, Nat.reduceAdd] at H)) | ((with_reducible apply wlL); (first | apply hw_load 0 rfl rfl H rfl | apply hw_load 1 rfl rfl H rfl | apply hw_load 2 rfl rfl H rfl | apply hw_load 3 rfl rfl H rfl); (focus (simp; done)); (focus (simp only [segV, seg, NS]; rfl))) | (go_at_call 199; refine (load_ok (H.ro _ (.head _)).1 hd HO.out).mono ?_; rintro e w' ⟨rfl, hb⟩; obtain ⟨s1, hs1, H⟩ := H.call hb; clear hb))
    exact bodyPost_ret (res3 rfl (rv_cell 1 rfl H rfl (Nat.le_of_ble_eq_true rfl)) (rv_tmp rfl) (rv_tmp rfl)) rfl ⟨by rw [HV.out]; simp [segV, seg], H.ret⟩
  · have HV := Lib.hid (show loadV d.im = _ from if_neg h)
    go_wp2_with (first | ((first | ((with_reducible apply wlB); refine hw_box rfl rfl H ?_) | ((with_reducible apply wlA); refine hw_alloc rfl H ?_) | ((with_reducible apply wlS); first | refine hw_store 0 rfl rfl rfl H rfl rfl rfl (by simp) rfl ?_ | refine hw_store 1 rfl rfl rfl H rfl rfl rfl (by simp) rfl ?_ | refine hw_store 2 rfl rfl rfl H rfl rfl rfl (by simp) rfl ?_ | refine hw_store 3 rfl rfl rfl H rfl rfl rfl (by simp) rfl ?_)); clear H; intro w' H; (try simp only [Act.eval, Act.put, Value.cells, segV, seg, segPut, NS, Nat.reduceAdd] at H)) | ((with_reducible apply wlL); (first | apply hw_load 0 rfl rfl H rfl | apply hw_load 1 rfl rfl H rfl | apply hw_load 2 rfl rfl H rfl | apply hw_load 3 rfl rfl H rfl); (focus (simp; done)); (focus (simp only [segV, seg, NS]; rfl))) | (go_at_call 199; refine (load_ok (H.ro _ (.head _)).1 hd HO.out).mono ?_; rintro e w' ⟨rfl, hb⟩; obtain ⟨s1, hs1, H⟩ := H.call hb; clear hb))
    (try simp only [Act.eval, Act.put, Value.cells, segV, seg, segPut, NS, Nat.reduceAdd])
    refine region_stH 5 4 1 #[.int .i64 (loadN d.im 2).r.life, .int .i64 (loadN d.im 2).r.round, .int .i64 (loadN d.im 2).r.tag] H rfl rfl (by kernel_rfl) ?_; clear H; simp only [List.take_succ_cons, List.take_zero, List.drop_succ_cons, List.drop_zero]
    repeat (first | (apply detS_op (by decide) rfl; (focus (rintro e0 w' ⟨s1, hs1, H⟩; (try simp only [List.set_cons_zero, List.set_cons_succ] at H); go_wp2_with (first | ((with_reducible apply wlL); apply hw_load 0 rfl rfl H rfl; (focus (simp; done)); (focus (simp only [segV, seg, NS]; rfl)))); refine ⟨rfl, rfl, ?_, _, by omega, H⟩; (first | (simp only [SlotIs, Array.getD_eq_getD_getElem?, List.getElem?_toArray, List.getElem?_cons_succ, List.getElem?_cons_zero, Option.getD_some]; exact rfl) | exact rfl))); (try simp only [Act.put, List.setIfInBounds_toArray, List.set_cons_zero, List.set_cons_succ])) | (apply detS_st (by decide) rfl; (focus (rintro w' ⟨s1, hs1, H⟩; (try simp only [List.set_cons_zero, List.set_cons_succ, cond_false] at H); go_wp2_with (first | ((with_reducible apply wlS); refine hw_store 1 rfl rfl rfl H rfl rfl rfl (by simp) rfl ?_; clear H; intro w' H; (try simp only [Act.eval, Act.put, Value.cells, segV, seg, segPut, NS, Nat.reduceAdd] at H))); refine ⟨rfl, rfl, ?_, _, by omega, H⟩; (first | (simp only [SlotIs, Array.getD_eq_getD_getElem?, List.getElem?_toArray, List.getElem?_cons_succ, List.getElem?_cons_zero, Option.getD_some]; exact rfl) | exact rfl))); (try simp only [Act.put, List.setIfInBounds_toArray, List.set_cons_zero, List.set_cons_succ])) | (apply detS_skip (by decide) rfl; (try simp only [Act.put, List.setIfInBounds_toArray, List.set_cons_zero, List.set_cons_succ])))
    rintro w' ⟨s5, hs5, H⟩; (try simp only [Act.eval, Act.put, Value.cells, segV, seg, segPut, NS, Nat.reduceAdd])
    go_wp2
    exact bodyPost_ret (res3 rfl (rv_cell 1 rfl H rfl (Nat.le_of_ble_eq_true rfl)) (rv_tmp rfl) (rv_tmp rfl)) rfl ⟨by rw [HV.out]; simp [segV, seg], H.ret⟩
end
end Go.Proofs.YtccgpjhgfjfaoaaGreatDoor
/- slot: Save. -/
namespace Go.Proofs.YtccgpjhgfjfaoaaGreatDoor
open Go.RowKit

def saveW (d : Dsk) (q : Nat) (x : List UInt8) : Dsk × Int :=
  if d.writeE = 0 then (((d.write (2 * q) (x.take 32)).write (2 * q + 1) (x.drop 32)), (d.write (2 * q) (x.take 32)).writeE) else (d.write (2 * q) (x.take 32), d.writeE)
def whither (a : Int) : Nat := if a = 0 then 1 else 0
def saveM (d : Dsk) (r : Rec) : Dsk × Int :=
  if mayBeB r then (if d.off then (d, 100) else if isSeqB ((loadN d.im 2).s + 1) then saveW d (whither (loadN d.im 2).at_) (encB r ((loadN d.im 2).s + 1)) else (d, 120)) else (d, 1)
theorem saveW_len {d : Dsk} (hd : d.im.length = 256) {q : Nat} (ht : q < 2) {x : List UInt8} (hx : x.length = 64) : (saveW d q x).1.im.length = 256 := by
  unfold saveW
  have h1 := Dsk.write_len hd (show 2 * q < 8 by omega) (x := x.take 32) (by simp [hx])
  split
  · exact Dsk.write_len h1 (by omega) (by simp [hx])
  · exact h1
theorem saveM_len {d : Dsk} (hd : d.im.length = 256) (r : Rec) : (saveM d r).1.im.length = 256 := by
  unfold saveM
  split
  · split
    · exact hd
    · split
      · exact saveW_len hd (by unfold whither; split <;> omega) (encB_len _ _)
      · exact hd
  · exact hd
theorem loadN_s (im : List UInt8) : 0 ≤ (loadN im 2).s ∧ (loadN im 2).s ≤ 1099511627776 := by
  have hs : ∀ (st : Bst) (i : Nat), (0 ≤ st.s ∧ st.s ≤ 1099511627776) → 0 ≤ (loadStep im st i).s ∧ (loadStep im st i).s ≤ 1099511627776 := by
    intro st i h
    unfold loadStep
    split
    · rename_i hc
      simp only [Bool.and_eq_true, decide_eq_true_eq, decB, isSeqB] at hc
      exact ⟨by simp only; omega, by simp only; omega⟩
    · exact h
  exact hs _ _ (hs _ _ (by simp [loadN]))
section
variable {w : World} {b : Nat} {d : Dsk}
set_option maxRecDepth 100000 in
set_option maxHeartbeats 2000000 in
theorem Save_no (hB : Blk w b tDisk (dskC d)) (hd : d.im.length = 256) (r : Rec) (hr : mayBeB r = false) : Calls Tryz.prog 200 #[.pointer (some ⟨b, 0, none⟩), recV r] w (Upd b (.int .i64 (saveM d r).2) (saveM d r).1 w) := by
  rw [show saveM d r = (d, 1) by unfold saveM; rw [hr]; rfl]
  go_enter Tryz.func200, Tryz.ntmps200
  have H := Hp.own1 w hB
  go_wp2_with (first | ((first | ((with_reducible apply wlB); refine hw_box rfl rfl H ?_) | ((with_reducible apply wlA); refine hw_alloc rfl H ?_) | ((with_reducible apply wlS); first | refine hw_store 0 rfl rfl rfl H rfl rfl rfl (by simp) rfl ?_ | refine hw_store 1 rfl rfl rfl H rfl rfl rfl (by simp) rfl ?_ | refine hw_store 2 rfl rfl rfl H rfl rfl rfl (by simp) rfl ?_ | refine hw_store 3 rfl rfl rfl H rfl rfl rfl (by simp) rfl ?_)); clear H; intro w' H; (try simp only [Act.eval, Act.put, Value.cells, segV, seg, segPut, NS, Nat.reduceAdd] at H)) | ((with_reducible apply wlL); (first | apply hw_load 0 rfl rfl H rfl | apply hw_load 1 rfl rfl H rfl | apply hw_load 2 rfl rfl H rfl | apply hw_load 3 rfl rfl H rfl); (focus (simp; done)); (focus (simp only [segV, seg, NS]; rfl))) | (go_at_call 227; refine (mayBe_any r _).mono ?_; rw [hr]; rintro e w' ⟨rfl, hb⟩; obtain ⟨s1, hs1, H⟩ := H.call hb; clear hb))
  exact bodyPost_ret (res1 rfl (rv_tmp rfl)) rfl ⟨_, rfl, H.drop1⟩
set_option maxRecDepth 100000 in
set_option maxHeartbeats 2000000 in
theorem Save_off (hB : Blk w b tDisk (dskC d)) (hd : d.im.length = 256) (r : Rec) (hr : mayBeB r = true) (ho : d.off = true) : Calls Tryz.prog 200 #[.pointer (some ⟨b, 0, none⟩), recV r] w (Upd b (.int .i64 (saveM d r).2) (saveM d r).1 w) := by
  rw [show saveM d r = (d, 100) by unfold saveM; rw [hr, ho]; rfl]
  go_enter Tryz.func200, Tryz.ntmps200
  have H := Hp.own1 w hB
  go_wp2_with (first | ((first | ((with_reducible apply wlB); refine hw_box rfl rfl H ?_) | ((with_reducible apply wlA); refine hw_alloc rfl H ?_) | ((with_reducible apply wlS); first | refine hw_store 0 rfl rfl rfl H rfl rfl rfl (by simp) rfl ?_ | refine hw_store 1 rfl rfl rfl H rfl rfl rfl (by simp) rfl ?_ | refine hw_store 2 rfl rfl rfl H rfl rfl rfl (by simp) rfl ?_ | refine hw_store 3 rfl rfl rfl H rfl rfl rfl (by simp) rfl ?_)); clear H; intro w' H; (try simp only [Act.eval, Act.put, Value.cells, segV, seg, segPut, NS, Nat.reduceAdd] at H)) | ((with_reducible apply wlL); (first | apply hw_load 0 rfl rfl H rfl | apply hw_load 1 rfl rfl H rfl | apply hw_load 2 rfl rfl H rfl | apply hw_load 3 rfl rfl H rfl); (focus (simp; done)); (focus (simp only [segV, seg, NS]; rfl))) | (go_at_call 227; refine (mayBe_any r _).mono ?_; rw [hr]; rintro e w' ⟨rfl, hb⟩; obtain ⟨s1, hs1, H⟩ := H.call hb; clear hb) | (go_at_call 199; refine (load_off (H.blk _ (.tail _ (.head _))) hd ho).mono ?_; rintro e w' ⟨rfl, hb⟩; obtain ⟨s2, hs2, H⟩ := H.call hb; clear hb))
  exact bodyPost_ret (res1 rfl (rv_tmp rfl)) rfl ⟨_, rfl, H.drop1.drop1⟩
set_option maxRecDepth 100000 in
set_option maxHeartbeats 2000000 in
theorem Save_end (hB : Blk w b tDisk (dskC d)) (hd : d.im.length = 256) (r : Rec) (hr : mayBeB r = true) (ho : d.off = false) (hs : isSeqB ((loadN d.im 2).s + 1) = false) : Calls Tryz.prog 200 #[.pointer (some ⟨b, 0, none⟩), recV r] w (Upd b (.int .i64 (saveM d r).2) (saveM d r).1 w) := by
  rw [show saveM d r = (d, 120) by unfold saveM; rw [hr, ho, hs]; rfl]
  obtain ⟨hs0, hs1⟩ := loadN_s d.im
  go_enter Tryz.func200, Tryz.ntmps200
  have H := Hp.own1 w hB
  have HO := Lib.hid ho
  have HS := Lib.hid hs
  clear ho hs
  go_wp2_with (first | ((first | ((with_reducible apply wlB); refine hw_box rfl rfl H ?_) | ((with_reducible apply wlA); refine hw_alloc rfl H ?_) | ((with_reducible apply wlS); first | refine hw_store 0 rfl rfl rfl H rfl rfl rfl (by simp) rfl ?_ | refine hw_store 1 rfl rfl rfl H rfl rfl rfl (by simp) rfl ?_ | refine hw_store 2 rfl rfl rfl H rfl rfl rfl (by simp) rfl ?_ | refine hw_store 3 rfl rfl rfl H rfl rfl rfl (by simp) rfl ?_)); clear H; intro w' H; (try simp only [Act.eval, Act.put, Value.cells, segV, seg, segPut, NS, Nat.reduceAdd] at H)) | ((with_reducible apply wlL); (first | apply hw_load 0 rfl rfl H rfl | apply hw_load 1 rfl rfl H rfl | apply hw_load 2 rfl rfl H rfl | apply hw_load 3 rfl rfl H rfl); (focus (simp; done)); (focus (simp only [segV, seg, NS]; rfl))))
  refine (mayBe_any r _).mono ?_; rw [hr]; rintro e w' ⟨rfl, hb⟩; obtain ⟨s1, hs1, H⟩ := H.call hb; clear hb
  go_wp2_with (first | ((first | ((with_reducible apply wlB); refine hw_box rfl rfl H ?_) | ((with_reducible apply wlA); refine hw_alloc rfl H ?_) | ((with_reducible apply wlS); first | refine hw_store 0 rfl rfl rfl H rfl rfl rfl (by simp) rfl ?_ | refine hw_store 1 rfl rfl rfl H rfl rfl rfl (by simp) rfl ?_ | refine hw_store 2 rfl rfl rfl H rfl rfl rfl (by simp) rfl ?_ | refine hw_store 3 rfl rfl rfl H rfl rfl rfl (by simp) rfl ?_)); clear H; intro w' H; (try simp only [Act.eval, Act.put, Value.cells, segV, seg, segPut, NS, Nat.reduceAdd] at H)) | ((with_reducible apply wlL); (first | apply hw_load 0 rfl rfl H rfl | apply hw_load 1 rfl rfl H rfl | apply hw_load 2 rfl rfl H rfl | apply hw_load 3 rfl rfl H rfl); (focus (simp; done)); (focus (simp only [segV, seg, NS]; rfl))))
  refine (load_ok (H.blk _ (.tail _ (.head _))) hd HO.out).mono ?_; rintro e w' ⟨rfl, hb⟩; obtain ⟨s2, hs2, H⟩ := H.call hb; clear hb
  go_wp2_with (first | ((first | ((with_reducible apply wlB); refine hw_box rfl rfl H ?_) | ((with_reducible apply wlA); refine hw_alloc rfl H ?_) | ((with_reducible apply wlS); first | refine hw_store 0 rfl rfl rfl H rfl rfl rfl (by simp) rfl ?_ | refine hw_store 1 rfl rfl rfl H rfl rfl rfl (by simp) rfl ?_ | refine hw_store 2 rfl rfl rfl H rfl rfl rfl (by simp) rfl ?_ | refine hw_store 3 rfl rfl rfl H rfl rfl rfl (by simp) rfl ?_)); clear H; intro w' H; (try simp only [Act.eval, Act.put, Value.cells, segV, seg, segPut, NS, Nat.reduceAdd] at H)) | ((with_reducible apply wlL); (first | apply hw_load 0 rfl rfl H rfl | apply hw_load 1 rfl rfl H rfl | apply hw_load 2 rfl rfl H rfl | apply hw_load 3 rfl rfl H rfl); (focus (simp; done)); (focus (simp only [segV, seg, NS]; rfl))))
  refine (Encode_no r _ (by rw [hr, HS.out]; rfl) _).mono ?_; rintro e w' ⟨rfl, hb⟩; obtain ⟨s3, hs3, H⟩ := H.call hb; clear hb
  go_wp2_with (first | ((first | ((with_reducible apply wlB); refine hw_box rfl rfl H ?_) | ((with_reducible apply wlA); refine hw_alloc rfl H ?_) | ((with_reducible apply wlS); first | refine hw_store 0 rfl rfl rfl H rfl rfl rfl (by simp) rfl ?_ | refine hw_store 1 rfl rfl rfl H rfl rfl rfl (by simp) rfl ?_ | refine hw_store 2 rfl rfl rfl H rfl rfl rfl (by simp) rfl ?_ | refine hw_store 3 rfl rfl rfl H rfl rfl rfl (by simp) rfl ?_)); clear H; intro w' H; (try simp only [Act.eval, Act.put, Value.cells, segV, seg, segPut, NS, Nat.reduceAdd] at H)) | ((with_reducible apply wlL); (first | apply hw_load 0 rfl rfl H rfl | apply hw_load 1 rfl rfl H rfl | apply hw_load 2 rfl rfl H rfl | apply hw_load 3 rfl rfl H rfl); (focus (simp; done)); (focus (simp only [segV, seg, NS]; rfl))))
  exact bodyPost_ret (res1 rfl (rv_tmp rfl)) rfl ⟨_, rfl, H.drop1.drop1⟩
theorem write_on {d : Dsk} (h : d.writeE = 0) (s : Nat) (x : List UInt8) : (d.write s x).off = false := by
  unfold Dsk.writeE at h
  unfold Dsk.write
  split at h
  · omega
  · rename_i ho
    split at h
    · omega
    · rename_i hf
      rw [if_neg ho, if_neg hf]
      simpa using ho
theorem enc_rd {w : World} {b2 : Nat} {t : TypeId} {x : List UInt8} (hB : Blk w b2 t (x.map bv).toArray) (hx : x.length = 64) (o : Nat) (ho : o + 32 ≤ 64) (c : Nat) : Rd w (some ⟨b2, o, none⟩) 32 c 1 (((x.drop o).take 32).map bv) :=
  ⟨by simp [hx]; omega, (fun h => by cases h), cells_of (n := 32) hB (by simp [seg, List.map_take, List.map_drop]), bv_one _⟩
set_option maxRecDepth 100000 in
set_option maxHeartbeats 2000000 in
theorem Save_w (hB : Blk w b tDisk (dskC d)) (hd : d.im.length = 256) (r : Rec) (hr : mayBeB r = true) (ho : d.off = false) (hs : isSeqB ((loadN d.im 2).s + 1) = true) : Calls Tryz.prog 200 #[.pointer (some ⟨b, 0, none⟩), recV r] w (Upd b (.int .i64 (saveM d r).2) (saveM d r).1 w) := by
  rw [show saveM d r = saveW d (whither (loadN d.im 2).at_) (encB r ((loadN d.im 2).s + 1)) by unfold saveM; rw [hr, ho, hs]; rfl]
  obtain ⟨hs0, hs1⟩ := loadN_s d.im
  go_enter Tryz.func200, Tryz.ntmps200
  have H := Hp.own1 w hB
  have HO := Lib.hid ho
  have HS := Lib.hid hs
  clear ho hs
  go_wp2_with (first | ((first | ((with_reducible apply wlB); refine hw_box rfl rfl H ?_) | ((with_reducible apply wlA); refine hw_alloc rfl H ?_) | ((with_reducible apply wlS); first | refine hw_store 0 rfl rfl rfl H rfl rfl rfl (by simp) rfl ?_ | refine hw_store 1 rfl rfl rfl H rfl rfl rfl (by simp) rfl ?_ | refine hw_store 2 rfl rfl rfl H rfl rfl rfl (by simp) rfl ?_ | refine hw_store 3 rfl rfl rfl H rfl rfl rfl (by simp) rfl ?_)); clear H; intro w' H; (try simp only [Act.eval, Act.put, Value.cells, segV, seg, segPut, NS, Nat.reduceAdd] at H)) | ((with_reducible apply wlL); (first | apply hw_load 0 rfl rfl H rfl | apply hw_load 1 rfl rfl H rfl | apply hw_load 2 rfl rfl H rfl | apply hw_load 3 rfl rfl H rfl); (focus (simp; done)); (focus (simp only [segV, seg, NS]; rfl))))
  refine (mayBe_any r _).mono ?_; rw [hr]; rintro e w' ⟨rfl, hb⟩; obtain ⟨s1, hs1, H⟩ := H.call hb; clear hb
  go_wp2_with (first | ((first | ((with_reducible apply wlB); refine hw_box rfl rfl H ?_) | ((with_reducible apply wlA); refine hw_alloc rfl H ?_) | ((with_reducible apply wlS); first | refine hw_store 0 rfl rfl rfl H rfl rfl rfl (by simp) rfl ?_ | refine hw_store 1 rfl rfl rfl H rfl rfl rfl (by simp) rfl ?_ | refine hw_store 2 rfl rfl rfl H rfl rfl rfl (by simp) rfl ?_ | refine hw_store 3 rfl rfl rfl H rfl rfl rfl (by simp) rfl ?_)); clear H; intro w' H; (try simp only [Act.eval, Act.put, Value.cells, segV, seg, segPut, NS, Nat.reduceAdd] at H)) | ((with_reducible apply wlL); (first | apply hw_load 0 rfl rfl H rfl | apply hw_load 1 rfl rfl H rfl | apply hw_load 2 rfl rfl H rfl | apply hw_load 3 rfl rfl H rfl); (focus (simp; done)); (focus (simp only [segV, seg, NS]; rfl))))
  refine (load_ok (H.blk _ (.tail _ (.head _))) hd HO.out).mono ?_; rintro e w' ⟨rfl, hb⟩; obtain ⟨s2, hs2, H⟩ := H.call hb; clear hb
  go_wp2_with (first | ((first | ((with_reducible apply wlB); refine hw_box rfl rfl H ?_) | ((with_reducible apply wlA); refine hw_alloc rfl H ?_) | ((with_reducible apply wlS); first | refine hw_store 0 rfl rfl rfl H rfl rfl rfl (by simp) rfl ?_ | refine hw_store 1 rfl rfl rfl H rfl rfl rfl (by simp) rfl ?_ | refine hw_store 2 rfl rfl rfl H rfl rfl rfl (by simp) rfl ?_ | refine hw_store 3 rfl rfl rfl H rfl rfl rfl (by simp) rfl ?_)); clear H; intro w' H; (try simp only [Act.eval, Act.put, Value.cells, segV, seg, segPut, NS, Nat.reduceAdd] at H)) | ((with_reducible apply wlL); (first | apply hw_load 0 rfl rfl H rfl | apply hw_load 1 rfl rfl H rfl | apply hw_load 2 rfl rfl H rfl | apply hw_load 3 rfl rfl H rfl); (focus (simp; done)); (focus (simp only [segV, seg, NS]; rfl))))
  refine (Encode_ok r _ hr HS.out _).mono ?_; rintro e w' ⟨s3, b2, rfl, H1⟩; obtain ⟨hs3, H⟩ := H.fresh H1; clear H1
  simp only [List.cons_append, List.nil_append] at H
  replace H := H.drop1.drop1
  have hlen := encB_len r ((loadN d.im 2).s + 1)
  have HL := Lib.hid hlen
  generalize encB r ((loadN d.im 2).s + 1) = x at *
  have hne : b2 ≠ b := fun e => by have := H.nodup; simp [e] at this
  by_cases hat : (loadN d.im 2).at_ = 0
  · have hwh := Lib.hid (show whither (loadN d.im 2).at_ = 1 from if_pos hat)
    have hq : ((loadN d.im 2).at_ == 0) = true := by simp [hat]
    clear hlen
    go_wp2_with (first | ((first | ((with_reducible apply wlB); refine hw_box rfl rfl H ?_) | ((with_reducible apply wlA); refine hw_alloc rfl H ?_) | ((with_reducible apply wlS); first | refine hw_store 0 rfl rfl rfl H rfl rfl rfl (by simp) rfl ?_ | refine hw_store 1 rfl rfl rfl H rfl rfl rfl (by simp) rfl ?_ | refine hw_store 2 rfl rfl rfl H rfl rfl rfl (by simp) rfl ?_ | refine hw_store 3 rfl rfl rfl H rfl rfl rfl (by simp) rfl ?_)); clear H; intro w' H; (try simp only [Act.eval, Act.put, Value.cells, segV, seg, segPut, NS, Nat.reduceAdd] at H)) | ((with_reducible apply wlL); (first | apply hw_load 0 rfl rfl H rfl | apply hw_load 1 rfl rfl H rfl | apply hw_load 2 rfl rfl H rfl | apply hw_load 3 rfl rfl H rfl); (focus (simp; done)); (focus (simp only [segV, seg, NS]; rfl))))
    refine wp_loop_rounds 3 ?_
    rw [rounds_succ]
    go_wp2_with (first | ((first | ((with_reducible apply wlB); refine hw_box rfl rfl H ?_) | ((with_reducible apply wlA); refine hw_alloc rfl H ?_) | ((with_reducible apply wlS); first | refine hw_store 0 rfl rfl rfl H rfl rfl rfl (by simp) rfl ?_ | refine hw_store 1 rfl rfl rfl H rfl rfl rfl (by simp) rfl ?_ | refine hw_store 2 rfl rfl rfl H rfl rfl rfl (by simp) rfl ?_ | refine hw_store 3 rfl rfl rfl H rfl rfl rfl (by simp) rfl ?_)); clear H; intro w' H; (try simp only [Act.eval, Act.put, Value.cells, segV, seg, segPut, NS, Nat.reduceAdd] at H)) | ((with_reducible apply wlL); (first | apply hw_load 0 rfl rfl H rfl | apply hw_load 1 rfl rfl H rfl | apply hw_load 2 rfl rfl H rfl | apply hw_load 3 rfl rfl H rfl); (focus (simp; done)); (focus (simp only [segV, seg, NS]; rfl))))
    refine (Write_on (H.blk _ (.head _)) hd _ (by decide) (by decide) HO.out (enc_rd (H.blk _ (.tail _ (.head _))) HL.out 0 (by decide) _) (fun ad h => by cases h; exact hne)).mono ?_
    rintro e w' ⟨s4, rfl, H1⟩
    replace H := ((H.trans (La := [_]) (pL0 (X := [_, _])) H1 (fun k hk => List.mem_singleton.2 hk)).2.perm (pN0 (X := [_]) (Y := [_])))
    clear H1
    simp only [List.cons_append, List.nil_append] at H
    by_cases he : d.writeE = 0
    · have hSW := Lib.hid ((congrArg (fun z => saveW d z x) hwh.out).trans (show saveW d 1 x = _ from if_pos he))
      have h1 := write_on he (2 * 1) (x.take 32)
      have hd1 := Dsk.write_len hd (show 2 * 1 < 8 by omega) (x := x.take 32) (by simp [HL.out])
      have HO1 := Lib.hid h1
      rw [he]
      clear he h1
      generalize hD1 : d.write (2 * 1) (x.take 32) = d1 at *
      replace H : Hp (fun k => k = b) w w' s4 [(b, tDisk, dskC d1), (b2, 325, (x.map bv).toArray)] [] := by rw [← hD1]; exact H
      clear hD1
      go_wp2_with (first | ((first | ((with_reducible apply wlB); refine hw_box rfl rfl H ?_) | ((with_reducible apply wlA); refine hw_alloc rfl H ?_) | ((with_reducible apply wlS); first | refine hw_store 0 rfl rfl rfl H rfl rfl rfl (by simp) rfl ?_ | refine hw_store 1 rfl rfl rfl H rfl rfl rfl (by simp) rfl ?_ | refine hw_store 2 rfl rfl rfl H rfl rfl rfl (by simp) rfl ?_ | refine hw_store 3 rfl rfl rfl H rfl rfl rfl (by simp) rfl ?_)); clear H; intro w' H; (try simp only [Act.eval, Act.put, Value.cells, segV, seg, segPut, NS, Nat.reduceAdd] at H)) | ((with_reducible apply wlL); (first | apply hw_load 0 rfl rfl H rfl | apply hw_load 1 rfl rfl H rfl | apply hw_load 2 rfl rfl H rfl | apply hw_load 3 rfl rfl H rfl); (focus (simp; done)); (focus (simp only [segV, seg, NS]; rfl))))
      rw [rounds_succ]
      go_wp2_with (first | ((first | ((with_reducible apply wlB); refine hw_box rfl rfl H ?_) | ((with_reducible apply wlA); refine hw_alloc rfl H ?_) | ((with_reducible apply wlS); first | refine hw_store 0 rfl rfl rfl H rfl rfl rfl (by simp) rfl ?_ | refine hw_store 1 rfl rfl rfl H rfl rfl rfl (by simp) rfl ?_ | refine hw_store 2 rfl rfl rfl H rfl rfl rfl (by simp) rfl ?_ | refine hw_store 3 rfl rfl rfl H rfl rfl rfl (by simp) rfl ?_)); clear H; intro w' H; (try simp only [Act.eval, Act.put, Value.cells, segV, seg, segPut, NS, Nat.reduceAdd] at H)) | ((with_reducible apply wlL); (first | apply hw_load 0 rfl rfl H rfl | apply hw_load 1 rfl rfl H rfl | apply hw_load 2 rfl rfl H rfl | apply hw_load 3 rfl rfl H rfl); (focus (simp; done)); (focus (simp only [segV, seg, NS]; rfl))))
      refine (Write_on (H.blk _ (.head _)) hd1 _ (by decide) (by decide) HO1.out (enc_rd (H.blk _ (.tail _ (.head _))) HL.out 32 (by decide) _) (fun ad h => by cases h; exact hne)).mono ?_
      rintro e w' ⟨s5, rfl, H1⟩
      replace H := ((H.trans (La := [_]) (pL0 (X := [_, _])) H1 (fun k hk => List.mem_singleton.2 hk)).2.perm (pN0 (X := [_]) (Y := [_])))
      clear H1
      simp only [List.cons_append, List.nil_append] at H
      rw [show (x.drop 32).take 32 = x.drop 32 from List.take_of_length_le (by simp [HL.out])] at H
      by_cases he : d1.writeE = 0
      · have he' := he
        rw [he]
        clear he
        go_wp2_with (first | ((first | ((with_reducible apply wlB); refine hw_box rfl rfl H ?_) | ((with_reducible apply wlA); refine hw_alloc rfl H ?_) | ((with_reducible apply wlS); first | refine hw_store 0 rfl rfl rfl H rfl rfl rfl (by simp) rfl ?_ | refine hw_store 1 rfl rfl rfl H rfl rfl rfl (by simp) rfl ?_ | refine hw_store 2 rfl rfl rfl H rfl rfl rfl (by simp) rfl ?_ | refine hw_store 3 rfl rfl rfl H rfl rfl rfl (by simp) rfl ?_)); clear H; intro w' H; (try simp only [Act.eval, Act.put, Value.cells, segV, seg, segPut, NS, Nat.reduceAdd] at H)) | ((with_reducible apply wlL); (first | apply hw_load 0 rfl rfl H rfl | apply hw_load 1 rfl rfl H rfl | apply hw_load 2 rfl rfl H rfl | apply hw_load 3 rfl rfl H rfl); (focus (simp; done)); (focus (simp only [segV, seg, NS]; rfl))))
        rw [rounds_succ]
        go_wp2_with (first | ((first | ((with_reducible apply wlB); refine hw_box rfl rfl H ?_) | ((with_reducible apply wlA); refine hw_alloc rfl H ?_) | ((with_reducible apply wlS); first | refine hw_store 0 rfl rfl rfl H rfl rfl rfl (by simp) rfl ?_ | refine hw_store 1 rfl rfl rfl H rfl rfl rfl (by simp) rfl ?_ | refine hw_store 2 rfl rfl rfl H rfl rfl rfl (by simp) rfl ?_ | refine hw_store 3 rfl rfl rfl H rfl rfl rfl (by simp) rfl ?_)); clear H; intro w' H; (try simp only [Act.eval, Act.put, Value.cells, segV, seg, segPut, NS, Nat.reduceAdd] at H)) | ((with_reducible apply wlL); (first | apply hw_load 0 rfl rfl H rfl | apply hw_load 1 rfl rfl H rfl | apply hw_load 2 rfl rfl H rfl | apply hw_load 3 rfl rfl H rfl); (focus (simp; done)); (focus (simp only [segV, seg, NS]; rfl))))
        exact bodyPost_ret (res1 rfl (rv_tmp rfl)) rfl ⟨_, by rw [hSW.out]; simp [he'], by rw [hSW.out]; exact H.tk 1⟩
      · have hq : (d1.writeE != 0) = true := by simp [he]
        go_wp2_with (first | ((first | ((with_reducible apply wlB); refine hw_box rfl rfl H ?_) | ((with_reducible apply wlA); refine hw_alloc rfl H ?_) | ((with_reducible apply wlS); first | refine hw_store 0 rfl rfl rfl H rfl rfl rfl (by simp) rfl ?_ | refine hw_store 1 rfl rfl rfl H rfl rfl rfl (by simp) rfl ?_ | refine hw_store 2 rfl rfl rfl H rfl rfl rfl (by simp) rfl ?_ | refine hw_store 3 rfl rfl rfl H rfl rfl rfl (by simp) rfl ?_)); clear H; intro w' H; (try simp only [Act.eval, Act.put, Value.cells, segV, seg, segPut, NS, Nat.reduceAdd] at H)) | ((with_reducible apply wlL); (first | apply hw_load 0 rfl rfl H rfl | apply hw_load 1 rfl rfl H rfl | apply hw_load 2 rfl rfl H rfl | apply hw_load 3 rfl rfl H rfl); (focus (simp; done)); (focus (simp only [segV, seg, NS]; rfl))))
        exact bodyPost_ret (res1 rfl (rv_tmp rfl)) rfl ⟨_, by rw [hSW.out]; rfl, by rw [hSW.out]; exact H.tk 1⟩
    · have hSW := Lib.hid ((congrArg (fun z => saveW d z x) hwh.out).trans (show saveW d 1 x = _ from if_neg he))
      have hq : (d.writeE != 0) = true := by simp [he]
      go_wp2_with (first | ((first | ((with_reducible apply wlB); refine hw_box rfl rfl H ?_) | ((with_reducible apply wlA); refine hw_alloc rfl H ?_) | ((with_reducible apply wlS); first | refine hw_store 0 rfl rfl rfl H rfl rfl rfl (by simp) rfl ?_ | refine hw_store 1 rfl rfl rfl H rfl rfl rfl (by simp) rfl ?_ | refine hw_store 2 rfl rfl rfl H rfl rfl rfl (by simp) rfl ?_ | refine hw_store 3 rfl rfl rfl H rfl rfl rfl (by simp) rfl ?_)); clear H; intro w' H; (try simp only [Act.eval, Act.put, Value.cells, segV, seg, segPut, NS, Nat.reduceAdd] at H)) | ((with_reducible apply wlL); (first | apply hw_load 0 rfl rfl H rfl | apply hw_load 1 rfl rfl H rfl | apply hw_load 2 rfl rfl H rfl | apply hw_load 3 rfl rfl H rfl); (focus (simp; done)); (focus (simp only [segV, seg, NS]; rfl))))
      exact bodyPost_ret (res1 rfl (rv_tmp rfl)) rfl ⟨_, by rw [hSW.out]; rfl, by rw [hSW.out]; exact H.tk 1⟩
  · have hwh := Lib.hid (show whither (loadN d.im 2).at_ = 0 from if_neg hat)
    have hq : ((loadN d.im 2).at_ == 0) = false := by simp [hat]
    clear hlen
    go_wp2_with (first | ((first | ((with_reducible apply wlB); refine hw_box rfl rfl H ?_) | ((with_reducible apply wlA); refine hw_alloc rfl H ?_) | ((with_reducible apply wlS); first | refine hw_store 0 rfl rfl rfl H rfl rfl rfl (by simp) rfl ?_ | refine hw_store 1 rfl rfl rfl H rfl rfl rfl (by simp) rfl ?_ | refine hw_store 2 rfl rfl rfl H rfl rfl rfl (by simp) rfl ?_ | refine hw_store 3 rfl rfl rfl H rfl rfl rfl (by simp) rfl ?_)); clear H; intro w' H; (try simp only [Act.eval, Act.put, Value.cells, segV, seg, segPut, NS, Nat.reduceAdd] at H)) | ((with_reducible apply wlL); (first | apply hw_load 0 rfl rfl H rfl | apply hw_load 1 rfl rfl H rfl | apply hw_load 2 rfl rfl H rfl | apply hw_load 3 rfl rfl H rfl); (focus (simp; done)); (focus (simp only [segV, seg, NS]; rfl))))
    refine wp_loop_rounds 3 ?_
    rw [rounds_succ]
    go_wp2_with (first | ((first | ((with_reducible apply wlB); refine hw_box rfl rfl H ?_) | ((with_reducible apply wlA); refine hw_alloc rfl H ?_) | ((with_reducible apply wlS); first | refine hw_store 0 rfl rfl rfl H rfl rfl rfl (by simp) rfl ?_ | refine hw_store 1 rfl rfl rfl H rfl rfl rfl (by simp) rfl ?_ | refine hw_store 2 rfl rfl rfl H rfl rfl rfl (by simp) rfl ?_ | refine hw_store 3 rfl rfl rfl H rfl rfl rfl (by simp) rfl ?_)); clear H; intro w' H; (try simp only [Act.eval, Act.put, Value.cells, segV, seg, segPut, NS, Nat.reduceAdd] at H)) | ((with_reducible apply wlL); (first | apply hw_load 0 rfl rfl H rfl | apply hw_load 1 rfl rfl H rfl | apply hw_load 2 rfl rfl H rfl | apply hw_load 3 rfl rfl H rfl); (focus (simp; done)); (focus (simp only [segV, seg, NS]; rfl))))
    refine (Write_on (H.blk _ (.head _)) hd _ (by decide) (by decide) HO.out (enc_rd (H.blk _ (.tail _ (.head _))) HL.out 0 (by decide) _) (fun ad h => by cases h; exact hne)).mono ?_
    rintro e w' ⟨s4, rfl, H1⟩
    replace H := ((H.trans (La := [_]) (pL0 (X := [_, _])) H1 (fun k hk => List.mem_singleton.2 hk)).2.perm (pN0 (X := [_]) (Y := [_])))
    clear H1
    simp only [List.cons_append, List.nil_append] at H
    by_cases he : d.writeE = 0
    · have hSW := Lib.hid ((congrArg (fun z => saveW d z x) hwh.out).trans (show saveW d 0 x = _ from if_pos he))
      have h1 := write_on he (2 * 0) (x.take 32)
      have hd1 := Dsk.write_len hd (show 2 * 0 < 8 by omega) (x := x.take 32) (by simp [HL.out])
      have HO1 := Lib.hid h1
      rw [he]
      clear he h1
      generalize hD1 : d.write (2 * 0) (x.take 32) = d1 at *
      replace H : Hp (fun k => k = b) w w' s4 [(b, tDisk, dskC d1), (b2, 325, (x.map bv).toArray)] [] := by rw [← hD1]; exact H
      clear hD1
      go_wp2_with (first | ((first | ((with_reducible apply wlB); refine hw_box rfl rfl H ?_) | ((with_reducible apply wlA); refine hw_alloc rfl H ?_) | ((with_reducible apply wlS); first | refine hw_store 0 rfl rfl rfl H rfl rfl rfl (by simp) rfl ?_ | refine hw_store 1 rfl rfl rfl H rfl rfl rfl (by simp) rfl ?_ | refine hw_store 2 rfl rfl rfl H rfl rfl rfl (by simp) rfl ?_ | refine hw_store 3 rfl rfl rfl H rfl rfl rfl (by simp) rfl ?_)); clear H; intro w' H; (try simp only [Act.eval, Act.put, Value.cells, segV, seg, segPut, NS, Nat.reduceAdd] at H)) | ((with_reducible apply wlL); (first | apply hw_load 0 rfl rfl H rfl | apply hw_load 1 rfl rfl H rfl | apply hw_load 2 rfl rfl H rfl | apply hw_load 3 rfl rfl H rfl); (focus (simp; done)); (focus (simp only [segV, seg, NS]; rfl))))
      rw [rounds_succ]
      go_wp2_with (first | ((first | ((with_reducible apply wlB); refine hw_box rfl rfl H ?_) | ((with_reducible apply wlA); refine hw_alloc rfl H ?_) | ((with_reducible apply wlS); first | refine hw_store 0 rfl rfl rfl H rfl rfl rfl (by simp) rfl ?_ | refine hw_store 1 rfl rfl rfl H rfl rfl rfl (by simp) rfl ?_ | refine hw_store 2 rfl rfl rfl H rfl rfl rfl (by simp) rfl ?_ | refine hw_store 3 rfl rfl rfl H rfl rfl rfl (by simp) rfl ?_)); clear H; intro w' H; (try simp only [Act.eval, Act.put, Value.cells, segV, seg, segPut, NS, Nat.reduceAdd] at H)) | ((with_reducible apply wlL); (first | apply hw_load 0 rfl rfl H rfl | apply hw_load 1 rfl rfl H rfl | apply hw_load 2 rfl rfl H rfl | apply hw_load 3 rfl rfl H rfl); (focus (simp; done)); (focus (simp only [segV, seg, NS]; rfl))))
      refine (Write_on (H.blk _ (.head _)) hd1 _ (by decide) (by decide) HO1.out (enc_rd (H.blk _ (.tail _ (.head _))) HL.out 32 (by decide) _) (fun ad h => by cases h; exact hne)).mono ?_
      rintro e w' ⟨s5, rfl, H1⟩
      replace H := ((H.trans (La := [_]) (pL0 (X := [_, _])) H1 (fun k hk => List.mem_singleton.2 hk)).2.perm (pN0 (X := [_]) (Y := [_])))
      clear H1
      simp only [List.cons_append, List.nil_append] at H
      rw [show (x.drop 32).take 32 = x.drop 32 from List.take_of_length_le (by simp [HL.out])] at H
      by_cases he : d1.writeE = 0
      · have he' := he
        rw [he]
        clear he
        go_wp2_with (first | ((first | ((with_reducible apply wlB); refine hw_box rfl rfl H ?_) | ((with_reducible apply wlA); refine hw_alloc rfl H ?_) | ((with_reducible apply wlS); first | refine hw_store 0 rfl rfl rfl H rfl rfl rfl (by simp) rfl ?_ | refine hw_store 1 rfl rfl rfl H rfl rfl rfl (by simp) rfl ?_ | refine hw_store 2 rfl rfl rfl H rfl rfl rfl (by simp) rfl ?_ | refine hw_store 3 rfl rfl rfl H rfl rfl rfl (by simp) rfl ?_)); clear H; intro w' H; (try simp only [Act.eval, Act.put, Value.cells, segV, seg, segPut, NS, Nat.reduceAdd] at H)) | ((with_reducible apply wlL); (first | apply hw_load 0 rfl rfl H rfl | apply hw_load 1 rfl rfl H rfl | apply hw_load 2 rfl rfl H rfl | apply hw_load 3 rfl rfl H rfl); (focus (simp; done)); (focus (simp only [segV, seg, NS]; rfl))))
        rw [rounds_succ]
        go_wp2_with (first | ((first | ((with_reducible apply wlB); refine hw_box rfl rfl H ?_) | ((with_reducible apply wlA); refine hw_alloc rfl H ?_) | ((with_reducible apply wlS); first | refine hw_store 0 rfl rfl rfl H rfl rfl rfl (by simp) rfl ?_ | refine hw_store 1 rfl rfl rfl H rfl rfl rfl (by simp) rfl ?_ | refine hw_store 2 rfl rfl rfl H rfl rfl rfl (by simp) rfl ?_ | refine hw_store 3 rfl rfl rfl H rfl rfl rfl (by simp) rfl ?_)); clear H; intro w' H; (try simp only [Act.eval, Act.put, Value.cells, segV, seg, segPut, NS, Nat.reduceAdd] at H)) | ((with_reducible apply wlL); (first | apply hw_load 0 rfl rfl H rfl | apply hw_load 1 rfl rfl H rfl | apply hw_load 2 rfl rfl H rfl | apply hw_load 3 rfl rfl H rfl); (focus (simp; done)); (focus (simp only [segV, seg, NS]; rfl))))
        exact bodyPost_ret (res1 rfl (rv_tmp rfl)) rfl ⟨_, by rw [hSW.out]; simp [he'], by rw [hSW.out]; exact H.tk 1⟩
      · have hq : (d1.writeE != 0) = true := by simp [he]
        go_wp2_with (first | ((first | ((with_reducible apply wlB); refine hw_box rfl rfl H ?_) | ((with_reducible apply wlA); refine hw_alloc rfl H ?_) | ((with_reducible apply wlS); first | refine hw_store 0 rfl rfl rfl H rfl rfl rfl (by simp) rfl ?_ | refine hw_store 1 rfl rfl rfl H rfl rfl rfl (by simp) rfl ?_ | refine hw_store 2 rfl rfl rfl H rfl rfl rfl (by simp) rfl ?_ | refine hw_store 3 rfl rfl rfl H rfl rfl rfl (by simp) rfl ?_)); clear H; intro w' H; (try simp only [Act.eval, Act.put, Value.cells, segV, seg, segPut, NS, Nat.reduceAdd] at H)) | ((with_reducible apply wlL); (first | apply hw_load 0 rfl rfl H rfl | apply hw_load 1 rfl rfl H rfl | apply hw_load 2 rfl rfl H rfl | apply hw_load 3 rfl rfl H rfl); (focus (simp; done)); (focus (simp only [segV, seg, NS]; rfl))))
        exact bodyPost_ret (res1 rfl (rv_tmp rfl)) rfl ⟨_, by rw [hSW.out]; rfl, by rw [hSW.out]; exact H.tk 1⟩
    · have hSW := Lib.hid ((congrArg (fun z => saveW d z x) hwh.out).trans (show saveW d 0 x = _ from if_neg he))
      have hq : (d.writeE != 0) = true := by simp [he]
      go_wp2_with (first | ((first | ((with_reducible apply wlB); refine hw_box rfl rfl H ?_) | ((with_reducible apply wlA); refine hw_alloc rfl H ?_) | ((with_reducible apply wlS); first | refine hw_store 0 rfl rfl rfl H rfl rfl rfl (by simp) rfl ?_ | refine hw_store 1 rfl rfl rfl H rfl rfl rfl (by simp) rfl ?_ | refine hw_store 2 rfl rfl rfl H rfl rfl rfl (by simp) rfl ?_ | refine hw_store 3 rfl rfl rfl H rfl rfl rfl (by simp) rfl ?_)); clear H; intro w' H; (try simp only [Act.eval, Act.put, Value.cells, segV, seg, segPut, NS, Nat.reduceAdd] at H)) | ((with_reducible apply wlL); (first | apply hw_load 0 rfl rfl H rfl | apply hw_load 1 rfl rfl H rfl | apply hw_load 2 rfl rfl H rfl | apply hw_load 3 rfl rfl H rfl); (focus (simp; done)); (focus (simp only [segV, seg, NS]; rfl))))
      exact bodyPost_ret (res1 rfl (rv_tmp rfl)) rfl ⟨_, by rw [hSW.out]; rfl, by rw [hSW.out]; exact H.tk 1⟩
theorem Save_any (hB : Blk w b tDisk (dskC d)) (hd : d.im.length = 256) (r : Rec) : Calls Tryz.prog 200 #[.pointer (some ⟨b, 0, none⟩), recV r] w (Upd b (.int .i64 (saveM d r).2) (saveM d r).1 w) := by
  rcases Bool.eq_false_or_eq_true (mayBeB r) with hr | hr
  · rcases Bool.eq_false_or_eq_true d.off with ho | ho
    · exact Save_off hB hd r hr ho
    · rcases Bool.eq_false_or_eq_true (isSeqB ((loadN d.im 2).s + 1)) with hs | hs
      · exact Save_w hB hd r hr ho hs
      · exact Save_end hB hd r hr ho hs
  · exact Save_no hB hd r hr
end
end Go.Proofs.YtccgpjhgfjfaoaaGreatDoor
/- boot: small methods and closures. -/
namespace Go.Proofs.YtccgpjhgfjfaoaaGreatDoor
open Go.RowKit

structure Bt where
  rec_ : Rec
  round : Int
  tag : Int
abbrev tBoot : TypeId := 120
abbrev tRec : TypeId := 116
abbrev recC (r : Rec) : Array Value := #[.int .i64 r.life, .int .i64 r.round, .int .i64 r.tag]
abbrev bootC (B : Bt) (pd : Nat) : Array Value := #[.int .i64 B.rec_.life, .int .i64 B.rec_.round, .int .i64 B.rec_.tag, .int .i64 B.round, .int .i64 B.tag, pV pd]
abbrev resvV (B : Bt) : Value := .agg #[.int .i64 B.rec_.life, .int .i64 B.rec_.round, .int .i64 B.rec_.tag, .int .i64 B.round, .int .i64 B.tag]
structure okRec (r : Rec) : Prop where
  l0 : 0 ≤ r.life
  l1 : r.life ≤ 1073741824
  r0 : 0 ≤ r.round
  r1 : r.round ≤ 1099511627775
  t0 : 0 ≤ r.tag
  t1 : r.tag ≤ 1048576
instance iBoot1_1 : Ty Tryz.prog 120 true 6 := ⟨fun _ => by kernel_rfl, fun _ => by kernel_rfl, fun h => by cases h⟩
instance iBoot1_2 : Ty Tryz.prog 118 true 5 := ⟨fun _ => by kernel_rfl, fun _ => by kernel_rfl, fun h => by cases h⟩
instance iBoot1_3 : Ty Tryz.prog 65 false 1 := ⟨fun _ => by kernel_rfl, fun _ => by kernel_rfl, fun _ => rfl⟩
def openU (r : Rec) : Rec := ⟨r.life + 1, if 1099511627775 < r.round + 16 then 1099511627775 else r.round + 16, if 1048576 < r.tag + 4 then 1048576 else r.tag + 4⟩
def nextU (r : Rec) : Rec := { r with round := if 1099511627775 < r.round + 16 then 1099511627775 else r.round + 16 }
def raiseU (t : Int) (r : Rec) : Rec := { r with tag := if 1048576 < t + 4 - 1 then 1048576 else t + 4 - 1 }
section
variable {w : World} {b pd : Nat} {B : Bt}
set_option maxRecDepth 100000 in
set_option maxHeartbeats 2000000 in
theorem Life_any (hB : Blk w b tBoot (bootC B pd)) : Calls Tryz.prog 40 #[pV b] w (Ret (.int .i64 B.rec_.life) w) := by
  go_enter Tryz.func40, Tryz.ntmps40
  have H := (Hp.start NoS w).addR hB id
  go_wp2_with (first | ((with_reducible apply wlL); apply hw_loadR 0 rfl rfl H rfl; (focus (simp; done)); (focus (simp only [segV, seg, NS]; rfl))))
  exact bodyPost_ret (res1 rfl (rv_tmp rfl)) rfl ⟨rfl, H.ret⟩
set_option maxRecDepth 100000 in
set_option maxHeartbeats 2000000 in
theorem Tag_any (hB : Blk w b tBoot (bootC B pd)) : Calls Tryz.prog 42 #[pV b] w (Ret (.int .i64 B.tag) w) := by
  go_enter Tryz.func42, Tryz.ntmps42
  have H := (Hp.start NoS w).addR hB id
  go_wp2_with (first | ((with_reducible apply wlL); apply hw_loadR 0 rfl rfl H rfl; (focus (simp; done)); (focus (simp only [segV, seg, NS]; rfl))))
  exact bodyPost_ret (res1 rfl (rv_tmp rfl)) rfl ⟨rfl, H.ret⟩
set_option maxRecDepth 100000 in
set_option maxHeartbeats 2000000 in
theorem Durable_any (hB : Blk w b tBoot (bootC B pd)) : Calls Tryz.prog 130 #[pV b] w (Ret (recV B.rec_) w) := by
  go_enter Tryz.func130, Tryz.ntmps130
  have H := (Hp.start NoS w).addR hB id
  go_wp2_with (first | ((with_reducible apply wlL); apply hw_loadR 0 rfl rfl H rfl; (focus (simp; done)); (focus (simp only [segV, seg, NS]; rfl))) | ((first | ((with_reducible apply wlB); refine hw_box rfl rfl H ?_) | ((with_reducible apply wlA); refine hw_alloc rfl H ?_) | ((with_reducible apply wlS); first | refine hw_store 0 rfl rfl rfl H rfl rfl rfl (by simp) rfl ?_ | refine hw_store 1 rfl rfl rfl H rfl rfl rfl (by simp) rfl ?_ | refine hw_store 2 rfl rfl rfl H rfl rfl rfl (by simp) rfl ?_ | refine hw_store 3 rfl rfl rfl H rfl rfl rfl (by simp) rfl ?_)); clear H; intro w' H; (try simp only [Act.eval, Act.put, Value.cells, segV, seg, segPut, NS, Nat.reduceAdd] at H)) | ((with_reducible apply wlL); (first | apply hw_load 0 rfl rfl H rfl | apply hw_load 1 rfl rfl H rfl | apply hw_load 2 rfl rfl H rfl | apply hw_load 3 rfl rfl H rfl); (focus (simp; done)); (focus (simp only [segV, seg, NS]; rfl))))
  exact bodyPost_ret (res1 rfl (rv_cell 0 rfl H rfl (Nat.le_of_ble_eq_true rfl))) rfl ⟨by simp [segV, seg], H.ret⟩
set_option maxRecDepth 100000 in
set_option maxHeartbeats 2000000 in
theorem used_any (w : World) : Calls Tryz.prog 157 #[resvV B] w (Ret (.bool (B.round == B.rec_.round)) w) := by
  go_enter Tryz.func157, Tryz.ntmps157
  have H := Hp.start NoS w
  go_wp2_with (first | ((first | ((with_reducible apply wlB); refine hw_box rfl rfl H ?_) | ((with_reducible apply wlA); refine hw_alloc rfl H ?_) | ((with_reducible apply wlS); first | refine hw_store 0 rfl rfl rfl H rfl rfl rfl (by simp) rfl ?_ | refine hw_store 1 rfl rfl rfl H rfl rfl rfl (by simp) rfl ?_ | refine hw_store 2 rfl rfl rfl H rfl rfl rfl (by simp) rfl ?_ | refine hw_store 3 rfl rfl rfl H rfl rfl rfl (by simp) rfl ?_)); clear H; intro w' H; (try simp only [Act.eval, Act.put, Value.cells, segV, seg, segPut, NS, Nat.reduceAdd] at H)) | ((with_reducible apply wlL); (first | apply hw_load 0 rfl rfl H rfl | apply hw_load 1 rfl rfl H rfl | apply hw_load 2 rfl rfl H rfl | apply hw_load 3 rfl rfl H rfl); (focus (simp; done)); (focus (simp only [segV, seg, NS]; rfl))))
  exact bodyPost_ret (res1 rfl (rv_tmp rfl)) rfl ⟨rfl, H.ret⟩
set_option maxRecDepth 100000 in
set_option maxHeartbeats 2000000 in
theorem covers_any (t : Int) (w : World) : Calls Tryz.prog 217 #[resvV B, .int .i64 t] w (Ret (.bool (decide (t ≤ B.rec_.tag))) w) := by
  go_enter Tryz.func217, Tryz.ntmps217
  have H := Hp.start NoS w
  go_wp2_with (first | ((first | ((with_reducible apply wlB); refine hw_box rfl rfl H ?_) | ((with_reducible apply wlA); refine hw_alloc rfl H ?_) | ((with_reducible apply wlS); first | refine hw_store 0 rfl rfl rfl H rfl rfl rfl (by simp) rfl ?_ | refine hw_store 1 rfl rfl rfl H rfl rfl rfl (by simp) rfl ?_ | refine hw_store 2 rfl rfl rfl H rfl rfl rfl (by simp) rfl ?_ | refine hw_store 3 rfl rfl rfl H rfl rfl rfl (by simp) rfl ?_)); clear H; intro w' H; (try simp only [Act.eval, Act.put, Value.cells, segV, seg, segPut, NS, Nat.reduceAdd] at H)) | ((with_reducible apply wlL); (first | apply hw_load 0 rfl rfl H rfl | apply hw_load 1 rfl rfl H rfl | apply hw_load 2 rfl rfl H rfl | apply hw_load 3 rfl rfl H rfl); (focus (simp; done)); (focus (simp only [segV, seg, NS]; rfl))))
  exact bodyPost_ret (res1 rfl (rv_tmp rfl)) rfl ⟨rfl, H.ret⟩
set_option maxRecDepth 100000 in
set_option maxHeartbeats 2000000 in
theorem on_any {d : Dsk} (hB : Blk w b tBoot (bootC B pd)) (hD : Blk w pd tDisk (dskC d)) (hd : d.im.length = 256) : Calls Tryz.prog 156 #[pV b] w (Ret (.int .i64 (if d.off then 100 else 0)) w) := by
  rcases Bool.eq_false_or_eq_true d.off with ho | ho
  all_goals
    rw [ho]
    simp only [if_true, Bool.false_eq_true, if_false]
    go_enter Tryz.func156, Tryz.ntmps156
    have H := ((Hp.start NoS w).addR hB id).addR hD id
    go_wp2_with (first | ((with_reducible apply wlL); apply hw_loadR 1 rfl rfl H rfl; (focus (simp; done)); (focus (simp only [segV, seg, NS]; rfl))) | (go_at_call 201; refine (On_any (H.ro _ (.head _)).1 hd).mono ?_; rw [ho]; rintro e w' ⟨rfl, hb⟩; obtain ⟨s1, hs1, H⟩ := H.call hb; clear hb))
    exact bodyPost_ret (res1 rfl (rv_tmp rfl)) rfl ⟨rfl, H.ret⟩
def UpdR (p : Nat) (r : Rec) (w : World) : Ending → World → Prop := fun e w' => ∃ sz, e = .returned (.tuple #[]) ∧ Hp (fun k => k = p) w w' sz [(p, tRec, recC r)] []
variable {p q : Nat} {r r0 : Rec}
set_option maxRecDepth 100000 in
set_option maxHeartbeats 2000000 in
theorem Open1_any (hP : Blk w p tRec (recC r)) (hQ : Blk w q tRec (recC r0)) (hpq : q ≠ p) (ho : okRec r0) : Calls Tryz.prog 155 #[pV p, pV q] w (UpdR p (openU r0) w) := by
  obtain ⟨l0, l1, r0, r1, t0, t1⟩ := ho
  go_enter Tryz.func155, Tryz.ntmps155
  have H := (Hp.own1 w hP).addR hQ hpq
  go_wp2_with (first | ((with_reducible apply wlL); apply hw_loadR 0 rfl rfl H rfl; (focus (simp; done)); (focus (simp only [segV, seg, NS]; rfl))) | ((first | ((with_reducible apply wlB); refine hw_box rfl rfl H ?_) | ((with_reducible apply wlA); refine hw_alloc rfl H ?_) | ((with_reducible apply wlS); first | refine hw_store 0 rfl rfl rfl H rfl rfl rfl (by simp) rfl ?_ | refine hw_store 1 rfl rfl rfl H rfl rfl rfl (by simp) rfl ?_ | refine hw_store 2 rfl rfl rfl H rfl rfl rfl (by simp) rfl ?_ | refine hw_store 3 rfl rfl rfl H rfl rfl rfl (by simp) rfl ?_)); clear H; intro w' H; (try simp only [Act.eval, Act.put, Value.cells, segV, seg, segPut, NS, Nat.reduceAdd] at H)) | ((with_reducible apply wlL); (first | apply hw_load 0 rfl rfl H rfl | apply hw_load 1 rfl rfl H rfl | apply hw_load 2 rfl rfl H rfl | apply hw_load 3 rfl rfl H rfl); (focus (simp; done)); (focus (simp only [segV, seg, NS]; rfl))))
  all_goals exact bodyPost_end (v := .tuple #[]) (res0 rfl) rfl ⟨_, rfl, H.noR⟩
set_option maxRecDepth 100000 in
set_option maxHeartbeats 2000000 in
theorem Next1_any (hP : Blk w p tRec (recC r)) (ho : okRec r) : Calls Tryz.prog 158 #[pV p] w (UpdR p (nextU r) w) := by
  obtain ⟨l0, l1, r0, r1, t0, t1⟩ := ho
  go_enter Tryz.func158, Tryz.ntmps158
  have H := Hp.own1 w hP
  go_wp2_with (first | ((first | ((with_reducible apply wlB); refine hw_box rfl rfl H ?_) | ((with_reducible apply wlA); refine hw_alloc rfl H ?_) | ((with_reducible apply wlS); first | refine hw_store 0 rfl rfl rfl H rfl rfl rfl (by simp) rfl ?_ | refine hw_store 1 rfl rfl rfl H rfl rfl rfl (by simp) rfl ?_ | refine hw_store 2 rfl rfl rfl H rfl rfl rfl (by simp) rfl ?_ | refine hw_store 3 rfl rfl rfl H rfl rfl rfl (by simp) rfl ?_)); clear H; intro w' H; (try simp only [Act.eval, Act.put, Value.cells, segV, seg, segPut, NS, Nat.reduceAdd] at H)) | ((with_reducible apply wlL); (first | apply hw_load 0 rfl rfl H rfl | apply hw_load 1 rfl rfl H rfl | apply hw_load 2 rfl rfl H rfl | apply hw_load 3 rfl rfl H rfl); (focus (simp; done)); (focus (simp only [segV, seg, NS]; rfl))))
  all_goals exact bodyPost_end (v := .tuple #[]) (res0 rfl) rfl ⟨_, rfl, H.noR⟩
set_option maxRecDepth 100000 in
set_option maxHeartbeats 2000000 in
theorem Raise1_any {t : Int} (hP : Blk w p tRec (recC r)) (hQ : Blk w q 3 #[.int .i64 t]) (hpq : q ≠ p) (h0 : 0 ≤ t) (h1 : t ≤ 1048576) : Calls Tryz.prog 218 #[pV p, pV q] w (UpdR p (raiseU t r) w) := by
  go_enter Tryz.func218, Tryz.ntmps218
  have H := (Hp.own1 w hP).addR hQ hpq
  go_wp2_with (first | ((with_reducible apply wlL); apply hw_loadR 0 rfl rfl H rfl; (focus (simp; done)); (focus (simp only [segV, seg, NS]; rfl))) | ((first | ((with_reducible apply wlB); refine hw_box rfl rfl H ?_) | ((with_reducible apply wlA); refine hw_alloc rfl H ?_) | ((with_reducible apply wlS); first | refine hw_store 0 rfl rfl rfl H rfl rfl rfl (by simp) rfl ?_ | refine hw_store 1 rfl rfl rfl H rfl rfl rfl (by simp) rfl ?_ | refine hw_store 2 rfl rfl rfl H rfl rfl rfl (by simp) rfl ?_ | refine hw_store 3 rfl rfl rfl H rfl rfl rfl (by simp) rfl ?_)); clear H; intro w' H; (try simp only [Act.eval, Act.put, Value.cells, segV, seg, segPut, NS, Nat.reduceAdd] at H)) | ((with_reducible apply wlL); (first | apply hw_load 0 rfl rfl H rfl | apply hw_load 1 rfl rfl H rfl | apply hw_load 2 rfl rfl H rfl | apply hw_load 3 rfl rfl H rfl); (focus (simp; done)); (focus (simp only [segV, seg, NS]; rfl))))
  all_goals exact bodyPost_end (v := .tuple #[]) (res0 rfl) rfl ⟨_, rfl, H.noR⟩
end
end Go.Proofs.YtccgpjhgfjfaoaaGreatDoor
/- boot: save, Next, Raise. -/
namespace Go.Proofs.YtccgpjhgfjfaoaaGreatDoor
open Go.RowKit

abbrev BD (B : Bt) (d : Dsk) (b pd : Nat) : List Bk := [(b, tBoot, bootC B pd), (pd, tDisk, dskC d)]
def bootSave (B : Bt) (d : Dsk) (r : Rec) : Bt × Dsk × Int := (if (saveM d r).2 = 0 then { B with rec_ := r } else B, (saveM d r).1, (saveM d r).2)
set_option maxRecDepth 100000 in
set_option maxHeartbeats 2000000 in
theorem save_next {w : World} {b pd : Nat} {B : Bt} {d : Dsk}  (H0 : Own w (BD B d b pd)) (hd : d.im.length = 256) (ho : okRec B.rec_) : Calls Tryz.prog 154 #[pV b, .func (.func 158) #[] #[]] w
    (UpdL (BD B d b pd) (BD (bootSave B d (nextU B.rec_)).1 (bootSave B d (nextU B.rec_)).2.1 b pd) (.int .i64 (bootSave B d (nextU B.rec_)).2.2) w) := by
  go_enter Tryz.func154, Tryz.ntmps154
  have H := H0
  unfold Own at H
  skip
  go_wp2_with (first | ((first | ((with_reducible apply wlB); refine hw_box rfl rfl H ?_) | ((with_reducible apply wlA); refine hw_alloc rfl H ?_) | ((with_reducible apply wlS); first | refine hw_store 0 rfl rfl rfl H rfl rfl rfl (by simp) rfl ?_ | refine hw_store 1 rfl rfl rfl H rfl rfl rfl (by simp) rfl ?_ | refine hw_store 2 rfl rfl rfl H rfl rfl rfl (by simp) rfl ?_ | refine hw_store 3 rfl rfl rfl H rfl rfl rfl (by simp) rfl ?_)); clear H; intro w' H; (try simp only [Act.eval, Act.put, Value.cells, segV, seg, segPut, NS, Nat.reduceAdd] at H)) | ((with_reducible apply wlL); (first | apply hw_load 0 rfl rfl H rfl | apply hw_load 1 rfl rfl H rfl | apply hw_load 2 rfl rfl H rfl | apply hw_load 3 rfl rfl H rfl); (focus (simp; done)); (focus (simp only [segV, seg, NS]; rfl))))
  refine (Next1_any (H.blk _ (.head _)) ho).mono ?_; rintro e w' ⟨s1, rfl, H1⟩
  replace H := ((H.trans (La := [_]) (List.Perm.refl _) H1 (fun k hk => List.mem_singleton.2 hk)).2); clear H1; simp only [List.cons_append, List.nil_append] at H
  go_wp2_with (first | ((first | ((with_reducible apply wlB); refine hw_box rfl rfl H ?_) | ((with_reducible apply wlA); refine hw_alloc rfl H ?_) | ((with_reducible apply wlS); first | refine hw_store 0 rfl rfl rfl H rfl rfl rfl (by simp) rfl ?_ | refine hw_store 1 rfl rfl rfl H rfl rfl rfl (by simp) rfl ?_ | refine hw_store 2 rfl rfl rfl H rfl rfl rfl (by simp) rfl ?_ | refine hw_store 3 rfl rfl rfl H rfl rfl rfl (by simp) rfl ?_)); clear H; intro w' H; (try simp only [Act.eval, Act.put, Value.cells, segV, seg, segPut, NS, Nat.reduceAdd] at H)) | ((with_reducible apply wlL); (first | apply hw_load 0 rfl rfl H rfl | apply hw_load 1 rfl rfl H rfl | apply hw_load 2 rfl rfl H rfl | apply hw_load 3 rfl rfl H rfl); (focus (simp; done)); (focus (simp only [segV, seg, NS]; rfl))))
  (try simp only [Act.eval, Act.put, Value.cells, segV, seg, segPut, NS, Nat.reduceAdd])
  refine region_det 5 (HpX _ _ _ _ _) rfl (by kernel_rfl) ⟨_, Nat.le_refl _, H.drew⟩ ?_; clear H; simp only [List.take_succ_cons, List.take_zero, List.drop_succ_cons, List.drop_zero]
  repeat (first | (apply det_op rfl; (focus (rintro w' ⟨s1, hs1, H⟩; go_wp2_with (first | ((with_reducible apply wlL); apply hw_load 0 rfl rfl H rfl; (focus (simp; done)); (focus (simp only [segV, seg, NS]; rfl))) | ((with_reducible apply wlL); apply hw_load 1 rfl rfl H rfl; (focus (simp; done)); (focus (simp only [segV, seg, NS]; rfl))) | ((with_reducible apply wlL); apply hw_load 2 rfl rfl H rfl; (focus (simp; done)); (focus (simp only [segV, seg, NS]; rfl)))); refine ⟨rfl, rfl, ?_, _, by omega, H⟩; (first | (simp only [SlotIs, Array.getD_eq_getD_getElem?, List.getElem?_toArray, List.getElem?_cons_succ, List.getElem?_cons_zero, Option.getD_some]; exact rfl) | exact rfl))); (try simp only [Act.put, List.setIfInBounds_toArray, List.set_cons_zero, List.set_cons_succ])) | (apply det_skip rfl; (try simp only [Act.put, List.setIfInBounds_toArray, List.set_cons_zero, List.set_cons_succ])))
  rintro w' ⟨s4, hs4, H⟩; (try simp only [Act.eval, Act.put, Value.cells, segV, seg, segPut, NS, Nat.reduceAdd])
  go_wp2_with (first | ((first | ((with_reducible apply wlB); refine hw_box rfl rfl H ?_) | ((with_reducible apply wlA); refine hw_alloc rfl H ?_) | ((with_reducible apply wlS); first | refine hw_store 0 rfl rfl rfl H rfl rfl rfl (by simp) rfl ?_ | refine hw_store 1 rfl rfl rfl H rfl rfl rfl (by simp) rfl ?_ | refine hw_store 2 rfl rfl rfl H rfl rfl rfl (by simp) rfl ?_ | refine hw_store 3 rfl rfl rfl H rfl rfl rfl (by simp) rfl ?_)); clear H; intro w' H; (try simp only [Act.eval, Act.put, Value.cells, segV, seg, segPut, NS, Nat.reduceAdd] at H)) | ((with_reducible apply wlL); (first | apply hw_load 0 rfl rfl H rfl | apply hw_load 1 rfl rfl H rfl | apply hw_load 2 rfl rfl H rfl | apply hw_load 3 rfl rfl H rfl); (focus (simp; done)); (focus (simp only [segV, seg, NS]; rfl))))
  refine (Save_any (H.blk _ (.tail _ (.head _))) hd _).mono ?_; rintro e w' ⟨s2, rfl, H1⟩
  replace H := ((H.trans (La := [_]) (pF1 (X := [_])) H1 (fun k hk => List.mem_singleton.2 hk)).2); clear H1; simp only [List.cons_append, List.nil_append] at H
  by_cases he : (saveM d (nextU B.rec_)).2 = 0
  · have hS := Lib.hid (show bootSave B d (nextU B.rec_) = ({ B with rec_ := (nextU B.rec_) }, (saveM d (nextU B.rec_)).1, 0) by unfold bootSave; rw [if_pos he, he])
    rw [show (saveM d _).2 = 0 from he]
    clear he
    go_wp2_with (first | ((first | ((with_reducible apply wlB); refine hw_box rfl rfl H ?_) | ((with_reducible apply wlA); refine hw_alloc rfl H ?_) | ((with_reducible apply wlS); first | refine hw_store 0 rfl rfl rfl H rfl rfl rfl (by simp) rfl ?_ | refine hw_store 1 rfl rfl rfl H rfl rfl rfl (by simp) rfl ?_ | refine hw_store 2 rfl rfl rfl H rfl rfl rfl (by simp) rfl ?_ | refine hw_store 3 rfl rfl rfl H rfl rfl rfl (by simp) rfl ?_)); clear H; intro w' H; (try simp only [Act.eval, Act.put, Value.cells, segV, seg, segPut, NS, Nat.reduceAdd] at H)) | ((with_reducible apply wlL); (first | apply hw_load 0 rfl rfl H rfl | apply hw_load 1 rfl rfl H rfl | apply hw_load 2 rfl rfl H rfl | apply hw_load 3 rfl rfl H rfl); (focus (simp; done)); (focus (simp only [segV, seg, NS]; rfl))))
    exact bodyPost_ret (res1 rfl (rv_tmp rfl)) rfl ⟨_, by rw [hS.out]; rfl, by rw [hS.out]; exact (H.sub (.cons_cons _ (.cons _ (List.Sublist.refl _)))).noR⟩
  · have hS := Lib.hid (show bootSave B d (nextU B.rec_) = (B, (saveM d (nextU B.rec_)).1, (saveM d (nextU B.rec_)).2) by unfold bootSave; rw [if_neg he])
    have hq : ((saveM d (nextU B.rec_)).2 != 0) = true := by simp [he]
    go_wp2_with (first | ((first | ((with_reducible apply wlB); refine hw_box rfl rfl H ?_) | ((with_reducible apply wlA); refine hw_alloc rfl H ?_) | ((with_reducible apply wlS); first | refine hw_store 0 rfl rfl rfl H rfl rfl rfl (by simp) rfl ?_ | refine hw_store 1 rfl rfl rfl H rfl rfl rfl (by simp) rfl ?_ | refine hw_store 2 rfl rfl rfl H rfl rfl rfl (by simp) rfl ?_ | refine hw_store 3 rfl rfl rfl H rfl rfl rfl (by simp) rfl ?_)); clear H; intro w' H; (try simp only [Act.eval, Act.put, Value.cells, segV, seg, segPut, NS, Nat.reduceAdd] at H)) | ((with_reducible apply wlL); (first | apply hw_load 0 rfl rfl H rfl | apply hw_load 1 rfl rfl H rfl | apply hw_load 2 rfl rfl H rfl | apply hw_load 3 rfl rfl H rfl); (focus (simp; done)); (focus (simp only [segV, seg, NS]; rfl))))
    exact bodyPost_ret (res1 rfl (rv_tmp rfl)) rfl ⟨_, by rw [hS.out]; rfl, by rw [hS.out]; exact (H.sub (.cons_cons _ (.cons _ (List.Sublist.refl _)))).noR⟩
set_option maxRecDepth 100000 in
set_option maxHeartbeats 2000000 in
theorem save_open {w : World} {b pd : Nat} {B : Bt} {d : Dsk} {q : Nat} {r0 : Rec} (hQ : Blk w q tRec (recC r0)) (hqb : q ≠ b) (hqd : q ≠ pd) (hr0 : okRec r0) (H0 : Own w (BD B d b pd)) (hd : d.im.length = 256) (ho : okRec B.rec_) : Calls Tryz.prog 154 #[pV b, .func (.func 155) #[] #[pV q]] w
    (UpdL (BD B d b pd) (BD (bootSave B d (openU r0)).1 (bootSave B d (openU r0)).2.1 b pd) (.int .i64 (bootSave B d (openU r0)).2.2) w) := by
  go_enter Tryz.func154, Tryz.ntmps154
  have H := H0
  unfold Own at H
  replace H := H.addR hQ (by simp [InL, hqb, hqd])
  go_wp2_with (first | ((first | ((with_reducible apply wlB); refine hw_box rfl rfl H ?_) | ((with_reducible apply wlA); refine hw_alloc rfl H ?_) | ((with_reducible apply wlS); first | refine hw_store 0 rfl rfl rfl H rfl rfl rfl (by simp) rfl ?_ | refine hw_store 1 rfl rfl rfl H rfl rfl rfl (by simp) rfl ?_ | refine hw_store 2 rfl rfl rfl H rfl rfl rfl (by simp) rfl ?_ | refine hw_store 3 rfl rfl rfl H rfl rfl rfl (by simp) rfl ?_)); clear H; intro w' H; (try simp only [Act.eval, Act.put, Value.cells, segV, seg, segPut, NS, Nat.reduceAdd] at H)) | ((with_reducible apply wlL); (first | apply hw_load 0 rfl rfl H rfl | apply hw_load 1 rfl rfl H rfl | apply hw_load 2 rfl rfl H rfl | apply hw_load 3 rfl rfl H rfl); (focus (simp; done)); (focus (simp only [segV, seg, NS]; rfl))))
  refine (Open1_any (H.blk _ (.head _)) (H.ro _ (.head _)).1 (Nat.ne_of_lt (H.ro _ (.head _)).2.2) hr0).mono ?_; rintro e w' ⟨s1, rfl, H1⟩
  replace H := ((H.trans (La := [_]) (List.Perm.refl _) H1 (fun k hk => List.mem_singleton.2 hk)).2); clear H1; simp only [List.cons_append, List.nil_append] at H
  go_wp2_with (first | ((first | ((with_reducible apply wlB); refine hw_box rfl rfl H ?_) | ((with_reducible apply wlA); refine hw_alloc rfl H ?_) | ((with_reducible apply wlS); first | refine hw_store 0 rfl rfl rfl H rfl rfl rfl (by simp) rfl ?_ | refine hw_store 1 rfl rfl rfl H rfl rfl rfl (by simp) rfl ?_ | refine hw_store 2 rfl rfl rfl H rfl rfl rfl (by simp) rfl ?_ | refine hw_store 3 rfl rfl rfl H rfl rfl rfl (by simp) rfl ?_)); clear H; intro w' H; (try simp only [Act.eval, Act.put, Value.cells, segV, seg, segPut, NS, Nat.reduceAdd] at H)) | ((with_reducible apply wlL); (first | apply hw_load 0 rfl rfl H rfl | apply hw_load 1 rfl rfl H rfl | apply hw_load 2 rfl rfl H rfl | apply hw_load 3 rfl rfl H rfl); (focus (simp; done)); (focus (simp only [segV, seg, NS]; rfl))))
  (try simp only [Act.eval, Act.put, Value.cells, segV, seg, segPut, NS, Nat.reduceAdd])
  refine region_det 5 (HpX _ _ _ _ _) rfl (by kernel_rfl) ⟨_, Nat.le_refl _, H.drew⟩ ?_; clear H; simp only [List.take_succ_cons, List.take_zero, List.drop_succ_cons, List.drop_zero]
  repeat (first | (apply det_op rfl; (focus (rintro w' ⟨s1, hs1, H⟩; go_wp2_with (first | ((with_reducible apply wlL); apply hw_load 0 rfl rfl H rfl; (focus (simp; done)); (focus (simp only [segV, seg, NS]; rfl))) | ((with_reducible apply wlL); apply hw_load 1 rfl rfl H rfl; (focus (simp; done)); (focus (simp only [segV, seg, NS]; rfl))) | ((with_reducible apply wlL); apply hw_load 2 rfl rfl H rfl; (focus (simp; done)); (focus (simp only [segV, seg, NS]; rfl)))); refine ⟨rfl, rfl, ?_, _, by omega, H⟩; (first | (simp only [SlotIs, Array.getD_eq_getD_getElem?, List.getElem?_toArray, List.getElem?_cons_succ, List.getElem?_cons_zero, Option.getD_some]; exact rfl) | exact rfl))); (try simp only [Act.put, List.setIfInBounds_toArray, List.set_cons_zero, List.set_cons_succ])) | (apply det_skip rfl; (try simp only [Act.put, List.setIfInBounds_toArray, List.set_cons_zero, List.set_cons_succ])))
  rintro w' ⟨s4, hs4, H⟩; (try simp only [Act.eval, Act.put, Value.cells, segV, seg, segPut, NS, Nat.reduceAdd])
  go_wp2_with (first | ((first | ((with_reducible apply wlB); refine hw_box rfl rfl H ?_) | ((with_reducible apply wlA); refine hw_alloc rfl H ?_) | ((with_reducible apply wlS); first | refine hw_store 0 rfl rfl rfl H rfl rfl rfl (by simp) rfl ?_ | refine hw_store 1 rfl rfl rfl H rfl rfl rfl (by simp) rfl ?_ | refine hw_store 2 rfl rfl rfl H rfl rfl rfl (by simp) rfl ?_ | refine hw_store 3 rfl rfl rfl H rfl rfl rfl (by simp) rfl ?_)); clear H; intro w' H; (try simp only [Act.eval, Act.put, Value.cells, segV, seg, segPut, NS, Nat.reduceAdd] at H)) | ((with_reducible apply wlL); (first | apply hw_load 0 rfl rfl H rfl | apply hw_load 1 rfl rfl H rfl | apply hw_load 2 rfl rfl H rfl | apply hw_load 3 rfl rfl H rfl); (focus (simp; done)); (focus (simp only [segV, seg, NS]; rfl))))
  refine (Save_any (H.blk _ (.tail _ (.head _))) hd _).mono ?_; rintro e w' ⟨s2, rfl, H1⟩
  replace H := ((H.trans (La := [_]) (pF1 (X := [_])) H1 (fun k hk => List.mem_singleton.2 hk)).2); clear H1; simp only [List.cons_append, List.nil_append] at H
  by_cases he : (saveM d (openU r0)).2 = 0
  · have hS := Lib.hid (show bootSave B d (openU r0) = ({ B with rec_ := (openU r0) }, (saveM d (openU r0)).1, 0) by unfold bootSave; rw [if_pos he, he])
    rw [show (saveM d _).2 = 0 from he]
    clear he
    go_wp2_with (first | ((first | ((with_reducible apply wlB); refine hw_box rfl rfl H ?_) | ((with_reducible apply wlA); refine hw_alloc rfl H ?_) | ((with_reducible apply wlS); first | refine hw_store 0 rfl rfl rfl H rfl rfl rfl (by simp) rfl ?_ | refine hw_store 1 rfl rfl rfl H rfl rfl rfl (by simp) rfl ?_ | refine hw_store 2 rfl rfl rfl H rfl rfl rfl (by simp) rfl ?_ | refine hw_store 3 rfl rfl rfl H rfl rfl rfl (by simp) rfl ?_)); clear H; intro w' H; (try simp only [Act.eval, Act.put, Value.cells, segV, seg, segPut, NS, Nat.reduceAdd] at H)) | ((with_reducible apply wlL); (first | apply hw_load 0 rfl rfl H rfl | apply hw_load 1 rfl rfl H rfl | apply hw_load 2 rfl rfl H rfl | apply hw_load 3 rfl rfl H rfl); (focus (simp; done)); (focus (simp only [segV, seg, NS]; rfl))))
    exact bodyPost_ret (res1 rfl (rv_tmp rfl)) rfl ⟨_, by rw [hS.out]; rfl, by rw [hS.out]; exact (H.sub (.cons_cons _ (.cons _ (List.Sublist.refl _)))).noR⟩
  · have hS := Lib.hid (show bootSave B d (openU r0) = (B, (saveM d (openU r0)).1, (saveM d (openU r0)).2) by unfold bootSave; rw [if_neg he])
    have hq : ((saveM d (openU r0)).2 != 0) = true := by simp [he]
    go_wp2_with (first | ((first | ((with_reducible apply wlB); refine hw_box rfl rfl H ?_) | ((with_reducible apply wlA); refine hw_alloc rfl H ?_) | ((with_reducible apply wlS); first | refine hw_store 0 rfl rfl rfl H rfl rfl rfl (by simp) rfl ?_ | refine hw_store 1 rfl rfl rfl H rfl rfl rfl (by simp) rfl ?_ | refine hw_store 2 rfl rfl rfl H rfl rfl rfl (by simp) rfl ?_ | refine hw_store 3 rfl rfl rfl H rfl rfl rfl (by simp) rfl ?_)); clear H; intro w' H; (try simp only [Act.eval, Act.put, Value.cells, segV, seg, segPut, NS, Nat.reduceAdd] at H)) | ((with_reducible apply wlL); (first | apply hw_load 0 rfl rfl H rfl | apply hw_load 1 rfl rfl H rfl | apply hw_load 2 rfl rfl H rfl | apply hw_load 3 rfl rfl H rfl); (focus (simp; done)); (focus (simp only [segV, seg, NS]; rfl))))
    exact bodyPost_ret (res1 rfl (rv_tmp rfl)) rfl ⟨_, by rw [hS.out]; rfl, by rw [hS.out]; exact (H.sub (.cons_cons _ (.cons _ (List.Sublist.refl _)))).noR⟩
set_option maxRecDepth 100000 in
set_option maxHeartbeats 2000000 in
theorem save_raise {w : World} {b pd : Nat} {B : Bt} {d : Dsk} {q : Nat} {t : Int} (hQ : Blk w q 3 #[.int .i64 t]) (hqb : q ≠ b) (hqd : q ≠ pd) (h0 : 0 ≤ t) (h1 : t ≤ 1048576) (H0 : Own w (BD B d b pd)) (hd : d.im.length = 256) (ho : okRec B.rec_) : Calls Tryz.prog 154 #[pV b, .func (.func 218) #[] #[pV q]] w
    (UpdL (BD B d b pd) (BD (bootSave B d (raiseU t B.rec_)).1 (bootSave B d (raiseU t B.rec_)).2.1 b pd) (.int .i64 (bootSave B d (raiseU t B.rec_)).2.2) w) := by
  go_enter Tryz.func154, Tryz.ntmps154
  have H := H0
  unfold Own at H
  replace H := H.addR hQ (by simp [InL, hqb, hqd])
  go_wp2_with (first | ((first | ((with_reducible apply wlB); refine hw_box rfl rfl H ?_) | ((with_reducible apply wlA); refine hw_alloc rfl H ?_) | ((with_reducible apply wlS); first | refine hw_store 0 rfl rfl rfl H rfl rfl rfl (by simp) rfl ?_ | refine hw_store 1 rfl rfl rfl H rfl rfl rfl (by simp) rfl ?_ | refine hw_store 2 rfl rfl rfl H rfl rfl rfl (by simp) rfl ?_ | refine hw_store 3 rfl rfl rfl H rfl rfl rfl (by simp) rfl ?_)); clear H; intro w' H; (try simp only [Act.eval, Act.put, Value.cells, segV, seg, segPut, NS, Nat.reduceAdd] at H)) | ((with_reducible apply wlL); (first | apply hw_load 0 rfl rfl H rfl | apply hw_load 1 rfl rfl H rfl | apply hw_load 2 rfl rfl H rfl | apply hw_load 3 rfl rfl H rfl); (focus (simp; done)); (focus (simp only [segV, seg, NS]; rfl))))
  refine (Raise1_any (H.blk _ (.head _)) (H.ro _ (.head _)).1 (Nat.ne_of_lt (H.ro _ (.head _)).2.2) h0 h1).mono ?_; rintro e w' ⟨s1, rfl, H1⟩
  replace H := ((H.trans (La := [_]) (List.Perm.refl _) H1 (fun k hk => List.mem_singleton.2 hk)).2); clear H1; simp only [List.cons_append, List.nil_append] at H
  go_wp2_with (first | ((first | ((with_reducible apply wlB); refine hw_box rfl rfl H ?_) | ((with_reducible apply wlA); refine hw_alloc rfl H ?_) | ((with_reducible apply wlS); first | refine hw_store 0 rfl rfl rfl H rfl rfl rfl (by simp) rfl ?_ | refine hw_store 1 rfl rfl rfl H rfl rfl rfl (by simp) rfl ?_ | refine hw_store 2 rfl rfl rfl H rfl rfl rfl (by simp) rfl ?_ | refine hw_store 3 rfl rfl rfl H rfl rfl rfl (by simp) rfl ?_)); clear H; intro w' H; (try simp only [Act.eval, Act.put, Value.cells, segV, seg, segPut, NS, Nat.reduceAdd] at H)) | ((with_reducible apply wlL); (first | apply hw_load 0 rfl rfl H rfl | apply hw_load 1 rfl rfl H rfl | apply hw_load 2 rfl rfl H rfl | apply hw_load 3 rfl rfl H rfl); (focus (simp; done)); (focus (simp only [segV, seg, NS]; rfl))))
  (try simp only [Act.eval, Act.put, Value.cells, segV, seg, segPut, NS, Nat.reduceAdd])
  refine region_det 5 (HpX _ _ _ _ _) rfl (by kernel_rfl) ⟨_, Nat.le_refl _, H.drew⟩ ?_; clear H; simp only [List.take_succ_cons, List.take_zero, List.drop_succ_cons, List.drop_zero]
  repeat (first | (apply det_op rfl; (focus (rintro w' ⟨s1, hs1, H⟩; go_wp2_with (first | ((with_reducible apply wlL); apply hw_load 0 rfl rfl H rfl; (focus (simp; done)); (focus (simp only [segV, seg, NS]; rfl))) | ((with_reducible apply wlL); apply hw_load 1 rfl rfl H rfl; (focus (simp; done)); (focus (simp only [segV, seg, NS]; rfl))) | ((with_reducible apply wlL); apply hw_load 2 rfl rfl H rfl; (focus (simp; done)); (focus (simp only [segV, seg, NS]; rfl)))); refine ⟨rfl, rfl, ?_, _, by omega, H⟩; (first | (simp only [SlotIs, Array.getD_eq_getD_getElem?, List.getElem?_toArray, List.getElem?_cons_succ, List.getElem?_cons_zero, Option.getD_some]; exact rfl) | exact rfl))); (try simp only [Act.put, List.setIfInBounds_toArray, List.set_cons_zero, List.set_cons_succ])) | (apply det_skip rfl; (try simp only [Act.put, List.setIfInBounds_toArray, List.set_cons_zero, List.set_cons_succ])))
  rintro w' ⟨s4, hs4, H⟩; (try simp only [Act.eval, Act.put, Value.cells, segV, seg, segPut, NS, Nat.reduceAdd])
  go_wp2_with (first | ((first | ((with_reducible apply wlB); refine hw_box rfl rfl H ?_) | ((with_reducible apply wlA); refine hw_alloc rfl H ?_) | ((with_reducible apply wlS); first | refine hw_store 0 rfl rfl rfl H rfl rfl rfl (by simp) rfl ?_ | refine hw_store 1 rfl rfl rfl H rfl rfl rfl (by simp) rfl ?_ | refine hw_store 2 rfl rfl rfl H rfl rfl rfl (by simp) rfl ?_ | refine hw_store 3 rfl rfl rfl H rfl rfl rfl (by simp) rfl ?_)); clear H; intro w' H; (try simp only [Act.eval, Act.put, Value.cells, segV, seg, segPut, NS, Nat.reduceAdd] at H)) | ((with_reducible apply wlL); (first | apply hw_load 0 rfl rfl H rfl | apply hw_load 1 rfl rfl H rfl | apply hw_load 2 rfl rfl H rfl | apply hw_load 3 rfl rfl H rfl); (focus (simp; done)); (focus (simp only [segV, seg, NS]; rfl))))
  refine (Save_any (H.blk _ (.tail _ (.head _))) hd _).mono ?_; rintro e w' ⟨s2, rfl, H1⟩
  replace H := ((H.trans (La := [_]) (pF1 (X := [_])) H1 (fun k hk => List.mem_singleton.2 hk)).2); clear H1; simp only [List.cons_append, List.nil_append] at H
  by_cases he : (saveM d (raiseU t B.rec_)).2 = 0
  · have hS := Lib.hid (show bootSave B d (raiseU t B.rec_) = ({ B with rec_ := (raiseU t B.rec_) }, (saveM d (raiseU t B.rec_)).1, 0) by unfold bootSave; rw [if_pos he, he])
    rw [show (saveM d _).2 = 0 from he]
    clear he
    go_wp2_with (first | ((first | ((with_reducible apply wlB); refine hw_box rfl rfl H ?_) | ((with_reducible apply wlA); refine hw_alloc rfl H ?_) | ((with_reducible apply wlS); first | refine hw_store 0 rfl rfl rfl H rfl rfl rfl (by simp) rfl ?_ | refine hw_store 1 rfl rfl rfl H rfl rfl rfl (by simp) rfl ?_ | refine hw_store 2 rfl rfl rfl H rfl rfl rfl (by simp) rfl ?_ | refine hw_store 3 rfl rfl rfl H rfl rfl rfl (by simp) rfl ?_)); clear H; intro w' H; (try simp only [Act.eval, Act.put, Value.cells, segV, seg, segPut, NS, Nat.reduceAdd] at H)) | ((with_reducible apply wlL); (first | apply hw_load 0 rfl rfl H rfl | apply hw_load 1 rfl rfl H rfl | apply hw_load 2 rfl rfl H rfl | apply hw_load 3 rfl rfl H rfl); (focus (simp; done)); (focus (simp only [segV, seg, NS]; rfl))))
    exact bodyPost_ret (res1 rfl (rv_tmp rfl)) rfl ⟨_, by rw [hS.out]; rfl, by rw [hS.out]; exact (H.sub (.cons_cons _ (.cons _ (List.Sublist.refl _)))).noR⟩
  · have hS := Lib.hid (show bootSave B d (raiseU t B.rec_) = (B, (saveM d (raiseU t B.rec_)).1, (saveM d (raiseU t B.rec_)).2) by unfold bootSave; rw [if_neg he])
    have hq : ((saveM d (raiseU t B.rec_)).2 != 0) = true := by simp [he]
    go_wp2_with (first | ((first | ((with_reducible apply wlB); refine hw_box rfl rfl H ?_) | ((with_reducible apply wlA); refine hw_alloc rfl H ?_) | ((with_reducible apply wlS); first | refine hw_store 0 rfl rfl rfl H rfl rfl rfl (by simp) rfl ?_ | refine hw_store 1 rfl rfl rfl H rfl rfl rfl (by simp) rfl ?_ | refine hw_store 2 rfl rfl rfl H rfl rfl rfl (by simp) rfl ?_ | refine hw_store 3 rfl rfl rfl H rfl rfl rfl (by simp) rfl ?_)); clear H; intro w' H; (try simp only [Act.eval, Act.put, Value.cells, segV, seg, segPut, NS, Nat.reduceAdd] at H)) | ((with_reducible apply wlL); (first | apply hw_load 0 rfl rfl H rfl | apply hw_load 1 rfl rfl H rfl | apply hw_load 2 rfl rfl H rfl | apply hw_load 3 rfl rfl H rfl); (focus (simp; done)); (focus (simp only [segV, seg, NS]; rfl))))
    exact bodyPost_ret (res1 rfl (rv_tmp rfl)) rfl ⟨_, by rw [hS.out]; rfl, by rw [hS.out]; exact (H.sub (.cons_cons _ (.cons _ (List.Sublist.refl _)))).noR⟩
structure okBt (B : Bt) : Prop where
  rec_ : okRec B.rec_
  r0 : 0 ≤ B.round
  r1 : B.round ≤ B.rec_.round
  t0 : 0 ≤ B.tag
  t1 : B.tag ≤ B.rec_.tag
def nextM (B : Bt) (d : Dsk) : Bt × Dsk × Int × Int :=
  if d.off then (B, d, 0, 100) else if B.round == 1099511627775 then (B, d, 0, 120)
  else if B.round == B.rec_.round then (if (bootSave B d (nextU B.rec_)).2.2 = 0 then ({ (bootSave B d (nextU B.rec_)).1 with round := B.round + 1 }, (bootSave B d (nextU B.rec_)).2.1, B.round + 1, 0) else ((bootSave B d (nextU B.rec_)).1, (bootSave B d (nextU B.rec_)).2.1, 0, (bootSave B d (nextU B.rec_)).2.2))
  else ({ B with round := B.round + 1 }, d, B.round + 1, 0)
theorem bootSave_round (B : Bt) (d : Dsk) (r : Rec) : (bootSave B d r).1.round = B.round := by unfold bootSave; simp only; split <;> rfl
theorem bootSave_tag (B : Bt) (d : Dsk) (r : Rec) : (bootSave B d r).1.tag = B.tag := by unfold bootSave; simp only; split <;> rfl
section
variable {w : World} {b pd : Nat} {B : Bt} {d : Dsk}
abbrev NextPost (B : Bt) (d : Dsk) (b pd : Nat) (w : World) : Ending → World → Prop := UpdL (BD B d b pd) (BD (nextM B d).1 (nextM B d).2.1 b pd) (.tuple #[.int .i64 (nextM B d).2.2.1, .int .i64 (nextM B d).2.2.2]) w
set_option maxRecDepth 100000 in
set_option maxHeartbeats 2000000 in
theorem Next_off (H0 : Own w (BD B d b pd)) (hd : d.im.length = 256) (ho : okBt B) (h : d.off = true) : Calls Tryz.prog 101 #[pV b] w (NextPost B d b pd w) := by
  have hS := Lib.hid (show nextM B d = (B, d, 0, 100) by unfold nextM; rw [h]; rfl)
  go_enter Tryz.func101, Tryz.ntmps101
  have H := H0
  unfold Own at H
  go_wp2_with (first | ((first | ((with_reducible apply wlB); refine hw_box rfl rfl H ?_) | ((with_reducible apply wlA); refine hw_alloc rfl H ?_) | ((with_reducible apply wlS); first | refine hw_store 0 rfl rfl rfl H rfl rfl rfl (by simp) rfl ?_ | refine hw_store 1 rfl rfl rfl H rfl rfl rfl (by simp) rfl ?_ | refine hw_store 2 rfl rfl rfl H rfl rfl rfl (by simp) rfl ?_ | refine hw_store 3 rfl rfl rfl H rfl rfl rfl (by simp) rfl ?_)); clear H; intro w' H; (try simp only [Act.eval, Act.put, Value.cells, segV, seg, segPut, NS, Nat.reduceAdd] at H)) | ((with_reducible apply wlL); (first | apply hw_load 0 rfl rfl H rfl | apply hw_load 1 rfl rfl H rfl | apply hw_load 2 rfl rfl H rfl | apply hw_load 3 rfl rfl H rfl); (focus (simp; done)); (focus (simp only [segV, seg, NS]; rfl))))
  refine (on_any (H.blk _ (.head _)) (H.blk _ (.tail _ (.head _))) hd).mono ?_; rw [h]; rintro e w' ⟨rfl, hb⟩; obtain ⟨s1, hs1, H⟩ := H.call hb; clear hb h
  go_wp2_with (first | ((first | ((with_reducible apply wlB); refine hw_box rfl rfl H ?_) | ((with_reducible apply wlA); refine hw_alloc rfl H ?_) | ((with_reducible apply wlS); first | refine hw_store 0 rfl rfl rfl H rfl rfl rfl (by simp) rfl ?_ | refine hw_store 1 rfl rfl rfl H rfl rfl rfl (by simp) rfl ?_ | refine hw_store 2 rfl rfl rfl H rfl rfl rfl (by simp) rfl ?_ | refine hw_store 3 rfl rfl rfl H rfl rfl rfl (by simp) rfl ?_)); clear H; intro w' H; (try simp only [Act.eval, Act.put, Value.cells, segV, seg, segPut, NS, Nat.reduceAdd] at H)) | ((with_reducible apply wlL); (first | apply hw_load 0 rfl rfl H rfl | apply hw_load 1 rfl rfl H rfl | apply hw_load 2 rfl rfl H rfl | apply hw_load 3 rfl rfl H rfl); (focus (simp; done)); (focus (simp only [segV, seg, NS]; rfl))))
  exact bodyPost_ret (res2 rfl (rv_tmp rfl) (rv_tmp rfl)) rfl ⟨_, by rw [hS.out]; rfl, by rw [hS.out]; exact H⟩
set_option maxRecDepth 100000 in
set_option maxHeartbeats 2000000 in
theorem Next_end (H0 : Own w (BD B d b pd)) (hd : d.im.length = 256) (ho : okBt B) (h : d.off = false) (he : (B.round == 1099511627775) = true) : Calls Tryz.prog 101 #[pV b] w (NextPost B d b pd w) := by
  have hS := Lib.hid (show nextM B d = (B, d, 0, 120) by unfold nextM; rw [h, he]; rfl)
  go_enter Tryz.func101, Tryz.ntmps101
  have H := H0
  unfold Own at H
  go_wp2_with (first | ((first | ((with_reducible apply wlB); refine hw_box rfl rfl H ?_) | ((with_reducible apply wlA); refine hw_alloc rfl H ?_) | ((with_reducible apply wlS); first | refine hw_store 0 rfl rfl rfl H rfl rfl rfl (by simp) rfl ?_ | refine hw_store 1 rfl rfl rfl H rfl rfl rfl (by simp) rfl ?_ | refine hw_store 2 rfl rfl rfl H rfl rfl rfl (by simp) rfl ?_ | refine hw_store 3 rfl rfl rfl H rfl rfl rfl (by simp) rfl ?_)); clear H; intro w' H; (try simp only [Act.eval, Act.put, Value.cells, segV, seg, segPut, NS, Nat.reduceAdd] at H)) | ((with_reducible apply wlL); (first | apply hw_load 0 rfl rfl H rfl | apply hw_load 1 rfl rfl H rfl | apply hw_load 2 rfl rfl H rfl | apply hw_load 3 rfl rfl H rfl); (focus (simp; done)); (focus (simp only [segV, seg, NS]; rfl))))
  refine (on_any (H.blk _ (.head _)) (H.blk _ (.tail _ (.head _))) hd).mono ?_; rw [h]; rintro e w' ⟨rfl, hb⟩; obtain ⟨s1, hs1, H⟩ := H.call hb; clear hb h
  go_wp2_with (first | ((first | ((with_reducible apply wlB); refine hw_box rfl rfl H ?_) | ((with_reducible apply wlA); refine hw_alloc rfl H ?_) | ((with_reducible apply wlS); first | refine hw_store 0 rfl rfl rfl H rfl rfl rfl (by simp) rfl ?_ | refine hw_store 1 rfl rfl rfl H rfl rfl rfl (by simp) rfl ?_ | refine hw_store 2 rfl rfl rfl H rfl rfl rfl (by simp) rfl ?_ | refine hw_store 3 rfl rfl rfl H rfl rfl rfl (by simp) rfl ?_)); clear H; intro w' H; (try simp only [Act.eval, Act.put, Value.cells, segV, seg, segPut, NS, Nat.reduceAdd] at H)) | ((with_reducible apply wlL); (first | apply hw_load 0 rfl rfl H rfl | apply hw_load 1 rfl rfl H rfl | apply hw_load 2 rfl rfl H rfl | apply hw_load 3 rfl rfl H rfl); (focus (simp; done)); (focus (simp only [segV, seg, NS]; rfl))))
  exact bodyPost_ret (res2 rfl (rv_tmp rfl) (rv_tmp rfl)) rfl ⟨_, by rw [hS.out]; rfl, by rw [hS.out]; exact H⟩
set_option maxRecDepth 100000 in
set_option maxHeartbeats 2000000 in
theorem Next_go (H0 : Own w (BD B d b pd)) (hd : d.im.length = 256) (ho : okBt B) (h : d.off = false) (he : (B.round == 1099511627775) = false) (hu : (B.round == B.rec_.round) = false) : Calls Tryz.prog 101 #[pV b] w (NextPost B d b pd w) := by
  have hS := Lib.hid (show nextM B d = ({ B with round := B.round + 1 }, d, B.round + 1, 0) by unfold nextM; rw [h, he, hu]; rfl)
  have hr0 := ho.r0
  have hr1 := ho.r1
  have hr2 := ho.rec_.r1
  go_enter Tryz.func101, Tryz.ntmps101
  have H := H0
  unfold Own at H
  go_wp2_with (first | ((first | ((with_reducible apply wlB); refine hw_box rfl rfl H ?_) | ((with_reducible apply wlA); refine hw_alloc rfl H ?_) | ((with_reducible apply wlS); first | refine hw_store 0 rfl rfl rfl H rfl rfl rfl (by simp) rfl ?_ | refine hw_store 1 rfl rfl rfl H rfl rfl rfl (by simp) rfl ?_ | refine hw_store 2 rfl rfl rfl H rfl rfl rfl (by simp) rfl ?_ | refine hw_store 3 rfl rfl rfl H rfl rfl rfl (by simp) rfl ?_)); clear H; intro w' H; (try simp only [Act.eval, Act.put, Value.cells, segV, seg, segPut, NS, Nat.reduceAdd] at H)) | ((with_reducible apply wlL); (first | apply hw_load 0 rfl rfl H rfl | apply hw_load 1 rfl rfl H rfl | apply hw_load 2 rfl rfl H rfl | apply hw_load 3 rfl rfl H rfl); (focus (simp; done)); (focus (simp only [segV, seg, NS]; rfl))))
  refine (on_any (H.blk _ (.head _)) (H.blk _ (.tail _ (.head _))) hd).mono ?_; rw [h]; rintro e w' ⟨rfl, hb⟩; obtain ⟨s1, hs1, H⟩ := H.call hb; clear hb h
  go_wp2_with (first | ((first | ((with_reducible apply wlB); refine hw_box rfl rfl H ?_) | ((with_reducible apply wlA); refine hw_alloc rfl H ?_) | ((with_reducible apply wlS); first | refine hw_store 0 rfl rfl rfl H rfl rfl rfl (by simp) rfl ?_ | refine hw_store 1 rfl rfl rfl H rfl rfl rfl (by simp) rfl ?_ | refine hw_store 2 rfl rfl rfl H rfl rfl rfl (by simp) rfl ?_ | refine hw_store 3 rfl rfl rfl H rfl rfl rfl (by simp) rfl ?_)); clear H; intro w' H; (try simp only [Act.eval, Act.put, Value.cells, segV, seg, segPut, NS, Nat.reduceAdd] at H)) | ((with_reducible apply wlL); (first | apply hw_load 0 rfl rfl H rfl | apply hw_load 1 rfl rfl H rfl | apply hw_load 2 rfl rfl H rfl | apply hw_load 3 rfl rfl H rfl); (focus (simp; done)); (focus (simp only [segV, seg, NS]; rfl))))
  refine (used_any (B := B) _).mono ?_; rw [hu]; rintro e w' ⟨rfl, hb⟩; obtain ⟨s2, hs2, H⟩ := H.call hb; clear hb hu
  go_wp2_with (first | ((first | ((with_reducible apply wlB); refine hw_box rfl rfl H ?_) | ((with_reducible apply wlA); refine hw_alloc rfl H ?_) | ((with_reducible apply wlS); first | refine hw_store 0 rfl rfl rfl H rfl rfl rfl (by simp) rfl ?_ | refine hw_store 1 rfl rfl rfl H rfl rfl rfl (by simp) rfl ?_ | refine hw_store 2 rfl rfl rfl H rfl rfl rfl (by simp) rfl ?_ | refine hw_store 3 rfl rfl rfl H rfl rfl rfl (by simp) rfl ?_)); clear H; intro w' H; (try simp only [Act.eval, Act.put, Value.cells, segV, seg, segPut, NS, Nat.reduceAdd] at H)) | ((with_reducible apply wlL); (first | apply hw_load 0 rfl rfl H rfl | apply hw_load 1 rfl rfl H rfl | apply hw_load 2 rfl rfl H rfl | apply hw_load 3 rfl rfl H rfl); (focus (simp; done)); (focus (simp only [segV, seg, NS]; rfl))))
  exact bodyPost_ret (res2 rfl (rv_tmp rfl) (rv_tmp rfl)) rfl ⟨_, by rw [hS.out]; rfl, by rw [hS.out]; exact H⟩
set_option maxRecDepth 100000 in
set_option maxHeartbeats 2000000 in
theorem Next_save (H0 : Own w (BD B d b pd)) (hd : d.im.length = 256) (ho : okBt B) (h : d.off = false) (he : (B.round == 1099511627775) = false) (hu : (B.round == B.rec_.round) = true) : Calls Tryz.prog 101 #[pV b] w (NextPost B d b pd w) := by
  have hS1 := Lib.hid (show nextM B d = (if (bootSave B d (nextU B.rec_)).2.2 = 0 then ({ (bootSave B d (nextU B.rec_)).1 with round := B.round + 1 }, (bootSave B d (nextU B.rec_)).2.1, B.round + 1, 0) else ((bootSave B d (nextU B.rec_)).1, (bootSave B d (nextU B.rec_)).2.1, 0, (bootSave B d (nextU B.rec_)).2.2)) by unfold nextM; rw [h, he, hu]; rfl)
  have hr0 := ho.r0
  have hr1 := ho.r1
  have hr2 := ho.rec_.r1
  have hbr := Lib.hid (bootSave_round B d (nextU B.rec_))
  go_enter Tryz.func101, Tryz.ntmps101
  have H := H0
  unfold Own at H
  go_wp2_with (first | ((first | ((with_reducible apply wlB); refine hw_box rfl rfl H ?_) | ((with_reducible apply wlA); refine hw_alloc rfl H ?_) | ((with_reducible apply wlS); first | refine hw_store 0 rfl rfl rfl H rfl rfl rfl (by simp) rfl ?_ | refine hw_store 1 rfl rfl rfl H rfl rfl rfl (by simp) rfl ?_ | refine hw_store 2 rfl rfl rfl H rfl rfl rfl (by simp) rfl ?_ | refine hw_store 3 rfl rfl rfl H rfl rfl rfl (by simp) rfl ?_)); clear H; intro w' H; (try simp only [Act.eval, Act.put, Value.cells, segV, seg, segPut, NS, Nat.reduceAdd] at H)) | ((with_reducible apply wlL); (first | apply hw_load 0 rfl rfl H rfl | apply hw_load 1 rfl rfl H rfl | apply hw_load 2 rfl rfl H rfl | apply hw_load 3 rfl rfl H rfl); (focus (simp; done)); (focus (simp only [segV, seg, NS]; rfl))))
  refine (on_any (H.blk _ (.head _)) (H.blk _ (.tail _ (.head _))) hd).mono ?_; rw [h]; rintro e w' ⟨rfl, hb⟩; obtain ⟨s1, hs1, H⟩ := H.call hb; clear hb h
  go_wp2_with (first | ((first | ((with_reducible apply wlB); refine hw_box rfl rfl H ?_) | ((with_reducible apply wlA); refine hw_alloc rfl H ?_) | ((with_reducible apply wlS); first | refine hw_store 0 rfl rfl rfl H rfl rfl rfl (by simp) rfl ?_ | refine hw_store 1 rfl rfl rfl H rfl rfl rfl (by simp) rfl ?_ | refine hw_store 2 rfl rfl rfl H rfl rfl rfl (by simp) rfl ?_ | refine hw_store 3 rfl rfl rfl H rfl rfl rfl (by simp) rfl ?_)); clear H; intro w' H; (try simp only [Act.eval, Act.put, Value.cells, segV, seg, segPut, NS, Nat.reduceAdd] at H)) | ((with_reducible apply wlL); (first | apply hw_load 0 rfl rfl H rfl | apply hw_load 1 rfl rfl H rfl | apply hw_load 2 rfl rfl H rfl | apply hw_load 3 rfl rfl H rfl); (focus (simp; done)); (focus (simp only [segV, seg, NS]; rfl))))
  refine (used_any (B := B) _).mono ?_; rw [hu]; rintro e w' ⟨rfl, hb⟩; obtain ⟨s2, hs2, H⟩ := H.call hb; clear hb hu
  go_wp2_with (first | ((first | ((with_reducible apply wlB); refine hw_box rfl rfl H ?_) | ((with_reducible apply wlA); refine hw_alloc rfl H ?_) | ((with_reducible apply wlS); first | refine hw_store 0 rfl rfl rfl H rfl rfl rfl (by simp) rfl ?_ | refine hw_store 1 rfl rfl rfl H rfl rfl rfl (by simp) rfl ?_ | refine hw_store 2 rfl rfl rfl H rfl rfl rfl (by simp) rfl ?_ | refine hw_store 3 rfl rfl rfl H rfl rfl rfl (by simp) rfl ?_)); clear H; intro w' H; (try simp only [Act.eval, Act.put, Value.cells, segV, seg, segPut, NS, Nat.reduceAdd] at H)) | ((with_reducible apply wlL); (first | apply hw_load 0 rfl rfl H rfl | apply hw_load 1 rfl rfl H rfl | apply hw_load 2 rfl rfl H rfl | apply hw_load 3 rfl rfl H rfl); (focus (simp; done)); (focus (simp only [segV, seg, NS]; rfl))))
  refine (save_next (Own.all H) hd ho.rec_).mono ?_; rintro e w' ⟨s3, rfl, H1⟩; obtain ⟨hs3, H⟩ := H.join (Lb := []) (by simp) H1; clear H1
  simp only [List.append_nil] at H
  generalize bootSave B d (nextU B.rec_) = X at *
  obtain ⟨B1, d1, e1⟩ := X
  simp only at hS1 hbr H ⊢
  by_cases hz : e1 = 0
  · have hS := Lib.hid (hS1.out.trans (if_pos hz)); clear hS1
    rw [hz]
    have hrr : 0 ≤ B1.round := by rw [hbr.out]; exact hr0
    have hrr2 : B1.round ≤ 1099511627775 := by rw [hbr.out]; omega
    go_wp2_with (first | ((first | ((with_reducible apply wlB); refine hw_box rfl rfl H ?_) | ((with_reducible apply wlA); refine hw_alloc rfl H ?_) | ((with_reducible apply wlS); first | refine hw_store 0 rfl rfl rfl H rfl rfl rfl (by simp) rfl ?_ | refine hw_store 1 rfl rfl rfl H rfl rfl rfl (by simp) rfl ?_ | refine hw_store 2 rfl rfl rfl H rfl rfl rfl (by simp) rfl ?_ | refine hw_store 3 rfl rfl rfl H rfl rfl rfl (by simp) rfl ?_)); clear H; intro w' H; (try simp only [Act.eval, Act.put, Value.cells, segV, seg, segPut, NS, Nat.reduceAdd] at H)) | ((with_reducible apply wlL); (first | apply hw_load 0 rfl rfl H rfl | apply hw_load 1 rfl rfl H rfl | apply hw_load 2 rfl rfl H rfl | apply hw_load 3 rfl rfl H rfl); (focus (simp; done)); (focus (simp only [segV, seg, NS]; rfl))))
    exact bodyPost_ret (res2 rfl (rv_tmp rfl) (rv_tmp rfl)) rfl ⟨_, by rw [hS.out, ← hbr.out]; rfl, by rw [hS.out, ← hbr.out]; exact H⟩
  · have hS := Lib.hid (hS1.out.trans (if_neg hz)); clear hS1
    have hq : (e1 != 0) = true := by simp [hz]
    go_wp2_with (first | ((first | ((with_reducible apply wlB); refine hw_box rfl rfl H ?_) | ((with_reducible apply wlA); refine hw_alloc rfl H ?_) | ((with_reducible apply wlS); first | refine hw_store 0 rfl rfl rfl H rfl rfl rfl (by simp) rfl ?_ | refine hw_store 1 rfl rfl rfl H rfl rfl rfl (by simp) rfl ?_ | refine hw_store 2 rfl rfl rfl H rfl rfl rfl (by simp) rfl ?_ | refine hw_store 3 rfl rfl rfl H rfl rfl rfl (by simp) rfl ?_)); clear H; intro w' H; (try simp only [Act.eval, Act.put, Value.cells, segV, seg, segPut, NS, Nat.reduceAdd] at H)) | ((with_reducible apply wlL); (first | apply hw_load 0 rfl rfl H rfl | apply hw_load 1 rfl rfl H rfl | apply hw_load 2 rfl rfl H rfl | apply hw_load 3 rfl rfl H rfl); (focus (simp; done)); (focus (simp only [segV, seg, NS]; rfl))))
    exact bodyPost_ret (res2 rfl (rv_tmp rfl) (rv_tmp rfl)) rfl ⟨_, by rw [hS.out]; rfl, by rw [hS.out]; exact H⟩
theorem Next_any (H0 : Own w (BD B d b pd)) (hd : d.im.length = 256) (ho : okBt B) : Calls Tryz.prog 101 #[pV b] w (NextPost B d b pd w) := by
  rcases Bool.eq_false_or_eq_true d.off with h | h
  · exact Next_off H0 hd ho h
  · rcases Bool.eq_false_or_eq_true (B.round == 1099511627775) with he | he
    · exact Next_end H0 hd ho h he
    · rcases Bool.eq_false_or_eq_true (B.round == B.rec_.round) with hu | hu
      · exact Next_save H0 hd ho h he hu
      · exact Next_go H0 hd ho h he hu
end
end Go.Proofs.YtccgpjhgfjfaoaaGreatDoor
/- boot: Raise, Open. -/
namespace Go.Proofs.YtccgpjhgfjfaoaaGreatDoor
open Go.RowKit

def raiseM (B : Bt) (d : Dsk) (t : Int) : Bt × Dsk × Int :=
  if d.off then (B, d, 100) else if t < 0 then (B, d, 1) else if 1048576 < t then (B, d, 120) else if t ≤ B.tag then (B, d, 0)
  else if t ≤ B.rec_.tag then ({ B with tag := t }, d, 0)
  else if (bootSave B d (raiseU t B.rec_)).2.2 = 0 then ({ (bootSave B d (raiseU t B.rec_)).1 with tag := t }, (bootSave B d (raiseU t B.rec_)).2.1, 0) else bootSave B d (raiseU t B.rec_)
section
variable {w : World} {b pd : Nat} {B : Bt} {d : Dsk}
abbrev RaisePost (B : Bt) (d : Dsk) (t : Int) (b pd : Nat) (w : World) : Ending → World → Prop := UpdL (BD B d b pd) (BD (raiseM B d t).1 (raiseM B d t).2.1 b pd) (.int .i64 (raiseM B d t).2.2) w
set_option maxRecDepth 100000 in
set_option maxHeartbeats 2000000 in
theorem Raise_off (H0 : Own w (BD B d b pd)) (hd : d.im.length = 256) (t : Int) (h : d.off = true) : Calls Tryz.prog 189 #[pV b, .int .i64 t] w (RaisePost B d t b pd w) := by
  have hS := Lib.hid (show raiseM B d t = (B, d, 100) by unfold raiseM; rw [h]; rfl)
  go_enter Tryz.func189, Tryz.ntmps189
  have H := H0
  unfold Own at H
  go_wp2_with (first | ((first | ((with_reducible apply wlB); refine hw_box rfl rfl H ?_) | ((with_reducible apply wlA); refine hw_alloc rfl H ?_) | ((with_reducible apply wlS); first | refine hw_store 0 rfl rfl rfl H rfl rfl rfl (by simp) rfl ?_ | refine hw_store 1 rfl rfl rfl H rfl rfl rfl (by simp) rfl ?_ | refine hw_store 2 rfl rfl rfl H rfl rfl rfl (by simp) rfl ?_ | refine hw_store 3 rfl rfl rfl H rfl rfl rfl (by simp) rfl ?_)); clear H; intro w' H; (try simp only [Act.eval, Act.put, Value.cells, segV, seg, segPut, NS, Nat.reduceAdd] at H)) | ((with_reducible apply wlL); (first | apply hw_load 0 rfl rfl H rfl | apply hw_load 1 rfl rfl H rfl | apply hw_load 2 rfl rfl H rfl | apply hw_load 3 rfl rfl H rfl); (focus (simp; done)); (focus (simp only [segV, seg, NS]; rfl))))
  refine (on_any (H.blk _ (.tail _ (.head _))) (H.blk _ (.tail _ (.tail _ (.head _)))) hd).mono ?_; rw [h]; rintro e w' ⟨rfl, hb⟩; obtain ⟨s1, hs1, H⟩ := H.call hb; clear hb h
  go_wp2_with (first | ((first | ((with_reducible apply wlB); refine hw_box rfl rfl H ?_) | ((with_reducible apply wlA); refine hw_alloc rfl H ?_) | ((with_reducible apply wlS); first | refine hw_store 0 rfl rfl rfl H rfl rfl rfl (by simp) rfl ?_ | refine hw_store 1 rfl rfl rfl H rfl rfl rfl (by simp) rfl ?_ | refine hw_store 2 rfl rfl rfl H rfl rfl rfl (by simp) rfl ?_ | refine hw_store 3 rfl rfl rfl H rfl rfl rfl (by simp) rfl ?_)); clear H; intro w' H; (try simp only [Act.eval, Act.put, Value.cells, segV, seg, segPut, NS, Nat.reduceAdd] at H)) | ((with_reducible apply wlL); (first | apply hw_load 0 rfl rfl H rfl | apply hw_load 1 rfl rfl H rfl | apply hw_load 2 rfl rfl H rfl | apply hw_load 3 rfl rfl H rfl); (focus (simp; done)); (focus (simp only [segV, seg, NS]; rfl))))
  exact bodyPost_ret (res1 rfl (rv_tmp rfl)) rfl ⟨_, by rw [hS.out]; rfl, by rw [hS.out]; exact H.drop1⟩
set_option maxRecDepth 100000 in
set_option maxHeartbeats 2000000 in
theorem Raise_neg (H0 : Own w (BD B d b pd)) (hd : d.im.length = 256) (t : Int) (h : d.off = false) (hn : t < 0) : Calls Tryz.prog 189 #[pV b, .int .i64 t] w (RaisePost B d t b pd w) := by
  have hS := Lib.hid (show raiseM B d t = (B, d, 1) by unfold raiseM; rw [h, if_pos hn]; rfl)
  go_enter Tryz.func189, Tryz.ntmps189
  have H := H0
  unfold Own at H
  go_wp2_with (first | ((first | ((with_reducible apply wlB); refine hw_box rfl rfl H ?_) | ((with_reducible apply wlA); refine hw_alloc rfl H ?_) | ((with_reducible apply wlS); first | refine hw_store 0 rfl rfl rfl H rfl rfl rfl (by simp) rfl ?_ | refine hw_store 1 rfl rfl rfl H rfl rfl rfl (by simp) rfl ?_ | refine hw_store 2 rfl rfl rfl H rfl rfl rfl (by simp) rfl ?_ | refine hw_store 3 rfl rfl rfl H rfl rfl rfl (by simp) rfl ?_)); clear H; intro w' H; (try simp only [Act.eval, Act.put, Value.cells, segV, seg, segPut, NS, Nat.reduceAdd] at H)) | ((with_reducible apply wlL); (first | apply hw_load 0 rfl rfl H rfl | apply hw_load 1 rfl rfl H rfl | apply hw_load 2 rfl rfl H rfl | apply hw_load 3 rfl rfl H rfl); (focus (simp; done)); (focus (simp only [segV, seg, NS]; rfl))))
  refine (on_any (H.blk _ (.tail _ (.head _))) (H.blk _ (.tail _ (.tail _ (.head _)))) hd).mono ?_; rw [h]; rintro e w' ⟨rfl, hb⟩; obtain ⟨s1, hs1, H⟩ := H.call hb; clear hb h
  go_wp2_with (first | ((first | ((with_reducible apply wlB); refine hw_box rfl rfl H ?_) | ((with_reducible apply wlA); refine hw_alloc rfl H ?_) | ((with_reducible apply wlS); first | refine hw_store 0 rfl rfl rfl H rfl rfl rfl (by simp) rfl ?_ | refine hw_store 1 rfl rfl rfl H rfl rfl rfl (by simp) rfl ?_ | refine hw_store 2 rfl rfl rfl H rfl rfl rfl (by simp) rfl ?_ | refine hw_store 3 rfl rfl rfl H rfl rfl rfl (by simp) rfl ?_)); clear H; intro w' H; (try simp only [Act.eval, Act.put, Value.cells, segV, seg, segPut, NS, Nat.reduceAdd] at H)) | ((with_reducible apply wlL); (first | apply hw_load 0 rfl rfl H rfl | apply hw_load 1 rfl rfl H rfl | apply hw_load 2 rfl rfl H rfl | apply hw_load 3 rfl rfl H rfl); (focus (simp; done)); (focus (simp only [segV, seg, NS]; rfl))))
  exact bodyPost_ret (res1 rfl (rv_tmp rfl)) rfl ⟨_, by rw [hS.out]; rfl, by rw [hS.out]; exact H.drop1⟩
set_option maxRecDepth 100000 in
set_option maxHeartbeats 2000000 in
theorem Raise_end (H0 : Own w (BD B d b pd)) (hd : d.im.length = 256) (t : Int) (h : d.off = false) (hn : 1048576 < t) : Calls Tryz.prog 189 #[pV b, .int .i64 t] w (RaisePost B d t b pd w) := by
  have hS := Lib.hid (show raiseM B d t = (B, d, 120) by unfold raiseM; rw [h, if_neg (by omega : ¬ t < 0), if_pos hn]; rfl)
  have h0 : 0 ≤ t := by omega
  go_enter Tryz.func189, Tryz.ntmps189
  have H := H0
  unfold Own at H
  go_wp2_with (first | ((first | ((with_reducible apply wlB); refine hw_box rfl rfl H ?_) | ((with_reducible apply wlA); refine hw_alloc rfl H ?_) | ((with_reducible apply wlS); first | refine hw_store 0 rfl rfl rfl H rfl rfl rfl (by simp) rfl ?_ | refine hw_store 1 rfl rfl rfl H rfl rfl rfl (by simp) rfl ?_ | refine hw_store 2 rfl rfl rfl H rfl rfl rfl (by simp) rfl ?_ | refine hw_store 3 rfl rfl rfl H rfl rfl rfl (by simp) rfl ?_)); clear H; intro w' H; (try simp only [Act.eval, Act.put, Value.cells, segV, seg, segPut, NS, Nat.reduceAdd] at H)) | ((with_reducible apply wlL); (first | apply hw_load 0 rfl rfl H rfl | apply hw_load 1 rfl rfl H rfl | apply hw_load 2 rfl rfl H rfl | apply hw_load 3 rfl rfl H rfl); (focus (simp; done)); (focus (simp only [segV, seg, NS]; rfl))))
  refine (on_any (H.blk _ (.tail _ (.head _))) (H.blk _ (.tail _ (.tail _ (.head _)))) hd).mono ?_; rw [h]; rintro e w' ⟨rfl, hb⟩; obtain ⟨s1, hs1, H⟩ := H.call hb; clear hb h
  go_wp2_with (first | ((first | ((with_reducible apply wlB); refine hw_box rfl rfl H ?_) | ((with_reducible apply wlA); refine hw_alloc rfl H ?_) | ((with_reducible apply wlS); first | refine hw_store 0 rfl rfl rfl H rfl rfl rfl (by simp) rfl ?_ | refine hw_store 1 rfl rfl rfl H rfl rfl rfl (by simp) rfl ?_ | refine hw_store 2 rfl rfl rfl H rfl rfl rfl (by simp) rfl ?_ | refine hw_store 3 rfl rfl rfl H rfl rfl rfl (by simp) rfl ?_)); clear H; intro w' H; (try simp only [Act.eval, Act.put, Value.cells, segV, seg, segPut, NS, Nat.reduceAdd] at H)) | ((with_reducible apply wlL); (first | apply hw_load 0 rfl rfl H rfl | apply hw_load 1 rfl rfl H rfl | apply hw_load 2 rfl rfl H rfl | apply hw_load 3 rfl rfl H rfl); (focus (simp; done)); (focus (simp only [segV, seg, NS]; rfl))))
  exact bodyPost_ret (res1 rfl (rv_tmp rfl)) rfl ⟨_, by rw [hS.out]; rfl, by rw [hS.out]; exact H.drop1⟩
set_option maxRecDepth 100000 in
set_option maxHeartbeats 2000000 in
theorem Raise_low (H0 : Own w (BD B d b pd)) (hd : d.im.length = 256) (t : Int) (h : d.off = false) (h0 : 0 ≤ t) (h1 : t ≤ 1048576) (hl : t ≤ B.tag) : Calls Tryz.prog 189 #[pV b, .int .i64 t] w (RaisePost B d t b pd w) := by
  have hS := Lib.hid (show raiseM B d t = (B, d, 0) by unfold raiseM; rw [h, if_neg (by omega : ¬ t < 0), if_neg (by omega : ¬ 1048576 < t), if_pos hl]; rfl)
  go_enter Tryz.func189, Tryz.ntmps189
  have H := H0
  unfold Own at H
  go_wp2_with (first | ((first | ((with_reducible apply wlB); refine hw_box rfl rfl H ?_) | ((with_reducible apply wlA); refine hw_alloc rfl H ?_) | ((with_reducible apply wlS); first | refine hw_store 0 rfl rfl rfl H rfl rfl rfl (by simp) rfl ?_ | refine hw_store 1 rfl rfl rfl H rfl rfl rfl (by simp) rfl ?_ | refine hw_store 2 rfl rfl rfl H rfl rfl rfl (by simp) rfl ?_ | refine hw_store 3 rfl rfl rfl H rfl rfl rfl (by simp) rfl ?_)); clear H; intro w' H; (try simp only [Act.eval, Act.put, Value.cells, segV, seg, segPut, NS, Nat.reduceAdd] at H)) | ((with_reducible apply wlL); (first | apply hw_load 0 rfl rfl H rfl | apply hw_load 1 rfl rfl H rfl | apply hw_load 2 rfl rfl H rfl | apply hw_load 3 rfl rfl H rfl); (focus (simp; done)); (focus (simp only [segV, seg, NS]; rfl))))
  refine (on_any (H.blk _ (.tail _ (.head _))) (H.blk _ (.tail _ (.tail _ (.head _)))) hd).mono ?_; rw [h]; rintro e w' ⟨rfl, hb⟩; obtain ⟨s1, hs1, H⟩ := H.call hb; clear hb h
  go_wp2_with (first | ((first | ((with_reducible apply wlB); refine hw_box rfl rfl H ?_) | ((with_reducible apply wlA); refine hw_alloc rfl H ?_) | ((with_reducible apply wlS); first | refine hw_store 0 rfl rfl rfl H rfl rfl rfl (by simp) rfl ?_ | refine hw_store 1 rfl rfl rfl H rfl rfl rfl (by simp) rfl ?_ | refine hw_store 2 rfl rfl rfl H rfl rfl rfl (by simp) rfl ?_ | refine hw_store 3 rfl rfl rfl H rfl rfl rfl (by simp) rfl ?_)); clear H; intro w' H; (try simp only [Act.eval, Act.put, Value.cells, segV, seg, segPut, NS, Nat.reduceAdd] at H)) | ((with_reducible apply wlL); (first | apply hw_load 0 rfl rfl H rfl | apply hw_load 1 rfl rfl H rfl | apply hw_load 2 rfl rfl H rfl | apply hw_load 3 rfl rfl H rfl); (focus (simp; done)); (focus (simp only [segV, seg, NS]; rfl))))
  (try simp only [Act.eval, Act.put, Value.cells, segV, seg, segPut, NS, Nat.reduceAdd])
  refine region_det 8 (HpX _ _ _ _ _) rfl (by kernel_rfl) ⟨_, Nat.le_refl _, H.drew⟩ ?_; clear H; simp only [List.take_succ_cons, List.take_zero, List.drop_succ_cons, List.drop_zero]
  repeat (first | (apply det_op rfl; (focus (rintro w' ⟨s1, hs1, H⟩; go_wp2_with (first | ((with_reducible apply wlL); apply hw_load 0 rfl rfl H rfl; (focus (simp; done)); (focus (simp only [segV, seg, NS]; rfl))) | ((with_reducible apply wlL); apply hw_load 1 rfl rfl H rfl; (focus (simp; done)); (focus (simp only [segV, seg, NS]; rfl)))); refine ⟨rfl, rfl, ?_, _, by omega, H⟩; (first | (simp only [SlotIs, Array.getD_eq_getD_getElem?, List.getElem?_toArray, List.getElem?_cons_succ, List.getElem?_cons_zero, Option.getD_some]; exact rfl) | exact rfl))); (try simp only [Act.put, List.setIfInBounds_toArray, List.set_cons_zero, List.set_cons_succ])) | (apply det_skip rfl; (try simp only [Act.put, List.setIfInBounds_toArray, List.set_cons_zero, List.set_cons_succ])))
  rintro w' ⟨s4, hs4, H⟩; (try simp only [Act.eval, Act.put, Value.cells, segV, seg, segPut, NS, Nat.reduceAdd])
  go_wp2_with (first | ((first | ((with_reducible apply wlB); refine hw_box rfl rfl H ?_) | ((with_reducible apply wlA); refine hw_alloc rfl H ?_) | ((with_reducible apply wlS); first | refine hw_store 0 rfl rfl rfl H rfl rfl rfl (by simp) rfl ?_ | refine hw_store 1 rfl rfl rfl H rfl rfl rfl (by simp) rfl ?_ | refine hw_store 2 rfl rfl rfl H rfl rfl rfl (by simp) rfl ?_ | refine hw_store 3 rfl rfl rfl H rfl rfl rfl (by simp) rfl ?_)); clear H; intro w' H; (try simp only [Act.eval, Act.put, Value.cells, segV, seg, segPut, NS, Nat.reduceAdd] at H)) | ((with_reducible apply wlL); (first | apply hw_load 0 rfl rfl H rfl | apply hw_load 1 rfl rfl H rfl | apply hw_load 2 rfl rfl H rfl | apply hw_load 3 rfl rfl H rfl); (focus (simp; done)); (focus (simp only [segV, seg, NS]; rfl))))
  exact bodyPost_ret (res1 rfl (rv_tmp rfl)) rfl ⟨_, by rw [hS.out]; rfl, by rw [hS.out]; exact H.drop1⟩
set_option maxRecDepth 100000 in
set_option maxHeartbeats 2000000 in
theorem Raise_mid (H0 : Own w (BD B d b pd)) (hd : d.im.length = 256) (t : Int) (h : d.off = false) (h0 : 0 ≤ t) (h1 : t ≤ 1048576) (hl : B.tag < t) (hc : decide (t ≤ B.rec_.tag) = true) : Calls Tryz.prog 189 #[pV b, .int .i64 t] w (RaisePost B d t b pd w) := by
  have hS := Lib.hid (show raiseM B d t = ({ B with tag := t }, d, 0) by unfold raiseM; rw [h, if_neg (by omega : ¬ t < 0), if_neg (by omega : ¬ 1048576 < t), if_neg (by omega : ¬ t ≤ B.tag), if_pos (of_decide_eq_true hc)]; rfl)
  go_enter Tryz.func189, Tryz.ntmps189
  have H := H0
  unfold Own at H
  go_wp2_with (first | ((first | ((with_reducible apply wlB); refine hw_box rfl rfl H ?_) | ((with_reducible apply wlA); refine hw_alloc rfl H ?_) | ((with_reducible apply wlS); first | refine hw_store 0 rfl rfl rfl H rfl rfl rfl (by simp) rfl ?_ | refine hw_store 1 rfl rfl rfl H rfl rfl rfl (by simp) rfl ?_ | refine hw_store 2 rfl rfl rfl H rfl rfl rfl (by simp) rfl ?_ | refine hw_store 3 rfl rfl rfl H rfl rfl rfl (by simp) rfl ?_)); clear H; intro w' H; (try simp only [Act.eval, Act.put, Value.cells, segV, seg, segPut, NS, Nat.reduceAdd] at H)) | ((with_reducible apply wlL); (first | apply hw_load 0 rfl rfl H rfl | apply hw_load 1 rfl rfl H rfl | apply hw_load 2 rfl rfl H rfl | apply hw_load 3 rfl rfl H rfl); (focus (simp; done)); (focus (simp only [segV, seg, NS]; rfl))))
  refine (on_any (H.blk _ (.tail _ (.head _))) (H.blk _ (.tail _ (.tail _ (.head _)))) hd).mono ?_; rw [h]; rintro e w' ⟨rfl, hb⟩; obtain ⟨s1, hs1, H⟩ := H.call hb; clear hb h
  go_wp2_with (first | ((first | ((with_reducible apply wlB); refine hw_box rfl rfl H ?_) | ((with_reducible apply wlA); refine hw_alloc rfl H ?_) | ((with_reducible apply wlS); first | refine hw_store 0 rfl rfl rfl H rfl rfl rfl (by simp) rfl ?_ | refine hw_store 1 rfl rfl rfl H rfl rfl rfl (by simp) rfl ?_ | refine hw_store 2 rfl rfl rfl H rfl rfl rfl (by simp) rfl ?_ | refine hw_store 3 rfl rfl rfl H rfl rfl rfl (by simp) rfl ?_)); clear H; intro w' H; (try simp only [Act.eval, Act.put, Value.cells, segV, seg, segPut, NS, Nat.reduceAdd] at H)) | ((with_reducible apply wlL); (first | apply hw_load 0 rfl rfl H rfl | apply hw_load 1 rfl rfl H rfl | apply hw_load 2 rfl rfl H rfl | apply hw_load 3 rfl rfl H rfl); (focus (simp; done)); (focus (simp only [segV, seg, NS]; rfl))))
  (try simp only [Act.eval, Act.put, Value.cells, segV, seg, segPut, NS, Nat.reduceAdd])
  refine region_det 8 (HpX _ _ _ _ _) rfl (by kernel_rfl) ⟨_, Nat.le_refl _, H.drew⟩ ?_; clear H; simp only [List.take_succ_cons, List.take_zero, List.drop_succ_cons, List.drop_zero]
  repeat (first | (apply det_op rfl; (focus (rintro w' ⟨s1, hs1, H⟩; go_wp2_with (first | ((with_reducible apply wlL); apply hw_load 0 rfl rfl H rfl; (focus (simp; done)); (focus (simp only [segV, seg, NS]; rfl))) | ((with_reducible apply wlL); apply hw_load 1 rfl rfl H rfl; (focus (simp; done)); (focus (simp only [segV, seg, NS]; rfl)))); refine ⟨rfl, rfl, ?_, _, by omega, H⟩; (first | (simp only [SlotIs, Array.getD_eq_getD_getElem?, List.getElem?_toArray, List.getElem?_cons_succ, List.getElem?_cons_zero, Option.getD_some]; exact rfl) | exact rfl))); (try simp only [Act.put, List.setIfInBounds_toArray, List.set_cons_zero, List.set_cons_succ])) | (apply det_skip rfl; (try simp only [Act.put, List.setIfInBounds_toArray, List.set_cons_zero, List.set_cons_succ])))
  rintro w' ⟨s4, hs4, H⟩; (try simp only [Act.eval, Act.put, Value.cells, segV, seg, segPut, NS, Nat.reduceAdd])
  go_wp2_with (first | ((first | ((with_reducible apply wlB); refine hw_box rfl rfl H ?_) | ((with_reducible apply wlA); refine hw_alloc rfl H ?_) | ((with_reducible apply wlS); first | refine hw_store 0 rfl rfl rfl H rfl rfl rfl (by simp) rfl ?_ | refine hw_store 1 rfl rfl rfl H rfl rfl rfl (by simp) rfl ?_ | refine hw_store 2 rfl rfl rfl H rfl rfl rfl (by simp) rfl ?_ | refine hw_store 3 rfl rfl rfl H rfl rfl rfl (by simp) rfl ?_)); clear H; intro w' H; (try simp only [Act.eval, Act.put, Value.cells, segV, seg, segPut, NS, Nat.reduceAdd] at H)) | ((with_reducible apply wlL); (first | apply hw_load 0 rfl rfl H rfl | apply hw_load 1 rfl rfl H rfl | apply hw_load 2 rfl rfl H rfl | apply hw_load 3 rfl rfl H rfl); (focus (simp; done)); (focus (simp only [segV, seg, NS]; rfl))))
  (try simp only [Act.eval, Act.put, Value.cells, segV, seg, segPut, NS, Nat.reduceAdd])
  refine region_det 7 (HpX _ _ _ _ _) rfl (by kernel_rfl) ⟨_, Nat.le_refl _, H.drew⟩ ?_; clear H; simp only [List.take_succ_cons, List.take_zero, List.drop_succ_cons, List.drop_zero]
  repeat (first | (apply det_op rfl; (focus (rintro w' ⟨s1, hs1, H⟩; go_wp2_with (first | ((with_reducible apply wlL); apply hw_load 0 rfl rfl H rfl; (focus (simp; done)); (focus (simp only [segV, seg, NS]; rfl))) | ((with_reducible apply wlL); apply hw_load 1 rfl rfl H rfl; (focus (simp; done)); (focus (simp only [segV, seg, NS]; rfl))) | (go_at_call 217; refine (covers_any (B := B) _ _).mono ?_; rw [hc]; rintro e w' ⟨rfl, hb⟩; obtain ⟨s2, hs2, H⟩ := H.call hb; clear hb)); refine ⟨rfl, rfl, ?_, _, by omega, H⟩; (first | (simp only [SlotIs, Array.getD_eq_getD_getElem?, List.getElem?_toArray, List.getElem?_cons_succ, List.getElem?_cons_zero, Option.getD_some]; exact rfl) | exact rfl))); (try simp only [Act.put, List.setIfInBounds_toArray, List.set_cons_zero, List.set_cons_succ])) | (apply det_skip rfl; (try simp only [Act.put, List.setIfInBounds_toArray, List.set_cons_zero, List.set_cons_succ])))
  rintro w' ⟨s5, hs5, H⟩; (try simp only [Act.eval, Act.put, Value.cells, segV, seg, segPut, NS, Nat.reduceAdd])
  go_wp2_with (first | ((first | ((with_reducible apply wlB); refine hw_box rfl rfl H ?_) | ((with_reducible apply wlA); refine hw_alloc rfl H ?_) | ((with_reducible apply wlS); first | refine hw_store 0 rfl rfl rfl H rfl rfl rfl (by simp) rfl ?_ | refine hw_store 1 rfl rfl rfl H rfl rfl rfl (by simp) rfl ?_ | refine hw_store 2 rfl rfl rfl H rfl rfl rfl (by simp) rfl ?_ | refine hw_store 3 rfl rfl rfl H rfl rfl rfl (by simp) rfl ?_)); clear H; intro w' H; (try simp only [Act.eval, Act.put, Value.cells, segV, seg, segPut, NS, Nat.reduceAdd] at H)) | ((with_reducible apply wlL); (first | apply hw_load 0 rfl rfl H rfl | apply hw_load 1 rfl rfl H rfl | apply hw_load 2 rfl rfl H rfl | apply hw_load 3 rfl rfl H rfl); (focus (simp; done)); (focus (simp only [segV, seg, NS]; rfl))))
  exact bodyPost_ret (res1 rfl (rv_tmp rfl)) rfl ⟨_, by rw [hS.out]; rfl, by rw [hS.out]; exact H.drop1⟩
set_option maxRecDepth 100000 in
set_option maxHeartbeats 2000000 in
theorem Raise_save (H0 : Own w (BD B d b pd)) (hd : d.im.length = 256) (ho : okRec B.rec_) (t : Int) (h : d.off = false) (h0 : 0 ≤ t) (h1 : t ≤ 1048576) (hl : B.tag < t) (hc : decide (t ≤ B.rec_.tag) = false) : Calls Tryz.prog 189 #[pV b, .int .i64 t] w (RaisePost B d t b pd w) := by
  have hS1 := Lib.hid (show raiseM B d t = (if (bootSave B d (raiseU t B.rec_)).2.2 = 0 then ({ (bootSave B d (raiseU t B.rec_)).1 with tag := t }, (bootSave B d (raiseU t B.rec_)).2.1, 0) else bootSave B d (raiseU t B.rec_)) by unfold raiseM; rw [h, if_neg (by omega : ¬ t < 0), if_neg (by omega : ¬ 1048576 < t), if_neg (by omega : ¬ t ≤ B.tag), if_neg (of_decide_eq_false hc)]; rfl)
  go_enter Tryz.func189, Tryz.ntmps189
  have H := H0
  unfold Own at H
  go_wp2_with (first | ((first | ((with_reducible apply wlB); refine hw_box rfl rfl H ?_) | ((with_reducible apply wlA); refine hw_alloc rfl H ?_) | ((with_reducible apply wlS); first | refine hw_store 0 rfl rfl rfl H rfl rfl rfl (by simp) rfl ?_ | refine hw_store 1 rfl rfl rfl H rfl rfl rfl (by simp) rfl ?_ | refine hw_store 2 rfl rfl rfl H rfl rfl rfl (by simp) rfl ?_ | refine hw_store 3 rfl rfl rfl H rfl rfl rfl (by simp) rfl ?_)); clear H; intro w' H; (try simp only [Act.eval, Act.put, Value.cells, segV, seg, segPut, NS, Nat.reduceAdd] at H)) | ((with_reducible apply wlL); (first | apply hw_load 0 rfl rfl H rfl | apply hw_load 1 rfl rfl H rfl | apply hw_load 2 rfl rfl H rfl | apply hw_load 3 rfl rfl H rfl); (focus (simp; done)); (focus (simp only [segV, seg, NS]; rfl))))
  have hne := H.nodup
  simp only [List.map_cons, List.map_nil, List.nodup_cons, List.mem_cons, List.not_mem_nil, or_false, not_or, not_false_eq_true, List.nodup_nil, and_true] at hne
  refine (on_any (H.blk _ (.tail _ (.head _))) (H.blk _ (.tail _ (.tail _ (.head _)))) hd).mono ?_; rw [h]; rintro e w' ⟨rfl, hb⟩; obtain ⟨s1, hs1, H⟩ := H.call hb; clear hb h
  go_wp2_with (first | ((first | ((with_reducible apply wlB); refine hw_box rfl rfl H ?_) | ((with_reducible apply wlA); refine hw_alloc rfl H ?_) | ((with_reducible apply wlS); first | refine hw_store 0 rfl rfl rfl H rfl rfl rfl (by simp) rfl ?_ | refine hw_store 1 rfl rfl rfl H rfl rfl rfl (by simp) rfl ?_ | refine hw_store 2 rfl rfl rfl H rfl rfl rfl (by simp) rfl ?_ | refine hw_store 3 rfl rfl rfl H rfl rfl rfl (by simp) rfl ?_)); clear H; intro w' H; (try simp only [Act.eval, Act.put, Value.cells, segV, seg, segPut, NS, Nat.reduceAdd] at H)) | ((with_reducible apply wlL); (first | apply hw_load 0 rfl rfl H rfl | apply hw_load 1 rfl rfl H rfl | apply hw_load 2 rfl rfl H rfl | apply hw_load 3 rfl rfl H rfl); (focus (simp; done)); (focus (simp only [segV, seg, NS]; rfl))))
  (try simp only [Act.eval, Act.put, Value.cells, segV, seg, segPut, NS, Nat.reduceAdd])
  refine region_det 8 (HpX _ _ _ _ _) rfl (by kernel_rfl) ⟨_, Nat.le_refl _, H.drew⟩ ?_; clear H; simp only [List.take_succ_cons, List.take_zero, List.drop_succ_cons, List.drop_zero]
  repeat (first | (apply det_op rfl; (focus (rintro w' ⟨s1, hs1, H⟩; go_wp2_with (first | ((with_reducible apply wlL); apply hw_load 0 rfl rfl H rfl; (focus (simp; done)); (focus (simp only [segV, seg, NS]; rfl))) | ((with_reducible apply wlL); apply hw_load 1 rfl rfl H rfl; (focus (simp; done)); (focus (simp only [segV, seg, NS]; rfl)))); refine ⟨rfl, rfl, ?_, _, by omega, H⟩; (first | (simp only [SlotIs, Array.getD_eq_getD_getElem?, List.getElem?_toArray, List.getElem?_cons_succ, List.getElem?_cons_zero, Option.getD_some]; exact rfl) | exact rfl))); (try simp only [Act.put, List.setIfInBounds_toArray, List.set_cons_zero, List.set_cons_succ])) | (apply det_skip rfl; (try simp only [Act.put, List.setIfInBounds_toArray, List.set_cons_zero, List.set_cons_succ])))
  rintro w' ⟨s4, hs4, H⟩; (try simp only [Act.eval, Act.put, Value.cells, segV, seg, segPut, NS, Nat.reduceAdd])
  go_wp2_with (first | ((first | ((with_reducible apply wlB); refine hw_box rfl rfl H ?_) | ((with_reducible apply wlA); refine hw_alloc rfl H ?_) | ((with_reducible apply wlS); first | refine hw_store 0 rfl rfl rfl H rfl rfl rfl (by simp) rfl ?_ | refine hw_store 1 rfl rfl rfl H rfl rfl rfl (by simp) rfl ?_ | refine hw_store 2 rfl rfl rfl H rfl rfl rfl (by simp) rfl ?_ | refine hw_store 3 rfl rfl rfl H rfl rfl rfl (by simp) rfl ?_)); clear H; intro w' H; (try simp only [Act.eval, Act.put, Value.cells, segV, seg, segPut, NS, Nat.reduceAdd] at H)) | ((with_reducible apply wlL); (first | apply hw_load 0 rfl rfl H rfl | apply hw_load 1 rfl rfl H rfl | apply hw_load 2 rfl rfl H rfl | apply hw_load 3 rfl rfl H rfl); (focus (simp; done)); (focus (simp only [segV, seg, NS]; rfl))))
  (try simp only [Act.eval, Act.put, Value.cells, segV, seg, segPut, NS, Nat.reduceAdd])
  refine region_det 7 (HpX _ _ _ _ _) rfl (by kernel_rfl) ⟨_, Nat.le_refl _, H.drew⟩ ?_; clear H; simp only [List.take_succ_cons, List.take_zero, List.drop_succ_cons, List.drop_zero]
  repeat (first | (apply det_op rfl; (focus (rintro w' ⟨s1, hs1, H⟩; go_wp2_with (first | ((with_reducible apply wlL); apply hw_load 0 rfl rfl H rfl; (focus (simp; done)); (focus (simp only [segV, seg, NS]; rfl))) | ((with_reducible apply wlL); apply hw_load 1 rfl rfl H rfl; (focus (simp; done)); (focus (simp only [segV, seg, NS]; rfl))) | (go_at_call 217; refine (covers_any (B := B) _ _).mono ?_; rw [hc]; rintro e w' ⟨rfl, hb⟩; obtain ⟨s2, hs2, H⟩ := H.call hb; clear hb)); refine ⟨rfl, rfl, ?_, _, by omega, H⟩; (first | (simp only [SlotIs, Array.getD_eq_getD_getElem?, List.getElem?_toArray, List.getElem?_cons_succ, List.getElem?_cons_zero, Option.getD_some]; exact rfl) | exact rfl))); (try simp only [Act.put, List.setIfInBounds_toArray, List.set_cons_zero, List.set_cons_succ])) | (apply det_skip rfl; (try simp only [Act.put, List.setIfInBounds_toArray, List.set_cons_zero, List.set_cons_succ])))
  rintro w' ⟨s5, hs5, H⟩; (try simp only [Act.eval, Act.put, Value.cells, segV, seg, segPut, NS, Nat.reduceAdd])
  go_wp2_with (first | ((first | ((with_reducible apply wlB); refine hw_box rfl rfl H ?_) | ((with_reducible apply wlA); refine hw_alloc rfl H ?_) | ((with_reducible apply wlS); first | refine hw_store 0 rfl rfl rfl H rfl rfl rfl (by simp) rfl ?_ | refine hw_store 1 rfl rfl rfl H rfl rfl rfl (by simp) rfl ?_ | refine hw_store 2 rfl rfl rfl H rfl rfl rfl (by simp) rfl ?_ | refine hw_store 3 rfl rfl rfl H rfl rfl rfl (by simp) rfl ?_)); clear H; intro w' H; (try simp only [Act.eval, Act.put, Value.cells, segV, seg, segPut, NS, Nat.reduceAdd] at H)) | ((with_reducible apply wlL); (first | apply hw_load 0 rfl rfl H rfl | apply hw_load 1 rfl rfl H rfl | apply hw_load 2 rfl rfl H rfl | apply hw_load 3 rfl rfl H rfl); (focus (simp; done)); (focus (simp only [segV, seg, NS]; rfl))))
  refine (save_raise (H.blk _ (.head _)) hne.1.1 hne.1.2 h0 h1 (H.part (pL1 (X := [_, _]))) hd ho).mono ?_; rintro e w' ⟨s3, rfl, H1⟩; obtain ⟨hs3, H⟩ := H.join (pL1 (X := [_, _])) H1; clear H1
  simp only [List.append_nil, List.cons_append, List.nil_append] at H
  generalize bootSave B d (raiseU t B.rec_) = X at *
  obtain ⟨B1, d1, e1⟩ := X
  simp only at hS1 H ⊢
  by_cases hz : e1 = 0
  · have hS := Lib.hid (hS1.out.trans (if_pos hz)); clear hS1
    rw [hz]
    go_wp2_with (first | ((first | ((with_reducible apply wlB); refine hw_box rfl rfl H ?_) | ((with_reducible apply wlA); refine hw_alloc rfl H ?_) | ((with_reducible apply wlS); first | refine hw_store 0 rfl rfl rfl H rfl rfl rfl (by simp) rfl ?_ | refine hw_store 1 rfl rfl rfl H rfl rfl rfl (by simp) rfl ?_ | refine hw_store 2 rfl rfl rfl H rfl rfl rfl (by simp) rfl ?_ | refine hw_store 3 rfl rfl rfl H rfl rfl rfl (by simp) rfl ?_)); clear H; intro w' H; (try simp only [Act.eval, Act.put, Value.cells, segV, seg, segPut, NS, Nat.reduceAdd] at H)) | ((with_reducible apply wlL); (first | apply hw_load 0 rfl rfl H rfl | apply hw_load 1 rfl rfl H rfl | apply hw_load 2 rfl rfl H rfl | apply hw_load 3 rfl rfl H rfl); (focus (simp; done)); (focus (simp only [segV, seg, NS]; rfl))))
    exact bodyPost_ret (res1 rfl (rv_tmp rfl)) rfl ⟨_, by rw [hS.out]; rfl, by rw [hS.out]; exact H.tk 2⟩
  · have hS := Lib.hid (hS1.out.trans (if_neg hz)); clear hS1
    have hq : (e1 != 0) = true := by simp [hz]
    go_wp2_with (first | ((first | ((with_reducible apply wlB); refine hw_box rfl rfl H ?_) | ((with_reducible apply wlA); refine hw_alloc rfl H ?_) | ((with_reducible apply wlS); first | refine hw_store 0 rfl rfl rfl H rfl rfl rfl (by simp) rfl ?_ | refine hw_store 1 rfl rfl rfl H rfl rfl rfl (by simp) rfl ?_ | refine hw_store 2 rfl rfl rfl H rfl rfl rfl (by simp) rfl ?_ | refine hw_store 3 rfl rfl rfl H rfl rfl rfl (by simp) rfl ?_)); clear H; intro w' H; (try simp only [Act.eval, Act.put, Value.cells, segV, seg, segPut, NS, Nat.reduceAdd] at H)) | ((with_reducible apply wlL); (first | apply hw_load 0 rfl rfl H rfl | apply hw_load 1 rfl rfl H rfl | apply hw_load 2 rfl rfl H rfl | apply hw_load 3 rfl rfl H rfl); (focus (simp; done)); (focus (simp only [segV, seg, NS]; rfl))))
    exact bodyPost_ret (res1 rfl (rv_tmp rfl)) rfl ⟨_, by rw [hS.out]; rfl, by rw [hS.out]; exact H.tk 2⟩
theorem Raise_any (H0 : Own w (BD B d b pd)) (hd : d.im.length = 256) (ho : okRec B.rec_) (t : Int) : Calls Tryz.prog 189 #[pV b, .int .i64 t] w (RaisePost B d t b pd w) := by
  rcases Bool.eq_false_or_eq_true d.off with h | h
  · exact Raise_off H0 hd t h
  · by_cases hn : t < 0
    · exact Raise_neg H0 hd t h hn
    · by_cases he : 1048576 < t
      · exact Raise_end H0 hd t h he
      · by_cases hl : t ≤ B.tag
        · exact Raise_low H0 hd t h (by omega) (by omega) hl
        · rcases Bool.eq_false_or_eq_true (decide (t ≤ B.rec_.tag)) with hc | hc
          · exact Raise_mid H0 hd t h (by omega) (by omega) (by omega) hc
          · exact Raise_save H0 hd ho t h (by omega) (by omega) (by omega) hc
end
end Go.Proofs.YtccgpjhgfjfaoaaGreatDoor
/- boot: Open. -/
namespace Go.Proofs.YtccgpjhgfjfaoaaGreatDoor
open Go.RowKit

theorem okRec0 : okRec ⟨0, 0, 0⟩ := ⟨by decide, by decide, by decide, by decide, by decide, by decide⟩
theorem loadN_ok (im : List UInt8) (n : Nat) : okRec (loadN im n).r := by
  induction n with
  | zero => exact okRec0
  | succ n ih =>
    show okRec (loadStep im (loadN im n) n).r
    unfold loadStep
    split
    · rename_i hc
      simp only [Bool.and_eq_true, decide_eq_true_eq, decB, mayBeB] at hc
      obtain ⟨⟨⟨⟨h1, h2, h3, h4, h5, h6⟩, _⟩, _⟩, _⟩ := hc
      exact ⟨by simp only; omega, h2, h3, h4, h5, h6⟩
    · exact ih
def recAt (im : List UInt8) : Rec := if (loadN im 2).at_ < 0 then ⟨0, 0, 0⟩ else (loadN im 2).r
theorem recAt_ok (im : List UInt8) : okRec (recAt im) := by
  unfold recAt; split
  · exact okRec0
  · exact loadN_ok im 2
def bt0 (r : Rec) : Bt := ⟨⟨0, 0, 0⟩, r.round, r.tag⟩
def openT (d : Dsk) (r : Rec) : Option Bt × Dsk × Int :=
  if (bootSave (bt0 r) d (openU r)).2.2 = 0 then (some (bootSave (bt0 r) d (openU r)).1, (bootSave (bt0 r) d (openU r)).2.1, 0) else (none, (bootSave (bt0 r) d (openU r)).2)
def openM (d : Dsk) : Option Bt × Dsk × Int :=
  if d.off then (none, d, 100) else if 0 ≤ (loadN d.im 2).at_ ∧ (recAt d.im).life = 1073741824 then (none, d, 120) else openT d (recAt d.im)
def OpenPost (d : Dsk) (X : Option Bt × Dsk × Int) (pd : Nat) (w : World) : Ending → World → Prop := fun e w' => match X with
  | (some B, d', _) => ∃ sz b, e = .returned (.tuple #[pV b, .int .i64 0]) ∧ Hp (InL [(pd, tDisk, dskC d)]) w w' sz (BD B d' b pd) []
  | (none, d', x) => ∃ sz, e = .returned (.tuple #[.pointer none, .int .i64 x]) ∧ Hp (InL [(pd, tDisk, dskC d)]) w w' sz [(pd, tDisk, dskC d')] []
section
variable {w : World} {pd : Nat} {d : Dsk}
set_option maxRecDepth 100000 in
set_option maxHeartbeats 2000000 in
theorem Open_off (H0 : Own w [(pd, tDisk, dskC d)]) (hd : d.im.length = 256) (h : d.off = true) : Calls Tryz.prog 100 #[pV pd] w (OpenPost d (openM d) pd w) := by
  have hS := Lib.hid (show openM d = (none, d, 100) by unfold openM; rw [h]; rfl)
  go_enter Tryz.func100, Tryz.ntmps100
  have H := H0
  unfold Own at H
  go_wp2_with (first | ((first | ((with_reducible apply wlB); refine hw_box rfl rfl H ?_) | ((with_reducible apply wlA); refine hw_alloc rfl H ?_) | ((with_reducible apply wlS); first | refine hw_store 0 rfl rfl rfl H rfl rfl rfl (by simp) rfl ?_ | refine hw_store 1 rfl rfl rfl H rfl rfl rfl (by simp) rfl ?_ | refine hw_store 2 rfl rfl rfl H rfl rfl rfl (by simp) rfl ?_ | refine hw_store 3 rfl rfl rfl H rfl rfl rfl (by simp) rfl ?_)); clear H; intro w' H; (try simp only [Act.eval, Act.put, Value.cells, segV, seg, segPut, NS, Nat.reduceAdd] at H)) | ((with_reducible apply wlL); (first | apply hw_load 0 rfl rfl H rfl | apply hw_load 1 rfl rfl H rfl | apply hw_load 2 rfl rfl H rfl | apply hw_load 3 rfl rfl H rfl); (focus (simp; done)); (focus (simp only [segV, seg, NS]; rfl))))
  refine (Load_off (H.blk _ (.head _)) hd h).mono ?_; rintro e w' ⟨rfl, hb⟩; obtain ⟨s1, hs1, H⟩ := H.call hb; clear hb h
  go_wp2_with (first | ((first | ((with_reducible apply wlB); refine hw_box rfl rfl H ?_) | ((with_reducible apply wlA); refine hw_alloc rfl H ?_) | ((with_reducible apply wlS); first | refine hw_store 0 rfl rfl rfl H rfl rfl rfl (by simp) rfl ?_ | refine hw_store 1 rfl rfl rfl H rfl rfl rfl (by simp) rfl ?_ | refine hw_store 2 rfl rfl rfl H rfl rfl rfl (by simp) rfl ?_ | refine hw_store 3 rfl rfl rfl H rfl rfl rfl (by simp) rfl ?_)); clear H; intro w' H; (try simp only [Act.eval, Act.put, Value.cells, segV, seg, segPut, NS, Nat.reduceAdd] at H)) | ((with_reducible apply wlL); (first | apply hw_load 0 rfl rfl H rfl | apply hw_load 1 rfl rfl H rfl | apply hw_load 2 rfl rfl H rfl | apply hw_load 3 rfl rfl H rfl); (focus (simp; done)); (focus (simp only [segV, seg, NS]; rfl))))
  exact bodyPost_ret (res2 rfl (rv_tmp rfl) (rv_tmp rfl)) rfl (by rw [hS.out]; exact ⟨_, rfl, H.drop1⟩)
set_option maxRecDepth 100000 in
set_option maxHeartbeats 2000000 in
theorem Open_end (H0 : Own w [(pd, tDisk, dskC d)]) (hd : d.im.length = 256) (h : d.off = false) (ha : 0 ≤ (loadN d.im 2).at_) (hl : (loadN d.im 2).r.life = 1073741824) : Calls Tryz.prog 100 #[pV pd] w (OpenPost d (openM d) pd w) := by
  have hr : recAt d.im = (loadN d.im 2).r := if_neg (by omega)
  have hS := Lib.hid (show openM d = (none, d, 120) by unfold openM; rw [h, hr]; simp only [Bool.false_eq_true, if_false]; rw [if_pos ⟨ha, hl⟩])
  have hV : loadV d.im = .tuple #[recV (loadN d.im 2).r, .int .i64 (loadN d.im 2).s, .int .i64 0] := if_neg (by omega)
  go_enter Tryz.func100, Tryz.ntmps100
  have H := H0
  unfold Own at H
  have HV := Lib.hid hV
  have HQ := Lib.hid (show ((loadN d.im 2).r.life == 1073741824) = true by simp [hl])
  clear hV hr hl
  go_wp2_with (first | ((first | ((with_reducible apply wlB); refine hw_box rfl rfl H ?_) | ((with_reducible apply wlA); refine hw_alloc rfl H ?_) | ((with_reducible apply wlS); first | refine hw_store 0 rfl rfl rfl H rfl rfl rfl (by simp) rfl ?_ | refine hw_store 1 rfl rfl rfl H rfl rfl rfl (by simp) rfl ?_ | refine hw_store 2 rfl rfl rfl H rfl rfl rfl (by simp) rfl ?_ | refine hw_store 3 rfl rfl rfl H rfl rfl rfl (by simp) rfl ?_)); clear H; intro w' H; (try simp only [Act.eval, Act.put, Value.cells, segV, seg, segPut, NS, Nat.reduceAdd] at H)) | ((with_reducible apply wlL); (first | apply hw_load 0 rfl rfl H rfl | apply hw_load 1 rfl rfl H rfl | apply hw_load 2 rfl rfl H rfl | apply hw_load 3 rfl rfl H rfl); (focus (simp; done)); (focus (simp only [segV, seg, NS]; rfl))))
  refine (Load_ok (H.blk _ (.head _)) hd h).mono ?_; rw [HV.out]; rintro e w' ⟨rfl, hb⟩; obtain ⟨s1, hs1, H⟩ := H.call hb; clear hb h
  have hq := HQ.out
  go_wp2_with (first | ((first | ((with_reducible apply wlB); refine hw_box rfl rfl H ?_) | ((with_reducible apply wlA); refine hw_alloc rfl H ?_) | ((with_reducible apply wlS); first | refine hw_store 0 rfl rfl rfl H rfl rfl rfl (by simp) rfl ?_ | refine hw_store 1 rfl rfl rfl H rfl rfl rfl (by simp) rfl ?_ | refine hw_store 2 rfl rfl rfl H rfl rfl rfl (by simp) rfl ?_ | refine hw_store 3 rfl rfl rfl H rfl rfl rfl (by simp) rfl ?_)); clear H; intro w' H; (try simp only [Act.eval, Act.put, Value.cells, segV, seg, segPut, NS, Nat.reduceAdd] at H)) | ((with_reducible apply wlL); (first | apply hw_load 0 rfl rfl H rfl | apply hw_load 1 rfl rfl H rfl | apply hw_load 2 rfl rfl H rfl | apply hw_load 3 rfl rfl H rfl); (focus (simp; done)); (focus (simp only [segV, seg, NS]; rfl))))
  exact bodyPost_ret (res2 rfl (rv_tmp rfl) (rv_tmp rfl)) rfl (by rw [hS.out]; exact ⟨_, rfl, H.drop1⟩)
set_option maxRecDepth 100000 in
set_option maxHeartbeats 2000000 in
theorem Open_a (H0 : Own w [(pd, tDisk, dskC d)]) (hd : d.im.length = 256) (h : d.off = false) (ha : 0 ≤ (loadN d.im 2).at_) (hl : ((loadN d.im 2).r.life == 1073741824) = false) : Calls Tryz.prog 100 #[pV pd] w (OpenPost d (openM d) pd w) := by
  have hr : recAt d.im = (loadN d.im 2).r := if_neg (by omega)
  have hS1 := Lib.hid (show openM d = openT d (recAt d.im) by unfold openM; rw [h]; simp only [Bool.false_eq_true, if_false]; rw [if_neg (by rw [hr]; simp at hl; simp [hl])])
  have hV : loadV d.im = .tuple #[recV (loadN d.im 2).r, .int .i64 (loadN d.im 2).s, .int .i64 0] := if_neg (by omega)
  replace hS1 := Lib.hid (hS1.out.trans (by rw [hr]))
  have hok := loadN_ok d.im 2
  go_enter Tryz.func100, Tryz.ntmps100
  have H := H0
  unfold Own at H
  have HV := Lib.hid hV
  have HL := Lib.hid hl
  clear hV hr hl
  go_wp2_with (first | ((first | ((with_reducible apply wlB); refine hw_box rfl rfl H ?_) | ((with_reducible apply wlA); refine hw_alloc rfl H ?_) | ((with_reducible apply wlS); first | refine hw_store 0 rfl rfl rfl H rfl rfl rfl (by simp) rfl ?_ | refine hw_store 1 rfl rfl rfl H rfl rfl rfl (by simp) rfl ?_ | refine hw_store 2 rfl rfl rfl H rfl rfl rfl (by simp) rfl ?_ | refine hw_store 3 rfl rfl rfl H rfl rfl rfl (by simp) rfl ?_)); clear H; intro w' H; (try simp only [Act.eval, Act.put, Value.cells, segV, seg, segPut, NS, Nat.reduceAdd] at H)) | ((with_reducible apply wlL); (first | apply hw_load 0 rfl rfl H rfl | apply hw_load 1 rfl rfl H rfl | apply hw_load 2 rfl rfl H rfl | apply hw_load 3 rfl rfl H rfl); (focus (simp; done)); (focus (simp only [segV, seg, NS]; rfl))))
  refine (Load_ok (H.blk _ (.head _)) hd h).mono ?_; rw [HV.out]; rintro e w' ⟨rfl, hb⟩; obtain ⟨s1, hs1, H⟩ := H.call hb; clear hb h
  generalize (loadN d.im 2).r = r at *
  have hl := HL.out
  go_wp2_with (first | ((first | ((with_reducible apply wlB); refine hw_box rfl rfl H ?_) | ((with_reducible apply wlA); refine hw_alloc rfl H ?_) | ((with_reducible apply wlS); first | refine hw_store 0 rfl rfl rfl H rfl rfl rfl (by simp) rfl ?_ | refine hw_store 1 rfl rfl rfl H rfl rfl rfl (by simp) rfl ?_ | refine hw_store 2 rfl rfl rfl H rfl rfl rfl (by simp) rfl ?_ | refine hw_store 3 rfl rfl rfl H rfl rfl rfl (by simp) rfl ?_)); clear H; intro w' H; (try simp only [Act.eval, Act.put, Value.cells, segV, seg, segPut, NS, Nat.reduceAdd] at H)) | ((with_reducible apply wlL); (first | apply hw_load 0 rfl rfl H rfl | apply hw_load 1 rfl rfl H rfl | apply hw_load 2 rfl rfl H rfl | apply hw_load 3 rfl rfl H rfl); (focus (simp; done)); (focus (simp only [segV, seg, NS]; rfl))))
  have hne := H.nodup
  simp only [List.map_cons, List.map_nil, List.nodup_cons, List.mem_cons, List.not_mem_nil, or_false, not_or, not_false_eq_true, List.nodup_nil, and_true] at hne
  refine (save_open (B := bt0 r) (H.blk _ (.tail _ (.head _))) (Ne.symm hne.1.1) hne.2 hok (H.part (Lb := [_]) (by exact List.Perm.cons _ (List.Perm.swap _ _ _))) hd okRec0).mono ?_; rintro e w' ⟨s3, rfl, H1⟩; obtain ⟨hs3, H⟩ := H.join (Lb := [_]) (List.Perm.cons _ (List.Perm.swap _ _ _)) H1; clear H1
  simp only [List.append_nil, List.cons_append, List.nil_append] at H
  replace hS1 := hS1.out
  unfold openT at hS1
  generalize bootSave (bt0 r) d (openU r) = X at *
  obtain ⟨B1, d1, e1⟩ := X
  simp only at hS1 H ⊢
  by_cases hz : e1 = 0
  · have hS := Lib.hid (hS1.trans (if_pos hz)); clear hS1
    rw [hz]
    go_wp2_with (first | ((first | ((with_reducible apply wlB); refine hw_box rfl rfl H ?_) | ((with_reducible apply wlA); refine hw_alloc rfl H ?_) | ((with_reducible apply wlS); first | refine hw_store 0 rfl rfl rfl H rfl rfl rfl (by simp) rfl ?_ | refine hw_store 1 rfl rfl rfl H rfl rfl rfl (by simp) rfl ?_ | refine hw_store 2 rfl rfl rfl H rfl rfl rfl (by simp) rfl ?_ | refine hw_store 3 rfl rfl rfl H rfl rfl rfl (by simp) rfl ?_)); clear H; intro w' H; (try simp only [Act.eval, Act.put, Value.cells, segV, seg, segPut, NS, Nat.reduceAdd] at H)) | ((with_reducible apply wlL); (first | apply hw_load 0 rfl rfl H rfl | apply hw_load 1 rfl rfl H rfl | apply hw_load 2 rfl rfl H rfl | apply hw_load 3 rfl rfl H rfl); (focus (simp; done)); (focus (simp only [segV, seg, NS]; rfl))))
    exact bodyPost_ret (res2 rfl (rv_tmp rfl) (rv_tmp rfl)) rfl (by rw [hS.out]; exact ⟨_, _, rfl, H.tk 2⟩)
  · have hS := Lib.hid (hS1.trans (if_neg hz)); clear hS1
    have hq : (e1 != 0) = true := by simp [hz]
    go_wp2_with (first | ((first | ((with_reducible apply wlB); refine hw_box rfl rfl H ?_) | ((with_reducible apply wlA); refine hw_alloc rfl H ?_) | ((with_reducible apply wlS); first | refine hw_store 0 rfl rfl rfl H rfl rfl rfl (by simp) rfl ?_ | refine hw_store 1 rfl rfl rfl H rfl rfl rfl (by simp) rfl ?_ | refine hw_store 2 rfl rfl rfl H rfl rfl rfl (by simp) rfl ?_ | refine hw_store 3 rfl rfl rfl H rfl rfl rfl (by simp) rfl ?_)); clear H; intro w' H; (try simp only [Act.eval, Act.put, Value.cells, segV, seg, segPut, NS, Nat.reduceAdd] at H)) | ((with_reducible apply wlL); (first | apply hw_load 0 rfl rfl H rfl | apply hw_load 1 rfl rfl H rfl | apply hw_load 2 rfl rfl H rfl | apply hw_load 3 rfl rfl H rfl); (focus (simp; done)); (focus (simp only [segV, seg, NS]; rfl))))
    exact bodyPost_ret (res2 rfl (rv_tmp rfl) (rv_tmp rfl)) rfl (by rw [hS.out]; exact ⟨_, rfl, (H.tk 2).drop1⟩)
set_option maxRecDepth 100000 in
set_option maxHeartbeats 2000000 in
theorem Open_b (H0 : Own w [(pd, tDisk, dskC d)]) (hd : d.im.length = 256) (h : d.off = false) (ha : (loadN d.im 2).at_ < 0) : Calls Tryz.prog 100 #[pV pd] w (OpenPost d (openM d) pd w) := by
  have hr : recAt d.im = ⟨0, 0, 0⟩ := if_pos ha
  have hS1 := Lib.hid (show openM d = openT d (recAt d.im) by unfold openM; rw [h]; simp only [Bool.false_eq_true, if_false]; rw [if_neg (by omega)])
  have hV : loadV d.im = .tuple #[recV ⟨0, 0, 0⟩, .int .i64 0, .int .i64 40] := if_pos ha
  replace hS1 := Lib.hid (hS1.out.trans (by rw [hr]))
  have hok := okRec0
  go_enter Tryz.func100, Tryz.ntmps100
  have H := H0
  unfold Own at H
  have HV := Lib.hid hV
  clear hV hr
  go_wp2_with (first | ((first | ((with_reducible apply wlB); refine hw_box rfl rfl H ?_) | ((with_reducible apply wlA); refine hw_alloc rfl H ?_) | ((with_reducible apply wlS); first | refine hw_store 0 rfl rfl rfl H rfl rfl rfl (by simp) rfl ?_ | refine hw_store 1 rfl rfl rfl H rfl rfl rfl (by simp) rfl ?_ | refine hw_store 2 rfl rfl rfl H rfl rfl rfl (by simp) rfl ?_ | refine hw_store 3 rfl rfl rfl H rfl rfl rfl (by simp) rfl ?_)); clear H; intro w' H; (try simp only [Act.eval, Act.put, Value.cells, segV, seg, segPut, NS, Nat.reduceAdd] at H)) | ((with_reducible apply wlL); (first | apply hw_load 0 rfl rfl H rfl | apply hw_load 1 rfl rfl H rfl | apply hw_load 2 rfl rfl H rfl | apply hw_load 3 rfl rfl H rfl); (focus (simp; done)); (focus (simp only [segV, seg, NS]; rfl))))
  refine (Load_ok (H.blk _ (.head _)) hd h).mono ?_; rw [HV.out]; rintro e w' ⟨rfl, hb⟩; obtain ⟨s1, hs1, H⟩ := H.call hb; clear hb h
  go_wp2_with (first | ((first | ((with_reducible apply wlB); refine hw_box rfl rfl H ?_) | ((with_reducible apply wlA); refine hw_alloc rfl H ?_) | ((with_reducible apply wlS); first | refine hw_store 0 rfl rfl rfl H rfl rfl rfl (by simp) rfl ?_ | refine hw_store 1 rfl rfl rfl H rfl rfl rfl (by simp) rfl ?_ | refine hw_store 2 rfl rfl rfl H rfl rfl rfl (by simp) rfl ?_ | refine hw_store 3 rfl rfl rfl H rfl rfl rfl (by simp) rfl ?_)); clear H; intro w' H; (try simp only [Act.eval, Act.put, Value.cells, segV, seg, segPut, NS, Nat.reduceAdd] at H)) | ((with_reducible apply wlL); (first | apply hw_load 0 rfl rfl H rfl | apply hw_load 1 rfl rfl H rfl | apply hw_load 2 rfl rfl H rfl | apply hw_load 3 rfl rfl H rfl); (focus (simp; done)); (focus (simp only [segV, seg, NS]; rfl))))
  generalize hrr : (⟨0, 0, 0⟩ : Rec) = r at *
  replace H : Hp (InL [(pd, tDisk, dskC d)]) w w' (s1 + 1 + 1) [(s1 + 1, tBoot, bootC (bt0 r) pd), (s1, tRec, recC r), (pd, tDisk, dskC d)] [] := by rw [← hrr]; exact H
  have hne := H.nodup
  simp only [List.map_cons, List.map_nil, List.nodup_cons, List.mem_cons, List.not_mem_nil, or_false, not_or, not_false_eq_true, List.nodup_nil, and_true] at hne
  refine (save_open (B := bt0 r) (H.blk _ (.tail _ (.head _))) (Ne.symm hne.1.1) hne.2 hok (H.part (Lb := [_]) (by exact List.Perm.cons _ (List.Perm.swap _ _ _))) hd okRec0).mono ?_; rintro e w' ⟨s3, rfl, H1⟩; obtain ⟨hs3, H⟩ := H.join (Lb := [_]) (List.Perm.cons _ (List.Perm.swap _ _ _)) H1; clear H1
  simp only [List.append_nil, List.cons_append, List.nil_append] at H
  replace hS1 := hS1.out
  unfold openT at hS1
  generalize bootSave (bt0 r) d (openU r) = X at *
  obtain ⟨B1, d1, e1⟩ := X
  simp only at hS1 H ⊢
  by_cases hz : e1 = 0
  · have hS := Lib.hid (hS1.trans (if_pos hz)); clear hS1
    rw [hz]
    go_wp2_with (first | ((first | ((with_reducible apply wlB); refine hw_box rfl rfl H ?_) | ((with_reducible apply wlA); refine hw_alloc rfl H ?_) | ((with_reducible apply wlS); first | refine hw_store 0 rfl rfl rfl H rfl rfl rfl (by simp) rfl ?_ | refine hw_store 1 rfl rfl rfl H rfl rfl rfl (by simp) rfl ?_ | refine hw_store 2 rfl rfl rfl H rfl rfl rfl (by simp) rfl ?_ | refine hw_store 3 rfl rfl rfl H rfl rfl rfl (by simp) rfl ?_)); clear H; intro w' H; (try simp only [Act.eval, Act.put, Value.cells, segV, seg, segPut, NS, Nat.reduceAdd] at H)) | ((with_reducible apply wlL); (first | apply hw_load 0 rfl rfl H rfl | apply hw_load 1 rfl rfl H rfl | apply hw_load 2 rfl rfl H rfl | apply hw_load 3 rfl rfl H rfl); (focus (simp; done)); (focus (simp only [segV, seg, NS]; rfl))))
    exact bodyPost_ret (res2 rfl (rv_tmp rfl) (rv_tmp rfl)) rfl (by rw [hS.out]; exact ⟨_, _, rfl, H.tk 2⟩)
  · have hS := Lib.hid (hS1.trans (if_neg hz)); clear hS1
    have hq : (e1 != 0) = true := by simp [hz]
    go_wp2_with (first | ((first | ((with_reducible apply wlB); refine hw_box rfl rfl H ?_) | ((with_reducible apply wlA); refine hw_alloc rfl H ?_) | ((with_reducible apply wlS); first | refine hw_store 0 rfl rfl rfl H rfl rfl rfl (by simp) rfl ?_ | refine hw_store 1 rfl rfl rfl H rfl rfl rfl (by simp) rfl ?_ | refine hw_store 2 rfl rfl rfl H rfl rfl rfl (by simp) rfl ?_ | refine hw_store 3 rfl rfl rfl H rfl rfl rfl (by simp) rfl ?_)); clear H; intro w' H; (try simp only [Act.eval, Act.put, Value.cells, segV, seg, segPut, NS, Nat.reduceAdd] at H)) | ((with_reducible apply wlL); (first | apply hw_load 0 rfl rfl H rfl | apply hw_load 1 rfl rfl H rfl | apply hw_load 2 rfl rfl H rfl | apply hw_load 3 rfl rfl H rfl); (focus (simp; done)); (focus (simp only [segV, seg, NS]; rfl))))
    exact bodyPost_ret (res2 rfl (rv_tmp rfl) (rv_tmp rfl)) rfl (by rw [hS.out]; exact ⟨_, rfl, (H.tk 2).drop1⟩)
theorem Open_any (H0 : Own w [(pd, tDisk, dskC d)]) (hd : d.im.length = 256) : Calls Tryz.prog 100 #[pV pd] w (OpenPost d (openM d) pd w) := by
  rcases Bool.eq_false_or_eq_true d.off with h | h
  · exact Open_off H0 hd h
  · by_cases ha : 0 ≤ (loadN d.im 2).at_
    · rcases Bool.eq_false_or_eq_true ((loadN d.im 2).r.life == 1073741824) with hl | hl
      · exact Open_end H0 hd h ha (by simpa using hl)
      · exact Open_a H0 hd h ha hl
    · exact Open_b H0 hd h (by omega)
end
end Go.Proofs.YtccgpjhgfjfaoaaGreatDoor
/- node: a life's blocks; happens. -/
namespace Go.Proofs.YtccgpjhgfjfaoaaGreatDoor
open Go.RowKit

structure Evt where
  kind : Int
  node : Int := 0
  life : Int := 0
  round : Int := 0
  tag : Int := 0
  of : Int := 0
  durable : Int := 0
  heard : Nat := 0
  union : Nat := 0
def encE (e : Evt) : List Value := [.int .i64 e.kind, .int .i64 e.node, .int .i64 e.life, .int .i64 e.round, .int .i64 e.tag, .int .i64 e.of, .int .i64 e.durable,
  .int .u32 (wd e.heard 0), .int .u32 (wd e.heard 1), .int .u32 (wd e.heard 2), .int .u32 (wd e.heard 3), .int .u32 (wd e.union 0), .int .u32 (wd e.union 1), .int .u32 (wd e.union 2), .int .u32 (wd e.union 3)]
abbrev evtV (e : Evt) : Value := .agg #[.int .i64 e.kind, .int .i64 e.node, .int .i64 e.life, .int .i64 e.round, .int .i64 e.tag, .int .i64 e.of, .int .i64 e.durable,
  .int .u32 (wd e.heard 0), .int .u32 (wd e.heard 1), .int .u32 (wd e.heard 2), .int .u32 (wd e.heard 3), .int .u32 (wd e.union 0), .int .u32 (wd e.union 1), .int .u32 (wd e.union 2), .int .u32 (wd e.union 3)]
structure Lf where
  n : Int
  f : Int
  self : Int
  B : Bt
  book : List Ntc
  heard : Nat
  T : Tly
  down : Bool
  past : List Evt
abbrev tLife : TypeId := 84
abbrev tEv : TypeId := 61
abbrev lifeC (x : Lf) (pb pk pt : Nat) (pv : Value) : Array Value := #[pV pb, .int .i64 x.n, .int .i64 x.f, .int .i64 x.self, pV pk, .int .u32 (wd x.heard 0), .int .u32 (wd x.heard 1), .int .u32 (wd x.heard 2), .int .u32 (wd x.heard 3), pV pt, .bool x.down, pv]
/-- The blocks of a life, its disk's among them. -/
structure LifeIs (x : Lf) (d : Dsk) (pl pd : Nat) (pb pk pr pt : Nat) (pv : Value) (LT LP L : List Bk) : Prop where
  tly : TlyIs x.T pt LT
  past : GL tEv 15 pv x.past.length (x.past.flatMap encE) LP
  eq : L = (pl, tLife, lifeC x pb pk pt pv) :: (pb, tBoot, bootC x.B pd) :: (pd, tDisk, dskC d) :: (pk, tBook, bookC pr x.book.length) :: (pr, tNtc, rowC x.book) :: (LT ++ LP)
def LifeAt (x : Lf) (d : Dsk) (pl pd : Nat) (L : List Bk) : Prop := ∃ pb pk pr pt pv LT LP, LifeIs x d pl pd pb pk pr pt pv LT LP L
def Lf.happens (x : Lf) (e : Evt) : Lf := { x with past := x.past ++ [{ e with node := x.self, life := x.B.rec_.life }] }
instance iLife1_1 : Ty Tryz.prog 61 true 15 := ⟨fun _ => by kernel_rfl, fun _ => by kernel_rfl, fun h => by cases h⟩
instance iLife1_2 : Ty Tryz.prog 80 false 1 := ⟨fun _ => by kernel_rfl, fun _ => by kernel_rfl, fun _ => rfl⟩
instance iLife1_3 : Ty Tryz.prog 82 false 1 := ⟨fun _ => by kernel_rfl, fun _ => by kernel_rfl, fun _ => rfl⟩
instance iLife1_4 : Ty Tryz.prog 77 false 1 := ⟨fun _ => by kernel_rfl, fun _ => by kernel_rfl, fun _ => rfl⟩
theorem perm7 {α : Type} {a b c d e f g : α} {A X : List α} : (a :: b :: c :: d :: e :: f :: ((A ++ X) ++ [g])).Perm (X ++ (a :: b :: c :: d :: e :: f :: g :: A)) := by
  apply perm_count; intro x; simp only [List.count_append, List.count_cons, List.count_nil]; omega
section
variable {w : World} {x : Lf} {d : Dsk} {pl pd : Nat} {L : List Bk}
set_option maxRecDepth 100000 in
set_option maxHeartbeats 2000000 in
theorem happens_any (hI : LifeAt x d pl pd L) (H0 : Own w L) (hl : x.past.length ≤ 100000) (e : Evt) : Calls Tryz.prog 105 #[pV pl, evtV e] w (UpdO L (LifeAt (x.happens e) d pl pd) (.tuple #[]) w) := by
  obtain ⟨pb, pk, pr, pt, pv, LT, LP, hT, hG, rfl⟩ := hI
  go_enter Tryz.func105, Tryz.ntmps105
  have H := H0
  unfold Own at H
  go_wp2_with (first | ((first | ((with_reducible apply wlB); refine hw_box rfl rfl H ?_) | ((with_reducible apply wlA); refine hw_alloc rfl H ?_) | ((with_reducible apply wlS); first | refine hw_store 0 rfl rfl rfl H rfl rfl rfl (by simp) rfl ?_ | refine hw_store 1 rfl rfl rfl H rfl rfl rfl (by simp) rfl ?_ | refine hw_store 2 rfl rfl rfl H rfl rfl rfl (by simp) rfl ?_ | refine hw_store 3 rfl rfl rfl H rfl rfl rfl (by simp) rfl ?_)); clear H; intro w' H; (try simp only [Act.eval, Act.put, Value.cells, segV, seg, segPut, NS, Nat.reduceAdd] at H)) | ((with_reducible apply wlL); (first | apply hw_load 0 rfl rfl H rfl | apply hw_load 1 rfl rfl H rfl | apply hw_load 2 rfl rfl H rfl | apply hw_load 3 rfl rfl H rfl); (focus (simp; done)); (focus (simp only [segV, seg, NS]; rfl))))
  (try simp only [Act.eval, Act.put, Value.cells, segV, seg, segPut, NS, Nat.reduceAdd])
  refine region_det 10 (HpX _ _ _ _ _) rfl (by kernel_rfl) ⟨_, Nat.le_refl _, H.drew⟩ ?_; clear H; simp only [List.take_succ_cons, List.take_zero, List.drop_succ_cons, List.drop_zero]
  repeat (first | (apply det_op rfl; (focus (rintro w' ⟨s1, hs1, H⟩; go_wp2_with (first | ((with_reducible apply wlL); apply hw_load 0 rfl rfl H rfl; (focus (simp; done)); (focus (simp only [segV, seg, NS]; rfl))) | ((with_reducible apply wlL); apply hw_load 1 rfl rfl H rfl; (focus (simp; done)); (focus (simp only [segV, seg, NS]; rfl))) | (go_at_call 40; refine (Life_any (H.blk _ (.tail _ (.tail _ (.head _))))).mono ?_; rintro e w' ⟨rfl, hb⟩; obtain ⟨s2, hs2, H⟩ := H.call hb; clear hb)); refine ⟨rfl, rfl, ?_, _, by omega, H⟩; (first | (simp only [SlotIs, Array.getD_eq_getD_getElem?, List.getElem?_toArray, List.getElem?_cons_succ, List.getElem?_cons_zero, Option.getD_some]; exact rfl) | exact rfl))); (try simp only [Act.put, List.setIfInBounds_toArray, List.set_cons_zero, List.set_cons_succ])) | (apply det_skip rfl; (try simp only [Act.put, List.setIfInBounds_toArray, List.set_cons_zero, List.set_cons_succ])))
  rintro w' ⟨s4, hs4, H⟩; (try simp only [Act.eval, Act.put, Value.cells, segV, seg, segPut, NS, Nat.reduceAdd])
  go_wp2_with (first | ((first | ((with_reducible apply wlB); refine hw_box rfl rfl H ?_) | ((with_reducible apply wlA); refine hw_alloc rfl H ?_) | ((with_reducible apply wlS); first | refine hw_store 0 rfl rfl rfl H rfl rfl rfl (by simp) rfl ?_ | refine hw_store 1 rfl rfl rfl H rfl rfl rfl (by simp) rfl ?_ | refine hw_store 2 rfl rfl rfl H rfl rfl rfl (by simp) rfl ?_ | refine hw_store 3 rfl rfl rfl H rfl rfl rfl (by simp) rfl ?_)); clear H; intro w' H; (try simp only [Act.eval, Act.put, Value.cells, segV, seg, segPut, NS, Nat.reduceAdd] at H)) | ((with_reducible apply wlL); (first | apply hw_load 0 rfl rfl H rfl | apply hw_load 1 rfl rfl H rfl | apply hw_load 2 rfl rfl H rfl | apply hw_load 3 rfl rfl H rfl); (focus (simp; done)); (focus (simp only [segV, seg, NS]; rfl))))
  (try simp only [Act.eval, Act.put, Value.cells, segV, seg, segPut, NS, Nat.reduceAdd])
  refine region_mkP 7 6 0 (tEv) ((encE { e with node := x.self, life := x.B.rec_.life }).toArray) H rfl (by kernel_rfl) ?_; clear H; simp only [List.take_succ_cons, List.take_zero, List.drop_succ_cons, List.drop_zero]
  repeat (first | (apply detS_op (by decide) rfl; (focus (rintro e0 w' H; unfold HpM at H; go_wp2_with (first | ((with_reducible apply wlL); apply hw_load 0 rfl rfl H rfl; (focus (simp; done)); (focus (simp only [segV, seg, NS]; rfl))) | ((with_reducible apply wlL); apply hw_load 1 rfl rfl H rfl; (focus (simp; done)); (focus (simp only [segV, seg, NS]; rfl)))); refine ⟨rfl, rfl, ?_, H⟩; (first | (simp only [SlotIs, Array.getD_eq_getD_getElem?, List.getElem?_toArray, List.getElem?_cons_succ, List.getElem?_cons_zero, Option.getD_some]; exact rfl) | exact rfl))); (try simp only [Act.put, List.setIfInBounds_toArray, List.set_cons_zero, List.set_cons_succ])) | (apply detS_st (by decide) rfl; (focus (rintro w' H; replace H := H.start; go_wp2_with (first | ((with_reducible show wpList _ _ _ (⟨_, .buildSlice _ 1 _, _, _, _, _⟩ :: _) _ _); refine hw_build1 (e := tEv) (size := 15) rfl rfl rfl rfl (by decide) H ?_; clear H; intro w' H; (try simp only [Act.eval, Act.put, Value.cells, segV, seg, segPut, NS, Nat.reduceAdd] at H))); refine ⟨rfl, rfl, ?_, H.mkd⟩; (first | (simp only [SlotIs, Array.getD_eq_getD_getElem?, List.getElem?_toArray, List.getElem?_cons_succ, List.getElem?_cons_zero, Option.getD_some]; exact rfl) | exact rfl))); (try simp only [Act.put, List.setIfInBounds_toArray, List.set_cons_zero, List.set_cons_succ])) | (apply detS_skip (by decide) rfl; (try simp only [Act.put, List.setIfInBounds_toArray, List.set_cons_zero, List.set_cons_succ])))
  intro w' H; simp only [List.cons_append, List.nil_append] at H; (try simp only [Act.eval, Act.put, Value.cells, segV, seg, segPut, NS, Nat.reduceAdd])
  go_wp2_with (first | ((with_reducible show wpList _ _ _ (⟨_, .call { callee := .builtin .append, args := _, argTypes := _ }, _, _, _, _⟩ :: _) _ _); (apply hw_append (L0 := _) rfl rfl rfl H hG (perm7 (A := LT) (X := LP)) rfl (fun h => by cases h) (cells_of (n := 15) (H.blk (s4, tEv, (encE { e with node := x.self, life := x.B.rec_.life }).toArray) (by simp)) rfl) rfl (Nat.le_trans (m := 200000) (by omega) (by decide)) (by omega)); clear H; intro v' w' sz' L1' hle HG' hnil H; obtain ⟨A', c', rfl⟩ := HG'.isSl; (try simp only [Act.eval, Act.put, Value.cells, segV, seg, segPut, NS, Nat.reduceAdd] at H)) | ((with_reducible apply wlS); refine hw_store 1 rfl rfl rfl H rfl rfl rfl (by simp) rfl ?_; clear H; intro w' H; (try simp only [Act.eval, Act.put, Value.cells, segV, seg, segPut, NS, Nat.reduceAdd] at H)))
  refine ⟨rfl, bodyPost_end (v := .tuple #[]) (res0 rfl) rfl ?_⟩
  exact ⟨_, _, rfl, ⟨pb, pk, pr, pt, _, LT, L1', hT, HG'.cast (by simp [Lf.happens]) (by simp [Lf.happens, encE, seg]), rfl⟩, H.drop1.sub (.cons_cons _ (.cons_cons _ (.cons_cons _ (.cons_cons _ (.cons_cons _ (.cons _ (List.Sublist.refl _)))))))⟩
end
end Go.Proofs.YtccgpjhgfjfaoaaGreatDoor
/- node: begin. -/
namespace Go.Proofs.YtccgpjhgfjfaoaaGreatDoor
open Go.RowKit

abbrev lifeK (n f self : Int) (bv kv : Value) (heard : Nat) (tv : Value) (down : Bool) (pv : Value) : Array Value := #[bv, .int .i64 n, .int .i64 f, .int .i64 self, kv, .int .u32 (wd heard 0), .int .u32 (wd heard 1), .int .u32 (wd heard 2), .int .u32 (wd heard 3), tv, .bool down, pv]
/-- What a call of tally.New has yielded; behind it, the store. -/
def BF (T : Tly) : St → Prop
  | [] => True
  | [(u, L1)] => ∃ bt, u = .tuple #[pV bt, .int .i64 0] ∧ TlyIs T bt L1
  | [_, (u, L1)] => ∃ bt, u = .tuple #[pV bt, .int .i64 0] ∧ TlyIs T bt L1
  | _ => False
theorem BF.one {T : Tly} {st : St} (hF : BF T st) (h : st.length = 1) : ∃ bt L1, st = [(.tuple #[pV bt, .int .i64 0], L1)] ∧ TlyIs T bt L1 := by
  match st, hF with
  | [(u, L1)], hF => obtain ⟨v, rfl, hg⟩ := hF; exact ⟨v, L1, rfl, hg⟩
theorem BF.two {T : Tly} {st : St} (hF : BF T st) (h : st.length = 2) : ∃ x bt L1, st = [x, (.tuple #[pV bt, .int .i64 0], L1)] ∧ TlyIs T bt L1 := by
  match st, hF with
  | [x, (u, L1)], hF => obtain ⟨v, rfl, hg⟩ := hF; exact ⟨x, v, L1, rfl, hg⟩
theorem BF.tup {T : Tly} {st : St} (hF : BF T st) (h : 1 ≤ st.length) : ∃ bt, vq st 0 = .tuple #[pV bt, .int .i64 0] := by
  match st, hF with
  | [(u, L1)], hF => obtain ⟨v, rfl, hg⟩ := hF; exact ⟨v, rfl⟩
  | [x, (u, L1)], hF => obtain ⟨v, rfl, hg⟩ := hF; exact ⟨v, rfl⟩
def BtV (tv : Value) : St → Value
  | [_, (u, _)] => tupAt u 0
  | _ => tv
def BxL : St → List Bk
  | [(_, L1)] => L1
  | [_, (_, L1)] => L1
  | _ => []
structure okN (n f self : Int) : Prop where
  n1 : 1 ≤ n
  n2 : n ≤ 100
  f0 : 0 ≤ f
  f1 : f < n
  s0 : 0 ≤ self
  s1 : self < n
section
variable {w : World} {pl : Nat} {n f self : Int} {bv kv tv pv : Value} {heard : Nat} {down : Bool}
set_option maxRecDepth 100000 in
set_option maxHeartbeats 2000000 in
theorem begin_any (H0 : Own w [(pl, tLife, lifeK n f self bv kv heard tv down pv)]) (ok : okN n f self) (round : Int) (hr0 : 1 ≤ round) (hr1 : round ≤ 1099511627775) (hw : withinB heard n = true) :
    Calls Tryz.prog 104 #[pV pl, .int .i64 round] w (fun e w' => ∃ sz bt LT, e = .returned (.tuple #[]) ∧ TlyIs (tlyNew n f self round heard) bt LT ∧ Hp (InL [(pl, tLife, lifeK n f self bv kv heard tv down pv)]) w w' sz ((pl, tLife, lifeK n f self bv kv heard (pV bt) down pv) :: LT) []) := by
  obtain ⟨n1, n2, f0, f1, s0, s1⟩ := ok
  go_enter Tryz.func104, Tryz.ntmps104
  have H := H0
  unfold Own at H
  go_wp2_with (first | ((first | ((with_reducible apply wlB); refine hw_box rfl rfl H ?_) | ((with_reducible apply wlA); refine hw_alloc rfl H ?_) | ((with_reducible apply wlS); first | refine hw_store 0 rfl rfl rfl H rfl rfl rfl (by simp) rfl ?_ | refine hw_store 1 rfl rfl rfl H rfl rfl rfl (by simp) rfl ?_ | refine hw_store 2 rfl rfl rfl H rfl rfl rfl (by simp) rfl ?_ | refine hw_store 3 rfl rfl rfl H rfl rfl rfl (by simp) rfl ?_)); clear H; intro w' H; (try simp only [Act.eval, Act.put, Value.cells, segV, seg, segPut, NS, Nat.reduceAdd] at H)) | ((with_reducible apply wlL); (first | apply hw_load 0 rfl rfl H rfl | apply hw_load 1 rfl rfl H rfl | apply hw_load 2 rfl rfl H rfl | apply hw_load 3 rfl rfl H rfl); (focus (simp; done)); (focus (simp only [segV, seg, NS]; rfl))))
  (try simp only [Act.eval, Act.put, Value.cells, segV, seg, segPut, NS, Nat.reduceAdd])
  refine region_GS0 25 [18, 24] (fun i => if 18 ≤ i then (if 24 ≤ i then 2 else 1) else 0) (BF (tlyNew n f self round heard)) (fun st => (pl, tLife, lifeK n f self bv kv heard (BtV tv st) down pv) :: BxL st) H trivial rfl (by kernel_rfl) ?_; clear H; simp only [List.take_succ_cons, List.take_zero, List.drop_succ_cons, List.drop_zero]
  repeat (first | (apply detG_op (by decide); (focus (rintro st hlv w' ⟨hF, s1, hs1, H⟩; go_wp2_with (first | ((with_reducible apply wlL); apply hw_load 0 rfl rfl H rfl; (focus (simp; done)); (focus (simp only [segV, seg, NS]; rfl)))); refine ⟨rfl, rfl, ?_, hF, _, by omega, H⟩; (first | (simp only [SlotIs, Array.getD_eq_getD_getElem?, List.getElem?_toArray, List.getElem?_cons_succ, List.getElem?_cons_zero, Option.getD_some]; exact rfl) | exact rfl))); (focus (intros; rfl)); (try simp only [Act.put, List.setIfInBounds_toArray, List.set_cons_zero, List.set_cons_succ])))
  apply stgG_op (q := 0) (V := fun st => vq st 0) rfl (nth2a (by decide)) (h := ?_) (hp := ?_) (hr := ?_)
  · rintro st hlv w' ⟨hF, s1, hs1, H⟩
    obtain rfl := List.eq_nil_of_length_eq_zero hlv
    simp only [BxL, BtV, List.nil_append] at H
    go_wp2_with (first | ((first | ((with_reducible apply wlB); refine hw_box rfl rfl H ?_) | ((with_reducible apply wlA); refine hw_alloc rfl H ?_) | ((with_reducible apply wlS); first | refine hw_store 0 rfl rfl rfl H rfl rfl rfl (by simp) rfl ?_ | refine hw_store 1 rfl rfl rfl H rfl rfl rfl (by simp) rfl ?_ | refine hw_store 2 rfl rfl rfl H rfl rfl rfl (by simp) rfl ?_ | refine hw_store 3 rfl rfl rfl H rfl rfl rfl (by simp) rfl ?_)); clear H; intro w' H; (try simp only [Act.eval, Act.put, Value.cells, segV, seg, segPut, NS, Nat.reduceAdd] at H)) | ((with_reducible apply wlL); (first | apply hw_load 0 rfl rfl H rfl | apply hw_load 1 rfl rfl H rfl | apply hw_load 2 rfl rfl H rfl | apply hw_load 3 rfl rfl H rfl); (focus (simp; done)); (focus (simp only [segV, seg, NS]; rfl))))
    refine (tNew_ok n f self round heard (by omega) (by omega) (by omega) (by omega) (by omega) (by omega) hr0 hr1 hw _).mono ?_; rintro e w' ⟨s4, bt, L4, rfl, hT, H1⟩; obtain ⟨hs4, H⟩ := H.fresh H1; clear H1
    go_wp2_with (first | ((first | ((with_reducible apply wlB); refine hw_box rfl rfl H ?_) | ((with_reducible apply wlA); refine hw_alloc rfl H ?_) | ((with_reducible apply wlS); first | refine hw_store 0 rfl rfl rfl H rfl rfl rfl (by simp) rfl ?_ | refine hw_store 1 rfl rfl rfl H rfl rfl rfl (by simp) rfl ?_ | refine hw_store 2 rfl rfl rfl H rfl rfl rfl (by simp) rfl ?_ | refine hw_store 3 rfl rfl rfl H rfl rfl rfl (by simp) rfl ?_)); clear H; intro w' H; (try simp only [Act.eval, Act.put, Value.cells, segV, seg, segPut, NS, Nat.reduceAdd] at H)) | ((with_reducible apply wlL); (first | apply hw_load 0 rfl rfl H rfl | apply hw_load 1 rfl rfl H rfl | apply hw_load 2 rfl rfl H rfl | apply hw_load 3 rfl rfl H rfl); (focus (simp; done)); (focus (simp only [segV, seg, NS]; rfl))))
    exact ⟨rfl, rfl, [(_, L4)], rfl, .inr ⟨_, rfl⟩, rfl, ⟨bt, rfl, hT⟩, _, by omega, H⟩
  · exact fun st st' hl ha => vq_adv (by omega) ha
  (try simp only [Act.put, List.setIfInBounds_toArray, List.set_cons_zero, List.set_cons_succ])
  apply detG_op (by decide) (V := fun st => vq st 0) (h := ?_) (hp := ?_) (hr := ?_)
  · rintro st hlv w' ⟨hF, s1, hs1, H⟩
    go_wp2_with (first | ((first | ((with_reducible apply wlB); refine hw_box rfl rfl H ?_) | ((with_reducible apply wlA); refine hw_alloc rfl H ?_) | ((with_reducible apply wlS); first | refine hw_store 0 rfl rfl rfl H rfl rfl rfl (by simp) rfl ?_ | refine hw_store 1 rfl rfl rfl H rfl rfl rfl (by simp) rfl ?_ | refine hw_store 2 rfl rfl rfl H rfl rfl rfl (by simp) rfl ?_ | refine hw_store 3 rfl rfl rfl H rfl rfl rfl (by simp) rfl ?_)); clear H; intro w' H; (try simp only [Act.eval, Act.put, Value.cells, segV, seg, segPut, NS, Nat.reduceAdd] at H)) | ((with_reducible apply wlL); (first | apply hw_load 0 rfl rfl H rfl | apply hw_load 1 rfl rfl H rfl | apply hw_load 2 rfl rfl H rfl | apply hw_load 3 rfl rfl H rfl); (focus (simp; done)); (focus (simp only [segV, seg, NS]; rfl))))
    exact ⟨rfl, rfl, rfl, hF, _, by omega, H⟩
  · exact fun st st' hl ha => vq_adv hl ha
  (try simp only [Act.put, List.setIfInBounds_toArray, List.set_cons_zero, List.set_cons_succ])
  apply detG_extract (q := 0) (by decide) (by decide) (fun _ => rfl) (hF := fun st w hl ⟨hF, _⟩ => by obtain ⟨v, hv⟩ := hF.tup hl; exact ⟨_, hv, by simp⟩) (hr := ?_)
  (try simp only [Act.put, List.setIfInBounds_toArray, List.set_cons_zero, List.set_cons_succ])
  apply detG_extract (q := 0) (by decide) (by decide) (fun _ => rfl) (hF := fun st w hl ⟨hF, _⟩ => by obtain ⟨v, hv⟩ := hF.tup hl; exact ⟨_, hv, by simp⟩) (hr := ?_)
  (try simp only [Act.put, List.setIfInBounds_toArray, List.set_cons_zero, List.set_cons_succ])
  repeat (first | (apply detG_op (by decide); (focus (rintro st hlv w' ⟨hF, s1, hs1, H⟩; go_wp2_with (first | ((with_reducible apply wlL); apply hw_load 0 rfl rfl H rfl; (focus (simp; done)); (focus (simp only [segV, seg, NS]; rfl)))); refine ⟨rfl, rfl, ?_, hF, _, by omega, H⟩; (first | (simp only [SlotIs, Array.getD_eq_getD_getElem?, List.getElem?_toArray, List.getElem?_cons_succ, List.getElem?_cons_zero, Option.getD_some]; exact rfl) | exact rfl))); (focus (intros; rfl)); (try simp only [Act.put, List.setIfInBounds_toArray, List.set_cons_zero, List.set_cons_succ])))
  apply stgG_op (q := 1) (V := fun _ => undef) rfl (nth2b (by decide)) (h := ?_) (hp := ?_) (hr := ?_)
  · rintro st hlv w' ⟨hF, s1, hs1, H⟩
    obtain ⟨bt, LT, rfl, hT⟩ := hF.one hlv
    simp only [BxL, BtV, List.nil_append, show tupAt (vq [(Value.tuple #[pV bt, .int .i64 0], LT)] 0) 0 = pV bt from rfl] at H ⊢
    go_wp2_with (first | ((with_reducible apply wlS); refine hw_store 0 rfl rfl rfl H rfl rfl rfl (by simp) rfl ?_; clear H; intro w' H; (try simp only [Act.eval, Act.put, Value.cells, segV, seg, segPut, NS, Nat.reduceAdd] at H)))
    exact ⟨rfl, rfl, [(undef, []), (_, LT)], rfl, .inr ⟨_, rfl⟩, rfl, ⟨bt, rfl, hT⟩, _, by omega, H⟩
  · exact fun _ _ _ _ => rfl
  (try simp only [Act.put, List.setIfInBounds_toArray, List.set_cons_zero, List.set_cons_succ])
  rintro st w' hl ⟨hF, s5, hs5, H⟩
  obtain ⟨x, bt, LT, rfl, hT⟩ := hF.two hl
  simp only [BxL, BtV, List.nil_append] at H
  go_wp2
  refine bodyPost_end (v := .tuple #[]) (res0 rfl) rfl ?_
  exact ⟨rfl, _, bt, LT, hT, H⟩
end
end Go.Proofs.YtccgpjhgfjfaoaaGreatDoor
