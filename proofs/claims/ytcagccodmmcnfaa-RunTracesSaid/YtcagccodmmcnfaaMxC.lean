/- Several texts in one, written by mergeall.py. Own work. -/
import Derived.Test.YtcagccodmmcnfaaMxB
import Derived.Test.YtcagccodmmcnfaaHcbd
import Derived.Test.YtcagccodmmcnfaaCode
import Derived.Test.YtcagccodmmcnfaaQ19
import Derived.Test.YtcagccodmmcnfaaQ17
import Derived.Test.YtcagccodmmcnfaaQ39
import Derived.Test.YtcagccodmmcnfaaQA
import Derived.Laws.CopyOwn
import Derived.Deep.RegionHeld3
import Derived.StillTailTactics
import Derived.Test.YtcagccodmmcnfaaMxA
section
/- Memory: slices.Clone of bytes, store.Load, store.Save. Own work; a template. -/
namespace Go.Proofs.Ytcagccodmmcnfaa.Cpu
open Go.RowKit Go.Proofs.YtcagccodmmcnfaaW.PrintWords Go.Proofs.YtcagccodmmcnfaaW.PrintLast Go.Proofs.YtcagccodmmcnfaaW.PrintMore Go.Proofs.Ytcagccodmmcnfaa.Hp Go.Proofs.Ytcagccodmmcnfaa.Q
set_option linter.unusedVariables false
set_option linter.unusedSimpArgs false
attribute [local go_sem] add_any
theorem cloneB_c (A : Option Addr) (n c : Nat) (l : List Int) (w : World) (h : RdS .u8 w A n c l) (hl : l.length < 17592186044416) :
    Calls Try.prog 20 #[.slice A n c] w fun e w' => ∃ v, e = .returned v ∧ w'.ownsRow w.heap.size 5 1 v l.length (nums .u8 l) ∧ Below w.heap.size w w' := by
  obtain ⟨rfl, hc, hm, hr⟩ := h
  refine (slices_Clone_byte_byte.calls A c l l w hr hc (by unfold slices_Clone_byte_byte.f; rw [if_pos hl])).mono ?_
  rintro e w' ⟨v, rfl, hR, hb⟩
  exact ⟨v, rfl, Kd.own_of_R hR, hb⟩
def sizeF (wide : Bool) : Int := if wide = true then 4 else 1
theorem size_c (wide : Bool) (w : World) : Calls Try.prog 70 #[.bool wide] w fun e w' => e = .returned (.int .i64 (sizeF wide)) ∧ w' = w := by
  cases wide
  all_goals
    go_enter Try.func70, Try.ntmps70
    go_wp2
    go_ret
    exact ⟨rfl, rfl⟩
/-- Does what is there lie in memory? -/
def okF (n : Nat) (at_ : Int) (wide : Bool) : Bool := decide (0 ≤ at_ - 65536 ∧ at_ - 65536 + sizeF wide ≤ n ∧ (at_ - 65536) % sizeF wide = 0)
theorem place_f (wr : Int) (l : List Int) (a : Int) (wide : Bool) (h0 : 0 ≤ a) (h1 : a ≤ 4294967295) (hl : l.length ≤ 1099511627776) : store_place.f wr l a wide = some (a - 65536, okF l.length a wide) := by
  have e1 : wrap64 a = a := by unfold wrap64; omega
  have e2 : wrap64 (a - 65536) = a - 65536 := by unfold wrap64; omega
  unfold store_place.f store_size.f okF sizeF
  cases wide <;> simp only [if_true, if_false, Option.bind_some, e1, e2, Bool.false_eq_true]
  · have e3 : wrap64 (a - 65536 + 1) = a - 65536 + 1 := by unfold wrap64; omega
    rw [e3]
    by_cases g0 : a - 65536 ≥ 0
    · rw [if_pos g0]
      by_cases g1 : a - 65536 + 1 ≤ (l.length : Int)
      · rw [if_pos g1, if_neg (by decide)]
        simp only [Option.some.injEq, Prod.mk.injEq, true_and]
        rw [Int.tmod_eq_emod_of_nonneg (by omega)]
        simp [g0, g1]
        omega
      · rw [if_neg g1]
        simp [g1]
    · rw [if_neg g0]
      simp
      omega
  · have e3 : wrap64 (a - 65536 + 4) = a - 65536 + 4 := by unfold wrap64; omega
    rw [e3]
    by_cases g0 : a - 65536 ≥ 0
    · rw [if_pos g0]
      by_cases g1 : a - 65536 + 4 ≤ (l.length : Int)
      · rw [if_pos g1, if_neg (by decide)]
        simp only [Option.some.injEq, Prod.mk.injEq, true_and]
        rw [Int.tmod_eq_emod_of_nonneg (by omega)]
        rw [Bool.eq_iff_iff]
        simp
        omega
      · rw [if_neg g1]
        simp [g1]
    · rw [if_neg g0]
      simp
      omega
theorem put4 (a b c d x y z u : Value) : putSeg #[a, b, c, d] 0 (Value.agg #[x, y, z, u]).cells.toList = #[x, y, z, u] := rfl
theorem putM1 (a b : Value) (s : Option Addr) {n c : Nat} : putSeg #[a, b] 1 (Value.slice s n c).cells.toList = #[a, .slice s n c] := rfl
theorem putM0 (a b x y : Value) : putSeg #[a, b] 0 (Value.agg #[x, y]).cells.toList = #[x, y] := rfl
theorem take_splice {cur : List Value} {l x : List Int} {k : IntKind} {n p : Nat} (ht : cur.take n = nums k l) (hn : l.length = n) (hf : p + x.length ≤ n) :
    (cur.take p ++ (nums k x ++ cur.drop (p + (nums k x).length))).take n = nums k (splice l p x) := by
  have hcl : n ≤ cur.length := by
    have := congrArg List.length ht
    rw [List.length_take, nums_length] at this
    omega
  have e1 : cur.take p = nums k (l.take p) := by
    have : cur.take p = (cur.take n).take p := by rw [List.take_take, Nat.min_eq_left (by omega)]
    rw [this, ht, nums, nums, List.map_take]
  have e2 : (cur.drop (p + x.length)).take (n - (p + x.length)) = nums k (l.drop (p + x.length)) := by
    rw [← List.drop_take, ht, nums, nums, List.map_drop]
  have e3 : (cur.take p).take n = cur.take p := List.take_of_length_le (by rw [List.length_take]; omega)
  have e4 : (nums k x).take (n - p) = nums k x := List.take_of_length_le (by rw [nums_length]; omega)
  have e5 : (cur.take p).length = p := by rw [List.length_take]; omega
  rw [nums_length, List.take_append, e3, e5, List.take_append, e4, nums_length, show n - p - x.length = n - (p + x.length) by omega, e2, e1]
  simp [splice, nums]
def byteF (v : Int) : List Int := [v % 256, v / 256 % 256, v / 65536 % 256, v / 16777216 % 256]
def saveL (l : List Int) (p : Nat) (v : Int) (wide : Bool) : List Int := splice l p ((byteF v).take (sizeF wide).toNat)
def SaveIs (w : World) (wr : Int) (n : Nat) (l : List Int) (e : Ending) (w' : World) : Prop := ∃ g cur c, e = .returned (.tuple #[.agg #[.int .i64 wr, .slice (some ⟨g, 0, none⟩) n c], .bool true]) ∧ w.heap.size ≤ g ∧ w'.heap[g]? = some (.cells cur 5 (0, 0)) ∧ cur.toList.take n = nums .u8 l ∧ n = l.length ∧ n ≤ c ∧ c ≤ 9223372036854775807 ∧ Below w.heap.size w w'
set_option maxHeartbeats 4000000 in
set_option maxRecDepth 100000 in
theorem save_yes (wr : Int) (A : Option Addr) (n c : Nat) (l : List Int) (p : Nat) (v : Int) (wide : Bool) (w : World) (h : Aside0 (RdS .u8 w A n c l)) (hl : Aside0 (l.length ≤ 1099511627776)) (hp : p ≤ 4294901759) (ok : okF l.length (65536 + p) wide = true) (hw : wr ≤ (p : Int)) :
    Calls Try.prog 61 #[.agg #[.int .i64 wr, .slice A n c], .int .u32 (65536 + (p : Int)), .int .u32 v, .bool wide] w (SaveIs w wr n (saveL l p v wide)) := by
  have H := Hp.nil w
  have hpl := Aside0.mk (show store_place.f wr l (65536 + p) wide = some ((p : Int), true) by rw [place_f wr l _ wide (by omega) (by omega) hl.out, ok]; congr 2; omega)
  have hok : (p : Int) + sizeF wide ≤ (l.length : Int) := by
    unfold okF at ok
    have := of_decide_eq_true ok
    omega
  have hpn : Aside0 (p + (sizeF wide).toNat ≤ n) := ⟨by have := h.out.1; unfold sizeF at *; split at hok <;> simp_all <;> omega⟩
  have hlt : ¬ (p : Int) < wr := by omega
  obtain ⟨hn, hc, hm, hr⟩ := h.out
  subst hn
  clear ok hok hc hm
  replace hr := Aside0.mk hr
  go_enter Try.func61, Try.ntmps61
  have hne : Aside0 (l ≠ []) := ⟨by rintro rfl; have := hpn.out; unfold sizeF at this; split at this <;> simp at this⟩
  go_wp2_with (first | (refine hp_guard rfl ?_) | (refine hp_box H rfl rfl rfl ?_; intro g_ W_ H_; clear H; have H := H_; clear H_) | (refine hp_alloc H rfl rfl (fun w_ => by go_simp; rfl) ?_; intro g_ W_ H_; clear H; have H := H_; clear H_) | (first | (refine hp_whole H rfl (ty := 35) rfl rfl (by repeat (first | exact .head _ | refine .tail _ ?_)) (by kernel_rfl) (by kernel_rfl) ?_)) | (refine hp_load H rfl rfl rfl (by repeat (first | exact .head _ | refine .tail _ ?_)) (by kernel_rfl) (by first | exact rfl) ?_) | (refine hp_goes H rfl (f := 68) rfl Try.func68 (by kernel_rfl) rfl (store_place.calls wr A c l (65536 + p) wide p true _ (Kd.C_below hr.out H.below) h.out.2.1 hpl.out) (by (try simp only [List.map_toArray, List.map_cons, List.map_nil]); first | done | rfl) ?_; rintro e_ W_ ⟨rfl, hb_⟩; refine ⟨_, rfl, hb_, fun H_ => ?_⟩; clear H; have H := H_; clear H_) | (refine hp_goes H rfl (f := 71) rfl Try.func71 (by kernel_rfl) rfl (bits_Put.calls v _ _ _ _ _ rfl) (by (try simp only [List.map_toArray, List.map_cons, List.map_nil]); first | done | rfl) ?_; rintro e_ W_ ⟨rfl, hb_⟩; refine ⟨_, rfl, hb_, fun H_ => ?_⟩; clear H; have H := H_; clear H_) | (refine hp_goesR H rfl (f := 20) rfl Try.func20 (by kernel_rfl) rfl (cloneB_c A l.length c l _ (h.out.below H.below) (by have := hl.out; omega)) (by (try simp only [List.map_toArray, List.map_cons, List.map_nil]); first | done | rfl) (fun W_ hl_ _ _ => absurd hl_ hne.out) ?_; intro g_ cur_ cap_ W_ ht_ hn_ hc_ hm_ H_; clear H hn_; have H := H_; clear H_; replace ht_ := Aside0.mk ht_) | ((first | (refine hp_store0 H rfl rfl rfl rfl rfl (by kernel_rfl) (by first | rfl | exact fit_.out) (by rfl) (by first | exact put4 _ _ _ _ _ _ _ _ | exact putM1 _ _ _ | exact putM0 _ _ _ _) ?_) | (refine hp_store1 H rfl rfl rfl rfl rfl (by kernel_rfl) (by first | rfl | exact fit_.out) (by rfl) (by first | exact put4 _ _ _ _ _ _ _ _ | exact putM1 _ _ _ | exact putM0 _ _ _ _) ?_) | (refine hp_store2 H rfl rfl rfl rfl rfl (by kernel_rfl) (by first | rfl | exact fit_.out) (by rfl) (by first | exact put4 _ _ _ _ _ _ _ _ | exact putM1 _ _ _ | exact putM0 _ _ _ _) ?_) | (refine hp_store3 H rfl rfl rfl rfl rfl (by kernel_rfl) (by first | rfl | exact fit_.out) (by rfl) (by first | exact put4 _ _ _ _ _ _ _ _ | exact putM1 _ _ _ | exact putM0 _ _ _ _) ?_)); intro W_ H_; clear H; have H := H_; clear H_))
  refine wp_region_still_tail 7 (by kernel_rfl) (by kernel_rfl) ?_
  simp only [List.take_succ_cons, List.take_zero, List.drop_succ_cons, List.drop_zero]
  show wpStill _ _ (World.drew _) (fun a' => wpList _ _ _ _ a' (World.drew _)) _ _
  have H := H.drew
  generalize World.drew _ = W2 at *
  have k1 := H.cell (by repeat (first | exact .head _ | refine .tail _ ?_)) 1 (show (#[.int .i64 wr, .slice (some ⟨g_, 0, none⟩) l.length cap_] : Array Value)[1]? = some (.slice (some ⟨g_, 0, none⟩) l.length cap_) from rfl)
  have i1 : (0 ≤ (p : Int)) = True := eq_true (by omega)
  obtain ⟨z, hz, hz1, hz4⟩ : ∃ z : Nat, sizeF wide = z ∧ 1 ≤ z ∧ z ≤ 4 := by cases wide <;> exact ⟨_, rfl, by decide, by decide⟩
  have hzn : p + z ≤ l.length := by have := hpn.out; rw [hz] at this; omega
  have i2 : ((p : Int) ≤ (l.length : Int)) = True := eq_true (by omega)
  have i3 : (cap_ = p) = False := eq_false (by omega)
  have i4 : (0 ≤ (z : Int)) = True := eq_true (by omega)
  have i5 : ((z : Int) ≤ 4) = True := eq_true (by omega)
  have hS : Aside0 (saveL l p v wide = splice l p ((byteF v).take z)) := ⟨by unfold saveL; rw [hz]; rfl⟩
  have hzl : Aside0 (((byteF v).take z).length = z) := ⟨by rw [List.length_take]; simp only [byteF, List.length_cons, List.length_nil]; omega⟩
  have hsz : Calls Try.prog 70 #[.bool wide] W2 fun e w' => e = .returned (.int .i64 (z : Int)) ∧ w' = W2 := by rw [← hz]; exact size_c wide W2
  have hsz := Aside0.mk hsz
  clear hz
  still_step
  still_step
  still_step
  still_step
  still_step
  still_call hsz.out
  still_step
  refine wpStill_nil ?_
  have hcur : Aside0 (l.length ≤ cur_.size) := ⟨by
    have h1 := congrArg List.length ht_.out
    rw [List.length_take, nums_length] at h1
    have h2 : cur_.toList.length = cur_.size := Array.length_toList
    omega⟩
  refine wpList_copy_own rfl (.tmp 38) (.tmp 41) 23 23 rfl 5 Try.underlying23 (by kernel_rfl) g_ p (l.length - p) (cap_ - p) ⟨_, 0, none⟩ z 4 rfl rfl cur_ 5 (H.heap (.head _)) (nums .u8 ((byteF v).take z)) ?_ ?_ ?_ ?_ ?_
  · rw [nums_length, hzl.out]
    exact (Nat.min_eq_left (by omega)).symm
  · intro j u hj
    rw [add_any, Nat.zero_add]
    refine H.cell (.tail _ (.head _)) j ?_
    have hj4 : j < z := by rw [← hzl.out, ← nums_length .u8]; exact (List.getElem?_eq_some_iff.1 hj).1
    rw [nums, List.getElem?_map, List.getElem?_take, if_pos hj4] at hj
    show ((byteF v).map (Value.int .u8)).toArray[j]? = some u
    rw [List.getElem?_toArray, List.getElem?_map]
    exact hj
  · rw [nums_length, hzl.out]
    have := hcur.out
    omega
  · intro u hu
    obtain ⟨x, _, rfl⟩ := List.mem_map.1 hu
    rfl
  have H := H.row 0 rfl (cur_.toList.take p ++ (nums .u8 ((byteF v).take z) ++ cur_.toList.drop (p + (nums .u8 ((byteF v).take z)).length))).toArray
  generalize World.setRow _ _ _ = W3 at *
  go_wp2_with (first | (first | (refine hp_whole H rfl (ty := 35) rfl rfl (by repeat (first | exact .head _ | refine .tail _ ?_)) (by kernel_rfl) (by kernel_rfl) ?_)) | ((first | (refine hp_store0 H rfl rfl rfl rfl rfl (by kernel_rfl) (by first | rfl | exact fit_.out) (by rfl) (by first | exact putM0 _ _ _ _) ?_) | (refine hp_store1 H rfl rfl rfl rfl rfl (by kernel_rfl) (by first | rfl | exact fit_.out) (by rfl) (by first | exact putM0 _ _ _ _) ?_) | (refine hp_store2 H rfl rfl rfl rfl rfl (by kernel_rfl) (by first | rfl | exact fit_.out) (by rfl) (by first | exact putM0 _ _ _ _) ?_) | (refine hp_store3 H rfl rfl rfl rfl rfl (by kernel_rfl) (by first | rfl | exact fit_.out) (by rfl) (by first | exact putM0 _ _ _ _) ?_)); intro W_ H_; clear H; have H := H_; clear H_))
  exact bodyPost_ret (hp_results2 rfl _ _ _ 35 _ (.bool true) rfl rfl (H.heap (.tail _ (.tail _ (.head _)))) (by kernel_rfl) (by kernel_rfl)) rfl ⟨g_, _, cap_, rfl, (H.blk _ (.head _)).1, H.heap (.head _), by rw [hS.out]; exact take_splice ht_.out rfl (by rw [hzl.out]; exact hzn), by rw [hS.out, length_splice _ _ _ (by rw [hzl.out]; exact hzn)], hc_, hm_, H.below⟩
end Go.Proofs.Ytcagccodmmcnfaa.Cpu
end
section
/- store.Save that doesn't fit; what has an effect. Own work; a template. -/
namespace Go.Proofs.Ytcagccodmmcnfaa.Cpu
open Go.RowKit Go.Proofs.YtcagccodmmcnfaaW.PrintWords Go.Proofs.YtcagccodmmcnfaaW.PrintLast Go.Proofs.YtcagccodmmcnfaaW.PrintMore Go.Proofs.Ytcagccodmmcnfaa.Hp Go.Proofs.Ytcagccodmmcnfaa.Q
set_option linter.unusedVariables false
set_option linter.unusedSimpArgs false
attribute [local go_sem] add_any
set_option maxHeartbeats 4000000 in
set_option maxRecDepth 100000 in
theorem save_no (wr : Int) (A : Option Addr) (n c : Nat) (l : List Int) (q v : Int) (wide : Bool) (w : World) (h : Aside0 (RdS .u8 w A n c l)) (hl : Aside0 (l.length ≤ 1099511627776)) (h0 : 0 ≤ q) (h1 : q ≤ 4294967295) (no : okF l.length q wide = false ∨ q - 65536 < wr) :
    Calls Try.prog 61 #[.agg #[.int .i64 wr, .slice A n c], .int .u32 q, .int .u32 v, .bool wide] w fun e w' => e = .returned (.tuple #[.agg #[.int .i64 wr, .slice A n c], .bool false]) ∧ Below w.heap.size w w' := by
  have H := Hp.nil w
  have hpl := place_f wr l q wide h0 h1 hl.out
  obtain ⟨hn, hc, hm, hr⟩ := h.out
  subst hn
  clear hc hm h0 h1
  replace hr := Aside0.mk hr
  by_cases ok : okF l.length q wide = true
  · have hlt : q - 65536 < wr := no.resolve_left (by rw [ok]; decide)
    rw [ok] at hpl
    replace hpl := Aside0.mk hpl
    generalize q - 65536 = p at *
    clear no ok
    go_enter Try.func61, Try.ntmps61
    go_wp2_with (first | (refine hp_guard rfl ?_) | (refine hp_box H rfl rfl rfl ?_; intro g_ W_ H_; clear H; have H := H_; clear H_) | (refine hp_alloc H rfl rfl (fun w_ => by go_simp; rfl) ?_; intro g_ W_ H_; clear H; have H := H_; clear H_) | (first | (refine hp_whole H rfl (ty := 35) rfl rfl (by repeat (first | exact .head _ | refine .tail _ ?_)) (by kernel_rfl) (by kernel_rfl) ?_)) | (refine hp_load H rfl rfl rfl (by repeat (first | exact .head _ | refine .tail _ ?_)) (by kernel_rfl) (by first | exact rfl) ?_) | (refine hp_goes H rfl (f := 68) rfl Try.func68 (by kernel_rfl) rfl (store_place.calls wr A c l q wide p true _ (Kd.C_below hr.out H.below) h.out.2.1 hpl.out) (by (try simp only [List.map_toArray, List.map_cons, List.map_nil]); first | done | rfl) ?_; rintro e_ W_ ⟨rfl, hb_⟩; refine ⟨_, rfl, hb_, fun H_ => ?_⟩; clear H; have H := H_; clear H_) | ((first | (refine hp_store0 H rfl rfl rfl rfl rfl (by kernel_rfl) (by first | rfl | exact fit_.out) (by rfl) (by first | exact putM0 _ _ _ _) ?_) | (refine hp_store1 H rfl rfl rfl rfl rfl (by kernel_rfl) (by first | rfl | exact fit_.out) (by rfl) (by first | exact putM0 _ _ _ _) ?_) | (refine hp_store2 H rfl rfl rfl rfl rfl (by kernel_rfl) (by first | rfl | exact fit_.out) (by rfl) (by first | exact putM0 _ _ _ _) ?_) | (refine hp_store3 H rfl rfl rfl rfl rfl (by kernel_rfl) (by first | rfl | exact fit_.out) (by rfl) (by first | exact putM0 _ _ _ _) ?_)); intro W_ H_; clear H; have H := H_; clear H_))
    exact bodyPost_ret (hp_results2 rfl _ _ _ 35 _ (.bool false) rfl rfl (H.heap (.head _)) (by kernel_rfl) (by kernel_rfl)) rfl ⟨rfl, H.below⟩
  · have ok : okF l.length q wide = false := by simpa using ok
    rw [ok] at hpl
    replace hpl := Aside0.mk hpl
    generalize q - 65536 = p at *
    clear no ok
    go_enter Try.func61, Try.ntmps61
    go_wp2_with (first | (refine hp_guard rfl ?_) | (refine hp_box H rfl rfl rfl ?_; intro g_ W_ H_; clear H; have H := H_; clear H_) | (refine hp_alloc H rfl rfl (fun w_ => by go_simp; rfl) ?_; intro g_ W_ H_; clear H; have H := H_; clear H_) | (first | (refine hp_whole H rfl (ty := 35) rfl rfl (by repeat (first | exact .head _ | refine .tail _ ?_)) (by kernel_rfl) (by kernel_rfl) ?_)) | (refine hp_load H rfl rfl rfl (by repeat (first | exact .head _ | refine .tail _ ?_)) (by kernel_rfl) (by first | exact rfl) ?_) | (refine hp_goes H rfl (f := 68) rfl Try.func68 (by kernel_rfl) rfl (store_place.calls wr A c l q wide p false _ (Kd.C_below hr.out H.below) h.out.2.1 hpl.out) (by (try simp only [List.map_toArray, List.map_cons, List.map_nil]); first | done | rfl) ?_; rintro e_ W_ ⟨rfl, hb_⟩; refine ⟨_, rfl, hb_, fun H_ => ?_⟩; clear H; have H := H_; clear H_) | ((first | (refine hp_store0 H rfl rfl rfl rfl rfl (by kernel_rfl) (by first | rfl | exact fit_.out) (by rfl) (by first | exact putM0 _ _ _ _) ?_) | (refine hp_store1 H rfl rfl rfl rfl rfl (by kernel_rfl) (by first | rfl | exact fit_.out) (by rfl) (by first | exact putM0 _ _ _ _) ?_) | (refine hp_store2 H rfl rfl rfl rfl rfl (by kernel_rfl) (by first | rfl | exact fit_.out) (by rfl) (by first | exact putM0 _ _ _ _) ?_) | (refine hp_store3 H rfl rfl rfl rfl rfl (by kernel_rfl) (by first | rfl | exact fit_.out) (by rfl) (by first | exact putM0 _ _ _ _) ?_)); intro W_ H_; clear H; have H := H_; clear H_))
    exact bodyPost_ret (hp_results2 rfl _ _ _ 35 _ (.bool false) rfl rfl (H.heap (.head _)) (by kernel_rfl) (by kernel_rfl)) rfl ⟨rfl, H.below⟩
end Go.Proofs.Ytcagccodmmcnfaa.Cpu
end
section
/- What has an effect: Load, Ldb, In. Own work; a template. -/
namespace Go.Proofs.Ytcagccodmmcnfaa.Cpu
open Go.RowKit Go.Proofs.YtcagccodmmcnfaaW.PrintWords Go.Proofs.YtcagccodmmcnfaaW.PrintLast Go.Proofs.YtcagccodmmcnfaaW.PrintMore Go.Proofs.Ytcagccodmmcnfaa.Hp Go.Proofs.Ytcagccodmmcnfaa.Q
set_option linter.unusedVariables false
set_option linter.unusedSimpArgs false
attribute [local go_sem] add_any
theorem get_some (xs : List Int) : ∃ r, bits_Get.f 9 xs = some r := by
  have key : ∀ (d : Nat) (k : Nat) (x3 x8 : Int) (n : Int), n ≤ 4 → n ≤ (xs.length : Int) → 0 ≤ x8 → n - x8 ≤ d → d < k → ∃ r, bits_Get.l0 k xs x3 n x8 = some r := by
    intro d
    induction d with
    | zero =>
      intro k x3 x8 n h4 hl h0 hd hk
      obtain ⟨k, rfl⟩ : ∃ m, k = m + 1 := ⟨k - 1, by omega⟩
      exact ⟨x3, by simp only [bits_Get.l0]; rw [if_neg (by omega)]⟩
    | succ d ih =>
      intro k x3 x8 n h4 hl h0 hd hk
      obtain ⟨k, rfl⟩ : ∃ m, k = m + 1 := ⟨k - 1, by omega⟩
      by_cases hlt : x8 < n
      · have e1 : wrap64 (8 * x8) = 8 * x8 := by unfold wrap64; omega
        have e2 : wrap64 (x8 + 1) = x8 + 1 := by unfold wrap64; omega
        simp only [bits_Get.l0]
        rw [if_pos hlt, if_pos h0, if_pos (by omega), e1, if_pos (by omega), e2]
        exact ih k _ _ n h4 hl (by omega) (by omega) (by omega)
      · exact ⟨x3, by simp only [bits_Get.l0]; rw [if_neg hlt]⟩
  unfold bits_Get.f
  have h1 : mn 4 (xs.length : Int) ≤ 4 := by unfold mn; omega
  have h2 : mn 4 (xs.length : Int) ≤ xs.length := by unfold mn; omega
  exact key 4 9 0 0 _ h1 h2 (by omega) (by omega) (by omega)
/-- The word, or byte, that stands there. -/
def loadW (l : List Int) (p : Nat) (wide : Bool) : Int := (bits_Get.f 9 ((l.take (p + (sizeF wide).toNat)).drop p)).getD 0
theorem load_f (wr : Int) (l : List Int) (p : Nat) (wide : Bool) (hp : p ≤ 4294901759) (hl : l.length ≤ 1099511627776) (ok : okF l.length (65536 + p) wide = true) : store_Load.f 9 wr l (65536 + p) wide = some (loadW l p wide, true) := by
  have hpl := place_f wr l (65536 + p) wide (by omega) (by omega) hl
  rw [ok, show (65536 + (p : Int) - 65536) = p by omega] at hpl
  have hok : (p : Int) + sizeF wide ≤ (l.length : Int) := by
    unfold okF at ok
    have := of_decide_eq_true ok
    omega
  have hs : store_size.f wide = some (sizeF wide) := by unfold store_size.f sizeF; cases wide <;> rfl
  have hs0 : 1 ≤ sizeF wide ∧ sizeF wide ≤ 4 := by unfold sizeF; cases wide <;> decide
  unfold store_Load.f
  rw [hpl]
  simp only [Option.bind_some, if_true, hs]
  have e : wrap64 ((p : Int) + sizeF wide) = p + sizeF wide := by unfold wrap64; omega
  rw [e, if_pos (by omega), if_pos (by omega), if_pos (by omega)]
  obtain ⟨r, hr⟩ := get_some ((l.take (p + (sizeF wide).toNat)).drop p)
  rw [show ((p : Int) + sizeF wide).toNat = p + (sizeF wide).toNat by omega, Int.toNat_natCast, hr]
  unfold loadW
  rw [hr]
  rfl
theorem load_no (wr : Int) (l : List Int) (q : Int) (wide : Bool) (h0 : 0 ≤ q) (h1 : q ≤ 4294967295) (hl : l.length ≤ 1099511627776) (no : okF l.length q wide = false) : store_Load.f 9 wr l q wide = some (0, false) := by
  unfold store_Load.f
  rw [place_f wr l q wide h0 h1 hl, no]
  rfl
theorem i_of (a b c d e : Int) : (#[.int .i64 a, .int .i64 b, .int .i64 c, .int .i64 d, .int .i64 e] : Array Value)[0]? = some (.int .i64 a) := rfl
theorem i_of1 (a b c d e : Int) : (#[.int .i64 a, .int .i64 b, .int .i64 c, .int .i64 d, .int .i64 e] : Array Value)[1]? = some (.int .i64 b) := rfl
theorem i_of2 (a b c d e : Int) : (#[.int .i64 a, .int .i64 b, .int .i64 c, .int .i64 d, .int .i64 e] : Array Value)[2]? = some (.int .i64 c) := rfl
theorem i_of4 (a b c d e : Int) : (#[.int .i64 a, .int .i64 b, .int .i64 c, .int .i64 d, .int .i64 e] : Array Value)[4]? = some (.int .i64 e) := rfl
abbrev m32 (c : Int) : Int := c % 4294967296
theorem hp_cell {P : Program} {ops : Array Oper} {rest : List Oper} {o : Oper} {a : Act} {Q : Exit → Act → World → Prop} {W : World} (hgd : o.guard = none) {ty : TypeId} {x : Operand} (ho : o.op = .load ty x) {ad : Addr} (hx : a.eval x = .pointer (some ad)) {v : Value} (hc : W.cell? ad = some v)
    (hu : (match P.underlying ty with | some (.struct _) | some (.array _ _) | none => false | _ => true) = true)
    (h : wpList P ops Q rest (a.put o.dst v) W) : wpList P ops Q (o :: rest) a W := by
  refine Kd.event_run hgd ?_ h
  have hl : (loadVar ty ad).run P W = .ok v W := by
    cases hd : P.underlying ty with
    | none => simp [hd] at hu
    | some d =>
      have hagg : (isAgg ty).run P W = .ok false W := by
        unfold isAgg
        rw [Sem.run_bind, run_underlying hd W]
        rw [hd] at hu
        cases d <;> simp_all
      simp [loadVar, Sem.run_bind, hagg, hc]
  unfold execOp
  simp only [ho, hx, Instr.loadAt, Instr.sureAddr, Sem.run_bind, Sem.run_pure, Result.andThen_ok, hl]
def whereF (t : St) (i : IV) : Int := (rd t.R i.b + i.imm % 4294967296) % 4294967296
def St.put (t : St) (r v : Int) : St := { t with R := if 0 < r then t.R.set r.toNat v else t.R, at_ := wrap64 (t.at_ + 1) }
def St.fault (t : St) (k : Int) : St := { t with en := true, flt := k }
theorem Rd.put {w : World} {s : SV} {t : St} (h : Rd w s t) (r v : Int) : Rd w (s.put r v) (t.put r v) :=
  ⟨by unfold SV.put St.put; simp only [h.at_], by unfold SV.put St.put; simp only [h.R], by unfold St.put; have := h.n16; simp only; split <;> simp [this], h.back, h.wr, h.byt, h.inp, h.out, h.en, h.code, h.flt⟩
theorem Rd.fault {w : World} {s : SV} {t : St} (h : Rd w s t) (k : Int) : Rd w { s with en := true, flt := k } (t.fault k) :=
  ⟨h.at_, h.R, h.n16, h.back, h.wr, h.byt, h.inp, h.out, rfl, h.code, rfl⟩
set_option maxHeartbeats 8000000 in
set_option maxRecDepth 100000 in
theorem effect_load (s : SV) (t : St) (i : IV) (w : World) (h : Aside0 (Rd w s t)) (h0 : 0 ≤ i.a) (h1 : i.a < 16) (h2 : 0 ≤ i.b) (h3 : i.b < 16) (hb : Aside0 (t.byt.length ≤ 1099511627776)) (wide : Bool) (ho : i.op = if wide = true then 11 else 13)
    (r : Int) (ok : Bool) (hl : Aside0 (store_Load.f 9 t.wr t.byt (whereF t i) wide = some (r, ok))) :
    Calls Try.prog 49 #[.agg s.c, .agg i.c] w (StIs w s t (if ok = true then t.put i.a r else t.fault 3)) := by
  have H := Hp.nil w
  have hcut : Aside0 (bits_Cut.f i.imm 32 = some (i.imm % 4294967296)) := ⟨Code.cut32 _⟩
  have hwh : Aside0 (IntKind.u32.wrap (rd s.R i.b + i.imm % 4294967296) = whereF t i) := ⟨by unfold whereF; rw [h.out.R]; rfl⟩
  have hR : Aside0 (s.R.length = 16) := ⟨by rw [h.out.R]; exact h.out.n16⟩
  obtain ⟨hn, hc, hm, hr⟩ := h.out.byt
  have hlo : Aside0 (∀ W', Below w.heap.size w W' → Calls Try.prog 60 #[.agg #[.int .i64 s.wr, .slice s.byt.a s.byt.n s.byt.c], .int .u32 (whereF t i), .bool wide] W' fun e w' => e = .returned (.tuple #[.int .u32 r, .bool ok]) ∧ Below W'.heap.size W' w') := ⟨fun W' hW => by
    rw [h.out.wr, hn]
    exact store_Load.calls 9 t.wr s.byt.a s.byt.c t.byt (whereF t i) wide r ok W' (Kd.C_below hr hW) (by rw [← hn]; exact hc) hl.out⟩
  clear hn hc hm hr
  have ih : i.c = #[.int .i64 (if wide = true then 11 else 13), .int .i64 i.a, .int .i64 i.b, .int .i64 i.c_, .int .i64 i.imm] := by unfold IV.c; rw [ho]
  rw [ih]
  clear ih ho
  cases wide <;> simp only [if_true, if_false, Bool.false_eq_true] <;> cases ok <;> simp only [if_true, if_false, Bool.false_eq_true]
  all_goals
    go_enter Try.func49, Try.ntmps49
    go_wp2_with (first | (refine hp_guard rfl ?_) | (refine hp_box H rfl rfl rfl ?_; intro g_ W_ H_; clear H; have H := H_; clear H_) | (refine hp_alloc H rfl rfl (fun w_ => by go_simp; rfl) ?_; intro g_ W_ H_; clear H; have H := H_; clear H_) | (first | (refine hp_whole H rfl (ty := 37) rfl rfl (by repeat (first | exact .head _ | refine .tail _ ?_)) (by kernel_rfl) (by kernel_rfl) ?_)) | (refine hp_loads H rfl (ty := 35) rfl rfl (by repeat (first | exact .head _ | refine .tail _ ?_)) (by kernel_rfl) (n := 2) (by kernel_rfl) rfl (sv_memx _) ?_) | (refine hp_load H rfl rfl rfl (by repeat (first | exact .head _ | refine .tail _ ?_)) (by kernel_rfl) (by first | exact i_of _ _ _ _ _ | exact i_of1 _ _ _ _ _ | exact i_of4 _ _ _ _ _ | exact g_at _) ?_) | (refine hp_goes H rfl (f := 60) rfl Try.func60 (by kernel_rfl) rfl (hlo.out _ H.below) (by (try simp only [List.map_toArray, List.map_cons, List.map_nil]); first | done | rfl) ?_; rintro e_ W_ ⟨rfl, hb_⟩; refine ⟨_, rfl, hb_, fun H_ => ?_⟩; clear H; have H := H_; clear H_) | (refine hp_goes H rfl (f := 47) rfl Try.func47 (by kernel_rfl) rfl (put_c s i.a r _ h0 h1 hR) (by (try simp only [List.map_toArray, List.map_cons, List.map_nil]); first | done | rfl) ?_; rintro e_ W_ ⟨rfl, hb_⟩; refine ⟨_, rfl, hb_, fun H_ => ?_⟩; clear H; have H := H_; clear H_) | (refine hp_goes H rfl (f := 44) rfl Try.func44 (by kernel_rfl) rfl (fault_c s _ _) (by (try simp only [List.map_toArray, List.map_cons, List.map_nil]); first | done | rfl) ?_; rintro e_ W_ ⟨rfl, hb_⟩; refine ⟨_, rfl, hb_, fun H_ => ?_⟩; clear H; have H := H_; clear H_) | ((first | (refine hp_store0 H rfl rfl rfl rfl rfl (by kernel_rfl) (by first | rfl | exact fit_.out) (by rfl) (by first | exact sv_all _ rfl) ?_) | (refine hp_store1 H rfl rfl rfl rfl rfl (by kernel_rfl) (by first | rfl | exact fit_.out) (by rfl) (by first | exact sv_all _ rfl) ?_) | (refine hp_store2 H rfl rfl rfl rfl rfl (by kernel_rfl) (by first | rfl | exact fit_.out) (by rfl) (by first | exact sv_all _ rfl) ?_) | (refine hp_store3 H rfl rfl rfl rfl rfl (by kernel_rfl) (by first | rfl | exact fit_.out) (by rfl) (by first | exact sv_all _ rfl) ?_)); intro W_ H_; clear H; have H := H_; clear H_) | ((with_reducible refine gate_draw ?_); have k0 := H.cell (by repeat (first | exact .head _ | refine .tail _ ?_)) 4 (i_of4 _ _ _ _ _); have k2 := H.cell (by repeat (first | exact .head _ | refine .tail _ ?_)) 2 (i_of2 _ _ _ _ _); have k4 := H.cell (by repeat (first | exact .head _ | refine .tail _ ?_)) _ (sv_reg s i.b h2 h3); go_quiet ((go_at_call 59; exact Calls.quiet_of ((bits_Cut.calls i.imm 32 _ _ hcut.out).mono fun _ _ hq => ⟨hq.1, hq.2.out⟩))); clear k0 k2 k4; rw [hwh.out]; have H := H.drewN nq))
    first | exact (bodyPost_ret (results_cell_row rfl _ _ _ 37 _ (0, 0) _ rfl (H.heap (by repeat (first | exact .head _ | refine .tail _ ?_))) Try.underlying37 rfl (by kernel_rfl)) rfl ⟨s.put i.a r, rfl, fun W9_ hW9_ hd => hd.put i.a r, H.below⟩) | exact (bodyPost_ret (results_cell_row rfl _ _ _ 37 _ (0, 0) _ rfl (H.heap (by repeat (first | exact .head _ | refine .tail _ ?_))) Try.underlying37 rfl (by kernel_rfl)) rfl ⟨{ s with en := true, flt := 3 }, rfl, fun W9_ hW9_ hd => hd.fault 3, H.below⟩)
set_option maxHeartbeats 8000000 in
set_option maxRecDepth 100000 in
theorem effect_in (s : SV) (t : St) (i : IV) (w : World) (h : Aside0 (Rd w s t)) (h0 : 0 ≤ i.a) (h1 : i.a < 16) (h2 : 0 ≤ i.b) (h3 : i.b < 16) (hu : ∀ x ∈ t.inp, 0 ≤ x ∧ x ≤ 255) (ho : i.op = 22) :
    Calls Try.prog 49 #[.agg s.c, .agg i.c] w (StIs w s t (match t.inp with | [] => t.put i.a 4294967295 | c :: l => { t with inp := l }.put i.a c)) := by
  have H := Hp.nil w
  have hcut : Aside0 (bits_Cut.f i.imm 32 = some (i.imm % 4294967296)) := ⟨Code.cut32 _⟩
  have hR : Aside0 (s.R.length = 16) := ⟨by rw [h.out.R]; exact h.out.n16⟩
  have ih : i.c = #[.int .i64 22, .int .i64 i.a, .int .i64 i.b, .int .i64 i.c_, .int .i64 i.imm] := by unfold IV.c; rw [ho]
  rw [ih]
  clear ih ho
  obtain ⟨hn, hc, hm, hr⟩ := h.out.inp
  cases hi : t.inp with
  | nil =>
    have hn0 : s.inp.n = 0 := by rw [hn, hi]; rfl
    have ih : s.c[20]? = some (.slice s.inp.a 0 s.inp.c) := by rw [g_inp, hn0]
    have ih := Aside0.mk ih
    clear hn hc hm hr hi hn0 hu
    go_enter Try.func49, Try.ntmps49
    go_wp2_with (first | (refine hp_guard rfl ?_) | (refine hp_box H rfl rfl rfl ?_; intro g_ W_ H_; clear H; have H := H_; clear H_) | (refine hp_alloc H rfl rfl (fun w_ => by go_simp; rfl) ?_; intro g_ W_ H_; clear H; have H := H_; clear H_) | (first | (refine hp_whole H rfl (ty := 37) rfl rfl (by repeat (first | exact .head _ | refine .tail _ ?_)) (by kernel_rfl) (by kernel_rfl) ?_)) | (refine hp_load H rfl rfl rfl (by repeat (first | exact .head _ | refine .tail _ ?_)) (by kernel_rfl) (by first | exact i_of _ _ _ _ _ | exact i_of1 _ _ _ _ _ | exact i_of4 _ _ _ _ _ | exact ih.out) ?_) | (refine hp_goes H rfl (f := 47) rfl Try.func47 (by kernel_rfl) rfl (put_c s i.a 4294967295 _ h0 h1 hR) (by (try simp only [List.map_toArray, List.map_cons, List.map_nil]); first | done | rfl) ?_; rintro e_ W_ ⟨rfl, hb_⟩; refine ⟨_, rfl, hb_, fun H_ => ?_⟩; clear H; have H := H_; clear H_) | ((first | (refine hp_store0 H rfl rfl rfl rfl rfl (by kernel_rfl) (by first | rfl | exact fit_.out) (by rfl) (by first | exact sv_all _ rfl) ?_) | (refine hp_store1 H rfl rfl rfl rfl rfl (by kernel_rfl) (by first | rfl | exact fit_.out) (by rfl) (by first | exact sv_all _ rfl) ?_) | (refine hp_store2 H rfl rfl rfl rfl rfl (by kernel_rfl) (by first | rfl | exact fit_.out) (by rfl) (by first | exact sv_all _ rfl) ?_) | (refine hp_store3 H rfl rfl rfl rfl rfl (by kernel_rfl) (by first | rfl | exact fit_.out) (by rfl) (by first | exact sv_all _ rfl) ?_)); intro W_ H_; clear H; have H := H_; clear H_) | ((with_reducible refine gate_draw ?_); have k0 := H.cell (by repeat (first | exact .head _ | refine .tail _ ?_)) 4 (i_of4 _ _ _ _ _); have k2 := H.cell (by repeat (first | exact .head _ | refine .tail _ ?_)) 2 (i_of2 _ _ _ _ _); have k4 := H.cell (by repeat (first | exact .head _ | refine .tail _ ?_)) _ (sv_reg s i.b h2 h3); go_quiet ((go_at_call 59; exact Calls.quiet_of ((bits_Cut.calls i.imm 32 _ _ hcut.out).mono fun _ _ hq => ⟨hq.1, hq.2.out⟩))); clear k0 k2 k4; have H := H.drewN nq))
    exact (bodyPost_ret (results_cell_row rfl _ _ _ 37 _ (0, 0) _ rfl (H.heap (by repeat (first | exact .head _ | refine .tail _ ?_))) Try.underlying37 rfl (by kernel_rfl)) rfl ⟨s.put i.a 4294967295, rfl, fun W9_ hW9_ hd => hd.put i.a 4294967295, H.below⟩)
  | cons c l =>
    have hn1 : 1 ≤ s.inp.n := by rw [hn, hi]; simp
    obtain ⟨ad, ea, hx⟩ := h.out.inp.at_ 0 (by omega) (by omega)
    have hx0 : rd t.inp 0 = c := by rw [hi]; rfl
    rw [hx0] at hx
    have hx := Aside0.mk hx
    have hcm : Aside0 (m32 c = c) := ⟨by have := hu c (by rw [hi]; simp); unfold m32; omega⟩
    have hc1 : ∀ W9 : World, RdS .u8 W9 s.inp.a s.inp.n s.inp.c t.inp → RdS .u8 W9 (if s.inp.c = 1 then some ad else some (ad.add 1)) (s.inp.n - 1) (s.inp.c - 1) l := fun W9 hq => by
      obtain ⟨hn, hc, hm, hr⟩ := hq
      have hd := Kd.C_drop hr (m := 1) (by omega) (by omega : t.inp.length ≤ s.inp.c)
      rw [hi, ea] at hd
      rw [hi] at hn
      simp only [List.drop_succ_cons, List.drop_zero, Nat.one_mul, show (Kd.int .u8).sz = 1 from rfl, Option.map_some] at hd
      rw [List.length_cons] at hn
      exact ⟨by omega, by omega, by omega, hd⟩
    have ig : Aside0 (s.c[20]? = some (.slice (some ad) s.inp.n s.inp.c)) := ⟨by rw [g_inp, ea]⟩
    clear hn hr hi hx0 ea hu
    by_cases hcap : s.inp.c = 1
    · have ec : s.inp.c - 1 = 0 := by omega
      have hc1 : Aside0 (∀ W9 : World, RdS .u8 W9 s.inp.a s.inp.n s.inp.c t.inp → RdS .u8 W9 (some ad) (s.inp.n - 1) 0 l) := ⟨fun W9 hq => by
        have := hc1 W9 hq
        rw [if_pos hcap, ec] at this
        exact this⟩
      have ec := Aside0.mk ec
      go_enter Try.func49, Try.ntmps49
      go_wp2_with (first | (refine hp_guard rfl ?_) | (refine hp_box H rfl rfl rfl ?_; intro g_ W_ H_; clear H; have H := H_; clear H_) | (refine hp_alloc H rfl rfl (fun w_ => by go_simp; rfl) ?_; intro g_ W_ H_; clear H; have H := H_; clear H_) | (first | (refine hp_whole H rfl (ty := 37) rfl rfl (by repeat (first | exact .head _ | refine .tail _ ?_)) (by kernel_rfl) (by kernel_rfl) ?_)) | (refine hp_load H rfl rfl rfl (by repeat (first | exact .head _ | refine .tail _ ?_)) (by kernel_rfl) (by first | exact i_of _ _ _ _ _ | exact i_of1 _ _ _ _ _ | exact i_of4 _ _ _ _ _ | exact ig.out) ?_) | (refine hp_goes H rfl (f := 47) rfl Try.func47 (by kernel_rfl) rfl (put_c { s with inp := ⟨some ad, s.inp.n - 1, 0⟩ } i.a (m32 c) _ h0 h1 hR) (by (try simp only [List.map_toArray, List.map_cons, List.map_nil]); first | done | rfl) ?_; rintro e_ W_ ⟨rfl, hb_⟩; refine ⟨_, rfl, hb_, fun H_ => ?_⟩; clear H; have H := H_; clear H_) | ((first | (refine hp_store0 H rfl rfl rfl rfl rfl (by kernel_rfl) (by first | rfl | exact fit_.out) (by rfl) (by first | exact sv_inp _ _ _ _ | exact sv_all _ rfl) ?_) | (refine hp_store1 H rfl rfl rfl rfl rfl (by kernel_rfl) (by first | rfl | exact fit_.out) (by rfl) (by first | exact sv_inp _ _ _ _ | exact sv_all _ rfl) ?_) | (refine hp_store2 H rfl rfl rfl rfl rfl (by kernel_rfl) (by first | rfl | exact fit_.out) (by rfl) (by first | exact sv_inp _ _ _ _ | exact sv_all _ rfl) ?_) | (refine hp_store3 H rfl rfl rfl rfl rfl (by kernel_rfl) (by first | rfl | exact fit_.out) (by rfl) (by first | exact sv_inp _ _ _ _ | exact sv_all _ rfl) ?_)); intro W_ H_; clear H; have H := H_; clear H_) | ((with_reducible refine gate_draw ?_); have k0 := H.cell (by repeat (first | exact .head _ | refine .tail _ ?_)) 4 (i_of4 _ _ _ _ _); have k2 := H.cell (by repeat (first | exact .head _ | refine .tail _ ?_)) 2 (i_of2 _ _ _ _ _); have k4 := H.cell (by repeat (first | exact .head _ | refine .tail _ ?_)) _ (sv_reg s i.b h2 h3); go_quiet ((go_at_call 59; exact Calls.quiet_of ((bits_Cut.calls i.imm 32 _ _ hcut.out).mono fun _ _ hq => ⟨hq.1, hq.2.out⟩))); clear k0 k2 k4; have H := H.drewN nq) | ((with_reducible refine gate_dst (N := 86) rfl ?_); refine hp_cell rfl rfl rfl ((H.below.cell (World.block_lt_of_cell? w _ hx.out)).trans hx.out) (by kernel_rfl) ?_))
      exact (bodyPost_ret (results_cell_row rfl _ _ _ 37 _ (0, 0) _ rfl (H.heap (by repeat (first | exact .head _ | refine .tail _ ?_))) Try.underlying37 rfl (by kernel_rfl)) rfl ⟨SV.put { s with inp := ⟨some ad, s.inp.n - 1, 0⟩ } i.a (m32 c), rfl, fun W9_ hW9_ hd => by rw [hcm.out]; exact Rd.put (s := { s with inp := ⟨some ad, s.inp.n - 1, 0⟩ }) (t := { t with inp := l }) ⟨hd.at_, hd.R, hd.n16, hd.back, hd.wr, hd.byt, hc1.out W9_ hd.inp, hd.out, hd.en, hd.code, hd.flt⟩ i.a c, H.below⟩)
    · have hc1 : Aside0 (∀ W9 : World, RdS .u8 W9 s.inp.a s.inp.n s.inp.c t.inp → RdS .u8 W9 (some (ad.add 1)) (s.inp.n - 1) (s.inp.c - 1) l) := ⟨fun W9 hq => by
        have := hc1 W9 hq
        rw [if_neg hcap] at this
        exact this⟩
      go_enter Try.func49, Try.ntmps49
      go_wp2_with (first | (refine hp_guard rfl ?_) | (refine hp_box H rfl rfl rfl ?_; intro g_ W_ H_; clear H; have H := H_; clear H_) | (refine hp_alloc H rfl rfl (fun w_ => by go_simp; rfl) ?_; intro g_ W_ H_; clear H; have H := H_; clear H_) | (first | (refine hp_whole H rfl (ty := 37) rfl rfl (by repeat (first | exact .head _ | refine .tail _ ?_)) (by kernel_rfl) (by kernel_rfl) ?_)) | (refine hp_load H rfl rfl rfl (by repeat (first | exact .head _ | refine .tail _ ?_)) (by kernel_rfl) (by first | exact i_of _ _ _ _ _ | exact i_of1 _ _ _ _ _ | exact i_of4 _ _ _ _ _ | exact ig.out) ?_) | (refine hp_goes H rfl (f := 47) rfl Try.func47 (by kernel_rfl) rfl (put_c { s with inp := ⟨some (ad.add 1), s.inp.n - 1, s.inp.c - 1⟩ } i.a (m32 c) _ h0 h1 hR) (by (try simp only [List.map_toArray, List.map_cons, List.map_nil]); first | done | rfl) ?_; rintro e_ W_ ⟨rfl, hb_⟩; refine ⟨_, rfl, hb_, fun H_ => ?_⟩; clear H; have H := H_; clear H_) | ((first | (refine hp_store0 H rfl rfl rfl rfl rfl (by kernel_rfl) (by first | rfl | exact fit_.out) (by rfl) (by first | exact sv_inp _ _ _ _ | exact sv_all _ rfl) ?_) | (refine hp_store1 H rfl rfl rfl rfl rfl (by kernel_rfl) (by first | rfl | exact fit_.out) (by rfl) (by first | exact sv_inp _ _ _ _ | exact sv_all _ rfl) ?_) | (refine hp_store2 H rfl rfl rfl rfl rfl (by kernel_rfl) (by first | rfl | exact fit_.out) (by rfl) (by first | exact sv_inp _ _ _ _ | exact sv_all _ rfl) ?_) | (refine hp_store3 H rfl rfl rfl rfl rfl (by kernel_rfl) (by first | rfl | exact fit_.out) (by rfl) (by first | exact sv_inp _ _ _ _ | exact sv_all _ rfl) ?_)); intro W_ H_; clear H; have H := H_; clear H_) | ((with_reducible refine gate_draw ?_); have k0 := H.cell (by repeat (first | exact .head _ | refine .tail _ ?_)) 4 (i_of4 _ _ _ _ _); have k2 := H.cell (by repeat (first | exact .head _ | refine .tail _ ?_)) 2 (i_of2 _ _ _ _ _); have k4 := H.cell (by repeat (first | exact .head _ | refine .tail _ ?_)) _ (sv_reg s i.b h2 h3); go_quiet ((go_at_call 59; exact Calls.quiet_of ((bits_Cut.calls i.imm 32 _ _ hcut.out).mono fun _ _ hq => ⟨hq.1, hq.2.out⟩))); clear k0 k2 k4; have H := H.drewN nq) | ((with_reducible refine gate_dst (N := 86) rfl ?_); refine hp_cell rfl rfl rfl ((H.below.cell (World.block_lt_of_cell? w _ hx.out)).trans hx.out) (by kernel_rfl) ?_))
      exact (bodyPost_ret (results_cell_row rfl _ _ _ 37 _ (0, 0) _ rfl (H.heap (by repeat (first | exact .head _ | refine .tail _ ?_))) Try.underlying37 rfl (by kernel_rfl)) rfl ⟨SV.put { s with inp := ⟨some (ad.add 1), s.inp.n - 1, s.inp.c - 1⟩ } i.a (m32 c), rfl, fun W9_ hW9_ hd => by rw [hcm.out]; exact Rd.put (s := { s with inp := ⟨some (ad.add 1), s.inp.n - 1, s.inp.c - 1⟩ }) (t := { t with inp := l }) ⟨hd.at_, hd.R, hd.n16, hd.back, hd.wr, hd.byt, hc1.out W9_ hd.inp, hd.out, hd.en, hd.code, hd.flt⟩ i.a c, H.below⟩)
end Go.Proofs.Ytcagccodmmcnfaa.Cpu
end
section
/- What has an effect: Out. Own work; a template. -/
namespace Go.Proofs.Ytcagccodmmcnfaa.Cpu
open Go.RowKit Go.Proofs.YtcagccodmmcnfaaW.PrintWords Go.Proofs.YtcagccodmmcnfaaW.PrintLast Go.Proofs.YtcagccodmmcnfaaW.PrintMore Go.Proofs.Ytcagccodmmcnfaa.Hp Go.Proofs.Ytcagccodmmcnfaa.Q
set_option linter.unusedVariables false
set_option linter.unusedSimpArgs false
attribute [local go_sem] add_any
theorem clipB_s (A : Option Addr) (n c : Nat) (w : World) (h : n ≤ c) (hm : c ≤ 9223372036854775807) : Calls Try.prog 62 #[.slice A n c] w fun e w' => e = .returned (.slice A n n) ∧ w = w' := by
  go_enter Try.func62, Try.ntmps62
  go_wp2
  go_ret
  exact ⟨rfl, rfl⟩
abbrev m8 (c : Int) : Int := c % 256
def St.outp (t : St) (i : IV) : St := { t with out := if t.out.length < 4096 then t.out ++ [m8 (rd t.R i.a)] else t.out, at_ := wrap64 (t.at_ + 1) }
set_option maxHeartbeats 8000000 in
set_option maxRecDepth 100000 in
theorem effect_out (s : SV) (t : St) (i : IV) (w : World) (h : Aside0 (Rd w s t)) (h0 : 0 ≤ i.a) (h1 : i.a < 16) (h2 : 0 ≤ i.b) (h3 : i.b < 16) (ho : i.op = 23) :
    Calls Try.prog 49 #[.agg s.c, .agg i.c] w (StIs w s t (t.outp i)) := by
  have H := Hp.nil w
  have hcut : Aside0 (bits_Cut.f i.imm 32 = some (i.imm % 4294967296)) := ⟨Code.cut32 _⟩
  have ih : i.c = #[.int .i64 23, .int .i64 i.a, .int .i64 i.b, .int .i64 i.c_, .int .i64 i.imm] := by unfold IV.c; rw [ho]
  rw [ih]
  clear ih ho
  obtain ⟨hn, hc, hm, hr⟩ := h.out.out
  by_cases hlt : s.out.n < 4096
  · have e : Aside0 (t.outp i = { t with out := t.out ++ [m8 (rd t.R i.a)], at_ := wrap64 (t.at_ + 1) }) := ⟨by unfold St.outp; rw [if_pos (by omega)]⟩
    have hlt' : ((s.out.n : Int) < 4096) := by omega
    replace hn := Aside0.mk hn
    clear hr hlt
    go_enter Try.func49, Try.ntmps49
    go_wp2_with (first | (refine hp_guard rfl ?_) | ((with_reducible refine gate_dst (N := 2) rfl ?_); refine hp_box H rfl rfl rfl ?_; intro gs W_ H_; clear H; have H := H_; clear H_) | ((with_reducible refine gate_dst (N := 3) rfl ?_); refine hp_box H rfl rfl rfl ?_; intro gi W_ H_; clear H; have H := H_; clear H_) | ((with_reducible refine gate_dst (N := 4) rfl ?_); refine hp_alloc H rfl rfl (fun w_ => by go_simp; rfl) ?_; intro gr W_ H_; clear H; have H := H_; clear H_) | (refine hp_load H rfl rfl rfl (by repeat (first | exact .head _ | refine .tail _ ?_)) (by kernel_rfl) (by first | exact i_of _ _ _ _ _ | exact g_out _) ?_) | ((with_reducible refine gate_draw ?_); have k0 := H.cell (by repeat (first | exact .head _ | refine .tail _ ?_)) 4 (i_of4 _ _ _ _ _); have k2 := H.cell (by repeat (first | exact .head _ | refine .tail _ ?_)) 2 (i_of2 _ _ _ _ _); have k4 := H.cell (by repeat (first | exact .head _ | refine .tail _ ?_)) _ (sv_reg s i.b h2 h3); go_quiet ((go_at_call 59; exact Calls.quiet_of ((bits_Cut.calls i.imm 32 _ _ hcut.out).mono fun _ _ hq => ⟨hq.1, hq.2.out⟩))); clear k0 k2 k4; have H := H.drewN nq))
    generalize IntKind.u32.wrap _ = wh
    generalize World.drewN _ _ = W0 at *
    have k21 := H.cell (.tail _ (.tail _ (.head _))) 21 (g_out s)
    have f21 := H.frozen (.tail _ (.tail _ (.head _))) 21
    have hne : gs ≠ W0.heap.size := Nat.ne_of_lt (blk_lt (H.heap (.tail _ (.tail _ (.head _)))))
    have kA : ∀ o_, (World.alloc W0 o_).cell? ⟨gs, 21, none⟩ = some (.slice s.out.a s.out.n s.out.c) := fun o_ => pw_cell_below (below_alloc (Below.refl _ _) o_) k21
    have k1 := H.cell (by repeat (first | exact .head _ | refine .tail _ ?_)) 1 (i_of1 _ _ _ _ _)
    have kR := H.cell (by repeat (first | exact .head _ | refine .tail _ ?_)) _ (sv_reg s i.a h0 h1)
    replace H := Aside0.mk H
    go_region_law (first | (refine hs_goes0 rfl (f := 62) rfl Try.func62 (by kernel_rfl) rfl (clipB_s s.out.a s.out.n s.out.c _ hc hm) (by (try simp only [List.map_toArray, List.map_cons, List.map_nil]); first | done | rfl) ?_; rintro e_ W2_ ⟨rfl, rfl⟩; refine ⟨_, rfl, ?_⟩) | (refine hs_grow ⟨H.out.drew.alloc _ _, trivial⟩ rfl rfl Try.underlying23 1 (by kernel_rfl) rfl (fun H_ => RdS.below h.out.out.clip H_.below) rfl (v := m8 (rd s.R i.a)) ((blk_cell (blk_new _ _) 0).trans rfl) (by have := hn.out; omega) (by omega) ?_; intro g_ cur_ cap_ W2_ ht_ hc_ hm_ hb_ H_; have c21 := H_.cell (.tail _ (.tail _ (.tail _ (.tail _ (.head _))))) 21 (g_out s); have d21 := H_.frozen (.tail _ (.tail _ (.tail _ (.tail _ (.head _))))) 21; replace ht_ := Aside0.mk ht_; replace H_ := Aside0.mk H_))
    all_goals
      have H := H_.out.set4 21 _ (sw_out s (some ⟨g_, 0, none⟩) (s.out.n + 1) cap_)
      clear H_ c21 d21 k21 f21 kA k1 kR hne hb_
      generalize World.setCell _ _ _ = W3 at *
      go_wp2_with (first | (first | (refine hp_whole H rfl (ty := 37) rfl rfl (by repeat (first | exact .head _ | refine .tail _ ?_)) (by kernel_rfl) (by kernel_rfl) ?_)) | (refine hp_load H rfl rfl rfl (by repeat (first | exact .head _ | refine .tail _ ?_)) (by kernel_rfl) (by first | exact g_at _) ?_) | ((first | (refine hp_store0 H rfl rfl rfl rfl rfl (by kernel_rfl) (by first | rfl | exact fit_.out) (by rfl) (by first | exact sv_at _ _ | exact sv_all _ rfl) ?_) | (refine hp_store1 H rfl rfl rfl rfl rfl (by kernel_rfl) (by first | rfl | exact fit_.out) (by rfl) (by first | exact sv_at _ _ | exact sv_all _ rfl) ?_) | (refine hp_store2 H rfl rfl rfl rfl rfl (by kernel_rfl) (by first | rfl | exact fit_.out) (by rfl) (by first | exact sv_at _ _ | exact sv_all _ rfl) ?_) | (refine hp_store3 H rfl rfl rfl rfl rfl (by kernel_rfl) (by first | rfl | exact fit_.out) (by rfl) (by first | exact sv_at _ _ | exact sv_all _ rfl) ?_) | (refine hp_store4 H rfl rfl rfl rfl rfl (by kernel_rfl) (by first | rfl | exact fit_.out) (by rfl) (by first | exact sv_at _ _ | exact sv_all _ rfl) ?_)); intro W_ H_; clear H; have H := H_; clear H_))
      rw [e.out]
      exact (bodyPost_ret (results_cell_row rfl _ _ _ 37 _ (0, 0) _ rfl (H.heap (by repeat (first | exact .head _ | refine .tail _ ?_))) Try.underlying37 rfl (by kernel_rfl)) rfl ⟨{ s with out := ⟨some ⟨g_, 0, none⟩, s.out.n + 1, cap_⟩, at_ := wrap64 (s.at_ + 1) }, rfl, fun W9_ hW9_ hd => ⟨by simp only [hd.at_], hd.R, hd.n16, hd.back, hd.wr, hd.byt, hd.inp, by rw [← hd.R]; exact H.rdsF hW9_ (by repeat (first | exact .head _ | refine .tail _ ?_)) ht_.out (by have := hn.out; simp; omega) hc_ hm_, hd.en, hd.code, hd.flt⟩, H.below⟩)
  · have e : Aside0 (t.outp i = { t with at_ := wrap64 (t.at_ + 1) }) := ⟨by unfold St.outp; rw [if_neg (by omega)]⟩
    have hlt' : ¬ ((s.out.n : Int) < 4096) := by omega
    clear hr hlt hn
    go_enter Try.func49, Try.ntmps49
    go_wp2_with (first | (refine hp_guard rfl ?_) | (refine hp_box H rfl rfl rfl ?_; intro g_ W_ H_; clear H; have H := H_; clear H_) | (refine hp_alloc H rfl rfl (fun w_ => by go_simp; rfl) ?_; intro g_ W_ H_; clear H; have H := H_; clear H_) | (first | (refine hp_whole H rfl (ty := 37) rfl rfl (by repeat (first | exact .head _ | refine .tail _ ?_)) (by kernel_rfl) (by kernel_rfl) ?_)) | (refine hp_load H rfl rfl rfl (by repeat (first | exact .head _ | refine .tail _ ?_)) (by kernel_rfl) (by first | exact i_of _ _ _ _ _ | exact g_out _ | exact g_at _) ?_) | ((first | (refine hp_store0 H rfl rfl rfl rfl rfl (by kernel_rfl) (by first | rfl | exact fit_.out) (by rfl) (by first | exact sv_at _ _ | exact sv_all _ rfl) ?_) | (refine hp_store1 H rfl rfl rfl rfl rfl (by kernel_rfl) (by first | rfl | exact fit_.out) (by rfl) (by first | exact sv_at _ _ | exact sv_all _ rfl) ?_) | (refine hp_store2 H rfl rfl rfl rfl rfl (by kernel_rfl) (by first | rfl | exact fit_.out) (by rfl) (by first | exact sv_at _ _ | exact sv_all _ rfl) ?_) | (refine hp_store3 H rfl rfl rfl rfl rfl (by kernel_rfl) (by first | rfl | exact fit_.out) (by rfl) (by first | exact sv_at _ _ | exact sv_all _ rfl) ?_) | (refine hp_store4 H rfl rfl rfl rfl rfl (by kernel_rfl) (by first | rfl | exact fit_.out) (by rfl) (by first | exact sv_at _ _ | exact sv_all _ rfl) ?_)); intro W_ H_; clear H; have H := H_; clear H_) | ((with_reducible refine gate_draw ?_); have k0 := H.cell (by repeat (first | exact .head _ | refine .tail _ ?_)) 4 (i_of4 _ _ _ _ _); have k2 := H.cell (by repeat (first | exact .head _ | refine .tail _ ?_)) 2 (i_of2 _ _ _ _ _); have k4 := H.cell (by repeat (first | exact .head _ | refine .tail _ ?_)) _ (sv_reg s i.b h2 h3); go_quiet ((go_at_call 59; exact Calls.quiet_of ((bits_Cut.calls i.imm 32 _ _ hcut.out).mono fun _ _ hq => ⟨hq.1, hq.2.out⟩))); clear k0 k2 k4; have H := H.drewN nq))
    rw [e.out]
    exact (bodyPost_ret (results_cell_row rfl _ _ _ 37 _ (0, 0) _ rfl (H.heap (by repeat (first | exact .head _ | refine .tail _ ?_))) Try.underlying37 rfl (by kernel_rfl)) rfl ⟨{ s with at_ := wrap64 (s.at_ + 1) }, rfl, fun W9_ hW9_ hd => ⟨by simp only [hd.at_], hd.R, hd.n16, hd.back, hd.wr, hd.byt, hd.inp, hd.out, hd.en, hd.code, hd.flt⟩, H.below⟩)
end Go.Proofs.Ytcagccodmmcnfaa.Cpu
end
