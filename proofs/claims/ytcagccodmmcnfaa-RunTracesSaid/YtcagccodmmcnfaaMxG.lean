/- Several texts in one, written by mergeall.py. Own work. -/
import Derived.Test.YtcagccodmmcnfaaMxD
import Derived.Test.YtcagccodmmcnfaaMxC
import Derived.Test.YtcagccodmmcnfaaOpn
import Derived.Test.YtcagccodmmcnfaaMxB
import Derived.Test.YtcagccodmmcnfaaQ39
section
/- A machine's step, all of it. Own work; a template. -/
namespace Go.Proofs.Ytcagccodmmcnfaa.Cpu
open Go.RowKit Go.Proofs.YtcagccodmmcnfaaW.PrintWords Go.Proofs.YtcagccodmmcnfaaW.PrintLast Go.Proofs.YtcagccodmmcnfaaW.PrintMore Go.Proofs.Ytcagccodmmcnfaa.Hp Go.Proofs.Ytcagccodmmcnfaa.Q
set_option linter.unusedVariables false
set_option linter.unusedSimpArgs false
def St.inn (t : St) (i : IV) : St := match t.inp with | [] => t.put i.a 4294967295 | c :: l => { t with inp := l }.put i.a c
def St.load (t : St) (i : IV) (wide : Bool) : St := if okF t.byt.length (whereF t i) wide = true then t.put i.a (loadW t.byt (whereF t i - 65536).toNat wide) else t.fault 3
def St.save (t : St) (i : IV) (wide : Bool) : St := if okF t.byt.length (whereF t i) wide = true ∧ t.wr ≤ whereF t i - 65536 then { t with byt := saveL t.byt (whereF t i - 65536).toNat (rd t.R i.a) wide, at_ := wrap64 (t.at_ + 1) } else t.fault 4
def St.effect (t : St) (i : IV) : St :=
  if i.op = 11 then t.load i true else if i.op = 13 then t.load i false else if i.op = 12 then t.save i true else if i.op = 14 then t.save i false else if i.op = 22 then t.inn i else t.outp i
theorem where_range (t : St) (i : IV) : 0 ≤ whereF t i ∧ whereF t i ≤ 4294967295 := by unfold whereF; omega
theorem load_c (s : SV) (t : St) (i : IV) (w : World) (h : Aside0 (Rd w s t)) (h0 : 0 ≤ i.a) (h1 : i.a < 16) (h2 : 0 ≤ i.b) (h3 : i.b < 16) (hb : t.byt.length ≤ 1099511627776) (wide : Bool) (ho : i.op = if wide = true then 11 else 13) :
    Calls Try.prog 49 #[.agg s.c, .agg i.c] w (StIs w s t (t.load i wide)) := by
  obtain ⟨q0, q1⟩ := where_range t i
  unfold St.load
  by_cases ok : okF t.byt.length (whereF t i) wide = true
  · rw [if_pos ok]
    have hq : 65536 ≤ whereF t i := by unfold okF at ok; have := of_decide_eq_true ok; omega
    have e : whereF t i = 65536 + ((whereF t i - 65536).toNat : Int) := by omega
    refine effect_load s t i w h h0 h1 h2 h3 ⟨hb⟩ wide ho (loadW t.byt (whereF t i - 65536).toNat wide) true ⟨?_⟩
    have := load_f t.wr t.byt (whereF t i - 65536).toNat wide (by omega) hb (by rw [← e]; exact ok)
    rw [← e] at this
    exact this
  · rw [if_neg ok]
    exact effect_load s t i w h h0 h1 h2 h3 ⟨hb⟩ wide ho 0 false ⟨load_no t.wr t.byt _ wide q0 q1 hb (by simpa using ok)⟩
theorem save_c (s : SV) (t : St) (i : IV) (w : World) (h : Aside0 (Rd w s t)) (h0 : 0 ≤ i.a) (h1 : i.a < 16) (h2 : 0 ≤ i.b) (h3 : i.b < 16) (hb : t.byt.length ≤ 1099511627776) (wide : Bool) (ho : i.op = if wide = true then 12 else 14) :
    Calls Try.prog 49 #[.agg s.c, .agg i.c] w (StIs w s t (t.save i wide)) := by
  obtain ⟨q0, q1⟩ := where_range t i
  unfold St.save
  by_cases ok : okF t.byt.length (whereF t i) wide = true ∧ t.wr ≤ whereF t i - 65536
  · rw [if_pos ok]
    obtain ⟨ok, hw⟩ := ok
    have hq : 65536 ≤ whereF t i := by unfold okF at ok; have := of_decide_eq_true ok; omega
    have e : whereF t i = 65536 + ((whereF t i - 65536).toNat : Int) := by omega
    exact effect_save_yes s t i w h h0 h1 h2 h3 ⟨hb⟩ wide ho (whereF t i - 65536).toNat (by omega) e (by rw [← e]; exact ok) (by omega)
  · rw [if_neg ok]
    refine effect_save_no s t i w h h0 h1 h2 h3 ⟨hb⟩ wide ho _ rfl q0 q1 ?_
    by_cases ok1 : okF t.byt.length (whereF t i) wide = true
    · exact .inr (by have : ¬ t.wr ≤ whereF t i - 65536 := fun h => ok ⟨ok1, h⟩; omega)
    · exact .inl (by simpa using ok1)
theorem effect_c (s : SV) (t : St) (i : IV) (w : World) (h : Aside0 (Rd w s t)) (h0 : 0 ≤ i.a) (h1 : i.a < 16) (h2 : 0 ≤ i.b) (h3 : i.b < 16) (hb : t.byt.length ≤ 1099511627776) (hu : ∀ x ∈ t.inp, 0 ≤ x ∧ x ≤ 255) (hk : kindF i.op = 1) :
    Calls Try.prog 49 #[.agg s.c, .agg i.c] w (StIs w s t (t.effect i)) := by
  unfold St.effect
  by_cases o1 : i.op = 11
  · rw [if_pos o1]; exact load_c s t i w h h0 h1 h2 h3 hb true o1
  rw [if_neg o1]
  by_cases o2 : i.op = 13
  · rw [if_pos o2]; exact load_c s t i w h h0 h1 h2 h3 hb false o2
  rw [if_neg o2]
  by_cases o3 : i.op = 12
  · rw [if_pos o3]; exact save_c s t i w h h0 h1 h2 h3 hb true o3
  rw [if_neg o3]
  by_cases o4 : i.op = 14
  · rw [if_pos o4]; exact save_c s t i w h h0 h1 h2 h3 hb false o4
  rw [if_neg o4]
  by_cases o5 : i.op = 22
  · rw [if_pos o5]; exact effect_in s t i w h h0 h1 h2 h3 hu o5
  rw [if_neg o5]
  have o6 : i.op = 23 := by
    unfold kindF at hk
    rw [if_neg o1, if_neg o3, if_neg o2, if_neg o4, if_neg o5] at hk
    by_cases o6 : i.op = 23
    · exact o6
    · rw [if_neg o6] at hk
      repeat' split at hk
      all_goals omega
  exact effect_out s t i w h h0 h1 h2 h3 o6
end Go.Proofs.Ytcagccodmmcnfaa.Cpu
end
section
/- A machine's step: one function. Own work; a template. -/
namespace Go.Proofs.Ytcagccodmmcnfaa.Cpu
open Go.RowKit Go.Proofs.YtcagccodmmcnfaaW.PrintWords Go.Proofs.YtcagccodmmcnfaaW.PrintLast Go.Proofs.YtcagccodmmcnfaaW.PrintMore Go.Proofs.Ytcagccodmmcnfaa.Hp Go.Proofs.Ytcagccodmmcnfaa.Q Go.Proofs.Ytcagccodmmcnfaa.Code
set_option linter.unusedVariables false
set_option linter.unusedSimpArgs false
def doF (i : IV) (x y : Int) : Int := (alu_Do.f i.op i.a i.b i.c_ i.imm x y).getD 0
theorem do_some (i : IV) (x y : Int) : alu_Do.f i.op i.a i.b i.c_ i.imm x y = some (doF i x y) := by
  have : ∃ r, alu_Do.f i.op i.a i.b i.c_ i.imm x y = some r := by
    unfold alu_Do.f alu_less.f
    simp only [Code.cut32, Code.cut16]
    repeat' split
    all_goals (try simp only [Option.bind_some])
    all_goals (repeat' split)
    all_goals exact ⟨_, rfl⟩
  obtain ⟨r, hr⟩ := this
  unfold doF
  rw [hr]
  rfl
def St.does (t : St) (i : IV) : St :=
  if kindF i.op = 0 then (if i.op = 24 then t.put 0 0 else t.put i.a (doF i (rd t.R i.b) (rd t.R i.c_)))
  else if kindF i.op = 1 then t.effect i else if kindF i.op = 5 then t.ends i else t.leads i
theorem rt_bounds {o a b c i : Int} (h : Rt o a b c i) : (0 ≤ a ∧ a < 16) ∧ (0 ≤ b ∧ b < 16) ∧ (0 ≤ c ∧ c < 16) := by
  unfold Rt at h
  repeat' split at h
  all_goals first | exact h.elim | omega
theorem gw_bounds {w : Int} (h : U32 w) {o a b c i : Int} (hg : gW w = some (o, a, b, c, i)) : (0 ≤ a ∧ a < 16) ∧ (0 ≤ b ∧ b < 16) ∧ (0 ≤ c ∧ c < 16) :=
  rt_bounds (gt_word (by have := h; unfold U32 at this; omega) (by omega) (by omega) hg).1
def St.step (t : St) (ws : List Int) : St :=
  if t.en = true then t else if t.at_ < 0 ∨ (ws.length : Int) ≤ t.at_ then t.fault 2 else
  match gW (rd ws t.at_) with
  | none => t.fault 2
  | some (o, a, b, c, i) => t.does ⟨o, a, b, c, i⟩
theorem step_c (s : SV) (t : St) (A : Option Addr) (n c : Nat) (ws : List Int) (w : World) (h : Rd w s t) (hl : RdS .u32 w A n c ws) (hws : ∀ x ∈ ws, U32 x) (hb : t.byt.length ≤ 1099511627776) (hk : t.back.length ≤ 1099511627776) (hu : ∀ x ∈ t.inp, 0 ≤ x ∧ x ≤ 255) :
    Calls Try.prog 29 #[.slice A n c, .agg s.c] w (StIs w s t (t.step ws)) := by
  unfold St.step
  by_cases he : t.en = true
  · rw [if_pos he]
    exact step_ended s t A n c w ⟨h⟩ (by rw [h.en, he])
  rw [if_neg he]
  have he' : s.en = false := by rw [h.en]; simpa using he
  by_cases ho : t.at_ < 0 ∨ (ws.length : Int) ≤ t.at_
  · rw [if_pos ho]
    exact step_out s t A n c w ⟨h⟩ he' (by rw [h.at_, hl.1]; omega)
  rw [if_neg ho]
  have h0 : 0 ≤ s.at_ := by rw [h.at_]; omega
  have h1 : ¬ s.at_ ≥ (n : Int) := by rw [h.at_, hl.1]; omega
  have hx : U32 (rd ws t.at_) := hws _ (by
    unfold rd
    rw [List.getD_eq_getElem?_getD, List.getElem?_eq_getElem (show t.at_.toNat < ws.length by omega)]
    exact List.getElem_mem _)
  have hg := Code.get_eq 7 hx
  rw [← h.at_] at hg
  cases hq : gW (rd ws t.at_) with
  | none =>
    rw [h.at_, hq] at hg
    rw [← h.at_] at hg
    exact step_bad s t A n c ws w ⟨h⟩ he' h0 h1 ⟨hl⟩ 0 0 0 0 0 3 ⟨hg⟩ (by decide)
  | some q =>
    obtain ⟨o, a, b, c', i⟩ := q
    obtain ⟨⟨a0, a1⟩, ⟨b0, b1⟩, ⟨c0, c1⟩⟩ := gw_bounds hx hq
    rw [h.at_, hq] at hg
    rw [← h.at_] at hg
    show Calls _ _ _ _ (StIs w s t (t.does ⟨o, a, b, c', i⟩))
    unfold St.does
    by_cases k0 : kindF o = 0
    · rw [if_pos k0]
      by_cases o24 : o = 24
      · rw [if_pos o24]
        subst o24
        exact step_nop s t A n c ws w ⟨h⟩ he' h0 h1 ⟨hl⟩ a b c' i ⟨hg⟩
      · rw [if_neg o24]
        exact step_alu s t A n c ws w ⟨h⟩ he' h0 h1 ⟨hl⟩ ⟨o, a, b, c', i⟩ ⟨hg⟩ ⟨k0⟩ o24 ⟨⟨a0, a1⟩⟩ b0 b1 c0 c1 _ ⟨do_some _ _ _⟩
    rw [if_neg k0]
    by_cases k1 : kindF o = 1
    · rw [if_pos k1]
      exact step_effect s t A n c ws w ⟨h⟩ he' h0 h1 ⟨hl⟩ ⟨o, a, b, c', i⟩ ⟨hg⟩ ⟨k1⟩ _ ⟨fun W' hW => effect_c s t _ W' ⟨h.below hW⟩ a0 a1 b0 b1 hb hu k1⟩
    rw [if_neg k1]
    by_cases k5 : kindF o = 5
    · rw [if_pos k5]
      exact step_ends s t A n c ws w ⟨h⟩ he' h0 h1 ⟨hl⟩ ⟨o, a, b, c', i⟩ ⟨hg⟩ ⟨k5⟩ a0 a1
    rw [if_neg k5]
    exact step_leads s t A n c ws w ⟨h⟩ he' h0 h1 ⟨hl⟩ ⟨o, a, b, c', i⟩ ⟨hg⟩ _ ⟨rfl⟩ k0 k1 k5 _ ⟨fun W' hW => leads_c s t _ W' ⟨h.below hW⟩ a0 a1 b0 b1 hk⟩
end Go.Proofs.Ytcagccodmmcnfaa.Cpu
end
section
/- A state handed in, opened. Own work; a template. -/
namespace Go.Proofs.Ytcagccodmmcnfaa.Cpu
open Go.RowKit Go.Proofs.YtcagccodmmcnfaaW.PrintWords Go.Proofs.YtcagccodmmcnfaaW.PrintLast Go.Proofs.YtcagccodmmcnfaaW.PrintMore Go.Proofs.Ytcagccodmmcnfaa.Hp Go.Proofs.Ytcagccodmmcnfaa.Q
set_option linter.unusedVariables false
section
variable {H : Type} {enc : TypeId × Value → H} {P : Program} {W : World} {base : Nat} {spare : Nat → Bool} {held : Bool} {fuel : Nat} {t e : TypeId} {cs : List Value} {x : DataW H × List MemPlace}
theorem sl_open {k : IntKind} {B : Nat} (hu : P.underlying t = some (.slice e)) (he : P.underlying e = some (.int k)) (hc : P.cellsOf e = 1) (hB : P.bytesOf e = B) (h : DataW.trod enc P W base spare held fuel t cs = some x) (hw : ∀ n ∈ x.1.weights P t, n ≤ 140737488351232) :
    ∃ A n c l, cs = [.slice A n c] ∧ RdS k W A n c l ∧ (∀ v ∈ l, (Lit.int k v).wf = true) ∧ n * B ≤ 140737488351232 := by
  obtain ⟨xs, ⟨A, c, rfl, hle, hC⟩, hB, hF⟩ := Opn.opn_slice (k := Kd.int k) hu hc hB (Opn.opn_int he) H enc W base spare held fuel cs x h hw
  refine ⟨A, _, c, xs, rfl, ⟨rfl, hle, ?_, hC⟩, hF, hB⟩
  rcases DataW.trod_slice hu h with ⟨e1, _⟩ | ⟨a, len, cap, elems, rest, n, _, e1, _, hb, hl, hcap, _⟩
  · simp only [List.cons.injEq, Value.slice.injEq, and_true] at e1
    omega
  · simp only [List.cons.injEq, Value.slice.injEq, and_true] at e1
    unfold maxLen at hcap
    omega
theorem int_open {k : IntKind} (hu : P.underlying t = some (.int k)) {c0 : Value} (h : DataW.trod enc P W base spare held fuel t [c0] = some x) : ∃ v, c0 = .int k v ∧ (Lit.int k v).wf = true := by
  obtain ⟨n, h1, _, hw⟩ := DataW.trod_int hu h
  exact ⟨n, by simpa using h1, hw⟩
end
theorem fld {H : Type} {enc : TypeId × Value → H} {P : Program} {W : World} {base : Nat} {spare : Nat → Bool} {held : Bool} {fuel : Nat} {cs : List Value} {fs : Array Field} {xs : List (DataW H × List MemPlace)} (hf : ∀ (i : Nat) (f : Field), fs[i]? = some f → DataW.trod enc P W base spare held fuel f.type ((cs.drop f.offset).take (P.cellsOf f.type)) = xs[i]?)
    (i : Nat) {f : Field} (h : fs[i]? = some f) {ty : TypeId} {o n : Nat} (h1 : f.type = ty) (h2 : f.offset = o) (h3 : P.cellsOf ty = n) {seg : List Value} (h4 : (cs.drop o).take n = seg) {y : DataW H × List MemPlace} (h5 : xs[i]? = some y) : DataW.trod enc P W base spare held fuel ty seg = some y := by
  subst h1 h2 h3 h4
  rw [hf i f h, h5]
/-- What the numbers of a state that is handed in are. -/
structure WfSt (t : St) : Prop where
  at_ : I64 t.at_
  R : ∀ x ∈ t.R, U32 x
  back : ∀ x ∈ t.back, I64 x
  wr : I64 t.wr
  byt : ∀ x ∈ t.byt, U8 x
  inp : ∀ x ∈ t.inp, U8 x
  out : ∀ x ∈ t.out, U8 x
  code : U32 t.code
  flt : I64 t.flt
  nb : t.byt.length ≤ 140737488351232
  nk : t.back.length * 8 ≤ 140737488351232
theorem rds_trod {H : Type} {enc : TypeId × Value → H} {P : Program} {W : World} {base : Nat} {spare : Nat → Bool} {held : Bool} {v : Value} {d : DataW H} {ps : List MemPlace} {ts : List TypeId} {ds : List (DataW H)} {j : Nat} {t e : TypeId} {k : IntKind} {B : Nat} (hu : P.underlying t = some (.slice e)) (he : P.underlying e = some (.int k)) (hc : P.cellsOf e = 1) (hB : P.bytesOf e = B)
    (hsz : (DataW.weightsEach P ts ds).all (· ≤ reachBytes) = true) (ht : ts[j]? = some t) (hd : ds[j]? = some d) (hr : DataW.Trod enc P W base spare held t v d ps) : ∃ A n c l, v.cells.toList = [.slice A n c] ∧ RdS k W A n c l ∧ (∀ v ∈ l, (Lit.int k v).wf = true) ∧ n * B ≤ 140737488351232 := by
  obtain ⟨fuel, hf⟩ := hr
  exact sl_open hu he hc hB hf (fun n hn => of_decide_eq_true (List.all_eq_true.1 hsz n (DataW.weights_mem_each ht hd n hn)))
end Go.Proofs.Ytcagccodmmcnfaa.Cpu
end
