/- A region that draws its order, inside a fence that lets every function by (a round's, too): operations that, in every world of a kind S yield one value and leave the world as it is, may be taken first. -/
import Derived.OrdersIn
import Derived.TacticsIn
import Derived.CallsIn
namespace Go
section
variable {F : Fence} {n : Nat} {P : Program} {ops : Array Oper} {Q : Exit → Act → World → Prop} {md : Region.Mode} {E : List Nat} {S : World → Prop}

/-- In every world of S operation o yields v and changes nothing. -/
structure QuietAt (P : Program) (ops : Array Oper) (S : World → Prop) (o : Oper) (v : Value) (a : Act) : Prop where
  want : Region.wanted o (yielded ops a.tmps) = true
  runs : ∀ w, S w → (execOp a.eval o).run P w = .ok (.value v) w

theorem QuietAt.like {o : Oper} {v : Value} {a a' : Act} (h : QuietAt P ops S o v a) (he : execOp a'.eval o = execOp a.eval o) (hw : Region.wanted o (yielded ops a'.tmps) = Region.wanted o (yielded ops a.tmps)) : QuietAt P ops S o v a' :=
  ⟨hw.trans h.want, by rw [he]; exact h.runs⟩

/-- e waits for d, at once or through others. -/
def reaches (md : Region.Mode) (ops : Array Oper) : Nat → Nat → Nat → Bool
  | 0, _, _ => false
  | k + 1, e, d => match ops[e]? with
    | none => false
    | some o => o.after.toList.any fun x => Region.binds md x && (x.on == d || reaches md ops k x.on d)

/-- Whoever has come has come behind those that it waits for. -/
def Down (md : Region.Mode) (ops : Array Oper) (seen : Array Bool) : Prop :=
  ∀ j o, ops[j]? = some o → seen.getD j false = true → ∀ e ∈ o.after, Region.binds md e = true → seen.getD e.on false = true

theorem Down.add {seen : Array Bool} (h : Down md ops seen) {i : Nat} (hi : i ∈ Region.ready md ops seen) : Down md ops (seen.setIfInBounds i true) := fun j o hj hs e he hb => by
  refine getD_set_true ?_
  rcases Classical.em (j = i) with rfl | hji
  · obtain ⟨_, o', ho', hall⟩ := mem_ready.1 hi
    rw [hj] at ho'
    cases ho'
    exact hall e he hb
  · rw [getD_set_ne false (Ne.symm hji)] at hs
    exact h j o hj hs e he hb

theorem Down.has {seen : Array Bool} (h : Down md ops seen) : ∀ (k e d : Nat), reaches md ops k e d = true → (∀ o, ops[e]? = some o → ∀ x ∈ o.after, Region.binds md x = true → seen.getD x.on false = true) → seen.getD d false = true
  | 0, _, _, hr, _ => by cases hr
  | k + 1, e, d, hr, ha => by
    unfold reaches at hr
    cases ho : ops[e]? with
    | none => rw [ho] at hr; cases hr
    | some o =>
      rw [ho] at hr
      simp only [List.any_eq_true, Array.mem_toList_iff, Bool.and_eq_true, Bool.or_eq_true, beq_iff_eq] at hr
      obtain ⟨x, hx, hb, hd | hd⟩ := hr
      · subst hd; exact ha o ho x hx hb
      · exact Down.has h k x.on d hd (fun o' ho' y hy hyb => h x.on o' ho' (ha o ho x hx hb) y hy hyb)

theorem Down.none : Down md ops (Array.replicate ops.size false) := fun j o _ hs => by
  simp [Array.getElem?_replicate] at hs
  split at hs <;> simp_all

/-- All orders; the world is of S till one of E has come. -/
def wpCalm (F : Fence) (n : Nat) (P : Program) (md : Region.Mode) (ops : Array Oper) (Q : Exit → Act → World → Prop) (E : List Nat) (S : World → Prop) : Nat → Array Bool → Act → World → Prop
  | 0, seen, a, w => Region.ready md ops seen = [] ∧ Q .normal a w
  | k + 1, seen, a, w => (Region.ready md ops seen = [] → Q .normal a w) ∧ ∀ i ∈ Region.ready md ops seen,
      wpOpIn F n P ops Q i (fun a' w' => (i ∈ E ∨ S w') ∧ wpCalm F n P md ops Q E S k (seen.setIfInBounds i true) a' w') a w

theorem wpAnyIn_of_calm : ∀ (k : Nat) (seen : Array Bool) (a : Act) (w : World), wpCalm F n P md ops Q E S k seen a w → wpAnyIn F n P md ops Q k seen a w
  | 0, _, _, _, h => h
  | k + 1, _, _, _, h => ⟨h.1, fun i hi => wpOpIn_mono (fun a' w' h' => wpAnyIn_of_calm k _ a' w' h'.2) (h.2 i hi)⟩

theorem QuietAt.op {i : Nat} {o : Oper} {v : Value} {a : Act} (hF : ∀ f, F.fn f) (hnd : ∀ c, o.op ≠ .defer c) (hi : ops[i]? = some o) (h : QuietAt P ops S o v a) {K : Act → World → Prop} {w : World} (hS : S w) (hK : K (a.put o.dst v) w) : wpOpIn F n P ops Q i K a w := by
  unfold wpOpIn
  simp only [hi, h.want, if_true]
  unfold Oper.wpIn
  refine ⟨fun f _ => hF f, ?_⟩
  rw [Oper.semAt_eq F.round _ o hnd, h.runs w hS]
  exact hK

/-- What comes ahead of a quiet operation, apart from it, may as well come behind it. -/
theorem wpOpIn_later {j : Nat} {oi oj : Oper} {v : Value} (hF : ∀ f, F.fn f) (hnd : ∀ c, oj.op ≠ .defer c) (hj : ops[j]? = some oj) (hap : oi.apart ops oj = true) (hsi : ∀ cs b, oi.op ≠ .select cs b) (hsj : ∀ cs b, oj.op ≠ .select cs b)
    (hQ : ∀ c a w, Q (.panic c) (a.put oi.dst v) w → Q (.panic c) a w) {K : Act → World → Prop} {a : Act} {w : World} (hy : QuietAt P ops S oi v a) (h : wpOpIn F n P ops Q j K (a.put oi.dst v) w) :
    wpOpIn F n P ops Q j (fun a' w' => QuietAt P ops S oi v a' ∧ K (a'.put oi.dst v) w') a w := by
  obtain ⟨p1, p2, p3⟩ := Oper.apart_spec hap
  have next : ∀ {w' : World} (b : Act) (u : Value), QuietAt P ops S oi v b → K ((b.put oi.dst v).put oj.dst u) w' → QuietAt P ops S oi v (b.put oj.dst u) ∧ K ((b.put oj.dst u).put oi.dst v) w' := fun b u hb hk =>
    ⟨hb.like (execOp_put oi hsi b oj.dst u p3) (wanted_put oi b oj.dst u p3), by rw [← Act.put_comm b v u p2]; exact hk⟩
  unfold wpOpIn at h ⊢
  simp only [hj] at h ⊢
  rw [wanted_put oj a oi.dst v p1] at h
  by_cases hw : Region.wanted oj (yielded ops a.tmps) = true
  · rw [if_pos hw] at h ⊢
    refine ⟨fun f _ => hF f, ?_⟩
    have h' := h.2
    rw [Oper.semAt_eq F.round _ oj hnd, execOp_put oj hsj a oi.dst v p1] at h'
    rw [Oper.semAt_eq F.round _ oj hnd]
    generalize (execOp a.eval oj).run P w = r at h'
    match r, h' with
    | .ok (.value u) w', h' => exact next a u hy h'
    | .ok .skip w', h' => exact next a undef hy h'
    | .ok (.defer d) w', h' =>
      refine next { a with defers := d :: a.defers } undef (hy.like rfl rfl) ?_
      rw [← Act.put_defers]
      exact h'
    | .ok (.enter f args) w', h' =>
      refine ⟨h'.1, h'.2.mono fun e w'' he => ?_⟩
      cases e with
      | returned u => exact next a u hy he
      | panicked c => exact hQ _ _ _ he
      | outgrown => exact he
    | .ok (.row row args) w', h' => exact ⟨h'.1, h'.2.mono fun u w'' he => next a u hy he⟩
    | .ok (.round l f tmps assign body) w', h' =>
      refine ⟨h'.1, h'.2.mono fun e w'' he => ?_⟩
      cases e with
      | returned u => exact next a u hy he
      | panicked c => exact hQ _ _ _ he
      | outgrown => exact he
    | .halt (.panic u) w', h' => exact hQ _ _ _ h'
  · rw [if_neg hw] at h ⊢
    exact ⟨fun f _ => hF f, next a undef hy h.2⟩

theorem wpCalm_first {i m : Nat} {oi : Oper} {v : Value} (hF : ∀ f, F.fn f) (hnd : ∀ (j : Nat) (o : Oper) c, ops[j]? = some o → o.op ≠ .defer c) (hi : ops[i]? = some oi) (hsel : ∀ (j : Nat) (o : Oper) cs b, ops[j]? = some o → o.op ≠ .select cs b) (hE : ∀ e ∈ E, reaches md ops m e i = true)
    (hQ : ∀ c a w, Q (.panic c) (a.put oi.dst v) w → Q (.panic c) a w) (k : Nat) : ∀ (seen : Array Bool) (a : Act) (w : World), Down md ops seen →
      (∀ j oj, ops[j]? = some oj → j ≠ i → seen.getD j true = false → (∀ e ∈ oj.after, Region.binds md e = true → e.on ≠ i) → oi.apart ops oj = true) →
      i ∈ Region.ready md ops seen → QuietAt P ops S oi v a → S w →
      wpCalm F n P md ops Q E S k (seen.setIfInBounds i true) (a.put oi.dst v) w → wpCalm F n P md ops Q E S (k + 1) seen a w := by
  induction k with
  | zero =>
    intro seen a w hdn hfree hr hy hS0 H
    refine ⟨fun h0 => absurd hr (by rw [h0]; exact List.not_mem_nil), fun j hj => ?_⟩
    rcases Classical.em (j = i) with rfl | hji
    · exact hy.op hF (fun c => hnd _ _ c hi) hi hS0 ⟨.inr hS0, H⟩
    · have hm := ready_mono hj hji
      rw [H.1] at hm
      exact absurd hm List.not_mem_nil
  | succ k ih =>
    intro seen a w hdn hfree hr hy hS0 H
    refine ⟨fun h0 => absurd hr (by rw [h0]; exact List.not_mem_nil), fun j hj => ?_⟩
    rcases Classical.em (j = i) with rfl | hji
    · exact hy.op hF (fun c => hnd _ _ c hi) hi hS0 ⟨.inr hS0, H⟩
    · obtain ⟨hjun, oj, hoj, hall⟩ := mem_ready.1 hj
      have hin : seen.getD i true = false := (mem_ready.1 hr).1
      have hin' : ¬ seen.getD i false = true := fun h1 => by
        rcases Nat.lt_or_ge i seen.size with hl | hl
        · simp [hl] at hin h1; rw [hin] at h1; cases h1
        · simp [Array.getElem?_eq_none hl] at h1
      have hnot : ∀ e ∈ oj.after, Region.binds md e = true → e.on ≠ i := fun e he hb heq => hin' (by rw [← heq]; exact hall e he hb)
      refine wpOpIn_mono (fun a' w' h3 => ?_) (wpOpIn_later hF (fun c => hnd _ _ c hoj) hoj (hfree j oj hoj hji hjun hnot) (fun cs b => hsel i oi cs b hi) (fun cs b => hsel j oj cs b hoj) hQ hy (H.2 j (ready_mono hj hji)))
      obtain ⟨hy', hS, h4⟩ := h3
      have hw' : S w' := hS.resolve_left fun hd => hin' (hdn.has m j i (hE j hd) (fun o ho x hx hb => by rw [hoj] at ho; cases ho; exact hall x hx hb))
      refine ⟨.inr hw', ih (seen.setIfInBounds j true) a' w' (hdn.add hj) (fun l ol hl hli hun hno => hfree l ol hl hli ?_ hno) (ready_mono hr (Ne.symm hji)) hy' hw' (by rw [Array.setIfInBounds_comm _ _ hji]; exact h4)⟩
      by_cases hjl : j = l
      · subst hjl; exact hjun
      · rw [getD_set_ne true hjl] at hun; exact hun

/-- No operation of the region is a defer statement. -/
def noDefer (ops : Array Oper) : Bool := ops.toList.all fun o => match o.op with | .defer _ => false | _ => true
theorem noDefer_spec (h : noDefer ops = true) (j : Nat) (o : Oper) (c : Call) (ho : ops[j]? = some o) : o.op ≠ .defer c := fun e => by
  have := List.all_eq_true.1 h o (Array.mem_toList_iff.2 (Array.mem_of_getElem? ho))
  rw [e] at this
  cases this

/-- Take number i first. -/
theorem wpCalm_take (i : Nat) (m : Nat) {oi : Oper} {v : Value} {k : Nat} {seen : Array Bool} {a : Act} {w : World} (hF : ∀ f, F.fn f) (hi : ops[i]? = some oi) (hc : (Region.noSelect ops && noDefer ops && Region.free md ops seen i && (Region.ready md ops seen).contains i && E.all fun e => reaches md ops m e i) = true)
    (hdn : Down md ops seen) (hQ : ∀ c a w, Q (.panic c) (a.put oi.dst v) w → Q (.panic c) a w) (hS : S w) (hy : QuietAt P ops S oi v a)
    (h : Down md ops (seen.setIfInBounds i true) → wpCalm F n P md ops Q E S k (seen.setIfInBounds i true) (a.put oi.dst v) w) : wpCalm F n P md ops Q E S (k + 1) seen a w := by
  simp only [Bool.and_eq_true] at hc
  obtain ⟨⟨⟨⟨h1, h2⟩, h3⟩, h4⟩, h5⟩ := hc
  have hr : i ∈ Region.ready md ops seen := by simpa using h4
  exact wpCalm_first hF (noDefer_spec h2) hi (Region.noSelect_spec h1) (fun e he => List.all_eq_true.1 h5 e he) hQ k seen a w hdn (Region.free_spec hi h3) hr hy hS (h (hdn.add hr))

/-- What is left: one that may come up, one of E. -/
theorem wpCalm_late (i : Nat) {o : Oper} {k : Nat} {seen : Array Bool} {a : Act} {w : World} (ho : ops[i]? = some o) (hc : Region.ready md ops seen = [i]) (hE : E.contains i = true)
    (h : ∀ K : Act → World → Prop, (∀ a' w', wpCalm F n P md ops Q E S k (seen.setIfInBounds i true) a' w' → K a' w') → if Region.wanted o (yielded ops a.tmps) = true then Oper.wpIn F n P o a w K Q else (∀ f, o.about P w a.eval = some f → F.fn f) ∧ K (a.put o.dst undef) w) : wpCalm F n P md ops Q E S (k + 1) seen a w := by
  refine ⟨fun h0 => (by rw [hc] at h0; cases h0), fun j hj => ?_⟩
  rw [hc] at hj
  obtain rfl : j = i := by simpa using hj
  have := h _ (fun _ _ h => h)
  refine wpOpIn_mono (K := fun a' w' => wpCalm F n P md ops Q E S k (seen.setIfInBounds j true) a' w') (fun a' w' h' => ⟨.inl (by simpa using hE), h'⟩) ?_
  unfold wpOpIn
  rw [ho]
  exact this

/-- What is left begins with one that is not of E: the world behind it is of S. -/
theorem wpCalm_next (i : Nat) {o : Oper} {k : Nat} {seen : Array Bool} {a : Act} {w : World} (ho : ops[i]? = some o) (hc : Region.ready md ops seen = [i])
    (h : ∀ K : Act → World → Prop, (∀ a' w', S w' → wpCalm F n P md ops Q E S k (seen.setIfInBounds i true) a' w' → K a' w') → if Region.wanted o (yielded ops a.tmps) = true then Oper.wpIn F n P o a w K Q else (∀ f, o.about P w a.eval = some f → F.fn f) ∧ K (a.put o.dst undef) w) : wpCalm F n P md ops Q E S (k + 1) seen a w := by
  refine ⟨fun h0 => (by rw [hc] at h0; cases h0), fun j hj => ?_⟩
  rw [hc] at hj
  obtain rfl : j = i := by simpa using hj
  have := h (fun a' w' => S w' ∧ wpCalm F n P md ops Q E S k (seen.setIfInBounds j true) a' w') (fun _ _ hS h => ⟨hS, h⟩)
  refine wpOpIn_mono (K := fun a' w' => S w' ∧ wpCalm F n P md ops Q E S k (seen.setIfInBounds j true) a' w') (fun a' w' h' => ⟨.inr h'.1, h'.2⟩) ?_
  unfold wpOpIn
  rw [ho]
  exact this

theorem wpCalm_done {k : Nat} {seen : Array Bool} {a : Act} {w : World} (hr : Region.ready md ops seen = []) (h : Q .normal a w) : wpCalm F n P md ops Q E S k seen a w := by
  cases k with
  | zero => exact ⟨hr, h⟩
  | succ k => exact ⟨fun _ => h, fun i hi => by rw [hr] at hi; cases hi⟩

/-- The beginning. -/
theorem wpIn_region_calm (E : List Nat) (S : World → Prop) {id : Nat} {a : Act} {w : World} (hm : P.follows .mixedOrders = true)
    (h : Down .any ops (Array.replicate ops.size false) → wpCalm F n P .any ops Q E S ops.size (Array.replicate ops.size false) a w.drew) : (Code.region id ops true).wpIn F n P Q a w :=
  wpIn_region_any hm (wpAnyIn_of_calm _ _ _ _ (h Down.none))
end
end Go
