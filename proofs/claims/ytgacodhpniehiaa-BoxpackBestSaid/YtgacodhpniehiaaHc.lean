import Derived.Test.YtgacodhpniehiaaXAx5
import Derived.Test.YtgacodhpniehiaaXAx12
import Derived.Test.YtgacodhpniehiaaHc3
import Derived.Laws.EntriesVeiled
namespace Go.Proofs.Ytgacodhpniehiaa.XA
open Go.RowKit Opens Flat YtgacodhpniehiaaW.PrintWords YtgacodhpniehiaaW.PrintLast YtgacodhpniehiaaW.PrintMore
attribute [local go_sem] max2_int min2_int max_two min_two max_three min_three max_four min_four cell_some cell_same
set_option linter.unusedVariables false
set_option linter.unusedSimpArgs false

theorem goesV_ {P : Program} {ops : Array Oper} {Q : Exit → Act → World → Prop} {oi : Oper} {N : Option Tmp} {a : Act} {w : World} {K : Act → World → Prop} {f : FuncId} {fn : Func} {c : Operand} {as_ : Array Operand} {ts : Array TypeId}
    (hf : P.funcs[f]? = some fn) (hname : (fn.name == "runtime.NumGoroutine") = false) (hb : fn.body.isSome = true) (cap : Array Value) (args : Array Value)
    (hw : Region.wanted oi (yielded ops a.tmps) = true) (hN : oi.dst = N) (hop : oi.op = .call { callee := .value c, args := as_, argTypes := ts }) (hc : a.eval c = .func (.func f) #[] cap) (hargs : as_.map a.eval ++ cap = args)
    (h : Calls P f args w fun e w' => ∃ v, e = .returned v ∧ K (a.put N v) w') : if Region.wanted oi (yielded ops a.tmps) = true then Oper.wp P oi a w K Q else K (a.put N undef) w := by
  refine call_ f args hw hN ?_ h
  have he := enters_ hf hname hb args w
  unfold execOp
  simp [hop, resolve, Deferred.ofValue, invoke, Act.eval] at hc hargs ⊢
  simp [hc, hargs, he, resolve, Deferred.ofValue, invoke]
def boxpack_Best.f (k : Nat) (a0_0 : Int) (a0_1 : Int) (a0_2 : Int) (a0_3 : Int) (l0_4 : List (S56)) : Option (Int × List S61 × Int) := (boxpack_Check.f k a0_0 a0_1 a0_2 a0_3 l0_4).bind fun e => if e = 0 then ((boxpack_Problem_table.f k a0_0 a0_1 a0_2 a0_3 l0_4).bind fun tb => (putF a0_0 a0_1 a0_3 l0_4 tb 80 [] ⟨0, 0, 0⟩ ⟨a0_0, a0_1, a0_2⟩).bind fun L => if L.length > 1024 then some (0, [], 7) else if 0 ≤ wrap64 ((tb.length : Int) - 1) ∧ wrap64 ((tb.length : Int) - 1) < (tb.length : Int) then some (rd tb (wrap64 ((tb.length : Int) - 1)), L, 0) else none) else some (0, [], e)
theorem boxpack_Best.mono : ∀ a0 a1 a2 a3 a4 k, LeO (boxpack_Best.f k a0 a1 a2 a3 a4) (boxpack_Best.f (k + 1) a0 a1 a2 a3 a4) := by
  intro a0 a1 a2 a3 a4 k
  unfold boxpack_Best.f
  refine LeO.bind (boxpack_Check.mono _ _ _ _ _ _) (fun e => LeO.ite (LeO.bind (boxpack_Problem_table.mono _ _ _ _ _ _) (fun _ => LeO.refl _)) (LeO.refl _))
def boxpack_Best.T11 : Bool × List (List Nat × List Nat) := (true, [([], []), ([], []), ([1], [1]), ([2], [2]), ([0, 3], [0, 3]), ([4], [4]), ([], []), ([5, 0, 1, 2, 3, 4, 5], [5]), ([6, 7, 0, 1, 2, 3, 4, 5, 6, 7], [6]), ([8, 0, 1, 2, 3, 4, 5, 6, 7, 8], [])])
def boxpack_Best.B11 : List Nat := [0, 0, 2, 6, 15, 31, 0, 63, 255, 511]
theorem boxpack_Best.tab11 : rtab .any (opsOf Try.f16 11) = boxpack_Best.T11 := by kernel_rfl
theorem boxpack_Best.bits11 : waitsOk boxpack_Best.T11.2 boxpack_Best.B11 = true := by kernel_rfl
set_option maxHeartbeats 8000000 in
set_option maxRecDepth 100000 in
theorem boxpack_Best.calls (k : Nat) (a0_0 : Int) (a0_1 : Int) (a0_2 : Int) (a0_3 : Int) (A0_4 : Option Addr) (c0_4 : Nat) (l0_4 : List (S56)) (r1 : Int) (r2 : List S61) (r3 : Int) (w : World) (hr0_4 : Kd.C k56 w A0_4 l0_4.length l0_4) (hc0_4 : l0_4.length ≤ c0_4) (h : boxpack_Best.f k a0_0 a0_1 a0_2 a0_3 l0_4 = some (r1, r2, r3)) :
    Calls Try.prog 16 #[.agg #[.int .i64 a0_0, .int .i64 a0_1, .int .i64 a0_2, .int .i64 a0_3, .slice A0_4 l0_4.length c0_4]] w fun e w' => ∃ v0_ : Value, e = .returned (.tuple #[.int .i64 r1, v0_, .int .i64 r3]) ∧ Kd.R k61 61 w' w.heap.size (fun _ => True) v0_ r2 ∧ Below w.heap.size w w' := by
  have hu33 := Try.underlying33
  have hu40 := Try.underlying40
  have hu27 := Try.underlying27
  have hu2 := Try.underlying2
  have hu64 := Try.underlying64
  have hu23 := Try.underlying23
  have HR0_4 := ak hr0_4
  have HC0_4 := ak hc0_4
  clear hr0_4 hc0_4
  have HB := ak (Below.refl w.heap.size w)
  rw [boxpack_Best.f] at h
  obtain ⟨t192, A20, h⟩ := Option.bind_eq_some_iff.1 h
  have A2 := ak A20
  clear A20
  by_cases c3 : t192 = 0
  · rw [if_pos c3] at h
    obtain ⟨t193, A40, h⟩ := Option.bind_eq_some_iff.1 h
    obtain ⟨L, hP, h⟩ := Option.bind_eq_some_iff.1 h
    have A4 := ak A40
    clear A40
    have c3b0 := beq_iff_eq.mpr c3
    have c3b1 := bne_eq_false_iff_eq.mpr c3
    clear c3
    (go_enter Try.func16, Try.ntmps16); (try go_wp2_with (first | ((with_reducible refine gate_dst (N := 1) rfl ?_); refine bx_ 1 #[.int .i64 a0_0, .int .i64 a0_1, .int .i64 a0_2, .int .i64 a0_3, .slice A0_4 l0_4.length c0_4] 33 ?_; intro gb191 hg w29 hbox hb; have BK191 := ak (hbox); have GW191 := gw_ HB hg; have GE191 := gw_ HB hg; replace HB := hs_ HB hb; clear hb hbox hg; obtain ⟨hcz30_0, hcz30_1, hcz30_2, hcz30_3, hcz30_4, hfz30_0, hfz30_1, hfz30_2, hfz30_3, hfz30_4⟩ := cz5_ BK191) | ((with_reducible refine gate_callee (f := 14) rfl ?_); refine gl_ 10 Try.func14 #[.agg #[.int .i64 a0_0, .int .i64 a0_1, .int .i64 a0_2, .int .i64 a0_3, .slice A0_4 l0_4.length c0_4]] ?_; (with_reducible refine (boxpack_Check.calls k a0_0 a0_1 a0_2 a0_3 _ _ l0_4 t192 _ ?side1 ?side2 A2.1).mono ?_); (case side1 => exact (Kd.C_below HR0_4.1 HB.1)); (case side2 => exact HC0_4.1); rintro e w31 ⟨rfl, hb⟩; refine ⟨_, rfl, ?_⟩; replace BK191 := bb_ BK191 hb; replace HB := hs_ HB hb; (try clear hb); obtain ⟨hcz32_0, hcz32_1, hcz32_2, hcz32_3, hcz32_4, hfz32_0, hfz32_1, hfz32_2, hfz32_3, hfz32_4⟩ := cz5_ BK191) | ((with_reducible refine gate_callee (f := 45) rfl ?_); refine gl_ 15 Try.func45 #[.agg #[.int .i64 a0_0, .int .i64 a0_1, .int .i64 a0_2, .int .i64 a0_3, .slice A0_4 l0_4.length c0_4]] ?_; (with_reducible refine (boxpack_Problem_table.calls k a0_0 a0_1 a0_2 a0_3 _ _ l0_4 t193 _ ?side1 ?side2 A4.1).mono ?_); (case side1 => exact (Kd.C_below HR0_4.1 HB.1)); (case side2 => exact HC0_4.1); rintro e w33 ⟨v194, rfl, ho0, hb⟩; refine ⟨_, rfl, ?_⟩; have HO195 := ak (Kd.R_lower ho0 (below_size (hb_ HB))); have HOT := HO195; replace BK191 := bb_ BK191 hb; replace HB := hs_ HB hb; have HBT := HB; have HB2 := ak (Below.refl w33.heap.size w33); (try clear hb); (try clear ho0)) | ((with_reducible refine gate_dst (N := 6) rfl ?_); refine bx_ 6 #[.slice none 0 0] 40 ?_; intro gb196 hg w34 hbox hb; replace HO195 := rb_ HO195 hb; have BK196 := ak (hbox); have GW196 := gw_ HB hg; have GE196 := gw_ HB hg; have GF196 := gw_ HB2 hg; replace HB := hs_ HB hb; replace HB2 := hs_ HB2 hb; have NB191_196 := nl_ BK191 hg; have NB196_191 := nr_ BK191 hg; replace BK191 := bb_ BK191 hb; clear hb hbox hg; obtain ⟨Ao35, co35, eo35⟩ := Kd.R_slice HO195.1; subst eo35; have hnb36 := NB196_191.1; have hnc36 := NB191_196.1; obtain ⟨hcz37_0, hfz37_0⟩ := cz1_ BK196) | ((with_reducible refine gate_dst (N := 7) rfl ?_); refine bx_ 7 #[.slice none 0 0] 27 ?_; intro gb197 hg w38 hbox hb; replace HO195 := ak (Kd.R_below (by exact (Kd.R_mono (Kd.R_far (p := ⟨gb196, 0, none⟩) (Kd.R_types HO195.1 BK196.1 (by decide)) (fun _ hk => hk.2) (.slice Ao35 t193.length co35)) (fun _ h_ => h_.1))) hb); have BK197 := ak (hbox); have GW197 := gw_ HB hg; have GE197 := gw_ HB hg; have GF197 := gw_ HB2 hg; replace HB := hs_ HB hb; replace HB2 := hs_ HB2 hb; have NB191_197 := ak ((by rw [hg]; exact Nat.ne_of_lt (blk_lt (g := gb191) (o := .cells #[.int .i64 a0_0, .int .i64 a0_1, .int .i64 a0_2, .int .i64 a0_3, .slice A0_4 l0_4.length c0_4] 33 (0, 0)) (by refine blk_far ?_ NB191_196.1 _; exact BK191.1)) : gb191 ≠ gb197)); have NB197_191 := ak ((by rw [hg]; exact Nat.ne_of_gt (blk_lt (g := gb191) (o := .cells #[.int .i64 a0_0, .int .i64 a0_1, .int .i64 a0_2, .int .i64 a0_3, .slice A0_4 l0_4.length c0_4] 33 (0, 0)) (by refine blk_far ?_ NB191_196.1 _; exact BK191.1)) : gb197 ≠ gb191)); replace BK191 := ak (blk_below (g := gb191) (o := .cells #[.int .i64 a0_0, .int .i64 a0_1, .int .i64 a0_2, .int .i64 a0_3, .slice A0_4 l0_4.length c0_4] 33 (0, 0)) (by refine blk_far ?_ NB191_196.1 _; exact BK191.1) hb); have NB196_197 := ak ((by rw [hg]; exact Nat.ne_of_lt (blk_lt (g := gb196) (o := .cells #[.slice Ao35 t193.length co35] 40 (0, 0)) (by refine blk_put (cs := #[.slice none 0 0]) ?_ 0 _ rfl; exact BK196.1)) : gb196 ≠ gb197)); have NB197_196 := ak ((by rw [hg]; exact Nat.ne_of_gt (blk_lt (g := gb196) (o := .cells #[.slice Ao35 t193.length co35] 40 (0, 0)) (by refine blk_put (cs := #[.slice none 0 0]) ?_ 0 _ rfl; exact BK196.1)) : gb197 ≠ gb196)); replace BK196 := ak (blk_below (g := gb196) (o := .cells #[.slice Ao35 t193.length co35] 40 (0, 0)) (by refine blk_put (cs := #[.slice none 0 0]) ?_ 0 _ rfl; exact BK196.1) hb); clear hb hbox hg) | ((with_reducible refine gate_dst (N := 8) rfl ?_); refine bx_ 8 #[.nilFunc] 80 ?_; intro gb198 hg w39 hbox hb; replace HO195 := ak (Kd.R_below (Kd.R_elderB (rk_ HO195) gb198 (Nat.le_of_eq hg.symm)) hb); have BK198 := ak (hbox); have GW198 := gw_ HB hg; have GE198 := gw_ HB hg; have GF198 := gw_ HB2 hg; replace HB := hs_ HB hb; replace HB2 := hs_ HB2 hb; have NB191_198 := nl_ BK191 hg; have NB198_191 := nr_ BK191 hg; replace BK191 := bb_ BK191 hb; have NB196_198 := nl_ BK196 hg; have NB198_196 := nr_ BK196 hg; replace BK196 := bb_ BK196 hb; have NB197_198 := nl_ BK197 hg; have NB198_197 := nr_ BK197 hg; replace BK197 := bb_ BK197 hb; obtain ⟨hcz8_0, hfz8_0⟩ := cz1_ BK198; clear hb hbox hg)))
    have n191_ := ak (bf1_ (i0 := 0) (u0 := .func (.func 46) #[] #[.pointer (some ⟨gb196, 0, none⟩), .pointer (some ⟨gb191, 0, none⟩), .pointer (some ⟨gb197, 0, none⟩), .pointer (some ⟨gb198, 0, none⟩)]) BK191 NB191_198)
    have n196_ := ak (bf1_ (i0 := 0) (u0 := .func (.func 46) #[] #[.pointer (some ⟨gb196, 0, none⟩), .pointer (some ⟨gb191, 0, none⟩), .pointer (some ⟨gb197, 0, none⟩), .pointer (some ⟨gb198, 0, none⟩)]) BK196 NB196_198)
    have n197_ := ak (bf1_ (i0 := 0) (u0 := .func (.func 46) #[] #[.pointer (some ⟨gb196, 0, none⟩), .pointer (some ⟨gb191, 0, none⟩), .pointer (some ⟨gb197, 0, none⟩), .pointer (some ⟨gb198, 0, none⟩)]) BK197 NB197_198)
    have n198_ : Aside0 ((w39.setCell ⟨gb198, 0, none⟩ (.func (.func 46) #[] #[.pointer (some ⟨gb196, 0, none⟩), .pointer (some ⟨gb191, 0, none⟩), .pointer (some ⟨gb197, 0, none⟩), .pointer (some ⟨gb198, 0, none⟩)])).heap[gb198]? = some (.cells #[.func (.func 46) #[] #[.pointer (some ⟨gb196, 0, none⟩), .pointer (some ⟨gb191, 0, none⟩), .pointer (some ⟨gb197, 0, none⟩), .pointer (some ⟨gb198, 0, none⟩)]] 80 (0, 0))) := ⟨blk_put (cs := #[.nilFunc]) BK198.1 0 _ rfl⟩
    have n2_ : Aside0 (Below w33.heap.size w33 (w39.setCell ⟨gb198, 0, none⟩ (.func (.func 46) #[] #[.pointer (some ⟨gb196, 0, none⟩), .pointer (some ⟨gb191, 0, none⟩), .pointer (some ⟨gb197, 0, none⟩), .pointer (some ⟨gb198, 0, none⟩)]))) := ⟨hb_ HB2⟩
    clear BK191 BK196 BK197 BK198 HB HB2 HO195
    generalize (w39.setCell ⟨gb198, 0, none⟩ (.func (.func 46) #[] #[.pointer (some ⟨gb196, 0, none⟩), .pointer (some ⟨gb191, 0, none⟩), .pointer (some ⟨gb197, 0, none⟩), .pointer (some ⟨gb198, 0, none⟩)])) = w40 at n191_ n196_ n197_ n198_ n2_ ⊢
    have rI_ := Kd.C_below HR0_4.1 HBT.1
    have rT_ := Kd.R_reads' HOT.1
    have BK191 := ak (blk_drew n191_.1)
    have BK196 := ak (blk_drew n196_.1)
    have BK197 := ak (blk_drew n197_.1)
    have BK198 := ak (blk_drew n198_.1)
    have HB := ak (below_drew1 n2_.1)
    clear n191_ n196_ n197_ n198_ n2_
    (refine start_ (n := 6) (S := (fun w' => w'.cell? ⟨gb191, 0, none⟩ = some (.int .i64 a0_0) ∧ w'.cell? ⟨gb191, 1, none⟩ = some (.int .i64 a0_1) ∧ w'.cell? ⟨gb191, 2, none⟩ = some (.int .i64 a0_2) ∧ w'.cell? ⟨gb191, 3, none⟩ = some (.int .i64 a0_3) ∧ w'.cell? ⟨gb191, 4, none⟩ = some (.slice A0_4 l0_4.length c0_4) ∧ w'.cell? ⟨gb198, 0, none⟩ = some (.func (.func 46) #[] #[.pointer (some ⟨gb196, 0, none⟩), .pointer (some ⟨gb191, 0, none⟩), .pointer (some ⟨gb197, 0, none⟩), .pointer (some ⟨gb198, 0, none⟩)]))) (ds := []) (bm 6 0) (by kernel_rfl) rfl rfl ⟨bc_ BK191 0, bc_ BK191 1, bc_ BK191 2, bc_ BK191 3, bc_ BK191 4, bc_ BK198 0⟩ (fun hHeld => ?_))
    generalize w40.drew = w1 at BK191 BK196 BK197 BK198 HB hHeld ⊢
    have hc : PCtx w33 w1 gb196 gb191 gb197 gb198 Ao35 co35 t193 a0_0 a0_1 a0_2 a0_3 A0_4 c0_4 l0_4 := ⟨HB.1, rT_.2.2, rT_.2.1, rI_, HC0_4.1, GF197.1, BK196.1, BK191.1, BK198.1, ⟨_, BK197.1⟩⟩
    have hi1 : PInv w1 gb197 [] w1 := ⟨rfl, rfl, rfl, Nat.le_refl _, fun _ _ _ => rfl, none, 0, BK197.1, Kd.R_nil _ _ _ _ _⟩
    have b191_ := BK191; have b196_ := BK196; have b198_ := BK198
    refine tq_ 0 17 (bm 6 1) hHeld ?_
    refine pq_ 1 18 (bm 6 3) ?_
    refine pq_ 2 19 (bm 6 7) ?_
    refine tq_ 3 20 (bm 6 15) hHeld ?_
    (refine one_ (i := 4) (N := some 21) (bm 6 31) rfl rfl (by kernel_rfl) (by decide) (fun K hK => ?_)); (refine goes_ Try.func29 (by kernel_rfl) rfl #[.agg #[.int .i64 a0_0, .int .i64 a0_1, .int .i64 a0_2]] (by rfl) rfl rfl am_ ?_)
    (with_reducible refine (boxpack_sides.calls a0_0 a0_1 a0_2 a0_0 a0_1 a0_2 _ rfl).mono ?_); rintro e w41 ⟨rfl, hb⟩; refine ⟨_, rfl, ?_⟩
    have hi41 := hi1.keep hc hb
    clear BK191 BK196 BK197 BK198 HB
    have BK191 := ak (hi41.get hc b191_.1 (by decide))
    have BK196 := ak (hi41.get hc b196_.1 (by decide))
    have BK198 := ak (hi41.get hc b198_.1 (by decide))
    (refine hK.out _ _ ⟨bc_ BK191 0, bc_ BK191 1, bc_ BK191 2, bc_ BK191 3, bc_ BK191 4, bc_ BK198 0⟩ (fun hHeld => ?_)); clear hK K hHeld; refine nv_ ?_
    (refine one_ (i := 5) (N := some 22) (bm 6 63) rfl rfl (by kernel_rfl) (by decide) (fun K hK => ?_)); (refine goesV_ Try.func46 (by kernel_rfl) rfl #[.pointer (some ⟨gb196, 0, none⟩), .pointer (some ⟨gb191, 0, none⟩), .pointer (some ⟨gb197, 0, none⟩), .pointer (some ⟨gb198, 0, none⟩)] #[.agg #[.int .i64 0, .int .i64 0, .int .i64 0], .agg #[.int .i64 a0_0, .int .i64 a0_1, .int .i64 a0_2], .pointer (some ⟨gb196, 0, none⟩), .pointer (some ⟨gb191, 0, none⟩), .pointer (some ⟨gb197, 0, none⟩), .pointer (some ⟨gb198, 0, none⟩)] (by rfl) rfl rfl rfl (by ((try simp only [List.map_toArray, List.map_cons, List.map_nil]); rfl)) ?_)
    have hq1 := put_all hc 80 [] ⟨0, 0, 0⟩ ⟨a0_0, a0_1, a0_2⟩ L hP w41 hi41
    refine hq1.mono ?_
    clear hq1
    rintro e w42 ⟨rfl, hi42, ow42⟩; (refine ⟨_, rfl, ?_⟩)
    clear BK191 BK196 BK198 hi1 hi41 hb
    have BK191 := ak (hi42.get hc b191_.1 (by decide))
    have BK196 := ak (hi42.get hc b196_.1 (by decide))
    have BK198 := ak (hi42.get hc b198_.1 (by decide))
    (refine hK.out _ _ ⟨bc_ BK191 0, bc_ BK191 1, bc_ BK191 2, bc_ BK191 3, bc_ BK191 4, bc_ BK198 0⟩ (fun hHeld => ?_)); clear hK K hHeld; refine nv_ ?_; (refine done_ (by kernel_rfl) ?_)
    have HB : Aside0 (Below w.heap.size w w42) := hs_ HBT (hi42.below0 hc)
    obtain ⟨A42, c42, bL42, rL42⟩ := hi42.pl
    replace rL42 := Kd.R_lower rL42 (Nat.le_trans (below_size HBT.1) (below_size hc.b01))
    have BK197 := ak bL42
    have HRT := ak (Kd.C_below hc.rT (hi42.below0 hc))
    clear bL42
    obtain ⟨hcz46_0, hfz46_0⟩ := cz1_ BK197
    by_cases c7 : L.length > 1024
    · rw [if_pos c7] at h
      simp only [Option.some.injEq, Prod.mk.injEq] at h
      obtain ⟨rfl, rfl, rfl⟩ := h
      have c9b0 : decide ((L.length : Int) > 1024) = true := decide_eq_true (by omega)
      have c9b1 : decide (1024 < L.length) = true := decide_eq_true (by omega)
      clear c7
      (try go_wp2)
      (go_ret3)
      exact ⟨_, rfl, Kd.R_nil _ _ _ _ _, hb_ HB⟩
    rw [if_neg c7] at h
    have c9b0 : decide ((L.length : Int) > 1024) = false := decide_eq_false (by omega)
    have c9b1 : decide (1024 < L.length) = false := decide_eq_false (by omega)
    clear c7
    obtain ⟨ji26, hji26⟩ : ∃ j_ : Int, j_ = wrap64 ((t193.length : Int) - 1) := ⟨_, rfl⟩
    rw [← hji26] at h
    by_cases c27 : 0 ≤ ji26 ∧ ji26 < (t193.length : Int)
    · rw [if_pos c27] at h
      simp only [Option.some.injEq, Prod.mk.injEq] at h
      obtain ⟨rfl, rfl, rfl⟩ := h
      obtain ⟨p202, q202⟩ := c27
      (try go_wp2)
      obtain ⟨ad202, e202, hx202_0⟩ := Kd.at_int HRT.1 ji26 p202 q202
      cases e202
      replace hx202_0 := (below_drew1 (Below.refl w42.heap.size w42)).cell (World.block_lt_of_cell? _ _ hx202_0) |>.trans hx202_0
      replace BK196 := ak (blk_drew BK196.1)
      replace BK197 := ak (blk_drew BK197.1)
      replace HB := ak (below_drew1 HB.1)
      replace rL42 := Kd.R_drew rL42
      replace p202 := eq_true p202
      replace q202 := eq_true q202
      replace hji26 := hji26.symm
      (refine start_ (n := 10) (S := fun w' => w'.cell? ⟨gb196, 0, none⟩ = some (.slice (some ad202) t193.length co35) ∧ w'.cell? ⟨gb197, 0, none⟩ = some (.slice A42 L.length c42) ∧ w'.cell? (ad202.add ji26.toNat) = some (.int .i64 (rd t193 ji26))) (ds := []) (bm 10 0) (by kernel_rfl) rfl rfl ⟨bc_ BK196 0, bc_ BK197 0, hx202_0⟩ (fun hHeld => ?_); refine with_tabW boxpack_Best.tab11 boxpack_Best.bits11 (fun HT_ HW_ => ?_))
      generalize w42.drew = w47 at BK196 BK197 HB rL42 hx202_0 hHeld ⊢
      refine tv_ 0 HT_ HW_ hHeld ?_; refine tv_ 1 HT_ HW_ hHeld ?_; refine pv_ 2 HT_ ?_; refine pv_ 3 HT_ ?_; refine pv_ 4 HT_ ?_; refine tv_ 5 HT_ HW_ hHeld ?_; refine pv_ 7 HT_ ?_; refine tv_ 6 HT_ HW_ hHeld ?_; refine pv_ 8 HT_ ?_; refine pv_ 9 HT_ ?_; (refine done_ (done_of HT_.1 (by kernel_rfl)) ?_)
      (try go_wp2)
      (go_ret3)
      exact ⟨_, rfl, rL42, hb_ HB⟩
    rw [if_neg c27] at h
    exact absurd h (by simp)
  rw [if_neg c3] at h
  have c3b0 := beq_eq_false_iff_ne.mpr c3
  have c3b1 := bne_iff_ne.mpr c3
  simp only [Option.some.injEq, Prod.mk.injEq] at h
  obtain ⟨rfl, rfl, rfl⟩ := h
  (go_enter Try.func16, Try.ntmps16); (go_wp2_with (first | ((with_reducible refine gate_dst (N := 1) rfl ?_); refine bx_ 1 #[.int .i64 a0_0, .int .i64 a0_1, .int .i64 a0_2, .int .i64 a0_3, .slice A0_4 l0_4.length c0_4] 33 ?_; intro gb191 hg w48 hbox hb; have BK191 := ak (hbox); have GW191 := gw_ HB hg; have GE191 := gw_ HB hg; replace HB := hs_ HB hb; clear hb hbox hg; obtain ⟨hcz49_0, hcz49_1, hcz49_2, hcz49_3, hcz49_4, hfz49_0, hfz49_1, hfz49_2, hfz49_3, hfz49_4⟩ := cz5_ BK191) | ((with_reducible refine gate_callee (f := 14) rfl ?_); refine gl_ 10 Try.func14 #[.agg #[.int .i64 a0_0, .int .i64 a0_1, .int .i64 a0_2, .int .i64 a0_3, .slice A0_4 l0_4.length c0_4]] ?_; (with_reducible refine (boxpack_Check.calls k a0_0 a0_1 a0_2 a0_3 _ _ l0_4 t192 _ ?side1 ?side2 A2.1).mono ?_); (case side1 => exact (Kd.C_below HR0_4.1 HB.1)); (case side2 => exact HC0_4.1); rintro e w50 ⟨rfl, hb⟩; refine ⟨_, rfl, ?_⟩; replace BK191 := bb_ BK191 hb; replace HB := hs_ HB hb; (try clear hb)))); (go_ret3); (exact ⟨_, by rfl, by exact Kd.R_nil _ _ _ _ _, hb_ HB⟩)

end Go.Proofs.Ytgacodhpniehiaa.XA
