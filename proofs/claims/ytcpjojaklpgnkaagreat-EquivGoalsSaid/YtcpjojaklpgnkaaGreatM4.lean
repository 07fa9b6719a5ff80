/- Part 4 of 12: Vg41, Vg32, Vg33, Fq, N1, N3, N4. -/
import Derived.Test.YtcpjojaklpgnkaaGreatM3
import Derived.Test.YtcpjojaklpgnkaaGreatM2
/- Functions whose results lie in cells, and that ranges over functions have left marks in. -/
set_option linter.unusedVariables false
set_option linter.unusedSimpArgs false
namespace Go.Proofs.Vg
open Go Go.RowKit
theorem Chg.trans' {S T : Nat → Prop} {a b c : World} (h : Chg S a b) (k : Chg T b c) : Chg (fun i => S i ∨ T i) a c := (h.mono fun _ _ h => .inl h).trans (k.mono fun _ _ h => .inr h)
section
variable {P : Program} {N : Nat} {K : Env} {ds : List Deferred} {w : World} {a : Act}
def shutW (w : World) (rs : List Nat) : World := rs.foldl (fun w r => w.putObj r (.deferred none)) w
theorem shutW_chg : ∀ (rs : List Nat) (w : World), Chg (fun k => k ∈ rs) w (shutW w rs) ∧ (shutW w rs).heap.size = w.heap.size
  | [], w => ⟨Chg.refl _ _, rfl⟩
  | r :: rs, w => by
    obtain ⟨h1, h2⟩ := shutW_chg rs (w.putObj r (.deferred none))
    have h0 : Chg (fun k => k ∈ r :: rs) w (w.putObj r (.deferred none)) := ⟨rfl, rfl, rfl, by simp, fun k _ hk => World.putObj_heap_other (fun e => hk (by simp [e]))⟩
    exact ⟨h0.trans (h1.mono fun k _ hk => List.mem_cons_of_mem _ hk), by simp only [shutW, List.foldl_cons] at h2 ⊢; rw [h2]; simp⟩
/-- A function's end: results in slots or cells; marks; panics. -/
def finX (P : Program) (xs : List ResultVar) (R : Ending → World → Prop) : Post
  | .normal, K, ds, w | .ret, K, ds, w => ∃ rs : List Nat, ds = rs.map markOf ∧ rs.Nodup ∧ (∀ r ∈ rs, w.heap[r]? = some (.deferred (some []))) ∧ retC P K (shutW w rs) (fun v => R (.returned v) (shutW w rs)) xs
  | .panic ch, K, ds, w => ∃ rs : List Nat, ds = rs.map markOf ∧ rs.Nodup ∧ (∀ r ∈ rs, w.heap[r]? = some (.deferred (some []))) ∧ R (.panicked ch) (shutW w rs)
  | _, _, _, _ => False
theorem leaves_marks {fn : Func} {tmps : Array Value} {R : Ending → World → Prop} {u : FrameMode} (hu : u ≠ .run) : ∀ (rs : List Nat) (w : World), rs.Nodup → (∀ r ∈ rs, w.heap[r]? = some (.deferred (some []))) →
    LeavesInM Fence.wide 0 P fn tmps R [] u (shutW w rs) → LeavesInM Fence.wide 0 P fn tmps R (rs.map markOf) u w
  | [], w, _, _, h => h
  | r :: rs, w, hn, hr, h => by
    refine ⟨hu, .inl ⟨r, _, rfl, run_takeDeferred (hr r List.mem_cons_self), ?_⟩⟩
    refine leaves_marks hu rs _ (List.nodup_cons.1 hn).2 (fun r' hr' => ?_) h
    have hne : r' ≠ r := fun e => (List.nodup_cons.1 hn).1 (by rw [← e]; exact hr')
    exact (World.putObj_heap_other hne).trans (hr r' (List.mem_cons_of_mem _ hr'))
theorem calls_of_okX {f : FuncId} {fn : Func} {c : Code} {args : List Value} {R : Ending → World → Prop} (hf : P.funcs[f]? = some fn) (hb : fn.body = some c) (hn : fn.ntmps = args.length + (fn.ntmps - args.length))
    (h : ok P none fn.ntmps c (argEnv 0 args) [] w (finX P fn.results.toList R)) : Calls P f args.toArray w R := by
  refine (callsIn_wide (n := 0)).1 (callsIn_of_wp_marks hf hb trivial (c := c) ?_)
  have hk := Kn.enter args (fn.ntmps - args.length)
  rw [← hn] at hk
  have hw := h _ hk
  refine wpIn_mono (F := fence none) hw ?_
  rintro e a' w' ⟨K, ds, hk, hp⟩
  cases e <;> simp only [finX] at hp <;> simp only [bodyPostM]
  all_goals first | exact hp.elim | skip
  · obtain ⟨rs, rfl, h1, h2, h3⟩ := hp
    rw [hk.defers]
    obtain ⟨v, hv, hr⟩ := retC_run hk h3
    exact leaves_marks (by simp) rs w' h1 h2 ⟨v, hv, hr⟩
  · obtain ⟨rs, rfl, h1, h2, h3⟩ := hp
    rw [hk.defers]
    obtain ⟨v, hv, hr⟩ := retC_run hk h3
    exact leaves_marks (by simp) rs w' h1 h2 ⟨v, hv, hr⟩
  · obtain ⟨rs, rfl, h1, h2, h3⟩ := hp
    rw [hk.defers]
    exact leaves_marks (by simp) rs w' h1 h2 h3
theorem finX_ret1 {xs : List ResultVar} {R : Ending → World → Prop} {n : Nat} (hd : w.heap[n]? = some (.deferred (some []))) (h : ∀ w', Chg (fun k => k = n) w w' → w'.heap.size = w.heap.size → retC P K w' (fun v => R (.returned v) w') xs) : finX P xs R .ret K [markOf n] w := by
  obtain ⟨h1, h2⟩ := shutW_chg [n] w
  exact ⟨[n], rfl, by simp, by simpa using hd, h _ (h1.mono fun k _ hk => by simpa using hk) h2⟩
theorem finX_ret0 {xs : List ResultVar} {R : Ending → World → Prop} (h : retC P K w (fun v => R (.returned v) w) xs) : finX P xs R .ret K [] w := ⟨[], rfl, List.nodup_nil, by simp, h⟩
/-- It returns, or panics. -/
def RetsP (P : Program) (f : FuncId) (args : List Value) (w : World) (R : Value → World → Prop) (E : List PanicEntry → World → Prop) : Prop := Calls P f args.toArray w (callR R E)
theorem rets_of_okX {f : FuncId} {fn : Func} {c : Code} {args : List Value} {R : Value → World → Prop} {E : List PanicEntry → World → Prop} (hf : P.funcs[f]? = some fn) (hb : fn.body = some c) (hn : fn.ntmps = args.length + (fn.ntmps - args.length))
    (h : ok P none fn.ntmps c (argEnv 0 args) [] w (finX P fn.results.toList (callR R E))) : RetsP P f args w R E := calls_of_okX hf hb hn h
theorem retsP_of_okC {f : FuncId} {fn : Func} {c : Code} {args : List Value} {R : Value → World → Prop} {E : List PanicEntry → World → Prop} (hf : P.funcs[f]? = some fn) (hb : fn.body = some c) (hn : fn.ntmps = args.length + (fn.ntmps - args.length))
    (h : ok P none fn.ntmps c (argEnv 0 args) [] w (finC P fn.results.toList (callR R E))) : RetsP P f args w R E := calls_of_okC hf hb hn h
theorem retsP_of_ok {f : FuncId} {fn : Func} {c : Code} {args : List Value} {R : Value → World → Prop} {E : List PanicEntry → World → Prop} (hf : P.funcs[f]? = some fn) (hb : fn.body = some c) (hn : fn.ntmps = args.length + (fn.ntmps - args.length))
    (h : ok P none fn.ntmps c (argEnv 0 args) [] w (fin fn.results.toList (callR R E))) : RetsP P f args w R E := calls_of_ok hf hb hn h
theorem RetsP.rets {f : FuncId} {args : List Value} {R : Value → World → Prop} (h : RetsP P f args w R fun _ _ => False) : Rets P f args w R := h
theorem Inv.callP {f : FuncId} {args : List Value} {R next : Value → World → Prop} {E pan : List PanicEntry → World → Prop} (hen : ∀ (xs : Array Value) (w : World), (callFunc f xs).run P w = .ok (.enter f xs) w) (h : RetsP P f args w R E) (hn : ∀ v w', R v w' → next v w') (hp : ∀ ch w', E ch w' → pan ch w') :
    Inv P (.func (.func f) #[] #[]) args w (callR next pan) := by
  refine .inl ⟨f, #[], #[], rfl, hen, ?_⟩
  have : (#[] ++ args.toArray ++ #[] : Array Value) = args.toArray := by simp
  rw [this]
  refine Calls.mono h fun e w' he => ?_
  cases e <;> simp only [callR] at he ⊢
  · exact hn _ _ he
  · exact hp _ _ he
theorem Inv.mono {fv : Value} {args : List Value} {R R' : Ending → World → Prop} (h : Inv P fv args w R) (hr : ∀ e w', R e w' → R' e w') : Inv P fv args w R' := by
  rcases h with ⟨f, first, cap, h1, h2, h3⟩ | ⟨l, first, cap, fn, tmps, assign, body, h1, h2, h3⟩
  · exact .inl ⟨f, first, cap, h1, h2, Calls.mono h3 hr⟩
  · exact .inr ⟨l, first, cap, fn, tmps, assign, body, h1, h2, RoundIn.mono h3 hr⟩
theorem Inv.mono' {fv : Value} {args : List Value} {R R' : Value → World → Prop} {E E' : List PanicEntry → World → Prop} (h : Inv P fv args w (callR R E)) (hr : ∀ v w', R v w' → R' v w') (he : ∀ c w', E c w' → E' c w') : Inv P fv args w (callR R' E') :=
  h.mono fun e w' h' => by cases e <;> simp only [callR] at h' ⊢; exact hr _ _ h'; exact he _ _ h'
/-- xs[lo:hi], of data. -/
theorem run_sliceD {S : Nat → Prop} {t e sz by_ b n c : Nat} {z : Option Value} {A : Option Addr} {rows : List (List D)} (ht : P.underlying t = some (.slice e)) (hz : zinfo P e = some (z, sz, by_)) (h : Rd w S [.slice A n c] [.sl b rows]) (hw : ∀ r ∈ rows, r.length = sz) (lo hi : Option Nat) (k k' : IntKind) (hhi : hi.getD n ≤ n) (hlo : lo.getD 0 ≤ hi.getD n) :
    ∃ A' c', (∀ w', (Instr.sliceAt t (.slice A n c) (lo.map fun (x : Nat) => .int k (x : Int)) (hi.map fun (x : Nat) => .int k' (x : Int)) none).run P w' = .ok (.slice A' (hi.getD n - lo.getD 0) c') w') ∧
      ∀ w' S', Rd w' S' [.slice A n c] [.sl b rows] → Rd w' S' [.slice A' (hi.getD n - lo.getD 0) c'] [.sl b ((rows.take (hi.getD n)).drop (lo.getD 0))] := by
  obtain ⟨A0, c0, h1, h2, h3, h4⟩ := h.hd
  injection h1 with _ hn hc
  refine ⟨_, _, fun w' => run_sliceAt ht hz A n c lo hi k k' (by omega) hlo w', fun w' S' h' => ?_⟩
  have hwt : ∀ r ∈ rows.take (hi.getD n), r.length = sz := fun r hr => hw r (List.mem_of_mem_take hr)
  split
  · rename_i hcl
    have h5 : hi.getD n - lo.getD 0 = 0 := by omega
    rw [h5, List.drop_eq_nil_of_le (by simp; omega)]
    exact Rd.empty
  · exact (h'.take hhi).drop hwt hlo
/-- A closure, as a method's value too. -/
theorem Inv.closP {f : FuncId} {args cap : List Value} {R next : Value → World → Prop} {E pan : List PanicEntry → World → Prop} (hen : ∀ (xs : Array Value) (w : World), (callFunc f xs).run P w = .ok (.enter f xs) w) (h : RetsP P f (args ++ cap) w R E) (hn : ∀ v w', R v w' → next v w') (hp : ∀ ch w', E ch w' → pan ch w') :
    Inv P (.func (.func f) #[] cap.toArray) args w (callR next pan) := by
  refine .inl ⟨f, #[], cap.toArray, rfl, hen, ?_⟩
  have : (#[] ++ args.toArray ++ cap.toArray : Array Value) = (args ++ cap).toArray := by simp
  rw [this]
  refine Calls.mono h fun e w' he => ?_
  cases e <;> simp only [callR] at he ⊢
  · exact hn _ _ he
  · exact hp _ _ he
end
theorem wh {i n : Nat} {A B : Prop} (ha : i < n → A) (hb : ¬ i < n → B) : (some (Value.bool (decide ((i : Int) < (n : Int)))) = some (Value.bool true) ∧ i < n ∧ A) ∨ (some (Value.bool (decide ((i : Int) < (n : Int)))) = some (Value.bool false) ∧ B) := by
  by_cases h : i < n
  · exact .inl ⟨by simp [h], h, ha h⟩
  · exact .inr ⟨by simp; omega, hb h⟩
section
variable {P : Program} {ρ : Option Nat} {N : Nat} {K : Env} {ds : List Deferred} {w : World} {Φ : Post}
/-- 'for i := 0; ..; i++': i in slot si; what is asked at its head in slot sc. -/
theorem ok_while {id id2 r2 sc si sa sb ty1 ty2 ty3 : Nat} {p1 p2 p3 : String} {a1 a2 a3 : Array Edge} {head body : Code} (n : Nat) (K0 : Env) (I J : Nat → World → Prop)
    (hK : (K0.all fun q => q.1 != si && q.1 != sa && q.1 != sb) = true) (hs : (si != sa && si != sb && sa != sb && decide (sa < N) && decide (sb < N) && decide (si < N)) = true)
    (hsub : sub ((si, .int .i64 0) :: K0) K) (hn : n ≤ 140737488355328) (h0 : I 0 w)
    (hhead : ∀ i W, i ≤ n → I i W → ok P ρ N head ((si, .int .i64 (i : Int)) :: K0) ds W (thenN (fun K' ds' W' => ds' = ds ∧ sub ((si, .int .i64 (i : Int)) :: K0) K' ∧ ((K'.get sc = some (.bool true) ∧ i < n ∧ J i W') ∨ (K'.get sc = some (.bool false) ∧ Φ .normal K' ds W'))) (fun _ _ _ _ => False)))
    (hbody : ∀ i W, i < n → J i W → ok P ρ N body ((si, .int .i64 (i : Int)) :: K0) ds W
      (inBlockN id2 (thenN (fun K' ds' W' => ds' = ds ∧ sub ((si, .int .i64 (i : Int)) :: K0) K' ∧ I (i + 1) W') (inBlockN id Φ)))) :
    ok P ρ N (.block id (.loop (.seq (.seq head (.cond (.tmp sc) .skip (.exit id))) (.seq (.block id2 body) (.region r2 #[{ dst := some sa, op := .move (.tmp si), type := ty1, pos := p1, after := a1, guard := none },
        { dst := some sb, op := .binOp .add 3 (.tmp sa) (.const (.int .i64 1)) 3, type := ty2, pos := p2, after := a2, guard := none }, { dst := some si, op := .assign (.tmp sb), type := ty3, pos := p3, after := a3, guard := none }] false))))) K ds w Φ := by
  simp only [Bool.and_eq_true, bne_iff_ne, ne_eq, decide_eq_true_eq] at hs
  obtain ⟨⟨⟨⟨⟨h1, h2⟩, h3⟩, h4⟩, h5⟩, h6⟩ := hs
  have hKa : ∀ q ∈ K0, (¬ q.1 = si ∧ ¬ q.1 = sa) ∧ ¬ q.1 = sb := fun q hq => by simpa using List.all_eq_true.1 hK q hq
  have hK1 : (K0.all fun q => q.1 != si) = true := List.all_eq_true.2 fun q hq => by simpa using (hKa q hq).1.1
  have hK2 : (K0.all fun q => q.1 != sa) = true := List.all_eq_true.2 fun q hq => by simpa using (hKa q hq).1.2
  have hK3 : (K0.all fun q => q.1 != sb) = true := List.all_eq_true.2 fun q hq => by simpa using (hKa q hq).2
  refine ok_block (ok_loop (fun i : Nat => (si, .int .i64 (i : Int)) :: K0) (fun i W => i ≤ n ∧ I i W) (fun i => n - i) 0 hsub ⟨Nat.zero_le _, h0⟩ ?_)
  rintro i W ⟨hi, hI⟩
  refine ok_seq (fun M hM => ok_seq (fun M2 hM2 => ok_mono (hhead i W hi hI) ?_))
  intro e K' ds' W' hp
  cases e <;> simp only [thenN] at hp ⊢
  rcases hp with ⟨rfl, hs', ⟨hb, hlt, hJ⟩ | ⟨hb, hF⟩⟩
  · refine hM2 _ _ _ (ok_cond (b := true) hb (fun _ => ok_skip ?_) (fun h => by cases h))
    refine hM _ _ _ ?_
    refine ok_seq (fun M3 hM3 => ok_block (ok_mono (ok_less _ hs' (hbody i W' hlt hJ)) ?_))
    have key : ∀ (K' : Env) (ds'' : List Deferred) (W' : World), ds'' = ds' ∧ sub ((si, .int .i64 (i : Int)) :: K0) K' ∧ I (i + 1) W' → M3 K' ds'' W' := by
      rintro K' ds'' W' ⟨rfl, hs', hI'⟩
      have g4 : K'.get si = some (.int .i64 (i : Int)) := hs'.1
      refine hM3 _ _ _ (ok_region (ops := [_, _, _]) (by simp [dstsOk, h4, h5, h6]) ?_)
      have hin : inI .i64 ((i : Int) + 1) := by simp only [inI]; omega
      simp only [wpL, opF, ev, g4, binV, putE, true_and, hin, Env.get, if_true, thenN]
      exact ⟨i + 1, ⟨by simp [Env.get], sub_cons hK1 (sub_cons hK3 (sub_cons hK2 hs'.2))⟩, ⟨hlt, hI'⟩, by omega⟩
    intro e K' ds'' W' hp
    cases e with
    | normal => exact key K' ds'' W' hp
    | exit j =>
      simp only [inBlockN, thenN] at hp ⊢
      split at hp
      · rename_i hj; subst hj; rw [if_pos rfl]; exact key K' ds'' W' hp
      · rename_i hj; rw [if_neg hj]; exact hp
    | goto l => exact hp
    | ret => exact hp
    | panic ch => exact hp
    | outgrown => exact hp
  · refine hM2 _ _ _ (ok_cond (b := false) hb (fun h => by cases h) (fun _ => ok_exit ?_))
    simp only [thenN, inBlockN, if_true]
    exact hF
end
end Go.Proofs.Vg
/- Short names, for short texts. -/
set_option linter.unusedVariables false
set_option linter.defProp false
namespace Go.Proofs.Vg
open Go Go.RowKit
def zL := @wpL_step
def zH := @wpH_step
def zE := @wpE_step
def zl := @wpL_end
def zh := @wpH_end
def ze := @wpE_end
def zA := @wpLW_step
def zB := @wpHW_step
def za := @wpLW_end
def zb := @wpHW_end
def z2 := @ofX2
def z3 := @ofX3
end Go.Proofs.Vg
/- The equations of the calculus in one: for short texts. -/
set_option linter.unusedVariables false
set_option linter.defProp false
namespace Go.Proofs.Vg
open Go Go.RowKit
def zU := And.intro @oweC.eq_1 (And.intro @oweC.eq_2 (And.intro @oweP.eq_1 (And.intro @oweP.eq_2 (And.intro @opF.eq_1 (And.intro @opF.eq_2 (And.intro @opF.eq_3 (And.intro @opF.eq_4 (And.intro @opF.eq_5 (And.intro @opF.eq_6 (And.intro @opF.eq_7 (And.intro @opF.eq_8 (And.intro @opF.eq_9 (And.intro @opF.eq_10 (And.intro @opF.eq_11 (And.intro @opF.eq_12 (And.intro @opF.eq_13 (And.intro @opF.eq_14 (And.intro @opF.eq_15 (And.intro @opF.eq_16 (And.intro @opF.eq_17 (And.intro @opF.eq_18 (And.intro @opF.eq_19 (And.intro @opF.eq_20 (And.intro @opF.eq_21 (And.intro @opF.eq_22 (And.intro @opF.eq_23 (And.intro @opF.eq_24 (And.intro @opF.eq_25 (And.intro @opF.eq_26 (And.intro @opF.eq_27 (And.intro @opF.eq_28 (And.intro @opF.eq_29 (And.intro @opF.eq_30 (And.intro @opF.eq_31 (And.intro @opF.eq_32 (And.intro @opH.eq_1 (And.intro @opH.eq_2 (And.intro @opH.eq_3 (And.intro @opH.eq_4 (And.intro @opH.eq_5 (And.intro @opH.eq_6 (And.intro @opH.eq_7 (And.intro @opH.eq_8 (And.intro @opH.eq_9 (And.intro @opH.eq_10 (And.intro @opH.eq_11 (And.intro @opH.eq_12 (And.intro @opH.eq_13 (And.intro @opH.eq_14 (And.intro @opH.eq_15 (And.intro @opH.eq_16 (And.intro @ev.eq_1 (And.intro @ev.eq_2 (And.intro @ev.eq_3 (And.intro @ev.eq_4 (And.intro @evs.eq_1 (And.intro @evs.eq_2 (And.intro @evp.eq_1 (And.intro @evp.eq_2 (And.intro @evo.eq_1 (And.intro @evo.eq_2 (And.intro @Env.get.eq_1 (And.intro @Env.get.eq_2 (And.intro @Env.set.eq_1 (And.intro @Env.set.eq_2 (And.intro @putE.eq_1 (And.intro @putE.eq_2 (And.intro @gdst.eq_1 (And.intro @thenN.eq_1 (And.intro @thenN.eq_2 (And.intro @inBlockN.eq_1 (And.intro @inBlockN.eq_2 (And.intro @argEnv.eq_1 (And.intro @argEnv.eq_2 (And.intro @builtinR.eq_1 (And.intro @builtinR.eq_2 (And.intro @retE.eq_1 (And.intro @retE.eq_2 (And.intro @retE.eq_3 (And.intro @retE.eq_4 (And.intro @fin.eq_1 (And.intro @fin.eq_2 (And.intro @fin.eq_3 (And.intro @finC.eq_1 (And.intro @finC.eq_2 (And.intro @finC.eq_3 (And.intro @retC.eq_1 (And.intro @retC.eq_2 (And.intro @oneC.eq_1 (And.intro @oneC.eq_2 (And.intro @callR.eq_1 (And.intro @callR.eq_2 (And.intro @callR.eq_3 (And.intro @opHW.eq_1 (And.intro @opHW.eq_2 (And.intro @opHW.eq_3 (And.intro @opFW.eq_1 (And.intro @opFW.eq_2 (And.intro @opFW.eq_3 (And.intro S0 (And.intro S1 (And.intro @forall_const.{1} (@forall_const.{0})))))))))))))))))))))))))))))))))))))))))))))))))))))))))))))))))))))))))))))))))))))))))))))))))))))))
def zW := And.intro @wpL.eq_1 (And.intro @wpL.eq_2 (And.intro @wpH.eq_1 (And.intro @wpH.eq_2 (And.intro @wpE.eq_1 (@wpE.eq_2)))))
theorem gX {α : Type} {P : α → Prop} {X Y : α} (hX : X = Y) (h : ∀ X, X = Y → P X) : P X := h X hX
theorem dX {G : Prop} (h : ∀ X : Unit, X = () → G) : G := h () rfl
end Go.Proofs.Vg
set_option linter.defProp false
namespace Go.Proofs.YtcpjojaklpgnkaaGreat
open Go Go.Proofs.Vg
def Q4 := And.intro Tryz.results4 (And.intro Fx.ag29 (And.intro Fx.ag3 (And.intro Fx.ag37 (And.intro Fx.ag39 (And.intro Fx.fo39_6 (And.intro Fx.fo62_0 (And.intro Fx.fo62_1 (And.intro Fx.fo62_2 (And.intro Fx.isl23 (And.intro Fx.isl29 (Fx.un4)))))))))))
def Q5 := And.intro Tryz.results5 (And.intro Fx.ag24 (And.intro Fx.ag29 (And.intro Fx.ag3 (And.intro Fx.ag31 (And.intro Fx.ag34 (And.intro Fx.ag37 (And.intro Fx.ag39 (And.intro Fx.es24 (And.intro Fx.es34 (And.intro Fx.fo27_2 (And.intro Fx.fo31_0 (And.intro Fx.fo37_0 (And.intro Fx.fo37_1 (And.intro Fx.fo37_4 (And.intro Fx.fo37_5 (And.intro Fx.fo37_6 (And.intro Fx.fo39_6 (And.intro Fx.isl24 (Fx.isl34)))))))))))))))))))
def Q7 := And.intro Tryz.results7 (And.intro Fx.ag24 (And.intro Fx.ag31 (And.intro Fx.ag44 (And.intro Fx.fo27_2 (And.intro Fx.fo31_0 (Fx.isl24))))))
def Q13 := And.intro Tryz.results13 (And.intro Fx.ag3 (And.intro Fx.es29 (Fx.isl29)))
def Q14 := And.intro Tryz.results14 (And.intro Fx.ag2 (And.intro Fx.ag29 (And.intro Fx.ag3 (And.intro Fx.ag34 (And.intro Fx.ag35 (And.intro Fx.ag9 (And.intro Fx.fo37_0 (And.intro Fx.fo37_1 (And.intro Fx.fo37_2 (And.intro Fx.fo37_3 (And.intro Fx.fo37_4 (And.intro Fx.fo37_5 (And.intro Fx.fo37_6 (And.intro Fx.fo37_7 (Fx.fo37_8)))))))))))))))
def Q15 := And.intro Tryz.results15 (And.intro Fx.ag29 (And.intro Fx.ag32 (And.intro Fx.ag33 (And.intro Fx.ag37 (And.intro Fx.fo39_2 (And.intro Fx.fo39_3 (And.intro Fx.fo39_4 (And.intro Fx.fo39_6 (And.intro Fx.isl29 (And.intro Fx.isl32 (Fx.isl33)))))))))))
def Q16 := And.intro Tryz.results16 (And.intro Fx.ag3 (And.intro Fx.ag34 (And.intro Fx.ag37 (And.intro Fx.es29 (And.intro Fx.es34 (And.intro Fx.fo37_6 (And.intro Fx.isl29 (Fx.isl34))))))))
def Q17 := And.intro Tryz.results17 (And.intro Fx.ag3 (And.intro Fx.ag34 (And.intro Fx.ag37 (And.intro Fx.es29 (And.intro Fx.es34 (And.intro Fx.fo37_6 (And.intro Fx.isl29 (Fx.isl34))))))))
def Q18 := And.intro Tryz.results18 (And.intro Fx.ag3 (Fx.ag37))
def Q19 := And.intro Tryz.results19 (And.intro Fx.ag34 (And.intro Fx.ag37 (And.intro Fx.es34 (And.intro Fx.fo37_6 (Fx.isl34)))))
def Q20 := And.intro Tryz.results20 (And.intro Fx.ag3 (And.intro Fx.ag34 (And.intro Fx.ag37 (And.intro Fx.ag39 (And.intro Fx.fo37_0 (And.intro Fx.fo37_6 (And.intro Fx.fo39_6 (Fx.isl34))))))))
def Q21 := And.intro Tryz.results21 (And.intro Fx.ag3 (And.intro Fx.ag34 (And.intro Fx.ag37 (And.intro Fx.ag39 (And.intro Fx.es29 (And.intro Fx.es34 (And.intro Fx.fo37_0 (And.intro Fx.fo37_1 (And.intro Fx.fo37_6 (And.intro Fx.fo39_6 (And.intro Fx.isl29 (Fx.isl34))))))))))))
def Q22 := Tryz.results22
def Q26 := And.intro Tryz.results26 (And.intro Fx.ag29 (And.intro Fx.ag3 (And.intro Fx.ag34 (And.intro Fx.ag35 (And.intro Fx.ag77 (And.intro Fx.ag9 (And.intro Fx.fo37_3 (And.intro Fx.fo37_5 (And.intro Fx.fo37_6 (And.intro Fx.fo37_7 (And.intro Fx.isl29 (And.intro Fx.isl35 (Fx.ist9)))))))))))))
def Q27 := And.intro Tryz.results27 (And.intro Fx.ag37 (Fx.fo39_6))
def Q28 := And.intro Tryz.results28 (And.intro Fx.ag3 (Fx.ag37))
def Q29 := And.intro Tryz.results29 (And.intro Fx.ag27 (And.intro Fx.ag28 (And.intro Fx.ag29 (And.intro Fx.ag31 (And.intro Fx.ag37 (And.intro Fx.ag58 (And.intro Fx.es28 (And.intro Fx.fo31_0 (And.intro Fx.fo31_1 (And.intro Fx.fo31_2 (And.intro Fx.fo58_1 (Fx.isl28))))))))))))
def Q30 := And.intro Tryz.results30 (Fx.ag41)
def Q31 := Tryz.results31
def Q32 := And.intro Tryz.results32 (And.intro Fx.ag132 (And.intro Fx.ag24 (And.intro Fx.ag29 (And.intro Fx.ag3 (And.intro Fx.ag32 (And.intro Fx.ag37 (And.intro Fx.ag41 (And.intro Fx.es24 (And.intro Fx.fo134_1 (And.intro Fx.fo27_2 (And.intro Fx.fo31_0 (And.intro Fx.fo39_2 (And.intro Fx.fo39_6 (And.intro Fx.fo41_0 (And.intro Fx.fo41_1 (And.intro Fx.fo41_2 (And.intro Fx.isl24 (Fx.isl32))))))))))))))))))
def Q44 := And.intro Tryz.results44 (And.intro Fx.ag37 (And.intro Fx.es34 (Fx.isl34)))
def Q45 := And.intro Tryz.results45 (And.intro Fx.ag105 (And.intro Fx.es35 (Fx.isl35)))
def Q46 := And.intro Tryz.results46 (And.intro Fx.ag108 (And.intro Fx.es105 (Fx.isl105)))
def Q47 := Tryz.results47
def Q48 := And.intro Tryz.results48 (And.intro Fx.ag9 (And.intro Fx.ag93 (And.intro Fx.fo111_0 (And.intro Fx.fo111_1 (Fx.ist9)))))
def Q49 := And.intro Tryz.results49 (And.intro Fx.ag3 (And.intro Fx.ag77 (And.intro Fx.ag9 (And.intro Fx.ag91 (And.intro Fx.fo93_1 (And.intro Fx.fo93_2 (Fx.ist9)))))))
def Q50 := And.intro Tryz.results50 (And.intro Fx.ag105 (And.intro Fx.ag29 (And.intro Fx.ag34 (And.intro Fx.ag35 (And.intro Fx.ag37 (And.intro Fx.es34 (And.intro Fx.es35 (And.intro Fx.fo37_5 (And.intro Fx.fo37_6 (And.intro Fx.fo37_7 (And.intro Fx.isl34 (Fx.isl35))))))))))))
def Q51 := And.intro Tryz.results51 (And.intro Fx.ag105 (And.intro Fx.ag29 (And.intro Fx.ag34 (And.intro Fx.ag35 (And.intro Fx.ag37 (And.intro Fx.es34 (And.intro Fx.es35 (And.intro Fx.fo37_5 (And.intro Fx.fo37_6 (And.intro Fx.fo37_7 (And.intro Fx.isl34 (Fx.isl35))))))))))))
def Q52 := Tryz.results52
def Q53 := And.intro Tryz.results53 (And.intro Fx.ag29 (And.intro Fx.ag3 (And.intro Fx.fo37_1 (Fx.fo37_5))))
def Q54 := And.intro Tryz.results54 (And.intro Fx.ag29 (And.intro Fx.ag3 (And.intro Fx.es29 (And.intro Fx.fo37_1 (And.intro Fx.fo37_5 (Fx.isl29))))))
def Q55 := And.intro Tryz.results55 (And.intro Fx.ag29 (And.intro Fx.ag3 (And.intro Fx.ag33 (And.intro Fx.es23 (And.intro Fx.es29 (And.intro Fx.es33 (And.intro Fx.fo39_3 (And.intro Fx.fo39_4 (And.intro Fx.fo70_0 (And.intro Fx.fo73_0 (And.intro Fx.isl23 (And.intro Fx.isl29 (Fx.isl33)))))))))))))
def Q56 := And.intro Tryz.results56 (And.intro Fx.ag3 (And.intro Fx.ag34 (And.intro Fx.ag37 (And.intro Fx.es29 (And.intro Fx.es34 (And.intro Fx.fo37_0 (And.intro Fx.fo37_1 (And.intro Fx.fo37_6 (Fx.isl29)))))))))
def Q57 := And.intro Tryz.results57 (And.intro Fx.ag29 (And.intro Fx.ag3 (And.intro Fx.ag33 (And.intro Fx.es23 (And.intro Fx.es29 (And.intro Fx.es33 (And.intro Fx.fo39_3 (And.intro Fx.fo39_4 (And.intro Fx.fo70_0 (And.intro Fx.fo73_0 (And.intro Fx.isl23 (And.intro Fx.isl29 (Fx.isl33)))))))))))))
def Q58 := And.intro Tryz.results58 (And.intro Fx.ag34 (And.intro Fx.ag37 (And.intro Fx.es34 (And.intro Fx.fo37_6 (Fx.isl34)))))
def Q59 := And.intro Tryz.results59 (And.intro Fx.ag39 (And.intro Fx.es24 (Fx.isl24)))
def Q61 := Tryz.results61
def Q62 := And.intro Tryz.results62 (Fx.isl105)
def Q63 := Tryz.results63
def Q64 := And.intro Tryz.results64 (And.intro Fx.ag37 (Fx.ag77))
def Q65 := And.intro Tryz.results65 (And.intro Fx.ag101 (And.intro Fx.ag149 (And.intro Fx.ag153 (And.intro Fx.ag155 (And.intro Fx.ag22 (And.intro Fx.ag23 (And.intro Fx.ag24 (And.intro Fx.ag25 (And.intro Fx.ag27 (And.intro Fx.ag29 (And.intro Fx.ag33 (And.intro Fx.ag39 (And.intro Fx.ag71 (And.intro Fx.ag73 (And.intro Fx.ag89 (And.intro Fx.ag90 (And.intro Fx.ag91 (And.intro Fx.ag93 (And.intro Fx.ag95 (And.intro Fx.ag99 (And.intro Fx.es22 (And.intro Fx.es23 (And.intro Fx.es24 (And.intro Fx.es25 (And.intro Fx.es71 (And.intro Fx.es90 (And.intro Fx.es99 (And.intro Fx.fo101_1 (And.intro Fx.fo101_2 (And.intro Fx.fo101_4 (And.intro Fx.fo149_1 (And.intro Fx.fo149_2 (And.intro Fx.fo153_1 (And.intro Fx.fo155_1 (And.intro Fx.fo27_0 (And.intro Fx.fo27_1 (And.intro Fx.fo27_2 (And.intro Fx.fo27_3 (And.intro Fx.fo73_1 (And.intro Fx.fo73_2 (And.intro Fx.fo95_1 (And.intro Fx.fo95_3 (And.intro Fx.fo95_4 (And.intro Fx.isl22 (And.intro Fx.isl23 (And.intro Fx.isl24 (And.intro Fx.isl25 (And.intro Fx.isl71 (And.intro Fx.isl90 (Fx.isl99))))))))))))))))))))))))))))))))))))))))))))))))))
def Q66 := Tryz.results66
def Q67 := Tryz.results67
def Q70 := And.intro Tryz.results70 (And.intro Fx.ag3 (And.intro Fx.fo134_2 (And.intro Fx.fo41_0 (And.intro Fx.fo41_3 (Fx.fo41_4)))))
def Q71 := And.intro Tryz.results71 (And.intro Fx.ag3 (And.intro Fx.ag34 (And.intro Fx.ag37 (And.intro Fx.es29 (And.intro Fx.es34 (And.intro Fx.fo37_6 (Fx.isl29)))))))
def Q72 := Tryz.results72
def Q97 := And.intro Tryz.results97 (And.intro Fx.ag111 (And.intro Fx.es32 (Fx.isl32)))
def Q98 := Tryz.results98
def Q99 := And.intro Tryz.results99 (And.intro Fx.ag77 (Fx.ag93))
def Q100 := Tryz.results100
def Q101 := Tryz.results101
def Q102 := And.intro Tryz.results102 (Fx.ag37)
def Q103 := And.intro Tryz.results103 (And.intro Fx.ag34 (And.intro Fx.ag37 (And.intro Fx.es34 (And.intro Fx.fo37_6 (Fx.isl34)))))
def Q104 := Tryz.results104
def Q105 := And.intro Tryz.results105 (And.intro Fx.ag3 (Fx.ag37))
def Q106 := And.intro Tryz.results106 (And.intro Fx.ag3 (Fx.ag37))
def Q107 := And.intro Tryz.results107 (And.intro Fx.ag105 (And.intro Fx.es35 (Fx.isl35)))
def Q108 := And.intro Tryz.results108 (And.intro Fx.ag37 (And.intro Fx.es34 (Fx.isl34)))
def Q109 := Tryz.results109
def Q110 := Tryz.results110
def Q111 := Tryz.results111
def Q112 := Tryz.results112
def Q115 := And.intro Tryz.results115 (And.intro Fx.ag91 (And.intro Fx.ag93 (And.intro Fx.es91 (And.intro Fx.fo93_2 (Fx.isl91)))))
def Q117 := Tryz.results117
def Q118 := Tryz.results118
def Q119 := And.intro Tryz.results119 (And.intro Fx.ag111 (And.intro Fx.ag29 (And.intro Fx.ag32 (And.intro Fx.ag33 (And.intro Fx.ag37 (And.intro Fx.ag39 (And.intro Fx.ag93 (And.intro Fx.es32 (And.intro Fx.fo111_1 (And.intro Fx.fo39_2 (And.intro Fx.fo39_3 (And.intro Fx.fo39_4 (And.intro Fx.fo39_6 (Fx.isl32))))))))))))))
def Q122 := And.intro Tryz.results122 (And.intro Fx.ag34 (And.intro Fx.fo37_6 (Fx.isl34)))
def Q123 := Tryz.results123
def Q128 := And.intro Tryz.results128 (And.intro Fx.ag105 (And.intro Fx.ag2 (And.intro Fx.ag29 (And.intro Fx.ag3 (And.intro Fx.ag34 (And.intro Fx.ag35 (And.intro Fx.ag37 (And.intro Fx.es34 (And.intro Fx.es35 (And.intro Fx.fo134_2 (And.intro Fx.fo37_0 (And.intro Fx.fo37_1 (And.intro Fx.fo37_2 (And.intro Fx.fo37_4 (And.intro Fx.fo37_5 (And.intro Fx.fo37_6 (And.intro Fx.fo37_7 (And.intro Fx.fo37_8 (And.intro Fx.fo41_3 (And.intro Fx.fo41_4 (And.intro Fx.isl29 (And.intro Fx.isl34 (Fx.isl35)))))))))))))))))))))))
def Q129 := And.intro Tryz.results129 (And.intro Fx.ag29 (And.intro Fx.ag3 (And.intro Fx.ag34 (And.intro Fx.ag37 (And.intro Fx.es34 (And.intro Fx.fo134_2 (And.intro Fx.fo37_1 (And.intro Fx.fo37_5 (And.intro Fx.fo37_6 (Fx.fo41_3))))))))))
def Q156 := And.intro Tryz.results156 (And.intro Fx.ag93 (And.intro Fx.es91 (Fx.isl91)))
def Q157 := And.intro Tryz.results157 (And.intro Fx.ag3 (And.intro Fx.es29 (Fx.isl29)))
def Q158 := Tryz.results158
def Q159 := Tryz.results159
def Q166 := And.intro Tryz.results166 (And.intro Fx.ag3 (Fx.fo37_0))
def Q174 := And.intro Tryz.results174 (And.intro Fx.ag132 (And.intro Fx.ag29 (And.intro Fx.ag37 (And.intro Fx.es34 (And.intro Fx.fo134_1 (And.intro Fx.fo39_3 (And.intro Fx.fo39_6 (Fx.isl34))))))))
def Q178 := And.intro Tryz.results178 (And.intro Fx.ag129 (And.intro Fx.ag132 (And.intro Fx.ag23 (And.intro Fx.ag29 (And.intro Fx.ag3 (And.intro Fx.ag37 (And.intro Fx.ag39 (And.intro Fx.es29 (And.intro Fx.fo134_0 (And.intro Fx.fo134_1 (And.intro Fx.fo134_2 (And.intro Fx.fo27_1 (And.intro Fx.fo31_0 (And.intro Fx.fo37_4 (And.intro Fx.fo37_5 (And.intro Fx.fo37_8 (And.intro Fx.fo41_2 (And.intro Fx.fo41_4 (Fx.isl29)))))))))))))))))))
def Q179 := And.intro Tryz.results179 (And.intro Fx.ag34 (And.intro Fx.es224 (And.intro Fx.isl224 (Fx.isl34))))
def Q180 := And.intro Tryz.results180 (And.intro Fx.ag3 (And.intro Fx.fo37_0 (Fx.fo37_4)))
def Q181 := And.intro Tryz.results181 (Fx.isl34)
def Q192 := And.intro Tryz.results192 (And.intro Fx.ag3 (Fx.ag37))
def Q194 := And.intro Tryz.results194 (Fx.isl34)
end Go.Proofs.YtcpjojaklpgnkaaGreat
/- Chapter 31: slices.Clone. -/
set_option linter.unusedVariables false
set_option linter.unusedSimpArgs false
namespace Go.Proofs.YtcpjojaklpgnkaaGreat
open Go Go.Proofs.Vg Go.RowKit
-- -- function 66
set_option maxHeartbeats 2000000 in
set_option maxRecDepth 8000 in
theorem clone66 (w : World) (S : Nat → Prop) (v : Value) (rows : List (List D)) (h : Rd w S [v] [.sl 8 rows]) (hz : ∀ r ∈ rows, r.length = 1) :
    Rets Tryz.prog 66 [v] w (fun v' w' => Ext w w' ∧ Own w' S w.heap.size 3 1 v' rows) := by
  obtain ⟨A, c, rfl, hl, hb, hc⟩ := h.hd
  refine rets_of_ok Tryz.func66 rfl rfl ?_
  refine ok_seq (fun M hM => ok_region rfl ?_); repeat ((try subst X); (first | (first | apply zL | apply zH | apply zE); intro X hX | apply zh | apply zl | apply ze); try simp only [zU, reduceIte, Nat.reduceEqDiff, Nat.reduceAdd, reduceCtorEq, Q66])
  refine hM _ _ _ ?_; clear hM M
  refine ok_seq (fun M0 hM0 => ?_)
  refine ok_seq (fun M hM => ok_region rfl ?_)
  repeat ((try subst X); (first | (first | apply zL | apply zH | apply zE); intro X hX | apply zh | apply zl | apply ze); try simp only [zU, reduceIte, Nat.reduceEqDiff, Nat.reduceAdd, reduceCtorEq, Q66])
  refine Runs.slEq Fx.un29 ?_
  cases A with
  | none =>
    obtain rfl := h.nil_of
    repeat ((try subst X); (first | (first | apply zL | apply zH | apply zE); intro X hX | apply zh | apply zl | apply ze); try simp only [zU, reduceIte, Nat.reduceEqDiff, Nat.reduceAdd, reduceCtorEq, Q66])
    refine hM _ _ _ ?_; clear hM M
    refine ok_cond rfl (fun _ => ?_) (fun h => by cases h)
    refine ok_seq (fun M hM => ok_region rfl ?_); repeat ((try subst X); (first | (first | apply zL | apply zH | apply zE); intro X hX | apply zh | apply zl | apply ze); try simp only [zU, reduceIte, Nat.reduceEqDiff, Nat.reduceAdd, reduceCtorEq, Q66])
    refine hM _ _ _ ?_; clear hM M
    refine ok_ret ?_
    try simp only [zW, zU, reduceIte, Nat.reduceEqDiff, Nat.reduceAdd, reduceCtorEq, Q66]
    exact ⟨Ext.refl _, Own.nil (by decide)⟩
  | some a =>
    repeat ((try subst X); (first | (first | apply zL | apply zH | apply zE); intro X hX | apply zh | apply zl | apply ze); try simp only [zU, reduceIte, Nat.reduceEqDiff, Nat.reduceAdd, reduceCtorEq, Q66])
    refine hM _ _ _ ?_; clear hM M
    refine ok_cond rfl (fun h => by cases h) (fun _ => ok_skip ?_)
    refine hM0 _ _ _ ?_; clear hM0 M0
    refine ok_seq (fun M hM => ok_region rfl ?_)
    repeat ((try subst X); (first | (first | apply zL | apply zH | apply zE); intro X hX | apply zh | apply zl | apply ze); try simp only [zU, reduceIte, Nat.reduceEqDiff, Nat.reduceAdd, reduceCtorEq, Q66])
    refine Runs.lit00 Fx.un29 Fx.zi3 (fun w1 he1 hs1 hb1 => ?_)
    repeat ((try subst X); (first | (first | apply zL | apply zH | apply zE); intro X hX | apply zh | apply zl | apply ze); try simp only [zU, reduceIte, Nat.reduceEqDiff, Nat.reduceAdd, reduceCtorEq, Q66])
    refine Runs.appD (S := S) Fx.un29 Fx.zi3 rfl (by decide) (Own.fresh (base := w.heap.size) (by decide) hb1 (Nat.le_refl _)) (((h.mono (S' := fun k => S k ∧ k < w.heap.size) (fun k hk hl => ⟨hk, hl⟩)).ext he1).mono fun k hk _ => ⟨hk.1, fun e => by cases e; exact Nat.lt_irrefl _ hk.2⟩) hz (by simpa using hb) (by omega) (fun v' w2 hown hg hblk => ?_)
    repeat ((try subst X); (first | (first | apply zL | apply zH | apply zE); intro X hX | apply zh | apply zl | apply ze); try simp only [zU, reduceIte, Nat.reduceEqDiff, Nat.reduceAdd, reduceCtorEq, Q66])
    refine hM _ _ _ ?_; clear hM M
    refine ok_ret ?_
    try simp only [zW, zU, reduceIte, Nat.reduceEqDiff, Nat.reduceAdd, reduceCtorEq, Q66]
    exact ⟨he1.chg_trans hg (fun k hk => by simp [Value.ownBlock] at hk; omega), by simpa using hown⟩
-- -- function 67
set_option maxHeartbeats 2000000 in
set_option maxRecDepth 8000 in
theorem clone67 (w : World) (S : Nat → Prop) (v : Value) (rows : List (List D)) (h : Rd w S [v] [.sl 144 rows]) (hz : ∀ r ∈ rows, r.length = 11) :
    Rets Tryz.prog 67 [v] w (fun v' w' => Ext w w' ∧ Own w' S w.heap.size 58 11 v' rows) := by
  obtain ⟨A, c, rfl, hl, hb, hc⟩ := h.hd
  refine rets_of_ok Tryz.func67 rfl rfl ?_
  refine ok_seq (fun M hM => ok_region rfl ?_); repeat ((try subst X); (first | (first | apply zL | apply zH | apply zE); intro X hX | apply zh | apply zl | apply ze); try simp only [zU, reduceIte, Nat.reduceEqDiff, Nat.reduceAdd, reduceCtorEq, Q67])
  refine hM _ _ _ ?_; clear hM M
  refine ok_seq (fun M0 hM0 => ?_)
  refine ok_seq (fun M hM => ok_region rfl ?_)
  repeat ((try subst X); (first | (first | apply zL | apply zH | apply zE); intro X hX | apply zh | apply zl | apply ze); try simp only [zU, reduceIte, Nat.reduceEqDiff, Nat.reduceAdd, reduceCtorEq, Q67])
  refine Runs.slEq Fx.un28 ?_
  cases A with
  | none =>
    obtain rfl := h.nil_of
    repeat ((try subst X); (first | (first | apply zL | apply zH | apply zE); intro X hX | apply zh | apply zl | apply ze); try simp only [zU, reduceIte, Nat.reduceEqDiff, Nat.reduceAdd, reduceCtorEq, Q67])
    refine hM _ _ _ ?_; clear hM M
    refine ok_cond rfl (fun _ => ?_) (fun h => by cases h)
    refine ok_seq (fun M hM => ok_region rfl ?_); repeat ((try subst X); (first | (first | apply zL | apply zH | apply zE); intro X hX | apply zh | apply zl | apply ze); try simp only [zU, reduceIte, Nat.reduceEqDiff, Nat.reduceAdd, reduceCtorEq, Q67])
    refine hM _ _ _ ?_; clear hM M
    refine ok_ret ?_
    try simp only [zW, zU, reduceIte, Nat.reduceEqDiff, Nat.reduceAdd, reduceCtorEq, Q67]
    exact ⟨Ext.refl _, Own.nil (by decide)⟩
  | some a =>
    repeat ((try subst X); (first | (first | apply zL | apply zH | apply zE); intro X hX | apply zh | apply zl | apply ze); try simp only [zU, reduceIte, Nat.reduceEqDiff, Nat.reduceAdd, reduceCtorEq, Q67])
    refine hM _ _ _ ?_; clear hM M
    refine ok_cond rfl (fun h => by cases h) (fun _ => ok_skip ?_)
    refine hM0 _ _ _ ?_; clear hM0 M0
    refine ok_seq (fun M hM => ok_region rfl ?_)
    repeat ((try subst X); (first | (first | apply zL | apply zH | apply zE); intro X hX | apply zh | apply zl | apply ze); try simp only [zU, reduceIte, Nat.reduceEqDiff, Nat.reduceAdd, reduceCtorEq, Q67])
    refine Runs.lit00 Fx.un28 Fx.zi58 (fun w1 he1 hs1 hb1 => ?_)
    repeat ((try subst X); (first | (first | apply zL | apply zH | apply zE); intro X hX | apply zh | apply zl | apply ze); try simp only [zU, reduceIte, Nat.reduceEqDiff, Nat.reduceAdd, reduceCtorEq, Q67])
    refine Runs.appD (S := S) Fx.un28 Fx.zi58 rfl (by decide) (Own.fresh (base := w.heap.size) (by decide) hb1 (Nat.le_refl _)) (((h.mono (S' := fun k => S k ∧ k < w.heap.size) (fun k hk hl => ⟨hk, hl⟩)).ext he1).mono fun k hk _ => ⟨hk.1, fun e => by cases e; exact Nat.lt_irrefl _ hk.2⟩) hz (by simpa using hb) (by omega) (fun v' w2 hown hg hblk => ?_)
    repeat ((try subst X); (first | (first | apply zL | apply zH | apply zE); intro X hX | apply zh | apply zl | apply ze); try simp only [zU, reduceIte, Nat.reduceEqDiff, Nat.reduceAdd, reduceCtorEq, Q67])
    refine hM _ _ _ ?_; clear hM M
    refine ok_ret ?_
    try simp only [zW, zU, reduceIte, Nat.reduceEqDiff, Nat.reduceAdd, reduceCtorEq, Q67]
    exact ⟨he1.chg_trans hg (fun k hk => by simp [Value.ownBlock] at hk; omega), by simpa using hown⟩
-- -- function 100
set_option maxHeartbeats 2000000 in
set_option maxRecDepth 8000 in
theorem clone100 (w : World) (S : Nat → Prop) (v : Value) (rows : List (List D)) (h : Rd w S [v] [.sl 24 rows]) (hz : ∀ r ∈ rows, r.length = 1) :
    Rets Tryz.prog 100 [v] w (fun v' w' => Ext w w' ∧ Own w' S w.heap.size 105 1 v' rows) := by
  obtain ⟨A, c, rfl, hl, hb, hc⟩ := h.hd
  refine rets_of_ok Tryz.func100 rfl rfl ?_
  refine ok_seq (fun M hM => ok_region rfl ?_); repeat ((try subst X); (first | (first | apply zL | apply zH | apply zE); intro X hX | apply zh | apply zl | apply ze); try simp only [zU, reduceIte, Nat.reduceEqDiff, Nat.reduceAdd, reduceCtorEq, Q100])
  refine hM _ _ _ ?_; clear hM M
  refine ok_seq (fun M0 hM0 => ?_)
  refine ok_seq (fun M hM => ok_region rfl ?_)
  repeat ((try subst X); (first | (first | apply zL | apply zH | apply zE); intro X hX | apply zh | apply zl | apply ze); try simp only [zU, reduceIte, Nat.reduceEqDiff, Nat.reduceAdd, reduceCtorEq, Q100])
  refine Runs.slEq Fx.un35 ?_
  cases A with
  | none =>
    obtain rfl := h.nil_of
    repeat ((try subst X); (first | (first | apply zL | apply zH | apply zE); intro X hX | apply zh | apply zl | apply ze); try simp only [zU, reduceIte, Nat.reduceEqDiff, Nat.reduceAdd, reduceCtorEq, Q100])
    refine hM _ _ _ ?_; clear hM M
    refine ok_cond rfl (fun _ => ?_) (fun h => by cases h)
    refine ok_seq (fun M hM => ok_region rfl ?_); repeat ((try subst X); (first | (first | apply zL | apply zH | apply zE); intro X hX | apply zh | apply zl | apply ze); try simp only [zU, reduceIte, Nat.reduceEqDiff, Nat.reduceAdd, reduceCtorEq, Q100])
    refine hM _ _ _ ?_; clear hM M
    refine ok_ret ?_
    try simp only [zW, zU, reduceIte, Nat.reduceEqDiff, Nat.reduceAdd, reduceCtorEq, Q100]
    exact ⟨Ext.refl _, Own.nil (by decide)⟩
  | some a =>
    repeat ((try subst X); (first | (first | apply zL | apply zH | apply zE); intro X hX | apply zh | apply zl | apply ze); try simp only [zU, reduceIte, Nat.reduceEqDiff, Nat.reduceAdd, reduceCtorEq, Q100])
    refine hM _ _ _ ?_; clear hM M
    refine ok_cond rfl (fun h => by cases h) (fun _ => ok_skip ?_)
    refine hM0 _ _ _ ?_; clear hM0 M0
    refine ok_seq (fun M hM => ok_region rfl ?_)
    repeat ((try subst X); (first | (first | apply zL | apply zH | apply zE); intro X hX | apply zh | apply zl | apply ze); try simp only [zU, reduceIte, Nat.reduceEqDiff, Nat.reduceAdd, reduceCtorEq, Q100])
    refine Runs.lit00 Fx.un35 Fx.zi105 (fun w1 he1 hs1 hb1 => ?_)
    repeat ((try subst X); (first | (first | apply zL | apply zH | apply zE); intro X hX | apply zh | apply zl | apply ze); try simp only [zU, reduceIte, Nat.reduceEqDiff, Nat.reduceAdd, reduceCtorEq, Q100])
    refine Runs.appD (S := S) Fx.un35 Fx.zi105 rfl (by decide) (Own.fresh (base := w.heap.size) (by decide) hb1 (Nat.le_refl _)) (((h.mono (S' := fun k => S k ∧ k < w.heap.size) (fun k hk hl => ⟨hk, hl⟩)).ext he1).mono fun k hk _ => ⟨hk.1, fun e => by cases e; exact Nat.lt_irrefl _ hk.2⟩) hz (by simpa using hb) (by omega) (fun v' w2 hown hg hblk => ?_)
    repeat ((try subst X); (first | (first | apply zL | apply zH | apply zE); intro X hX | apply zh | apply zl | apply ze); try simp only [zU, reduceIte, Nat.reduceEqDiff, Nat.reduceAdd, reduceCtorEq, Q100])
    refine hM _ _ _ ?_; clear hM M
    refine ok_ret ?_
    try simp only [zW, zU, reduceIte, Nat.reduceEqDiff, Nat.reduceAdd, reduceCtorEq, Q100]
    exact ⟨he1.chg_trans hg (fun k hk => by simp [Value.ownBlock] at hk; omega), by simpa using hown⟩
-- -- function 101
set_option maxHeartbeats 2000000 in
set_option maxRecDepth 8000 in
theorem clone101 (w : World) (S : Nat → Prop) (v : Value) (rows : List (List D)) (h : Rd w S [v] [.sl 24 rows]) (hz : ∀ r ∈ rows, r.length = 2) :
    Rets Tryz.prog 101 [v] w (fun v' w' => Ext w w' ∧ Own w' S w.heap.size 108 2 v' rows) := by
  obtain ⟨A, c, rfl, hl, hb, hc⟩ := h.hd
  refine rets_of_ok Tryz.func101 rfl rfl ?_
  refine ok_seq (fun M hM => ok_region rfl ?_); repeat ((try subst X); (first | (first | apply zL | apply zH | apply zE); intro X hX | apply zh | apply zl | apply ze); try simp only [zU, reduceIte, Nat.reduceEqDiff, Nat.reduceAdd, reduceCtorEq, Q101])
  refine hM _ _ _ ?_; clear hM M
  refine ok_seq (fun M0 hM0 => ?_)
  refine ok_seq (fun M hM => ok_region rfl ?_)
  repeat ((try subst X); (first | (first | apply zL | apply zH | apply zE); intro X hX | apply zh | apply zl | apply ze); try simp only [zU, reduceIte, Nat.reduceEqDiff, Nat.reduceAdd, reduceCtorEq, Q101])
  refine Runs.slEq Fx.un105 ?_
  cases A with
  | none =>
    obtain rfl := h.nil_of
    repeat ((try subst X); (first | (first | apply zL | apply zH | apply zE); intro X hX | apply zh | apply zl | apply ze); try simp only [zU, reduceIte, Nat.reduceEqDiff, Nat.reduceAdd, reduceCtorEq, Q101])
    refine hM _ _ _ ?_; clear hM M
    refine ok_cond rfl (fun _ => ?_) (fun h => by cases h)
    refine ok_seq (fun M hM => ok_region rfl ?_); repeat ((try subst X); (first | (first | apply zL | apply zH | apply zE); intro X hX | apply zh | apply zl | apply ze); try simp only [zU, reduceIte, Nat.reduceEqDiff, Nat.reduceAdd, reduceCtorEq, Q101])
    refine hM _ _ _ ?_; clear hM M
    refine ok_ret ?_
    try simp only [zW, zU, reduceIte, Nat.reduceEqDiff, Nat.reduceAdd, reduceCtorEq, Q101]
    exact ⟨Ext.refl _, Own.nil (by decide)⟩
  | some a =>
    repeat ((try subst X); (first | (first | apply zL | apply zH | apply zE); intro X hX | apply zh | apply zl | apply ze); try simp only [zU, reduceIte, Nat.reduceEqDiff, Nat.reduceAdd, reduceCtorEq, Q101])
    refine hM _ _ _ ?_; clear hM M
    refine ok_cond rfl (fun h => by cases h) (fun _ => ok_skip ?_)
    refine hM0 _ _ _ ?_; clear hM0 M0
    refine ok_seq (fun M hM => ok_region rfl ?_)
    repeat ((try subst X); (first | (first | apply zL | apply zH | apply zE); intro X hX | apply zh | apply zl | apply ze); try simp only [zU, reduceIte, Nat.reduceEqDiff, Nat.reduceAdd, reduceCtorEq, Q101])
    refine Runs.lit00 Fx.un105 Fx.zi108 (fun w1 he1 hs1 hb1 => ?_)
    repeat ((try subst X); (first | (first | apply zL | apply zH | apply zE); intro X hX | apply zh | apply zl | apply ze); try simp only [zU, reduceIte, Nat.reduceEqDiff, Nat.reduceAdd, reduceCtorEq, Q101])
    refine Runs.appD (S := S) Fx.un105 Fx.zi108 rfl (by decide) (Own.fresh (base := w.heap.size) (by decide) hb1 (Nat.le_refl _)) (((h.mono (S' := fun k => S k ∧ k < w.heap.size) (fun k hk hl => ⟨hk, hl⟩)).ext he1).mono fun k hk _ => ⟨hk.1, fun e => by cases e; exact Nat.lt_irrefl _ hk.2⟩) hz (by simpa using hb) (by omega) (fun v' w2 hown hg hblk => ?_)
    repeat ((try subst X); (first | (first | apply zL | apply zH | apply zE); intro X hX | apply zh | apply zl | apply ze); try simp only [zU, reduceIte, Nat.reduceEqDiff, Nat.reduceAdd, reduceCtorEq, Q101])
    refine hM _ _ _ ?_; clear hM M
    refine ok_ret ?_
    try simp only [zW, zU, reduceIte, Nat.reduceEqDiff, Nat.reduceAdd, reduceCtorEq, Q101]
    exact ⟨he1.chg_trans hg (fun k hk => by simp [Value.ownBlock] at hk; omega), by simpa using hown⟩
-- -- function 109
set_option maxHeartbeats 2000000 in
set_option maxRecDepth 8000 in
theorem clone109 (w : World) (S : Nat → Prop) (v : Value) (rows : List (List D)) (h : Rd w S [v] [.sl 136 rows]) (hz : ∀ r ∈ rows, r.length = 9) :
    Rets Tryz.prog 109 [v] w (fun v' w' => Ext w w' ∧ Own w' S w.heap.size 95 9 v' rows) := by
  obtain ⟨A, c, rfl, hl, hb, hc⟩ := h.hd
  refine rets_of_ok Tryz.func109 rfl rfl ?_
  refine ok_seq (fun M hM => ok_region rfl ?_); repeat ((try subst X); (first | (first | apply zL | apply zH | apply zE); intro X hX | apply zh | apply zl | apply ze); try simp only [zU, reduceIte, Nat.reduceEqDiff, Nat.reduceAdd, reduceCtorEq, Q109])
  refine hM _ _ _ ?_; clear hM M
  refine ok_seq (fun M0 hM0 => ?_)
  refine ok_seq (fun M hM => ok_region rfl ?_)
  repeat ((try subst X); (first | (first | apply zL | apply zH | apply zE); intro X hX | apply zh | apply zl | apply ze); try simp only [zU, reduceIte, Nat.reduceEqDiff, Nat.reduceAdd, reduceCtorEq, Q109])
  refine Runs.slEq Fx.un22 ?_
  cases A with
  | none =>
    obtain rfl := h.nil_of
    repeat ((try subst X); (first | (first | apply zL | apply zH | apply zE); intro X hX | apply zh | apply zl | apply ze); try simp only [zU, reduceIte, Nat.reduceEqDiff, Nat.reduceAdd, reduceCtorEq, Q109])
    refine hM _ _ _ ?_; clear hM M
    refine ok_cond rfl (fun _ => ?_) (fun h => by cases h)
    refine ok_seq (fun M hM => ok_region rfl ?_); repeat ((try subst X); (first | (first | apply zL | apply zH | apply zE); intro X hX | apply zh | apply zl | apply ze); try simp only [zU, reduceIte, Nat.reduceEqDiff, Nat.reduceAdd, reduceCtorEq, Q109])
    refine hM _ _ _ ?_; clear hM M
    refine ok_ret ?_
    try simp only [zW, zU, reduceIte, Nat.reduceEqDiff, Nat.reduceAdd, reduceCtorEq, Q109]
    exact ⟨Ext.refl _, Own.nil (by decide)⟩
  | some a =>
    repeat ((try subst X); (first | (first | apply zL | apply zH | apply zE); intro X hX | apply zh | apply zl | apply ze); try simp only [zU, reduceIte, Nat.reduceEqDiff, Nat.reduceAdd, reduceCtorEq, Q109])
    refine hM _ _ _ ?_; clear hM M
    refine ok_cond rfl (fun h => by cases h) (fun _ => ok_skip ?_)
    refine hM0 _ _ _ ?_; clear hM0 M0
    refine ok_seq (fun M hM => ok_region rfl ?_)
    repeat ((try subst X); (first | (first | apply zL | apply zH | apply zE); intro X hX | apply zh | apply zl | apply ze); try simp only [zU, reduceIte, Nat.reduceEqDiff, Nat.reduceAdd, reduceCtorEq, Q109])
    refine Runs.lit00 Fx.un22 Fx.zi95 (fun w1 he1 hs1 hb1 => ?_)
    repeat ((try subst X); (first | (first | apply zL | apply zH | apply zE); intro X hX | apply zh | apply zl | apply ze); try simp only [zU, reduceIte, Nat.reduceEqDiff, Nat.reduceAdd, reduceCtorEq, Q109])
    refine Runs.appD (S := S) Fx.un22 Fx.zi95 rfl (by decide) (Own.fresh (base := w.heap.size) (by decide) hb1 (Nat.le_refl _)) (((h.mono (S' := fun k => S k ∧ k < w.heap.size) (fun k hk hl => ⟨hk, hl⟩)).ext he1).mono fun k hk _ => ⟨hk.1, fun e => by cases e; exact Nat.lt_irrefl _ hk.2⟩) hz (by simpa using hb) (by omega) (fun v' w2 hown hg hblk => ?_)
    repeat ((try subst X); (first | (first | apply zL | apply zH | apply zE); intro X hX | apply zh | apply zl | apply ze); try simp only [zU, reduceIte, Nat.reduceEqDiff, Nat.reduceAdd, reduceCtorEq, Q109])
    refine hM _ _ _ ?_; clear hM M
    refine ok_ret ?_
    try simp only [zW, zU, reduceIte, Nat.reduceEqDiff, Nat.reduceAdd, reduceCtorEq, Q109]
    exact ⟨he1.chg_trans hg (fun k hk => by simp [Value.ownBlock] at hk; omega), by simpa using hown⟩
-- -- function 110
set_option maxHeartbeats 2000000 in
set_option maxRecDepth 8000 in
theorem clone110 (w : World) (S : Nat → Prop) (v : Value) (rows : List (List D)) (h : Rd w S [v] [.sl 64 rows]) (hz : ∀ r ∈ rows, r.length = 4) :
    Rets Tryz.prog 110 [v] w (fun v' w' => Ext w w' ∧ Own w' S w.heap.size 73 4 v' rows) := by
  obtain ⟨A, c, rfl, hl, hb, hc⟩ := h.hd
  refine rets_of_ok Tryz.func110 rfl rfl ?_
  refine ok_seq (fun M hM => ok_region rfl ?_); repeat ((try subst X); (first | (first | apply zL | apply zH | apply zE); intro X hX | apply zh | apply zl | apply ze); try simp only [zU, reduceIte, Nat.reduceEqDiff, Nat.reduceAdd, reduceCtorEq, Q110])
  refine hM _ _ _ ?_; clear hM M
  refine ok_seq (fun M0 hM0 => ?_)
  refine ok_seq (fun M hM => ok_region rfl ?_)
  repeat ((try subst X); (first | (first | apply zL | apply zH | apply zE); intro X hX | apply zh | apply zl | apply ze); try simp only [zU, reduceIte, Nat.reduceEqDiff, Nat.reduceAdd, reduceCtorEq, Q110])
  refine Runs.slEq Fx.un23 ?_
  cases A with
  | none =>
    obtain rfl := h.nil_of
    repeat ((try subst X); (first | (first | apply zL | apply zH | apply zE); intro X hX | apply zh | apply zl | apply ze); try simp only [zU, reduceIte, Nat.reduceEqDiff, Nat.reduceAdd, reduceCtorEq, Q110])
    refine hM _ _ _ ?_; clear hM M
    refine ok_cond rfl (fun _ => ?_) (fun h => by cases h)
    refine ok_seq (fun M hM => ok_region rfl ?_); repeat ((try subst X); (first | (first | apply zL | apply zH | apply zE); intro X hX | apply zh | apply zl | apply ze); try simp only [zU, reduceIte, Nat.reduceEqDiff, Nat.reduceAdd, reduceCtorEq, Q110])
    refine hM _ _ _ ?_; clear hM M
    refine ok_ret ?_
    try simp only [zW, zU, reduceIte, Nat.reduceEqDiff, Nat.reduceAdd, reduceCtorEq, Q110]
    exact ⟨Ext.refl _, Own.nil (by decide)⟩
  | some a =>
    repeat ((try subst X); (first | (first | apply zL | apply zH | apply zE); intro X hX | apply zh | apply zl | apply ze); try simp only [zU, reduceIte, Nat.reduceEqDiff, Nat.reduceAdd, reduceCtorEq, Q110])
    refine hM _ _ _ ?_; clear hM M
    refine ok_cond rfl (fun h => by cases h) (fun _ => ok_skip ?_)
    refine hM0 _ _ _ ?_; clear hM0 M0
    refine ok_seq (fun M hM => ok_region rfl ?_)
    repeat ((try subst X); (first | (first | apply zL | apply zH | apply zE); intro X hX | apply zh | apply zl | apply ze); try simp only [zU, reduceIte, Nat.reduceEqDiff, Nat.reduceAdd, reduceCtorEq, Q110])
    refine Runs.lit00 Fx.un23 Fx.zi73 (fun w1 he1 hs1 hb1 => ?_)
    repeat ((try subst X); (first | (first | apply zL | apply zH | apply zE); intro X hX | apply zh | apply zl | apply ze); try simp only [zU, reduceIte, Nat.reduceEqDiff, Nat.reduceAdd, reduceCtorEq, Q110])
    refine Runs.appD (S := S) Fx.un23 Fx.zi73 rfl (by decide) (Own.fresh (base := w.heap.size) (by decide) hb1 (Nat.le_refl _)) (((h.mono (S' := fun k => S k ∧ k < w.heap.size) (fun k hk hl => ⟨hk, hl⟩)).ext he1).mono fun k hk _ => ⟨hk.1, fun e => by cases e; exact Nat.lt_irrefl _ hk.2⟩) hz (by simpa using hb) (by omega) (fun v' w2 hown hg hblk => ?_)
    repeat ((try subst X); (first | (first | apply zL | apply zH | apply zE); intro X hX | apply zh | apply zl | apply ze); try simp only [zU, reduceIte, Nat.reduceEqDiff, Nat.reduceAdd, reduceCtorEq, Q110])
    refine hM _ _ _ ?_; clear hM M
    refine ok_ret ?_
    try simp only [zW, zU, reduceIte, Nat.reduceEqDiff, Nat.reduceAdd, reduceCtorEq, Q110]
    exact ⟨he1.chg_trans hg (fun k hk => by simp [Value.ownBlock] at hk; omega), by simpa using hown⟩
-- -- function 111
set_option maxHeartbeats 2000000 in
set_option maxRecDepth 8000 in
theorem clone111 (w : World) (S : Nat → Prop) (v : Value) (rows : List (List D)) (h : Rd w S [v] [.sl 256 rows]) (hz : ∀ r ∈ rows, r.length = 17) :
    Rets Tryz.prog 111 [v] w (fun v' w' => Ext w w' ∧ Own w' S w.heap.size 39 17 v' rows) := by
  obtain ⟨A, c, rfl, hl, hb, hc⟩ := h.hd
  refine rets_of_ok Tryz.func111 rfl rfl ?_
  refine ok_seq (fun M hM => ok_region rfl ?_); repeat ((try subst X); (first | (first | apply zL | apply zH | apply zE); intro X hX | apply zh | apply zl | apply ze); try simp only [zU, reduceIte, Nat.reduceEqDiff, Nat.reduceAdd, reduceCtorEq, Q111])
  refine hM _ _ _ ?_; clear hM M
  refine ok_seq (fun M0 hM0 => ?_)
  refine ok_seq (fun M hM => ok_region rfl ?_)
  repeat ((try subst X); (first | (first | apply zL | apply zH | apply zE); intro X hX | apply zh | apply zl | apply ze); try simp only [zU, reduceIte, Nat.reduceEqDiff, Nat.reduceAdd, reduceCtorEq, Q111])
  refine Runs.slEq Fx.un24 ?_
  cases A with
  | none =>
    obtain rfl := h.nil_of
    repeat ((try subst X); (first | (first | apply zL | apply zH | apply zE); intro X hX | apply zh | apply zl | apply ze); try simp only [zU, reduceIte, Nat.reduceEqDiff, Nat.reduceAdd, reduceCtorEq, Q111])
    refine hM _ _ _ ?_; clear hM M
    refine ok_cond rfl (fun _ => ?_) (fun h => by cases h)
    refine ok_seq (fun M hM => ok_region rfl ?_); repeat ((try subst X); (first | (first | apply zL | apply zH | apply zE); intro X hX | apply zh | apply zl | apply ze); try simp only [zU, reduceIte, Nat.reduceEqDiff, Nat.reduceAdd, reduceCtorEq, Q111])
    refine hM _ _ _ ?_; clear hM M
    refine ok_ret ?_
    try simp only [zW, zU, reduceIte, Nat.reduceEqDiff, Nat.reduceAdd, reduceCtorEq, Q111]
    exact ⟨Ext.refl _, Own.nil (by decide)⟩
  | some a =>
    repeat ((try subst X); (first | (first | apply zL | apply zH | apply zE); intro X hX | apply zh | apply zl | apply ze); try simp only [zU, reduceIte, Nat.reduceEqDiff, Nat.reduceAdd, reduceCtorEq, Q111])
    refine hM _ _ _ ?_; clear hM M
    refine ok_cond rfl (fun h => by cases h) (fun _ => ok_skip ?_)
    refine hM0 _ _ _ ?_; clear hM0 M0
    refine ok_seq (fun M hM => ok_region rfl ?_)
    repeat ((try subst X); (first | (first | apply zL | apply zH | apply zE); intro X hX | apply zh | apply zl | apply ze); try simp only [zU, reduceIte, Nat.reduceEqDiff, Nat.reduceAdd, reduceCtorEq, Q111])
    refine Runs.lit00 Fx.un24 Fx.zi39 (fun w1 he1 hs1 hb1 => ?_)
    repeat ((try subst X); (first | (first | apply zL | apply zH | apply zE); intro X hX | apply zh | apply zl | apply ze); try simp only [zU, reduceIte, Nat.reduceEqDiff, Nat.reduceAdd, reduceCtorEq, Q111])
    refine Runs.appD (S := S) Fx.un24 Fx.zi39 rfl (by decide) (Own.fresh (base := w.heap.size) (by decide) hb1 (Nat.le_refl _)) (((h.mono (S' := fun k => S k ∧ k < w.heap.size) (fun k hk hl => ⟨hk, hl⟩)).ext he1).mono fun k hk _ => ⟨hk.1, fun e => by cases e; exact Nat.lt_irrefl _ hk.2⟩) hz (by simpa using hb) (by omega) (fun v' w2 hown hg hblk => ?_)
    repeat ((try subst X); (first | (first | apply zL | apply zH | apply zE); intro X hX | apply zh | apply zl | apply ze); try simp only [zU, reduceIte, Nat.reduceEqDiff, Nat.reduceAdd, reduceCtorEq, Q111])
    refine hM _ _ _ ?_; clear hM M
    refine ok_ret ?_
    try simp only [zW, zU, reduceIte, Nat.reduceEqDiff, Nat.reduceAdd, reduceCtorEq, Q111]
    exact ⟨he1.chg_trans hg (fun k hk => by simp [Value.ownBlock] at hk; omega), by simpa using hown⟩
-- -- function 112
set_option maxHeartbeats 2000000 in
set_option maxRecDepth 8000 in
theorem clone112 (w : World) (S : Nat → Prop) (v : Value) (rows : List (List D)) (h : Rd w S [v] [.sl 96 rows]) (hz : ∀ r ∈ rows, r.length = 5) :
    Rets Tryz.prog 112 [v] w (fun v' w' => Ext w w' ∧ Own w' S w.heap.size 101 5 v' rows) := by
  obtain ⟨A, c, rfl, hl, hb, hc⟩ := h.hd
  refine rets_of_ok Tryz.func112 rfl rfl ?_
  refine ok_seq (fun M hM => ok_region rfl ?_); repeat ((try subst X); (first | (first | apply zL | apply zH | apply zE); intro X hX | apply zh | apply zl | apply ze); try simp only [zU, reduceIte, Nat.reduceEqDiff, Nat.reduceAdd, reduceCtorEq, Q112])
  refine hM _ _ _ ?_; clear hM M
  refine ok_seq (fun M0 hM0 => ?_)
  refine ok_seq (fun M hM => ok_region rfl ?_)
  repeat ((try subst X); (first | (first | apply zL | apply zH | apply zE); intro X hX | apply zh | apply zl | apply ze); try simp only [zU, reduceIte, Nat.reduceEqDiff, Nat.reduceAdd, reduceCtorEq, Q112])
  refine Runs.slEq Fx.un25 ?_
  cases A with
  | none =>
    obtain rfl := h.nil_of
    repeat ((try subst X); (first | (first | apply zL | apply zH | apply zE); intro X hX | apply zh | apply zl | apply ze); try simp only [zU, reduceIte, Nat.reduceEqDiff, Nat.reduceAdd, reduceCtorEq, Q112])
    refine hM _ _ _ ?_; clear hM M
    refine ok_cond rfl (fun _ => ?_) (fun h => by cases h)
    refine ok_seq (fun M hM => ok_region rfl ?_); repeat ((try subst X); (first | (first | apply zL | apply zH | apply zE); intro X hX | apply zh | apply zl | apply ze); try simp only [zU, reduceIte, Nat.reduceEqDiff, Nat.reduceAdd, reduceCtorEq, Q112])
    refine hM _ _ _ ?_; clear hM M
    refine ok_ret ?_
    try simp only [zW, zU, reduceIte, Nat.reduceEqDiff, Nat.reduceAdd, reduceCtorEq, Q112]
    exact ⟨Ext.refl _, Own.nil (by decide)⟩
  | some a =>
    repeat ((try subst X); (first | (first | apply zL | apply zH | apply zE); intro X hX | apply zh | apply zl | apply ze); try simp only [zU, reduceIte, Nat.reduceEqDiff, Nat.reduceAdd, reduceCtorEq, Q112])
    refine hM _ _ _ ?_; clear hM M
    refine ok_cond rfl (fun h => by cases h) (fun _ => ok_skip ?_)
    refine hM0 _ _ _ ?_; clear hM0 M0
    refine ok_seq (fun M hM => ok_region rfl ?_)
    repeat ((try subst X); (first | (first | apply zL | apply zH | apply zE); intro X hX | apply zh | apply zl | apply ze); try simp only [zU, reduceIte, Nat.reduceEqDiff, Nat.reduceAdd, reduceCtorEq, Q112])
    refine Runs.lit00 Fx.un25 Fx.zi101 (fun w1 he1 hs1 hb1 => ?_)
    repeat ((try subst X); (first | (first | apply zL | apply zH | apply zE); intro X hX | apply zh | apply zl | apply ze); try simp only [zU, reduceIte, Nat.reduceEqDiff, Nat.reduceAdd, reduceCtorEq, Q112])
    refine Runs.appD (S := S) Fx.un25 Fx.zi101 rfl (by decide) (Own.fresh (base := w.heap.size) (by decide) hb1 (Nat.le_refl _)) (((h.mono (S' := fun k => S k ∧ k < w.heap.size) (fun k hk hl => ⟨hk, hl⟩)).ext he1).mono fun k hk _ => ⟨hk.1, fun e => by cases e; exact Nat.lt_irrefl _ hk.2⟩) hz (by simpa using hb) (by omega) (fun v' w2 hown hg hblk => ?_)
    repeat ((try subst X); (first | (first | apply zL | apply zH | apply zE); intro X hX | apply zh | apply zl | apply ze); try simp only [zU, reduceIte, Nat.reduceEqDiff, Nat.reduceAdd, reduceCtorEq, Q112])
    refine hM _ _ _ ?_; clear hM M
    refine ok_ret ?_
    try simp only [zW, zU, reduceIte, Nat.reduceEqDiff, Nat.reduceAdd, reduceCtorEq, Q112]
    exact ⟨he1.chg_trans hg (fun k hk => by simp [Value.ownBlock] at hk; omega), by simpa using hown⟩
-- -- function 117
set_option maxHeartbeats 2000000 in
set_option maxRecDepth 8000 in
theorem clone117 (w : World) (S : Nat → Prop) (v : Value) (rows : List (List D)) (h : Rd w S [v] [.sl 40 rows]) (hz : ∀ r ∈ rows, r.length = 2) :
    Rets Tryz.prog 117 [v] w (fun v' w' => Ext w w' ∧ Own w' S w.heap.size 153 2 v' rows) := by
  obtain ⟨A, c, rfl, hl, hb, hc⟩ := h.hd
  refine rets_of_ok Tryz.func117 rfl rfl ?_
  refine ok_seq (fun M hM => ok_region rfl ?_); repeat ((try subst X); (first | (first | apply zL | apply zH | apply zE); intro X hX | apply zh | apply zl | apply ze); try simp only [zU, reduceIte, Nat.reduceEqDiff, Nat.reduceAdd, reduceCtorEq, Q117])
  refine hM _ _ _ ?_; clear hM M
  refine ok_seq (fun M0 hM0 => ?_)
  refine ok_seq (fun M hM => ok_region rfl ?_)
  repeat ((try subst X); (first | (first | apply zL | apply zH | apply zE); intro X hX | apply zh | apply zl | apply ze); try simp only [zU, reduceIte, Nat.reduceEqDiff, Nat.reduceAdd, reduceCtorEq, Q117])
  refine Runs.slEq Fx.un71 ?_
  cases A with
  | none =>
    obtain rfl := h.nil_of
    repeat ((try subst X); (first | (first | apply zL | apply zH | apply zE); intro X hX | apply zh | apply zl | apply ze); try simp only [zU, reduceIte, Nat.reduceEqDiff, Nat.reduceAdd, reduceCtorEq, Q117])
    refine hM _ _ _ ?_; clear hM M
    refine ok_cond rfl (fun _ => ?_) (fun h => by cases h)
    refine ok_seq (fun M hM => ok_region rfl ?_); repeat ((try subst X); (first | (first | apply zL | apply zH | apply zE); intro X hX | apply zh | apply zl | apply ze); try simp only [zU, reduceIte, Nat.reduceEqDiff, Nat.reduceAdd, reduceCtorEq, Q117])
    refine hM _ _ _ ?_; clear hM M
    refine ok_ret ?_
    try simp only [zW, zU, reduceIte, Nat.reduceEqDiff, Nat.reduceAdd, reduceCtorEq, Q117]
    exact ⟨Ext.refl _, Own.nil (by decide)⟩
  | some a =>
    repeat ((try subst X); (first | (first | apply zL | apply zH | apply zE); intro X hX | apply zh | apply zl | apply ze); try simp only [zU, reduceIte, Nat.reduceEqDiff, Nat.reduceAdd, reduceCtorEq, Q117])
    refine hM _ _ _ ?_; clear hM M
    refine ok_cond rfl (fun h => by cases h) (fun _ => ok_skip ?_)
    refine hM0 _ _ _ ?_; clear hM0 M0
    refine ok_seq (fun M hM => ok_region rfl ?_)
    repeat ((try subst X); (first | (first | apply zL | apply zH | apply zE); intro X hX | apply zh | apply zl | apply ze); try simp only [zU, reduceIte, Nat.reduceEqDiff, Nat.reduceAdd, reduceCtorEq, Q117])
    refine Runs.lit00 Fx.un71 Fx.zi153 (fun w1 he1 hs1 hb1 => ?_)
    repeat ((try subst X); (first | (first | apply zL | apply zH | apply zE); intro X hX | apply zh | apply zl | apply ze); try simp only [zU, reduceIte, Nat.reduceEqDiff, Nat.reduceAdd, reduceCtorEq, Q117])
    refine Runs.appD (S := S) Fx.un71 Fx.zi153 rfl (by decide) (Own.fresh (base := w.heap.size) (by decide) hb1 (Nat.le_refl _)) (((h.mono (S' := fun k => S k ∧ k < w.heap.size) (fun k hk hl => ⟨hk, hl⟩)).ext he1).mono fun k hk _ => ⟨hk.1, fun e => by cases e; exact Nat.lt_irrefl _ hk.2⟩) hz (by simpa using hb) (by omega) (fun v' w2 hown hg hblk => ?_)
    repeat ((try subst X); (first | (first | apply zL | apply zH | apply zE); intro X hX | apply zh | apply zl | apply ze); try simp only [zU, reduceIte, Nat.reduceEqDiff, Nat.reduceAdd, reduceCtorEq, Q117])
    refine hM _ _ _ ?_; clear hM M
    refine ok_ret ?_
    try simp only [zW, zU, reduceIte, Nat.reduceEqDiff, Nat.reduceAdd, reduceCtorEq, Q117]
    exact ⟨he1.chg_trans hg (fun k hk => by simp [Value.ownBlock] at hk; omega), by simpa using hown⟩
-- -- function 118
set_option maxHeartbeats 2000000 in
set_option maxRecDepth 8000 in
theorem clone118 (w : World) (S : Nat → Prop) (v : Value) (rows : List (List D)) (h : Rd w S [v] [.sl 16 rows]) (hz : ∀ r ∈ rows, r.length = 2) :
    Rets Tryz.prog 118 [v] w (fun v' w' => Ext w w' ∧ Own w' S w.heap.size 70 2 v' rows) := by
  obtain ⟨A, c, rfl, hl, hb, hc⟩ := h.hd
  refine rets_of_ok Tryz.func118 rfl rfl ?_
  refine ok_seq (fun M hM => ok_region rfl ?_); repeat ((try subst X); (first | (first | apply zL | apply zH | apply zE); intro X hX | apply zh | apply zl | apply ze); try simp only [zU, reduceIte, Nat.reduceEqDiff, Nat.reduceAdd, reduceCtorEq, Q118])
  refine hM _ _ _ ?_; clear hM M
  refine ok_seq (fun M0 hM0 => ?_)
  refine ok_seq (fun M hM => ok_region rfl ?_)
  repeat ((try subst X); (first | (first | apply zL | apply zH | apply zE); intro X hX | apply zh | apply zl | apply ze); try simp only [zU, reduceIte, Nat.reduceEqDiff, Nat.reduceAdd, reduceCtorEq, Q118])
  refine Runs.slEq Fx.un33 ?_
  cases A with
  | none =>
    obtain rfl := h.nil_of
    repeat ((try subst X); (first | (first | apply zL | apply zH | apply zE); intro X hX | apply zh | apply zl | apply ze); try simp only [zU, reduceIte, Nat.reduceEqDiff, Nat.reduceAdd, reduceCtorEq, Q118])
    refine hM _ _ _ ?_; clear hM M
    refine ok_cond rfl (fun _ => ?_) (fun h => by cases h)
    refine ok_seq (fun M hM => ok_region rfl ?_); repeat ((try subst X); (first | (first | apply zL | apply zH | apply zE); intro X hX | apply zh | apply zl | apply ze); try simp only [zU, reduceIte, Nat.reduceEqDiff, Nat.reduceAdd, reduceCtorEq, Q118])
    refine hM _ _ _ ?_; clear hM M
    refine ok_ret ?_
    try simp only [zW, zU, reduceIte, Nat.reduceEqDiff, Nat.reduceAdd, reduceCtorEq, Q118]
    exact ⟨Ext.refl _, Own.nil (by decide)⟩
  | some a =>
    repeat ((try subst X); (first | (first | apply zL | apply zH | apply zE); intro X hX | apply zh | apply zl | apply ze); try simp only [zU, reduceIte, Nat.reduceEqDiff, Nat.reduceAdd, reduceCtorEq, Q118])
    refine hM _ _ _ ?_; clear hM M
    refine ok_cond rfl (fun h => by cases h) (fun _ => ok_skip ?_)
    refine hM0 _ _ _ ?_; clear hM0 M0
    refine ok_seq (fun M hM => ok_region rfl ?_)
    repeat ((try subst X); (first | (first | apply zL | apply zH | apply zE); intro X hX | apply zh | apply zl | apply ze); try simp only [zU, reduceIte, Nat.reduceEqDiff, Nat.reduceAdd, reduceCtorEq, Q118])
    refine Runs.lit00 Fx.un33 Fx.zi70 (fun w1 he1 hs1 hb1 => ?_)
    repeat ((try subst X); (first | (first | apply zL | apply zH | apply zE); intro X hX | apply zh | apply zl | apply ze); try simp only [zU, reduceIte, Nat.reduceEqDiff, Nat.reduceAdd, reduceCtorEq, Q118])
    refine Runs.appD (S := S) Fx.un33 Fx.zi70 rfl (by decide) (Own.fresh (base := w.heap.size) (by decide) hb1 (Nat.le_refl _)) (((h.mono (S' := fun k => S k ∧ k < w.heap.size) (fun k hk hl => ⟨hk, hl⟩)).ext he1).mono fun k hk _ => ⟨hk.1, fun e => by cases e; exact Nat.lt_irrefl _ hk.2⟩) hz (by simpa using hb) (by omega) (fun v' w2 hown hg hblk => ?_)
    repeat ((try subst X); (first | (first | apply zL | apply zH | apply zE); intro X hX | apply zh | apply zl | apply ze); try simp only [zU, reduceIte, Nat.reduceEqDiff, Nat.reduceAdd, reduceCtorEq, Q118])
    refine hM _ _ _ ?_; clear hM M
    refine ok_ret ?_
    try simp only [zW, zU, reduceIte, Nat.reduceEqDiff, Nat.reduceAdd, reduceCtorEq, Q118]
    exact ⟨he1.chg_trans hg (fun k hk => by simp [Value.ownBlock] at hk; omega), by simpa using hown⟩
-- -- function 123
set_option maxHeartbeats 2000000 in
set_option maxRecDepth 8000 in
theorem clone123 (w : World) (S : Nat → Prop) (v : Value) (rows : List (List D)) (h : Rd w S [v] [.sl 128 rows]) (hz : ∀ r ∈ rows, r.length = 9) :
    Rets Tryz.prog 123 [v] w (fun v' w' => Ext w w' ∧ Own w' S w.heap.size 37 9 v' rows) := by
  obtain ⟨A, c, rfl, hl, hb, hc⟩ := h.hd
  refine rets_of_ok Tryz.func123 rfl rfl ?_
  refine ok_seq (fun M hM => ok_region rfl ?_); repeat ((try subst X); (first | (first | apply zL | apply zH | apply zE); intro X hX | apply zh | apply zl | apply ze); try simp only [zU, reduceIte, Nat.reduceEqDiff, Nat.reduceAdd, reduceCtorEq, Q123])
  refine hM _ _ _ ?_; clear hM M
  refine ok_seq (fun M0 hM0 => ?_)
  refine ok_seq (fun M hM => ok_region rfl ?_)
  repeat ((try subst X); (first | (first | apply zL | apply zH | apply zE); intro X hX | apply zh | apply zl | apply ze); try simp only [zU, reduceIte, Nat.reduceEqDiff, Nat.reduceAdd, reduceCtorEq, Q123])
  refine Runs.slEq Fx.un34 ?_
  cases A with
  | none =>
    obtain rfl := h.nil_of
    repeat ((try subst X); (first | (first | apply zL | apply zH | apply zE); intro X hX | apply zh | apply zl | apply ze); try simp only [zU, reduceIte, Nat.reduceEqDiff, Nat.reduceAdd, reduceCtorEq, Q123])
    refine hM _ _ _ ?_; clear hM M
    refine ok_cond rfl (fun _ => ?_) (fun h => by cases h)
    refine ok_seq (fun M hM => ok_region rfl ?_); repeat ((try subst X); (first | (first | apply zL | apply zH | apply zE); intro X hX | apply zh | apply zl | apply ze); try simp only [zU, reduceIte, Nat.reduceEqDiff, Nat.reduceAdd, reduceCtorEq, Q123])
    refine hM _ _ _ ?_; clear hM M
    refine ok_ret ?_
    try simp only [zW, zU, reduceIte, Nat.reduceEqDiff, Nat.reduceAdd, reduceCtorEq, Q123]
    exact ⟨Ext.refl _, Own.nil (by decide)⟩
  | some a =>
    repeat ((try subst X); (first | (first | apply zL | apply zH | apply zE); intro X hX | apply zh | apply zl | apply ze); try simp only [zU, reduceIte, Nat.reduceEqDiff, Nat.reduceAdd, reduceCtorEq, Q123])
    refine hM _ _ _ ?_; clear hM M
    refine ok_cond rfl (fun h => by cases h) (fun _ => ok_skip ?_)
    refine hM0 _ _ _ ?_; clear hM0 M0
    refine ok_seq (fun M hM => ok_region rfl ?_)
    repeat ((try subst X); (first | (first | apply zL | apply zH | apply zE); intro X hX | apply zh | apply zl | apply ze); try simp only [zU, reduceIte, Nat.reduceEqDiff, Nat.reduceAdd, reduceCtorEq, Q123])
    refine Runs.lit00 Fx.un34 Fx.zi37 (fun w1 he1 hs1 hb1 => ?_)
    repeat ((try subst X); (first | (first | apply zL | apply zH | apply zE); intro X hX | apply zh | apply zl | apply ze); try simp only [zU, reduceIte, Nat.reduceEqDiff, Nat.reduceAdd, reduceCtorEq, Q123])
    refine Runs.appD (S := S) Fx.un34 Fx.zi37 rfl (by decide) (Own.fresh (base := w.heap.size) (by decide) hb1 (Nat.le_refl _)) (((h.mono (S' := fun k => S k ∧ k < w.heap.size) (fun k hk hl => ⟨hk, hl⟩)).ext he1).mono fun k hk _ => ⟨hk.1, fun e => by cases e; exact Nat.lt_irrefl _ hk.2⟩) hz (by simpa using hb) (by omega) (fun v' w2 hown hg hblk => ?_)
    repeat ((try subst X); (first | (first | apply zL | apply zH | apply zE); intro X hX | apply zh | apply zl | apply ze); try simp only [zU, reduceIte, Nat.reduceEqDiff, Nat.reduceAdd, reduceCtorEq, Q123])
    refine hM _ _ _ ?_; clear hM M
    refine ok_ret ?_
    try simp only [zW, zU, reduceIte, Nat.reduceEqDiff, Nat.reduceAdd, reduceCtorEq, Q123]
    exact ⟨he1.chg_trans hg (fun k hk => by simp [Value.ownBlock] at hk; omega), by simpa using hown⟩
-- -- function 158
set_option maxHeartbeats 2000000 in
set_option maxRecDepth 8000 in
theorem clone158 (w : World) (S : Nat → Prop) (v : Value) (rows : List (List D)) (h : Rd w S [v] [.sl 64 rows]) (hz : ∀ r ∈ rows, r.length = 4) :
    Rets Tryz.prog 158 [v] w (fun v' w' => Ext w w' ∧ Own w' S w.heap.size 111 4 v' rows) := by
  obtain ⟨A, c, rfl, hl, hb, hc⟩ := h.hd
  refine rets_of_ok Tryz.func158 rfl rfl ?_
  refine ok_seq (fun M hM => ok_region rfl ?_); repeat ((try subst X); (first | (first | apply zL | apply zH | apply zE); intro X hX | apply zh | apply zl | apply ze); try simp only [zU, reduceIte, Nat.reduceEqDiff, Nat.reduceAdd, reduceCtorEq, Q158])
  refine hM _ _ _ ?_; clear hM M
  refine ok_seq (fun M0 hM0 => ?_)
  refine ok_seq (fun M hM => ok_region rfl ?_)
  repeat ((try subst X); (first | (first | apply zL | apply zH | apply zE); intro X hX | apply zh | apply zl | apply ze); try simp only [zU, reduceIte, Nat.reduceEqDiff, Nat.reduceAdd, reduceCtorEq, Q158])
  refine Runs.slEq Fx.un32 ?_
  cases A with
  | none =>
    obtain rfl := h.nil_of
    repeat ((try subst X); (first | (first | apply zL | apply zH | apply zE); intro X hX | apply zh | apply zl | apply ze); try simp only [zU, reduceIte, Nat.reduceEqDiff, Nat.reduceAdd, reduceCtorEq, Q158])
    refine hM _ _ _ ?_; clear hM M
    refine ok_cond rfl (fun _ => ?_) (fun h => by cases h)
    refine ok_seq (fun M hM => ok_region rfl ?_); repeat ((try subst X); (first | (first | apply zL | apply zH | apply zE); intro X hX | apply zh | apply zl | apply ze); try simp only [zU, reduceIte, Nat.reduceEqDiff, Nat.reduceAdd, reduceCtorEq, Q158])
    refine hM _ _ _ ?_; clear hM M
    refine ok_ret ?_
    try simp only [zW, zU, reduceIte, Nat.reduceEqDiff, Nat.reduceAdd, reduceCtorEq, Q158]
    exact ⟨Ext.refl _, Own.nil (by decide)⟩
  | some a =>
    repeat ((try subst X); (first | (first | apply zL | apply zH | apply zE); intro X hX | apply zh | apply zl | apply ze); try simp only [zU, reduceIte, Nat.reduceEqDiff, Nat.reduceAdd, reduceCtorEq, Q158])
    refine hM _ _ _ ?_; clear hM M
    refine ok_cond rfl (fun h => by cases h) (fun _ => ok_skip ?_)
    refine hM0 _ _ _ ?_; clear hM0 M0
    refine ok_seq (fun M hM => ok_region rfl ?_)
    repeat ((try subst X); (first | (first | apply zL | apply zH | apply zE); intro X hX | apply zh | apply zl | apply ze); try simp only [zU, reduceIte, Nat.reduceEqDiff, Nat.reduceAdd, reduceCtorEq, Q158])
    refine Runs.lit00 Fx.un32 Fx.zi111 (fun w1 he1 hs1 hb1 => ?_)
    repeat ((try subst X); (first | (first | apply zL | apply zH | apply zE); intro X hX | apply zh | apply zl | apply ze); try simp only [zU, reduceIte, Nat.reduceEqDiff, Nat.reduceAdd, reduceCtorEq, Q158])
    refine Runs.appD (S := S) Fx.un32 Fx.zi111 rfl (by decide) (Own.fresh (base := w.heap.size) (by decide) hb1 (Nat.le_refl _)) (((h.mono (S' := fun k => S k ∧ k < w.heap.size) (fun k hk hl => ⟨hk, hl⟩)).ext he1).mono fun k hk _ => ⟨hk.1, fun e => by cases e; exact Nat.lt_irrefl _ hk.2⟩) hz (by simpa using hb) (by omega) (fun v' w2 hown hg hblk => ?_)
    repeat ((try subst X); (first | (first | apply zL | apply zH | apply zE); intro X hX | apply zh | apply zl | apply ze); try simp only [zU, reduceIte, Nat.reduceEqDiff, Nat.reduceAdd, reduceCtorEq, Q158])
    refine hM _ _ _ ?_; clear hM M
    refine ok_ret ?_
    try simp only [zW, zU, reduceIte, Nat.reduceEqDiff, Nat.reduceAdd, reduceCtorEq, Q158]
    exact ⟨he1.chg_trans hg (fun k hk => by simp [Value.ownBlock] at hk; omega), by simpa using hown⟩
end Go.Proofs.YtcpjojaklpgnkaaGreat
/- Chapter 31: slices.Index, Contains, has, own. -/
set_option linter.unusedVariables false
set_option linter.unusedSimpArgs false
namespace Go.Proofs.Vg
/-- The first place of a number in a list, -1. -/
def idxI (xs : List Int) (v : Int) : Int := match xs.findIdx? (· == v) with | some i => (i : Int) | none => -1
def ownG (g : G) (v : Int) : Bool := g.left == v || g.args.contains v
end Go.Proofs.Vg
namespace Go.Proofs.YtcpjojaklpgnkaaGreat
open Go Go.Proofs.Vg Go.RowKit
theorem idx_none {xs : List Int} {v : Int} (h : ∀ x ∈ xs, x ≠ v) : idxI xs v = -1 := by
  unfold idxI; rw [List.findIdx?_eq_none_iff.2 (by simpa using h)]
theorem idx_some {xs : List Int} {v : Int} {i : Nat} (hi : xs[i]? = some v) (h : ∀ (j : Nat) (x : Int), j < i → xs[j]? = some x → x ≠ v) : idxI xs v = (i : Int) := by
  unfold idxI
  have : xs.findIdx? (· == v) = some i := by
    obtain ⟨hl, he⟩ := List.getElem?_eq_some_iff.1 hi
    rw [List.findIdx?_eq_some_iff_getElem]
    exact ⟨hl, by simp [he], fun j hj => by simpa using h j _ hj (List.getElem?_eq_getElem _)⟩
  rw [this]
theorem idx_nn (xs : List Int) (v : Int) : decide (0 ≤ idxI xs v) = xs.contains v := by
  unfold idxI
  cases h : xs.findIdx? (· == v) with
  | none =>
    rw [List.findIdx?_eq_none_iff] at h
    have : v ∉ xs := fun hm => by simpa using h v hm
    simp [this]
  | some i =>
    obtain ⟨hl, h1, _⟩ := List.findIdx?_eq_some_iff_getElem.1 h
    have h2 : v ∈ xs := by have h3 : xs[i] = v := by simpa using h1
                           exact h3 ▸ List.getElem_mem hl
    simp [h2]
-- -- function 157
set_option maxHeartbeats 2000000 in
set_option maxRecDepth 8000 in
theorem index_ok (w : World) (S : Nat → Prop) (a : Value) (xs : List Int) (v : Int) (h : Rd w S [a] [isD xs]) : Rets Tryz.prog 157 [a, .int .i64 v] w (fun r w' => r = .int .i64 (idxI xs v) ∧ w' = w) := by
  obtain ⟨A, c, rfl, hl, hc⟩ := h.ints
  refine rets_of_ok Tryz.func157 rfl rfl ?_
  refine ok_seq (fun M hM => ok_region rfl ?_); repeat ((try subst X); (first | (first | apply zL | apply zH | apply zE); intro X hX | apply zh | apply zl | apply ze); try simp only [zU, reduceIte, Nat.reduceEqDiff, Nat.reduceAdd, reduceCtorEq, Q157])
  refine hM _ _ _ ?_; clear hM M
  refine ok_seq (fun M0 hM0 => ?_)
  refine ok_seq (fun M hM => ok_region rfl ?_); repeat ((try subst X); (first | (first | apply zL | apply zH | apply zE); intro X hX | apply zh | apply zl | apply ze); try simp only [zU, reduceIte, Nat.reduceEqDiff, Nat.reduceAdd, reduceCtorEq, Q157])
  refine hM _ _ _ ?_; clear hM M
  refine ok_for [(0, .slice A xs.length c), (1, .int .i64 v)] (fun i W => W = w ∧ ∀ (j : Nat) (x : Int), j < i → xs[j]? = some x → x ≠ v) rfl (by simp [sub, Env.get]) rfl (by simp [sub, Env.get]) hl ⟨rfl, fun j x h => by omega⟩ ?_ ?_
  · rintro i W hi ⟨rfl, hno⟩
    have hx : xs[i]? = some xs[i] := List.getElem?_eq_getElem hi
    obtain ⟨k, o, rfl, -, hcell⟩ := hc i _ hx
    refine ok_seq (fun M hM => ok_region rfl ?_); repeat ((try subst X); (first | (first | apply zL | apply zH | apply zE); intro X hX | apply zh | apply zl | apply ze); try simp only [zU, reduceIte, Nat.reduceEqDiff, Nat.reduceAdd, reduceCtorEq, Q157])
    refine hM _ _ _ ?_; clear hM M
    refine ok_seq (fun M hM => ok_region rfl ?_)
    repeat ((try subst X); (first | (first | apply zL | apply zH | apply zE); intro X hX | apply zh | apply zl | apply ze); try simp only [zU, reduceIte, Nat.reduceEqDiff, Nat.reduceAdd, reduceCtorEq, Q157])
    refine ⟨by omega, by omega, ?_⟩
    repeat ((try subst X); (first | (first | apply zL | apply zH | apply zE); intro X hX | apply zh | apply zl | apply ze); try simp only [zU, reduceIte, Nat.reduceEqDiff, Nat.reduceAdd, reduceCtorEq, Q157])
    refine ⟨_, by simpa [add_at] using hcell, ?_⟩
    repeat ((try subst X); (first | (first | apply zL | apply zH | apply zE); intro X hX | apply zh | apply zl | apply ze); try simp only [zU, reduceIte, Nat.reduceEqDiff, Nat.reduceAdd, reduceCtorEq, Q157])
    refine hM _ _ _ ?_; clear hM M
    refine ok_if rfl (fun he => ?_) (fun he => ok_skip ?_)
    · refine ok_seq (fun M hM => ok_region rfl ?_); repeat ((try subst X); (first | (first | apply zL | apply zH | apply zE); intro X hX | apply zh | apply zl | apply ze); try simp only [zU, reduceIte, Nat.reduceEqDiff, Nat.reduceAdd, reduceCtorEq, Q157])
      refine hM _ _ _ ?_; clear hM M
      refine ok_ret ?_
      try simp only [zW, zU, reduceIte, Nat.reduceEqDiff, Nat.reduceAdd, reduceCtorEq, Q157]
      exact congrArg _ (idx_some (he ▸ hx) hno).symm
    · try simp only [zW, zU, reduceIte, Nat.reduceEqDiff, Nat.reduceAdd, reduceCtorEq, Q157]
      refine ⟨by simp [sub, Env.get], fun j x hj hjx => ?_⟩
      rcases Nat.lt_or_ge j i with h1 | h1
      · exact hno j x h1 hjx
      · obtain rfl : j = i := by omega
        rw [hx] at hjx; cases hjx
        exact fun e => he e.symm
  · rintro W ⟨rfl, hno⟩
    refine hM0 _ _ _ ?_; clear hM0 M0
    refine ok_seq (fun M hM => ok_region rfl ?_); repeat ((try subst X); (first | (first | apply zL | apply zH | apply zE); intro X hX | apply zh | apply zl | apply ze); try simp only [zU, reduceIte, Nat.reduceEqDiff, Nat.reduceAdd, reduceCtorEq, Q157])
    refine hM _ _ _ ?_; clear hM M
    refine ok_ret ?_
    try simp only [zW, zU, reduceIte, Nat.reduceEqDiff, Nat.reduceAdd, reduceCtorEq, Q157]
    refine congrArg _ (idx_none fun x hx => ?_).symm
    obtain ⟨j, hj⟩ := List.mem_iff_getElem?.1 hx
    exact hno j x (List.getElem?_eq_some_iff.1 hj).1 hj
-- -- function 104
theorem contains_ok (w : World) (S : Nat → Prop) (a : Value) (xs : List Int) (v : Int) (h : Rd w S [a] [isD xs]) : Rets Tryz.prog 104 [a, .int .i64 v] w (fun r w' => r = .bool (xs.contains v) ∧ w' = w) := by
  refine rets_of_ok Tryz.func104 rfl rfl ?_
  refine ok_seq (fun M hM => ok_region rfl ?_); repeat ((try subst X); (first | (first | apply zL | apply zH | apply zE); intro X hX | apply zh | apply zl | apply ze); try simp only [zU, reduceIte, Nat.reduceEqDiff, Nat.reduceAdd, reduceCtorEq, Q104])
  refine hM _ _ _ ?_; clear hM M
  refine ok_seq (fun M hM => ok_region rfl ?_)
  repeat ((try subst X); (first | (first | apply zL | apply zH | apply zE); intro X hX | apply zh | apply zl | apply ze); try simp only [zU, reduceIte, Nat.reduceEqDiff, Nat.reduceAdd, reduceCtorEq, Q104])
  refine Inv.call Fx.en157 (index_ok w S a xs v h) ?_
  rintro _ _ ⟨rfl, rfl⟩
  repeat ((try subst X); (first | (first | apply zL | apply zH | apply zE); intro X hX | apply zh | apply zl | apply ze); try simp only [zU, reduceIte, Nat.reduceEqDiff, Nat.reduceAdd, reduceCtorEq, Q104])
  refine hM _ _ _ ?_; clear hM M
  refine ok_ret ?_
  try simp only [zW, zU, reduceIte, Nat.reduceEqDiff, Nat.reduceAdd, reduceCtorEq, Q104]
  rw [← idx_nn]
theorem rdG {w : World} {S : Nat → Prop} {cs : List Value} {g : G} (h : Rd w S cs (encG g)) : ∃ Aa ca Ak ck Ac cc, cs = [.int .i64 g.kind, .int .i64 g.left, .int .i64 g.num, .string g.text, .int .i64 g.form, .slice Aa g.args.length ca, .slice Ak g.kids.length ck, .slice Ac g.cases.length cc, .int .i64 g.pos] ∧
    Rd w S [.slice Aa g.args.length ca] [isD g.args] ∧ Rd w S [.slice Ak g.kids.length ck] [.sl 128 (g.kids.map encG)] ∧ Rd w S [.slice Ac g.cases.length cc] [casesD g.cases] := by
  rw [encG_eq] at h
  match cs, h.len with
  | [a, b, c, d, e, f, u, v, x], _ =>
    obtain ⟨e1, h1⟩ := h.atc
    obtain ⟨e2, h2⟩ := h1.atc
    obtain ⟨e3, h3⟩ := h2.atc
    obtain ⟨e4, h4⟩ := h3.atc
    obtain ⟨e5, h5⟩ := h4.atc
    obtain ⟨h6, h7⟩ := h5.slc
    obtain ⟨h8, h9⟩ := h7.slc
    obtain ⟨h10, h11⟩ := h9.slc
    obtain ⟨e6, -⟩ := h11.atc
    subst e1 e2 e3 e4 e5 e6
    obtain ⟨A1, c1, rfl, -⟩ := h6.hd
    obtain ⟨A2, c2, rfl, -⟩ := h8.hd
    obtain ⟨A3, c3, rfl, -⟩ := h10.hd
    simp only [List.length_map] at h6 h8 h10
    exact ⟨A1, c1, A2, c2, A3, c3, by simp, h6, h8, h10⟩
theorem rdG_mk {w : World} {S : Nat → Prop} {va vk vc : Value} {g : G} (ha : Rd w S [va] [isD g.args]) (hk : Rd w S [vk] [.sl 128 (g.kids.map encG)]) (hc : Rd w S [vc] [casesD g.cases]) : Rd w S [.int .i64 g.kind, .int .i64 g.left, .int .i64 g.num, .string g.text, .int .i64 g.form, va, vk, vc, .int .i64 g.pos] (encG g) := by
  rw [encG_eq]
  exact .at rfl rfl (.at rfl rfl (.at rfl rfl (.at rfl rfl (.at rfl rfl (ha.append (hk.append (hc.append (.at rfl rfl .nil))))))))
theorem mapG_wid (l : List G) : ∀ r ∈ l.map encG, r.length = 9 := by
  intro r hr; obtain ⟨x, -, rfl⟩ := List.mem_map.1 hr; exact encG_len x
-- -- function 53
set_option maxHeartbeats 2000000 in
set_option maxRecDepth 8000 in
theorem has_ok (w : World) (S : Nat → Prop) (cs : List Value) (g : G) (v : Int) (h : Rd w S cs (encG g)) : Rets Tryz.prog 53 [.agg cs.toArray, .int .i64 v] w (fun r w' => r = .bool (ownG g v) ∧ Ext w w') := by
  obtain ⟨Aa, ca, Ak, ck, Ac, cc, rfl, ha, -, -⟩ := rdG h
  refine rets_of_ok Tryz.func53 rfl rfl ?_
  refine ok_seq (fun M hM => ok_region rfl ?_)
  repeat ((try subst X); (first | (first | apply zL | apply zH | apply zE); intro X hX | apply zh | apply zl | apply ze); try simp only [zU, reduceIte, Nat.reduceEqDiff, Nat.reduceAdd, reduceCtorEq, Q53])
  refine Runs.box (fun w1 he1 hs1 hb1 => ?_)
  rw [agg_cells] at hb1
  repeat ((try subst X); (first | (first | apply zL | apply zH | apply zE); intro X hX | apply zh | apply zl | apply ze); try simp only [zU, reduceIte, Nat.reduceEqDiff, Nat.reduceAdd, reduceCtorEq, Q53])
  refine hM _ _ _ ?_; clear hM M
  refine ok_seq (fun M hM => ok_region rfl ?_)
  repeat ((try subst X); (first | (first | apply zL | apply zH | apply zE); intro X hX | apply zh | apply zl | apply ze); try simp only [zU, reduceIte, Nat.reduceEqDiff, Nat.reduceAdd, reduceCtorEq, Q53])
  refine ⟨_, Blk.cell (by assumption) rfl, ?_⟩
  repeat ((try subst X); (first | (first | apply zL | apply zH | apply zE); intro X hX | apply zh | apply zl | apply ze); try simp only [zU, reduceIte, Nat.reduceEqDiff, Nat.reduceAdd, reduceCtorEq, Q53])
  by_cases hl : g.left = v
  · have hd : ownG g v = true := by simp [ownG, hl]
    simp only [hl, decide_true]
    repeat ((try subst X); (first | (first | apply zL | apply zH | apply zE); intro X hX | apply zh | apply zl | apply ze); try simp only [zU, reduceIte, Nat.reduceEqDiff, Nat.reduceAdd, reduceCtorEq, Q53])
    refine ⟨fun h => (by cases h), fun _ => ?_⟩
    repeat ((try subst X); (first | (first | apply zL | apply zH | apply zE); intro X hX | apply zh | apply zl | apply ze); try simp only [zU, reduceIte, Nat.reduceEqDiff, Nat.reduceAdd, reduceCtorEq, Q53])
    refine hM _ _ _ ?_; clear hM M
    refine ok_ret ?_
    try simp only [zW, zU, reduceIte, Nat.reduceEqDiff, Nat.reduceAdd, reduceCtorEq, Q53]
    exact ⟨by rw [hd], he1⟩
  · have hd : ownG g v = g.args.contains v := by simp [ownG, hl]
    simp only [hl, decide_false]
    repeat ((try subst X); (first | (first | apply zL | apply zH | apply zE); intro X hX | apply zh | apply zl | apply ze); try simp only [zU, reduceIte, Nat.reduceEqDiff, Nat.reduceAdd, reduceCtorEq, Q53])
    refine ⟨fun _ => ?_, fun h => (by cases h)⟩
    repeat ((try subst X); (first | (first | apply zL | apply zH | apply zE); intro X hX | apply zh | apply zl | apply ze); try simp only [zU, reduceIte, Nat.reduceEqDiff, Nat.reduceAdd, reduceCtorEq, Q53])
    refine ⟨_, Blk.cell (by assumption) rfl, ?_⟩
    repeat ((try subst X); (first | (first | apply zL | apply zH | apply zE); intro X hX | apply zh | apply zl | apply ze); try simp only [zU, reduceIte, Nat.reduceEqDiff, Nat.reduceAdd, reduceCtorEq, Q53])
    refine Inv.call Fx.en104 (contains_ok w1 S _ g.args v (ha.ext he1)) ?_
    rintro _ _ ⟨rfl, rfl⟩
    repeat ((try subst X); (first | (first | apply zL | apply zH | apply zE); intro X hX | apply zh | apply zl | apply ze); try simp only [zU, reduceIte, Nat.reduceEqDiff, Nat.reduceAdd, reduceCtorEq, Q53])
    refine hM _ _ _ ?_; clear hM M
    refine ok_ret ?_
    try simp only [zW, zU, reduceIte, Nat.reduceEqDiff, Nat.reduceAdd, reduceCtorEq, Q53]
    exact ⟨by rw [hd], he1⟩
end Go.Proofs.YtcpjojaklpgnkaaGreat
/- Chapter 31: goals, visit; a range over the goals of a goal. -/
set_option linter.unusedVariables false
set_option linter.unusedSimpArgs false
namespace Go.Proofs.Vg
mutual
/-- The goals in a goal, with their depth; first itself. -/
def preG : G → Int → List (G × Int)
  | .mk k l n t f a ks c p, d => (.mk k l n t f a ks c p, d) :: preGs ks (d + 1)
def preGs : List G → Int → List (G × Int)
  | [], _ => []
  | g :: gs, d => preG g d ++ preGs gs d
end
theorem preG_eq (g : G) (d : Int) : preG g d = (g, d) :: preGs g.kids (d + 1) := by cases g; simp [preG, G.kids]
mutual
def G.ht : G → Nat
  | .mk _ _ _ _ _ _ ks _ _ => htGs ks + 1
def htGs : List G → Nat
  | [] => 0
  | g :: gs => max g.ht (htGs gs)
end
theorem G.ht_eq (g : G) : g.ht = htGs g.kids + 1 := by cases g; simp [G.ht, G.kids]
theorem htGs_mem : ∀ {l : List G} {k : G}, k ∈ l → k.ht ≤ htGs l
  | g :: gs, k, h => by
    rcases List.mem_cons.1 h with rfl | h
    · simp only [htGs]; omega
    · have := htGs_mem h; simp only [htGs]; omega
structure VS where
  rest : List (G × Int)
  cur : Option (List Value)
  snap : World
end Go.Proofs.Vg
namespace Go.Proofs.YtcpjojaklpgnkaaGreat
open Go Go.Proofs.Vg Go.RowKit
/-- What a visit does with its state. -/
def genV (T : Nat → Prop) (s : VS) (W : World) (s' : VS) (W' : World) : Prop :=
  Ext W W' ∧ s'.rest = s.rest ∧ s'.snap = W' ∧ ∀ cs, s'.cur = some cs → ∃ k d r, s.rest = (k, d) :: r ∧ Rd W' (fun k => ¬ T k) cs (encG k)
def moreV (s : VS) : Prop := ∃ cs k d r, s.cur = some cs ∧ s.rest = (k, d) :: r
def elemV (s : VS) : List Value := [.agg ((s.cur.getD []).toArray), .int .i64 ((s.rest.head?.map (·.2)).getD 0)]
def nxtV (s s' : VS) : Prop := s'.rest = s.rest.tail ∧ s'.cur = none ∧ s'.snap = s.snap
-- -- function 103
set_option maxHeartbeats 4000000 in
set_option maxRecDepth 8000 in
theorem visit_ok {T : Nat → Prop} {J : VS → World → Prop} {Jx : World → Prop} {l : Nat} (hgen : ∀ s W s' W', genV T s W s' W' → J s W → J s' W') (hsn : ∀ s W, J s W → Chg T s.snap W)
    (hT : ∀ s W, J s W → ∀ k, T k → k < W.heap.size)
    (hy : ∀ s W, moreV s → J s W → Vg.Yields Tryz.prog l (elemV s) W (fun b W' => (b = true ∧ ∃ s', nxtV s s' ∧ J s' W') ∨ (b = false ∧ Jx W'))) (g : G) :
    ∀ (w : World) (cs : List Value) (d : Int) (rest : List (G × Int)) (s : VS), J s w → s.rest = preG g d ++ rest → Rd w (fun k => ¬ T k) cs (encG g) → 0 ≤ d → d + g.ht ≤ 1099511627776 →
      Rets Tryz.prog 103 [.agg cs.toArray, .int .i64 d, .func (.yield l) #[] #[]] w (fun v W' => (v = .bool true ∧ Chg T w W' ∧ ∃ s', s'.rest = rest ∧ J s' W') ∨ (v = .bool false ∧ Jx W')) := by
  induction g using G.ind with
  | h g ih =>
  intro w cs d rest s hJ hs h hd hh
  have hcs := h.len
  have h0 := h
  obtain ⟨Aa, ca, Ak, ck, Ac, cc, rfl, -, hk, -⟩ := rdG h
  obtain ⟨_, _, -, hkl, hkb, hkc⟩ := hk.hd
  simp only [List.length_map] at hkl hkb hkc
  rw [G.ht_eq] at hh
  refine rets_of_ok Tryz.func103 rfl rfl ?_
  refine ok_seq (fun M hM => ok_region rfl ?_)
  repeat ((try subst X); (first | (first | apply zL | apply zH | apply zE); intro X hX | apply zh | apply zl | apply ze); try simp only [zU, reduceIte, Nat.reduceEqDiff, Nat.reduceAdd, reduceCtorEq, Q103])
  refine Runs.box (fun w1 he1 hs1 hb1 => ?_)
  generalize hB1 : w.heap.size = B1 at *
  rw [agg_cells] at hb1
  repeat ((try subst X); (first | (first | apply zL | apply zH | apply zE); intro X hX | apply zh | apply zl | apply ze); try simp only [zU, reduceIte, Nat.reduceEqDiff, Nat.reduceAdd, reduceCtorEq, Q103])
  refine hM _ _ _ ?_; clear hM M
  have hTB : ∀ k, T k → k < B1 := fun k hk => hB1 ▸ hT s w hJ k hk
  refine ok_seq (fun M hM => ok_seq (fun M2 hM2 => ok_region rfl ?_))
  repeat ((try subst X); (first | (first | apply zL | apply zH | apply zE); intro X hX | apply zh | apply zl | apply ze); try simp only [zU, reduceIte, Nat.reduceEqDiff, Nat.reduceAdd, reduceCtorEq, Q103])
  refine ⟨_, rfl, Blk.all (by assumption), ?_⟩
  repeat ((try subst X); (first | (first | apply zL | apply zH | apply zE); intro X hX | apply zh | apply zl | apply ze); try simp only [zU, reduceIte, Nat.reduceEqDiff, Nat.reduceAdd, reduceCtorEq, Q103])
  have hJ1 : J ⟨s.rest, some _, w1⟩ w1 := hgen s w ⟨s.rest, some _, w1⟩ w1 ⟨he1, rfl, rfl, fun cs' hcs' => ⟨g, d, preGs g.kids (d + 1) ++ rest, by rw [hs, preG_eq]; rfl, by cases hcs'; exact h0.ext he1⟩⟩ hJ
  have hel : elemV ⟨s.rest, some [.int .i64 g.kind, .int .i64 g.left, .int .i64 g.num, .string g.text, .int .i64 g.form, .slice Aa g.args.length ca, .slice Ak g.kids.length ck, .slice Ac g.cases.length cc, .int .i64 g.pos], w1⟩ = [.agg [.int .i64 g.kind, .int .i64 g.left, .int .i64 g.num, .string g.text, .int .i64 g.form, .slice Aa g.args.length ca, .slice Ak g.kids.length ck, .slice Ac g.cases.length cc, .int .i64 g.pos].toArray, .int .i64 d] := by
    simp [elemV, hs, preG_eq]
  have hyy := hy _ w1 ⟨_, g, d, _, rfl, by show s.rest = _; rw [hs, preG_eq]; rfl⟩ hJ1
  rw [hel] at hyy
  refine Inv.yield hyy ?_
  rintro b W2 (⟨rfl, s2, ⟨hr2, hc2, hsn2⟩, hJ2⟩ | ⟨rfl, hx⟩)
  · have hc12 : Chg T w1 W2 := by have := hsn s2 W2 hJ2; rw [hsn2] at this; exact this
    have hz12 := hc12.size
    replace hb1 := hb1.chg hc12 (fun h => by have := hTB _ h; omega)
    have hkW : Rd W2 (fun k => ¬ T k) [.slice Ak g.kids.length ck] [.sl 128 (g.kids.map encG)] := (hk.ext he1).chg hc12 (fun _ h _ => h)
    have hc02 : Chg T w W2 := (he1.chg T).trans hc12
    have hr2' : s2.rest = preGs g.kids (d + 1) ++ rest := by rw [hr2]; show s.rest.tail = _; rw [hs, preG_eq]; rfl
    clear hr2
    repeat ((try subst X); (first | (first | apply zL | apply zH | apply zE); intro X hX | apply zh | apply zl | apply ze); try simp only [zU, reduceIte, Nat.reduceEqDiff, Nat.reduceAdd, reduceCtorEq, Q103])
    refine hM2 _ _ _ ?_; clear hM2 M2
    refine ok_cond rfl (fun h => by cases h) (fun _ => ok_skip ?_)
    refine hM _ _ _ ?_; clear hM M
    refine ok_seq (fun M0 hM0 => ?_)
    refine ok_seq (fun M hM => ok_region rfl ?_)
    repeat ((try subst X); (first | (first | apply zL | apply zH | apply zE); intro X hX | apply zh | apply zl | apply ze); try simp only [zU, reduceIte, Nat.reduceEqDiff, Nat.reduceAdd, reduceCtorEq, Q103])
    refine ⟨_, Blk.cell (by assumption) rfl, ?_⟩
    repeat ((try subst X); (first | (first | apply zL | apply zH | apply zE); intro X hX | apply zh | apply zl | apply ze); try simp only [zU, reduceIte, Nat.reduceEqDiff, Nat.reduceAdd, reduceCtorEq, Q103])
    refine hM _ _ _ ?_; clear hM M
    refine ok_for [(1, .int .i64 d), (2, .func (.yield l) #[] #[]), (15, .slice Ak g.kids.length ck)] (fun i W => Chg T w W ∧ Chg T W2 W ∧ ∃ s', s'.rest = preGs (g.kids.drop i) (d + 1) ++ rest ∧ J s' W) rfl (by simp [sub, Env.get]) rfl (by simp [sub, Env.get]) hkl ⟨hc02, Chg.refl _ _, s2, hr2', hJ2⟩ ?_ ?_
    · rintro i W hi ⟨hcW, hc2W, s', hs', hJ'⟩
      have hdr : g.kids.drop i = g.kids[i] :: g.kids.drop (i + 1) := List.drop_eq_getElem_cons hi
      obtain ⟨k, o, r, hA, hSk, hkl', hcell, hr⟩ := (hkW.chg hc2W (fun _ h _ => h)).row (j := i) (row := encG g.kids[i]) (by simp [hi])
      subst hA
      rw [encG_len] at hcell
      have hrl : r.length = 9 := by rw [hr.len, encG_len]
      refine ok_seq (fun M hM => ok_region rfl ?_)
      repeat ((try subst X); (first | (first | apply zL | apply zH | apply zE); intro X hX | apply zh | apply zl | apply ze); try simp only [zU, reduceIte, Nat.reduceEqDiff, Nat.reduceAdd, reduceCtorEq, Q103])
      refine ⟨by omega, by omega, ?_⟩
      repeat ((try subst X); (first | (first | apply zL | apply zH | apply zE); intro X hX | apply zh | apply zl | apply ze); try simp only [zU, reduceIte, Nat.reduceEqDiff, Nat.reduceAdd, reduceCtorEq, Q103])
      refine ⟨r, hrl, by simpa [add_at] using hcell, ?_⟩
      repeat ((try subst X); (first | (first | apply zL | apply zH | apply zE); intro X hX | apply zh | apply zl | apply ze); try simp only [zU, reduceIte, Nat.reduceEqDiff, Nat.reduceAdd, reduceCtorEq, Q103])
      refine Runs.alloc Fx.zi37 (fun w4 he4 hs4 hb4 => ?_)
      generalize hB4 : W.heap.size = B4 at *
      repeat ((try subst X); (first | (first | apply zL | apply zH | apply zE); intro X hX | apply zh | apply zl | apply ze); try simp only [zU, reduceIte, Nat.reduceEqDiff, Nat.reduceAdd, reduceCtorEq, Q103])
      refine Runs.store hb4 Fx.zi37 (by simpa [Value.cells] using hrl) (fun u hu => (hr.one u (by simpa [Value.cells] using hu)).1) (by simp [Value.cells]) (fun w5 hc5 hs5 hb5 => ?_)
      rw [agg_cells, splice_all _ _ (by simpa [Value.cells] using hrl)] at hb5
      repeat ((try subst X); (first | (first | apply zL | apply zH | apply zE); intro X hX | apply zh | apply zl | apply ze); try simp only [zU, reduceIte, Nat.reduceEqDiff, Nat.reduceAdd, reduceCtorEq, Q103])
      refine hM _ _ _ ?_; clear hM M
      have he45 : Ext W w5 := he4.chg_trans hc5 (by intro k hk; omega)
      have hJ5 := hgen s' W ⟨s'.rest, none, w5⟩ w5 ⟨he45, rfl, rfl, fun cs h => by cases h⟩ hJ'
      refine ok_seq (fun M hM => ok_region rfl ?_)
      repeat ((try subst X); (first | (first | apply zL | apply zH | apply zE); intro X hX | apply zh | apply zl | apply ze); try simp only [zU, reduceIte, Nat.reduceEqDiff, Nat.reduceAdd, reduceCtorEq, Q103])
      refine ⟨r, hrl, hb5.all, ?_⟩
      repeat ((try subst X); (first | (first | apply zL | apply zH | apply zE); intro X hX | apply zh | apply zl | apply ze); try simp only [zU, reduceIte, Nat.reduceEqDiff, Nat.reduceAdd, reduceCtorEq, Q103])
      refine ⟨by simp only [inI]; omega, ?_⟩
      repeat ((try subst X); (first | (first | apply zL | apply zH | apply zE); intro X hX | apply zh | apply zl | apply ze); try simp only [zU, reduceIte, Nat.reduceEqDiff, Nat.reduceAdd, reduceCtorEq, Q103])
      have hht := htGs_mem (List.getElem_mem hi)
      refine Inv.call Fx.en103 (ih _ (List.getElem_mem hi) w5 r (d + 1) (preGs (g.kids.drop (i + 1)) (d + 1) ++ rest) _ hJ5 (by show s'.rest = _; rw [hs', hdr]; simp [preGs]) (hr.ext he45) (by omega) (by omega)) ?_
      rintro v W6 (⟨rfl, hc56, s6, hs6, hJ6⟩ | ⟨rfl, hx⟩)
      · repeat ((try subst X); (first | (first | apply zL | apply zH | apply zE); intro X hX | apply zh | apply zl | apply ze); try simp only [zU, reduceIte, Nat.reduceEqDiff, Nat.reduceAdd, reduceCtorEq, Q103])
        refine hM _ _ _ ?_; clear hM M
        refine ok_cond rfl (fun h => by cases h) (fun _ => ok_skip ?_)
        try simp only [zW, zU, reduceIte, Nat.reduceEqDiff, Nat.reduceAdd, reduceCtorEq, Q103]
        have hcW6 : Chg T W W6 := (he45.chg T).trans hc56
        exact ⟨by simp [sub, Env.get], hcW.trans hcW6, hc2W.trans hcW6, s6, hs6, hJ6⟩
      · repeat ((try subst X); (first | (first | apply zL | apply zH | apply zE); intro X hX | apply zh | apply zl | apply ze); try simp only [zU, reduceIte, Nat.reduceEqDiff, Nat.reduceAdd, reduceCtorEq, Q103])
        refine hM _ _ _ ?_; clear hM M
        refine ok_cond rfl (fun _ => ?_) (fun h => by cases h)
        refine ok_seq (fun M hM => ok_region rfl ?_); repeat ((try subst X); (first | (first | apply zL | apply zH | apply zE); intro X hX | apply zh | apply zl | apply ze); try simp only [zU, reduceIte, Nat.reduceEqDiff, Nat.reduceAdd, reduceCtorEq, Q103])
        refine hM _ _ _ ?_; clear hM M
        refine ok_ret ?_
        try simp only [zW, zU, reduceIte, Nat.reduceEqDiff, Nat.reduceAdd, reduceCtorEq, Q103]
        exact .inr hx
    · rintro W ⟨hcW, -, s', hs', hJ'⟩
      refine hM0 _ _ _ ?_; clear hM0 M0
      refine ok_seq (fun M hM => ok_region rfl ?_); repeat ((try subst X); (first | (first | apply zL | apply zH | apply zE); intro X hX | apply zh | apply zl | apply ze); try simp only [zU, reduceIte, Nat.reduceEqDiff, Nat.reduceAdd, reduceCtorEq, Q103])
      refine hM _ _ _ ?_; clear hM M
      refine ok_ret ?_
      try simp only [zW, zU, reduceIte, Nat.reduceEqDiff, Nat.reduceAdd, reduceCtorEq, Q103]
      exact .inl ⟨hcW, s', by simpa [preGs] using hs', hJ'⟩
  · repeat ((try subst X); (first | (first | apply zL | apply zH | apply zE); intro X hX | apply zh | apply zl | apply ze); try simp only [zU, reduceIte, Nat.reduceEqDiff, Nat.reduceAdd, reduceCtorEq, Q103])
    refine hM2 _ _ _ ?_; clear hM2 M2
    refine ok_cond rfl (fun _ => ?_) (fun h => by cases h)
    refine ok_seq (fun M hM => ok_region rfl ?_); repeat ((try subst X); (first | (first | apply zL | apply zH | apply zE); intro X hX | apply zh | apply zl | apply ze); try simp only [zU, reduceIte, Nat.reduceEqDiff, Nat.reduceAdd, reduceCtorEq, Q103])
    refine hM _ _ _ ?_; clear hM M
    refine ok_ret ?_
    try simp only [zW, zU, reduceIte, Nat.reduceEqDiff, Nat.reduceAdd, reduceCtorEq, Q103]
    exact .inr hx
-- -- function 102
set_option maxHeartbeats 2000000 in
set_option maxRecDepth 8000 in
theorem goals1_ok {T : Nat → Prop} {J : VS → World → Prop} {Jx : World → Prop} {l B : Nat} (hgen : ∀ s W s' W', genV T s W s' W' → J s W → J s' W') (hsn : ∀ s W, J s W → Chg T s.snap W)
    (hT : ∀ s W, J s W → ∀ k, T k → k < W.heap.size)
    (hy : ∀ s W, moreV s → J s W → Vg.Yields Tryz.prog l (elemV s) W (fun b W' => (b = true ∧ ∃ s', nxtV s s' ∧ J s' W') ∨ (b = false ∧ Jx W'))) (g : G)
    (w : World) (cs : List Value) (s : VS) (hJ : J s w) (hs : s.rest = preG g 1) (hB : Blk w B cs 37) (h : Rd w (fun k => ¬ T k) cs (encG g)) (hh : g.ht ≤ 549755813888) :
      Rets Tryz.prog 102 [.func (.yield l) #[] #[], .pointer (some ⟨B, 0, none⟩)] w (fun v W' => (∃ s', s'.rest = [] ∧ J s' W') ∨ Jx W') := by
  have hcl : cs.length = 9 := by rw [h.len, encG_len]
  refine rets_of_ok Tryz.func102 rfl rfl ?_
  refine ok_region rfl ?_
  repeat ((try subst X); (first | (first | apply zL | apply zH | apply zE); intro X hX | apply zh | apply zl | apply ze); try simp only [zU, reduceIte, Nat.reduceEqDiff, Nat.reduceAdd, reduceCtorEq, Q102])
  refine ⟨cs, hcl, hB.all, ?_⟩
  repeat ((try subst X); (first | (first | apply zL | apply zH | apply zE); intro X hX | apply zh | apply zl | apply ze); try simp only [zU, reduceIte, Nat.reduceEqDiff, Nat.reduceAdd, reduceCtorEq, Q102])
  refine Inv.call Fx.en103 (visit_ok hgen hsn hT hy g w cs 1 [] s hJ (by simpa using hs) h (by omega) (by omega)) ?_
  rintro v W (⟨-, -, s', hs', hJ'⟩ | ⟨-, hx⟩)
  · repeat ((try subst X); (first | (first | apply zL | apply zH | apply zE); intro X hX | apply zh | apply zl | apply ze); try simp only [zU, reduceIte, Nat.reduceEqDiff, Nat.reduceAdd, reduceCtorEq, Q102])
    try simp only [zW, zU, reduceIte, Nat.reduceEqDiff, Nat.reduceAdd, reduceCtorEq, Q102]
    exact .inl ⟨s', hs', hJ'⟩
  · repeat ((try subst X); (first | (first | apply zL | apply zH | apply zE); intro X hX | apply zh | apply zl | apply ze); try simp only [zU, reduceIte, Nat.reduceEqDiff, Nat.reduceAdd, reduceCtorEq, Q102])
    try simp only [zW, zU, reduceIte, Nat.reduceEqDiff, Nat.reduceAdd, reduceCtorEq, Q102]
    exact .inr hx
mutual
theorem preG_dep : ∀ (g : G) (d : Int) (e : G × Int), e ∈ preG g d → d ≤ e.2 ∧ e.2 ≤ d + g.ht
  | .mk k l n t f a ks c p, d, e, h => by
    simp only [preG, List.mem_cons] at h
    simp only [G.ht]
    rcases h with rfl | h
    · simp; omega
    · have := preGs_dep ks (d + 1) e h; omega
theorem preGs_dep : ∀ (l : List G) (d : Int) (e : G × Int), e ∈ preGs l d → d ≤ e.2 ∧ e.2 ≤ d + htGs l
  | [], d, e, h => by simp [preGs] at h
  | g :: gs, d, e, h => by
    simp only [preGs, List.mem_append] at h
    simp only [htGs]
    rcases h with h | h
    · have := preG_dep g d e h; omega
    · have := preGs_dep gs d e h; omega
end
theorem ok_goals {N : Nat} {K : Env} {ds : List Deferred} {w : World} {Φ : Post} {gop : Operand} {p1 p2 : Nat} {assign body : Code} {B : Nat} {cs0 : List Value} {gl : G} (T : Nat → Prop) (I : List (G × Int) → World → Prop) (Jx : Code → World → Prop)
    (hg : ev K gop = some (.func (.func 102) #[] [Value.pointer (some ⟨B, 0, none⟩)].toArray)) (hB : Blk w B cs0 37) (hr : Rd w (fun k => ¬ T k) cs0 (encG gl)) (hT : ∀ k, T k → k < w.heap.size ∧ k ≠ B) (hps : p1 < N ∧ p2 < N) (hht : gl.ht ≤ 549755813888)
    (hI : ∀ l W W', Chg (fun k => w.heap.size ≤ k) W W' → I l W → I l W') (hIx : ∀ c W W', Chg (fun k => w.heap.size ≤ k) W W' → Jx c W → Jx c W') (h0 : I (preG gl 1) w)
    (hround : ∀ k d rest W cs, I ((k, d) :: rest) W → Chg T w W → w.heap.size + 1 < W.heap.size → Rd W (fun k => ¬ T k ∧ k ≠ w.heap.size ∧ k ≠ w.heap.size + 1) cs (encG k) → 0 ≤ d → d ≤ 1099511627776 →
      ok Tryz.prog (some (w.heap.size + 1)) N assign ((p2, .int .i64 d) :: (p1, .agg cs.toArray) :: K) [] W (fun e K1 ds1 W1 => e = .normal ∧ Ext W W1 ∧
        ∀ W2, Off w.heap.size W1 W2 → ok Tryz.prog (some (w.heap.size + 1)) N body K1 ds1 W2 (fun e K3 ds3 W3 => Chg T W2 W3 ∧ match e with
          | .normal => I rest W3
          | .ret => Jx .ret W3
          | .exit id => Jx (.exit id) W3
          | _ => False)))
    (hdone : ∀ W, I [] W → Chg T w W → W.heap[w.heap.size]? = some (.deferred (some [])) → Φ .normal K (markOf w.heap.size :: ds) W)
    (hret : ∀ W, Jx .ret W → Chg T w W → W.heap[w.heap.size]? = some (.deferred (some [])) → Φ .ret K (markOf w.heap.size :: ds) W)
    (hexit : ∀ id W, Jx (.exit id) W → Chg T w W → W.heap[w.heap.size]? = some (.deferred (some [])) → Φ (.exit id) K (markOf w.heap.size :: ds) W) :
    ok Tryz.prog none N (.rangeFunc gop #[p1, p2] assign body) K ds w Φ := by
  generalize hn : w.heap.size = n at *
  let T' : Nat → Prop := fun k => T k ∨ k = n ∨ k = n + 1
  have offC : ∀ {W W' : World}, Off n W W' → Chg (fun k => n ≤ k) W W' := fun h => ⟨h.os, h.tape, h.output, by rw [h.size]; exact Nat.le_refl _, fun k _ hk => h.block k (by omega) (by omega)⟩
  have offT : ∀ {W W' : World}, Off n W W' → Chg T' W W' := fun h => ⟨h.os, h.tape, h.output, by rw [h.size]; exact Nat.le_refl _, fun k _ hk => h.block k (fun e => hk (.inr (.inl e))) (fun e => hk (.inr (.inr e)))⟩
  have newC : ∀ {W W' : World}, Chg T w W → Chg (fun k => n ≤ k) W W' → Chg T w W' := fun {W W'} h h' => ⟨h'.os.trans h.os, h'.tape.trans h.tape, h'.output.trans h.output, Nat.le_trans h.size h'.size, fun k hk hk' => (h'.block k (Nat.lt_of_lt_of_le hk h.size) (by omega)).trans (h.block k hk hk')⟩
  let J : VS → World → Prop := fun s W => I s.rest W ∧ Chg T w W ∧ Chg T' s.snap W ∧ n + 1 < W.heap.size ∧ (∀ e ∈ s.rest, 0 ≤ e.2 ∧ e.2 ≤ 1099511627776) ∧ ∀ cs, s.cur = some cs → ∃ k d r, s.rest = (k, d) :: r ∧ Rd W (fun k => ¬ T' k) cs (encG k)
  have hgen : ∀ s W s' W', genV T' s W s' W' → J s W → J s' W' := fun s W s' W' ⟨h1, h2, h3, h4⟩ ⟨j1, j2, j3, j4, j5, j6⟩ =>
    ⟨by rw [h2]; exact hI _ _ _ (h1.chg _) j1, j2.trans (h1.chg _), by rw [h3]; exact Chg.refl _ _, by have := h1.size; omega, by rw [h2]; exact j5, fun cs hcs => by
      obtain ⟨k, d, r, e1, e2⟩ := h4 cs hcs
      exact ⟨k, d, r, by rw [h2]; exact e1, e2⟩⟩
  have h5 : #[p1, p2] = [p1, p2].toArray := rfl
  rw [h5]
  refine ok_rangeG J (fun c W => Jx c W ∧ Chg T w W) ⟨preG gl 1, none, w⟩ elemV moreV (fun s => s.rest = []) nxtV (genV T') hg Fx.en102 (fun p hp => by simp at hp; rcases hp with rfl | rfl; exact hps.1; exact hps.2) (fun s _ => rfl) ?_ ?_ ?_ ?_ ?_ ?_ ?_ ?_ ?_
  · rw [hn]
    rintro s W W' ho ⟨j1, j2, j3, j4, j5, j6⟩
    refine ⟨hI _ _ _ (offC ho) j1, newC j2 (offC ho), j3.trans (offT ho), by rw [ho.size]; exact j4, j5, fun cs hcs => ?_⟩
    obtain ⟨k, d, r, e1, e2⟩ := j6 cs hcs
    exact ⟨k, d, r, e1, e2.chg (offT ho) (fun _ h _ => h)⟩
  · rw [hn]
    rintro c W W' ho ⟨j1, j2⟩
    exact ⟨hIx _ _ _ (offC ho) j1, newC j2 (offC ho)⟩
  · rw [hn]
    intro s W s' W' hw hg' hj
    exact ⟨Keep.ext hg'.1 hw, hgen s W s' W' hg' hj⟩
  · rw [hn]
    intro W he hs
    refine ⟨hI _ _ _ (he.chg _) h0, he.chg _, he.chg _, by omega, fun e he' => ?_, fun cs h => by cases h⟩
    have := preG_dep gl 1 e he'
    omega
  · rw [hn]
    rintro ⟨srest, scur, ssnap⟩ W ⟨cs, k, d, r, hc, hr'⟩ ⟨j1, j2, j3, j4, j5, j6⟩ hW
    simp only at hc hr' j1 j3 j5 j6
    subst hr' hc
    obtain ⟨k', d', r', e1, e2⟩ := j6 cs rfl
    cases e1
    have hd := j5 (k, d) List.mem_cons_self
    have := hround k d r W cs j1 j2 hW (e2.mono fun k hk _ => ⟨fun h => hk (.inl h), fun h => hk (.inr (.inl h)), fun h => hk (.inr (.inr h))⟩) hd.1 hd.2
    simp only [elemV, bindE, List.head?_cons, Option.map_some, Option.getD_some]
    refine ok_mono this ?_
    rintro e K1 ds1 W1 ⟨rfl, he1, hbody⟩
    refine ⟨rfl, Keep.ext he1 hW, fun W2 ho => ok_mono (hbody W2 ho) ?_⟩
    rintro e K3 ds3 W3 ⟨hc3, hp⟩
    have hz1 := he1.size
    have hz2 := ho.size
    have hz3 := hc3.size
    have hkeep : Keep n W2 W3 := Keep.chg hc3 (by omega) (fun h => by have := (hT _ h).1; omega) (fun h => by have := (hT _ h).1; omega)
    have hw3 : Chg T w W3 := (newC (j2.trans (he1.chg _)) (offC ho)).trans hc3
    refine ⟨hkeep, ?_⟩
    cases e <;> simp only at hp ⊢
    · exact ⟨⟨r, none, ssnap⟩, ⟨rfl, rfl, rfl⟩, hp, hw3, j3.trans ((he1.chg _).trans ((offT ho).trans (hc3.mono fun k _ h => .inl h))), by omega, fun e he => j5 e (List.mem_cons_of_mem _ he), fun cs h => by cases h⟩
    · exact ⟨hp, hw3⟩
    · exact ⟨hp, hw3⟩
  · rw [hn]
    intro J' Jx' W hgen' hJJ hJ0 hy
    have hJ := (hJJ _ _ hJ0).1
    have hBW : Blk W B cs0 37 := hB.chg hJ.2.1 (fun h => (hT _ h).2 rfl)
    have hlB := hB.lt
    exact goals1_ok hgen' (fun s W h => (hJJ s W h).1.2.2.1) (fun s W h k hk => by
      have h1 := (hJJ s W h).1
      rcases hk with hk | rfl | rfl
      · have := (hT k hk).1; have := h1.2.2.2.1; omega
      · have := h1.2.2.2.1; omega
      · exact h1.2.2.2.1) hy gl W cs0 _ hJ0 rfl hBW ((hr.mono (S' := fun k => ¬ T' k) (fun k hk hl h => by
        rcases h with h | h | h
        · exact hk h
        · omega
        · omega)).chg hJ.2.1 (fun k hk _ h => hk (.inl h))) hht
  · rw [hn]; rintro s W hf hj hd; have h1 : I s.rest W := hj.1; rw [hf] at h1; exact hdone W h1 hj.2.1 hd
  · rw [hn]; rintro W ⟨h1, h2⟩ hd; exact hret W h1 h2 hd
  · rw [hn]; rintro id W ⟨h1, h2⟩ hd; exact hexit id W h1 h2 hd
end Go.Proofs.YtcpjojaklpgnkaaGreat
