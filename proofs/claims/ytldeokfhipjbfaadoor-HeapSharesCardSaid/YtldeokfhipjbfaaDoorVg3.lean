import Derived.Test.YtldeokfhipjbfaaDoorVg2
set_option linter.unusedVariables false
set_option linter.unusedSimpArgs false
namespace Go.Proofs.Vg
open Go Go.RowKit

section
variable {ty : TypeId} {P : Program} {ρ : Option Nat} {N : Nat} {K : Env} {ds : List Deferred} {w : World} {a : Act} {o : Oper} {M : Act → World → Prop} {Q : Exit → Act → World → Prop}

theorem wpIn_val {v : Value} {w' : World} (hd : ∀ c, o.op ≠ .defer c) (h : (execOp a.eval o).run P w = .ok (.value v) w') (hn : M (a.put o.dst v) w') : o.wpIn (fence ρ) 0 P a w M Q := by
  refine ⟨fun _ _ => trivial, ?_⟩
  rw [Oper.semAt_eq _ _ _ hd, h]
  exact hn
theorem wpIn_skp {w' : World} (hd : ∀ c, o.op ≠ .defer c) (h : (execOp a.eval o).run P w = .ok .skip w') (hn : M (a.put o.dst undef) w') : o.wpIn (fence ρ) 0 P a w M Q := by
  refine ⟨fun _ _ => trivial, ?_⟩
  rw [Oper.semAt_eq _ _ _ hd, h]
  exact hn

theorem evs_map (ha : Kn K N ds a) : ∀ (xs : List Operand) (l : List Value), evs K xs = some l → xs.map a.eval = l
  | [], l, h => by simp [evs] at h; simp [h]
  | x :: r, l, h => by
    simp only [evs] at h
    split at h
    · rename_i v m hv hm
      cases h
      simp [ev_eval ha hv, evs_map ha r m hm]
    · cases h
theorem evp_map (ha : Kn K N ds a) : ∀ (xs : List (Nat × Operand)) (l : List (Nat × Value)), evp K xs = some l → (xs.map fun (i, x) => (i, a.eval x)) = l
  | [], l, h => by simp [evp] at h; simp [h]
  | (i, x) :: r, l, h => by
    simp only [evp] at h
    split at h
    · rename_i v m hv hm
      cases h
      simp only [List.map_cons, ev_eval ha hv, evp_map ha r m hm]
    · cases h
theorem evo_map (ha : Kn K N ds a) (x : Option Operand) (l : Option Value) (h : evo K x = some l) : x.map a.eval = l := by
  cases x with
  | none => simp [evo] at h; simp [← h]
  | some x =>
    simp only [evo] at h
    split at h
    · rename_i v hv
      cases h
      simp [ev_eval ha hv]
    · cases h
theorem evs_arr (ha : Kn K N ds a) (xs : Array Operand) (l : List Value) (h : evs K xs.toList = some l) : xs.map a.eval = l.toArray := by
  have := evs_map ha _ _ h
  apply Array.ext'
  simpa using this

theorem decide_toList (x y : ByteArray) : (x.toList == y.toList) = decide (x = y) := by
  have hl : ∀ s : ByteArray, s.toList = s.data.toList := fun s => by rw [ByteArray.toList_eq]
  rw [hl, hl]
  by_cases h : x = y
  · subst h; simp
  · have : x.data.toList ≠ y.data.toList := fun e => h (by
      cases x; cases y; simp at e; simp [e])
    simp [h]
    exact fun e => this (by rw [e])

theorem binV_run {t : TypeId} {op : BinOp} {x y : Operand} {u v r : Value} {ob : Prop} (h : binV P t op u v = some (ob, r)) (hob : ob) (w : World) :
    (do eqGuard op t x y u v; binOp op t u v : Sem Value).run P w = .ok r w := by
  unfold binV at h
  split at h <;> first | (cases h; done) | skip
  all_goals
    simp only [Option.some.injEq, Prod.mk.injEq] at h
    obtain ⟨rfl, rfl⟩ := h
  all_goals first
    | (obtain ⟨rfl, hi⟩ := hob; simp [eqGuard, binOp, Op.intArith, wrap_in hi]; done)
    | (subst hob; simp [eqGuard, binOp, Op.intCmp]; done)
    | (simp [eqGuard, binOp, Op.stringOp, decide_toList]; done)
    | (simp [eqGuard, binOp, run_equal_bool _ _ _ _ hob]; done)
    | skip
  · subst hob; simp [eqGuard, binOp, Op.intCmp]; rfl
  · subst hob; simp [eqGuard, binOp, Op.intCmp]; rfl
  · simp [eqGuard, binOp, run_equal_bool _ _ _ _ hob]; rename_i a b; cases a <;> cases b <;> rfl
  · simp [eqGuard, binOp, run_equal_bool _ _ _ _ hob]; rename_i a b; cases a <;> cases b <;> rfl

theorem load_run {t : Nat} {b : Addr} {v : Value} (h : aggN P t = some none) (hc : w.cell? b = some v) : (loadVar t b).run P w = .ok v w := by
  unfold aggN at h
  split at h <;> first | (cases h; done) | skip
  rename_i i d hn1 hn2 hi hu
  have : (isAgg t).run P w = .ok false w := by
    simp only [isAgg, Sem.run_bind, run_underlying hu, Result.andThen_ok]
    rfl
  simp [loadVar, this, load, Sem.run, hc]
theorem loadAgg_run {t n : Nat} {b : Addr} {cs : List Value} (h : aggN P t = some (some n)) (hl : cs.length = n) (hc : cellsAt w b cs) : (loadVar t b).run P w = .ok (.agg cs.toArray) w := by
  unfold aggN at h
  have key : ∀ (i : TypeInfo) (d : TypeDesc), P.info? t = some i → P.underlying t = some d → ((∃ fs, d = .struct fs) ∨ (∃ n e, d = .array n e)) → i.size = n → (loadVar t b).run P w = .ok (.agg cs.toArray) w := by
    intro i d hi hu hd hs
    have : (isAgg t).run P w = .ok true w := by
      simp only [isAgg, Sem.run_bind, run_underlying hu, Result.andThen_ok]
      rcases hd with ⟨fs, rfl⟩ | ⟨n, e, rfl⟩ <;> rfl
    have hz : (sizeOf t).run P w = .ok n w := by simp [sizeOf, typeInfo, hi, hs]
    have hlc := run_loadCells_list (P := P) (w := w) b cs (fun j v hj => hc j v hj)
    rw [hl] at hlc
    simp [loadVar, this, hz, hlc]
  split at h <;> first | (cases h; done) | skip
  · rename_i i fs hi hu; cases h; exact key i _ hi hu (.inl ⟨_, rfl⟩) rfl
  · rename_i i m e hi hu; cases h; exact key i _ hi hu (.inr ⟨_, _, rfl⟩) rfl

theorem fieldOff_run {s f off : Nat} (h : fieldOff P s f = some off) (b : Addr) (w : World) : (Instr.fieldAt s (.pointer (some b)) f).run P w = .ok (.pointer (some (b.add off))) w := by
  unfold fieldOff at h
  split at h
  · rename_i fs hu
    split at h
    · rename_i fd hf
      split at h
      · cases h
      · rename_i hz
        cases h
        cases hi : P.info? fd.type with
        | none => simp [hi] at hz
        | some i =>
          simp [hi, Program.cellsOf] at hz
          simp [Instr.fieldAt, run_underlying hu, hf, Instr.sureAddr, fieldPlace, sizeOf, typeInfo, hi, hz]
    · cases h
  · cases h
theorem indexSlice_run {t sz len cap : Nat} {b : Addr} {k : IntKind} {j : Int} (h : elemSize P t = some sz) (h0 : 0 ≤ j) (h1 : j < (len : Int)) (w : World) :
    (Instr.indexAt t (.slice (some b) len cap) (.int k j)).run P w = .ok (.pointer (some (b.add (j.toNat * sz)))) w := by
  unfold elemSize at h
  split at h
  · rename_i e hu
    cases hi : P.info? e with
    | none => simp [hi] at h
    | some i =>
      simp [hi] at h
      simp [Instr.indexAt, asIntOf, run_underlying hu, h0, h1, sizeOf, typeInfo, hi, h]
  · cases h
theorem indexArr_run {t n sz : Nat} {b : Addr} {k : IntKind} {j : Int} (h : arrInfo P t = some (n, sz)) (h0 : 0 ≤ j) (h1 : j < (n : Int)) (w : World) :
    (Instr.indexAt t (.pointer (some b)) (.int k j)).run P w = .ok (.pointer (some (b.add (j.toNat * sz)))) w := by
  unfold arrInfo at h
  split at h
  · rename_i m e hu
    cases hi : P.info? e with
    | none => simp [hi] at h
    | some i =>
      simp [hi] at h
      obtain ⟨rfl, h⟩ := h
      simp [Instr.indexAt, asIntOf, run_underlying hu, h0, h1, sizeOf, typeInfo, hi, h, Instr.sureAddr]
  · cases h
theorem isSlice_run {t : Nat} (h : isSlice P t = true) {b : Option Addr} {n c : Nat} (w : World) : (Builtin.len_ #[t] ty #[.slice b n c]).run P w = .ok (.int .i64 n) w := by
  unfold isSlice at h
  split at h
  · rename_i e hu
    simp [Builtin.len_, run_underlying hu, goInt]
  · cases h
theorem isString_run {t : Nat} (h : isString P t = true) {s : ByteArray} (w : World) : (Builtin.len_ #[t] ty #[.string s]).run P w = .ok (.int .i64 s.size) w := by
  unfold isString at h
  split at h
  · rename_i hu
    simp [Builtin.len_, run_underlying hu, goInt]
  · cases h

theorem runs_value {α : Type} {s : Sem α} {nx : α → World → Prop} (f : α → Value) (hd : ∀ c, o.op ≠ .defer c) (he : execOp a.eval o = (do let v ← s; pure (.value (f v)) : Sem Next)) (h : Runs P s w nx)
    (hn : ∀ v w', nx v w' → M (a.put o.dst (f v)) w') : o.wpIn (fence ρ) 0 P a w M Q := by
  obtain ⟨v, w', hr, hx⟩ := h
  exact wpIn_val hd (by rw [he]; simp [hr]) (hn _ _ hx)
theorem runs_skip {s : Sem Unit} {nx : World → Prop} (hd : ∀ c, o.op ≠ .defer c) (he : execOp a.eval o = (do s; pure .skip : Sem Next)) (h : Runs P s w fun _ w' => nx w')
    (hn : ∀ w', nx w' → M (a.put o.dst undef) w') : o.wpIn (fence ρ) 0 P a w M Q := by
  obtain ⟨v, w', hr, hx⟩ := h
  exact wpIn_skp hd (by rw [he]; simp [hr]) (hn _ hx)

theorem opF_sound {nx : Value → World → Prop} {pan : List PanicEntry → World → Prop} (ha : Kn K N ds a) (h : opF P K w nx pan o.type o.op)
    (hn : ∀ v w', nx v w' → M (a.put o.dst v) w') (hp : ∀ ch w', pan ch w' → Q (.panic ch) a w') : o.wpIn (fence ρ) 0 P a w M Q := by
  have E : ∀ {x : Operand} {v : Value}, ev K x = some v → a.eval x = v := fun h => ev_eval ha h
  cases hop : o.op <;> rw [hop] at h <;> simp only [opF] at h
  all_goals first | exact h.elim | skip
  case move x =>
    split at h
    · rename_i v hv
      exact wpIn_val (by simp [hop]) (by simp [execOp, hop, E hv]) (hn _ _ h)
    · exact h.elim
  case assign x =>
    split at h
    · rename_i v hv
      exact wpIn_val (by simp [hop]) (by simp [execOp, hop, E hv]) (hn _ _ h)
    · exact h.elim
  case pick c x y =>
    split at h
    · rename_i t hc
      cases t
      · have h := h.2 rfl
        split at h
        · rename_i v hv
          exact wpIn_val (by simp [hop]) (by simp [execOp, hop, E hv, E hc, asBool]) (hn _ _ h)
        · exact h.elim
      · have h := h.1 rfl
        split at h
        · rename_i v hv
          exact wpIn_val (by simp [hop]) (by simp [execOp, hop, E hv, E hc, asBool]) (hn _ _ h)
        · exact h.elim
    · exact h.elim
  case alloc t => exact runs_value (fun v => v) (by simp [hop]) (by simp only [execOp, hop]) h hn
  case box t x =>
    split at h
    · rename_i v hv
      exact runs_value (fun v => v) (by simp [hop]) (by simp only [execOp, hop, E hv]) h hn
    · exact h.elim
  case build t ps =>
    split at h
    · rename_i l hl
      refine runs_value (fun v => v) (by simp [hop]) ?_ h hn
      have : (ps.map fun (i, x) => (i, a.eval x)) = l.toArray := by
        apply Array.ext'; simpa using evp_map ha _ _ hl
      simp only [execOp, hop, this]
    · exact h.elim
  case buildSlice t n ps =>
    split at h
    · rename_i l hl
      refine runs_value (fun v => v) (by simp [hop]) ?_ h hn
      have : (ps.map fun (i, x) => (i, a.eval x)) = l.toArray := by
        apply Array.ext'; simpa using evp_map ha _ _ hl
      simp only [execOp, hop, this]
    · exact h.elim
  case load t x =>
    split at h
    · rename_i b hv
      have hex : execOp a.eval o = (do let v ← loadVar t b; pure (.value v) : Sem Next) := by
        simp only [execOp, hop, E hv, Instr.loadAt, Instr.sureAddr]; rfl
      split at h
      · rename_i hg
        obtain ⟨v, hc, hx⟩ := h
        exact wpIn_val (by simp [hop]) (by rw [hex, Sem.run_bind, load_run hg hc]; rfl) (hn _ _ hx)
      · rename_i n hg
        obtain ⟨cs, hl, hc, hx⟩ := h
        exact wpIn_val (by simp [hop]) (by rw [hex, Sem.run_bind, loadAgg_run hg hl hc]; rfl) (hn _ _ hx)
      · exact h.elim
    · exact h.elim
  case store t x y =>
    split at h
    · rename_i b v hb hv
      refine runs_skip (nx := fun w' => nx undef w') (by simp [hop]) ?_ h (fun w' => hn _ _)
      simp only [execOp, hop, E hb, E hv, Instr.storeAt, Instr.sureAddr]; rfl
    · exact h.elim
  case nilCheck x =>
    split at h
    · rename_i b hv
      exact wpIn_val (by simp [hop]) (by simp [execOp, hop, E hv]) (hn _ _ h)
    · exact h.elim
  case binOp op t x y u =>
    split at h
    · rename_i p q hx hy
      split at h
      · rename_i ob v hb
        exact wpIn_val (by simp [hop]) (by
          have := binV_run (x := x) (y := y) hb h.1 w
          simp only [execOp, hop, E hx, E hy]
          rw [Sem.run_bind, this]; rfl) (hn _ _ h.2)
      · exact runs_value (fun v => v) (by simp [hop]) (by simp only [execOp, hop, E hx, E hy]) h hn
    · exact h.elim
  case unOp op t x =>
    cases op <;> simp only [opF] at h <;> first | exact h.elim | skip
    · split at h
      · rename_i k n hx
        exact wpIn_val (by simp [hop]) (by have := wrap_in h.1; simp only [Int.zero_sub] at this; simp [execOp, hop, E hx, Op.unary, Op.intArith, this]) (hn _ _ h.2)
      · exact h.elim
    · split at h
      · rename_i b hx
        exact wpIn_val (by simp [hop]) (by simp [execOp, hop, E hx, Op.unary]) (hn _ _ h)
      · exact h.elim
  case convert s d x =>
    split at h
    · rename_i v hv
      exact runs_value (fun v => v) (by simp [hop]) (by simp only [execOp, hop, E hv]) h hn
    · exact h.elim
  case makeInterface t x =>
    split at h
    · rename_i v hv
      exact runs_value (fun v => v) (by simp [hop]) (by simp only [execOp, hop, E hv]) h hn
    · exact h.elim
  case makeFunc f x y =>
    split at h
    · rename_i l m hl hm
      exact wpIn_val (by simp [hop]) (by simp [execOp, hop, evs_arr ha _ _ hl, evs_arr ha _ _ hm, Instr.makeFunc]) (hn _ _ h)
    · exact h.elim
  case makeMap t r =>
    split at h
    · rename_i v hv
      exact runs_value (fun v => v) (by simp [hop]) (by simp only [execOp, hop, evo_map ha _ _ hv]) h hn
    · exact h.elim
  case makeSlice t x y =>
    split at h
    · rename_i p q hx hy
      exact runs_value (fun v => v) (by simp [hop]) (by simp only [execOp, hop, E hx, E hy]) h hn
    · exact h.elim
  case slice t x l m u =>
    split at h
    · rename_i v p q r hv hp' hq hr
      exact runs_value (fun v => v) (by simp [hop]) (by simp only [execOp, hop, E hv, evo_map ha _ _ hp', evo_map ha _ _ hq, evo_map ha _ _ hr]) h hn
    · exact h.elim
  case fieldAddr s x f =>
    split at h
    · rename_i b hv
      split at h
      · rename_i off ho
        exact wpIn_val (by simp [hop]) (by simp only [execOp, hop, E hv]; rw [Sem.run_bind, fieldOff_run ho]; rfl) (hn _ _ h)
      · exact h.elim
    · exact h.elim
  case field t x f =>
    split at h
    · rename_i v hv
      exact runs_value (fun v => v) (by simp [hop]) (by simp only [execOp, hop, E hv]) h hn
    · exact h.elim
  case indexAddr t x i =>
    split at h
    · rename_i b len cap k j hx hi
      split at h
      · rename_i sz ad hs
        obtain ⟨h0, h1, hh⟩ := h
        exact wpIn_val (by simp [hop]) (by simp only [execOp, hop, E hx, E hi]; rw [Sem.run_bind, indexSlice_run hs h0 h1]; rfl) (hn _ _ hh)
      · exact h.elim
    · rename_i ad k j hx hi
      split at h
      · rename_i n sz hs
        obtain ⟨h0, h1, hh⟩ := h
        exact wpIn_val (by simp [hop]) (by simp only [execOp, hop, E hx, E hi]; rw [Sem.run_bind, indexArr_run hs h0 h1]; rfl) (hn _ _ hh)
      · exact h.elim
    · exact h.elim
  case index t x i =>
    split at h
    · rename_i p q hx hy
      exact runs_value (fun v => v) (by simp [hop]) (by simp only [execOp, hop, E hx, E hy]) h hn
    · exact h.elim
  case lookup t x i okk =>
    split at h
    · rename_i p q hx hy
      exact runs_value (fun v => v) (by simp [hop]) (by simp only [execOp, hop, E hx, E hy]) h hn
    · exact h.elim
  case mapUpdate t m k v =>
    split at h
    · rename_i p q r hx hy hz
      exact runs_skip (nx := fun w' => nx undef w') (by simp [hop]) (by simp only [execOp, hop, E hx, E hy, E hz]) h (fun w' => hn _ _)
    · exact h.elim
  case insert t m k v =>
    split at h
    · rename_i p q r hx hy hz
      exact runs_skip (nx := fun w' => nx undef w') (by simp [hop]) (by simp only [execOp, hop, E hx, E hy, E hz]) h (fun w' => hn _ _)
    · exact h.elim
  case range t x =>
    split at h
    · rename_i v hv
      exact runs_value (fun v => v) (by simp [hop]) (by simp only [execOp, hop, E hv]) h hn
    · exact h.elim
  case next x s =>
    split at h
    · rename_i v hv
      exact runs_value (fun v => v) (by simp [hop]) (by simp only [execOp, hop, E hv]) h hn
    · exact h.elim
  case typeAssert x t u okk =>
    split at h
    · rename_i v hv
      exact runs_value (fun v => v) (by simp [hop]) (by simp only [execOp, hop, E hv]) h hn
    · exact h.elim
  case extract x i =>
    split at h
    · rename_i vs hv
      split at h
      · rename_i v hi
        exact wpIn_val (by simp [hop]) (by
          have : vs[i]? = some v := by rw [← hi]; simp
          simp [execOp, hop, E hv, Instr.extract, this]) (hn _ _ h)
      · exact h.elim
    · exact h.elim
  case panic x =>
    split at h
    · rename_i v hv
      obtain ⟨u, w', hr, hx⟩ := h
      refine ⟨fun _ _ => trivial, ?_⟩
      rw [Oper.semAt_eq _ _ _ (by simp [hop])]
      have : (execOp a.eval o).run P w = .halt (.panic u) w' := by
        simp only [execOp, hop, E hv]; rw [Sem.run_bind, hr]; rfl
      rw [this]
      exact hp _ _ hx
    · exact h.elim
  case call c =>
    split at h
    · rename_i hcal
      have hres : ∀ l, evs K c.args.toList = some l → (execOp a.eval o).run P w = ((builtin .len c.argTypes o.type (c.args.map fun | .const _ => true | _ => false) l.toArray).run P w) := by
        intro l hl
        simp only [execOp, hop, resolve, hcal, evs_arr ha _ _ hl]
        rfl
      split at h
      · rename_i b n cp t hl ht
        have hat : c.argTypes = #[t] := by apply Array.ext'; simpa using ht
        split at h
        · rename_i hi
          exact wpIn_val (by simp [hop]) (by rw [hres _ hl, hat]; simp only [builtin]; rw [Sem.run_bind]; rw [show ([Value.slice b n cp].toArray) = #[Value.slice b n cp] from rfl, isSlice_run hi]; rfl) (hn _ _ h)
        · exact h.elim
      · rename_i s t hl ht
        have hat : c.argTypes = #[t] := by apply Array.ext'; simpa using ht
        split at h
        · rename_i hi
          exact wpIn_val (by simp [hop]) (by rw [hres _ hl, hat]; simp only [builtin]; rw [Sem.run_bind]; rw [show ([Value.string s].toArray) = #[Value.string s] from rfl, isString_run hi]; rfl) (hn _ _ h)
        · exact h.elim
      · rename_i l hl _ _
        obtain ⟨n, w', hr, hx⟩ := h
        have hr' := (hres _ hl).trans hr
        cases n <;> simp only [builtinR] at hx <;> first | exact hx.elim | skip
        · exact wpIn_val (by simp [hop]) hr' (hn _ _ hx)
        · exact wpIn_skp (by simp [hop]) hr' (hn _ _ hx)
      · exact h.elim
    · rename_i b _ hcal
      split at h
      · rename_i l hl
        have hres : (execOp a.eval o).run P w = ((builtin b c.argTypes o.type (c.args.map fun | .const _ => true | _ => false) l.toArray).run P w) := by
          simp only [execOp, hop, resolve, hcal, evs_arr ha _ _ hl]
          rfl
        obtain ⟨n, w', hr, hx⟩ := h
        have hr' := hres.trans hr
        cases n <;> simp only [builtinR] at hx <;> first | exact hx.elim | skip
        · exact wpIn_val (by simp [hop]) hr' (hn _ _ hx)
        · exact wpIn_skp (by simp [hop]) hr' (hn _ _ hx)
      · exact h.elim
    · rename_i f hcal
      split at h
      · rename_i fv l hf hl
        refine ⟨fun _ _ => trivial, ?_⟩
        rw [Oper.semAt_eq _ _ _ (by simp [hop])]
        have hR : ∀ e w', callR nx pan e w' → (match e, w' with
            | .returned v, w'' => M (a.put o.dst v) w''
            | .panicked chain, w'' => Q (.panic chain) a w''
            | .outgrown, _ => LetsOut Q) := by
          intro e w' he
          cases e <;> simp only [callR] at he
          · exact hn _ _ he
          · exact hp _ _ he
        rcases h with ⟨g, first, cap, rfl, hg, hc⟩ | ⟨g, first, cap, fn, tmps, assign, body, rfl, hg, hc⟩
        · have : (execOp a.eval o).run P w = .ok (.enter g (first ++ l.toArray ++ cap)) w := by
            simp only [execOp, hop, resolve, hcal, evs_arr ha _ _ hl, E hf]
            simp [Deferred.ofValue, invoke, hg]
          rw [this]
          simp only [Oper.uponIn]
          exact ⟨fence_depth _ _, CallsIn.mono (callsIn_wide.2 hc : CallsIn Fence.wide 0 P g _ w _) hR⟩
        · have : (execOp a.eval o).run P w = .ok (.round g fn tmps assign body) w := by
            simp only [execOp, hop, resolve, hcal, evs_arr ha _ _ hl, E hf]
            simp [Deferred.ofValue, invoke, hg]
          rw [this]
          simp only [Oper.uponIn]
          exact ⟨fence_depth _ _, RoundIn.mono hc hR⟩
      · exact h.elim
    · exact h.elim
end
end Go.Proofs.Vg
