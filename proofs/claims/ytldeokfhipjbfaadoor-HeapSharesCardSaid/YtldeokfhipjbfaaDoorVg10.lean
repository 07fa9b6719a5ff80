import Derived.Test.YtldeokfhipjbfaaDoorVg9
set_option linter.unusedVariables false
set_option linter.unusedSimpArgs false
namespace Go.Proofs.Vg
open Go Go.RowKit

section
variable {P : Program} {ρ : Option Nat} {N : Nat} {K : Env} {ds : List Deferred} {w : World} {ops : List Oper} {n : Nat} {C : World → Prop} {Q : Exit → Act → World → Prop}

/-- What each later operation needs to know: does it leave a head behind that reads memory; have all heads come. -/
def flagOf (ops : List Oper) (n t : Nat) : Bool × Bool := (late ops (masks [] ops) n t, (List.range n).all fun i => ((masks [] ops).getD t 0).testBit i)
def flags (ops : List Oper) (n : Nat) : List (Bool × Bool) := (List.range (ops.length - n)).map fun j => flagOf ops n (n + j)

/-- The slots that no later operation has written: as in 'Sl'. -/
structure SlD (ops : List Oper) (n t : Nat) (a0 : Act) (V : Nat → Value) (S : Nat → Bool) (b : Act) : Prop where
  size : b.tmps.size = a0.tmps.size
  come : ∀ s, (∀ k, n ≤ k → k < t → (ops[k]?).bind (·.dst) ≠ some s) → ∀ k, k < n → S k = true → (ops[k]?).bind (·.dst) = some s → s < a0.tmps.size → b.tmps[s]? = some (V k)
  rest : ∀ s, (∀ k, n ≤ k → k < t → (ops[k]?).bind (·.dst) ≠ some s) → (∀ k, k < n → S k = true → (ops[k]?).bind (·.dst) ≠ some s) → b.tmps[s]? = a0.tmps[s]?
/-- The act as it is, and as it would be had all heads come. -/
structure Sim (ops : List Oper) (n : Nat) (V : Nat → Value) (S : Nat → Bool) (b bs : Act) : Prop where
  size : bs.tmps.size = b.tmps.size
  defers : bs.defers = b.defers
  come : ∀ s k, k < n → S k = false → (ops[k]?).bind (·.dst) = some s → s < b.tmps.size → bs.tmps[s]? = some (V k)
  rest : ∀ s, (∀ k, k < n → S k = false → (ops[k]?).bind (·.dst) ≠ some s) → bs.tmps[s]? = b.tmps[s]?

theorem distinct_heads (hd : distinctOk ops n = true) {i k : Nat} (hi : i < n) (hk : k < n) {s : Nat} (h1 : (ops[i]?).bind (·.dst) = some s) (h2 : (ops[k]?).bind (·.dst) = some s) : i = k := by
  have := List.all_eq_true.1 (List.all_eq_true.1 hd i (List.mem_range.2 hi)) k (List.mem_range.2 hk)
  simp only [h1, h2, Bool.or_eq_true, beq_iff_eq, bne_iff_ne, ne_eq, not_true_eq_false, or_false] at this
  exact this

/-- The slots that a ready head looks at are as in the order of the text. -/
theorem look_head (h : drawOk ops n = true) {A0 Ai b : Act} {V : Nat → Value} {i t : Nat} {o : Oper} {L : Nat → Bool} (hi : i < n) (ho : ops[i]? = some o) (hlex : Sl ops n A0 V (fun k => decide (k < i)) Ai)
    (hc : Closed ops L) (h2 : ∀ k ∈ needs o, L k = true) (h1 : L i = false) (hb : SlD ops n t A0 V L b) (htail : ∀ k, n ≤ k → k < t → ∀ d, (ops[k]?).bind (·.dst) = some d → d ∉ looks ops o) :
    ∀ s ∈ looks ops o, Ai.tmps[s]? = b.tmps[s]? := by
  obtain ⟨hn, hheads, hdist, _⟩ := drawOk_parts h
  have get : ∀ i, i < n → ∃ o, ops[i]? = some o := fun i hi => ⟨ops[i]'(by omega), List.getElem?_eq_getElem (by omega)⟩
  have hho := hheads i hi
  simp only [headOk, ho, Bool.and_eq_true, List.all_eq_true, List.mem_range] at hho
  obtain ⟨_, hdep⟩ := hho
  have hml : ∀ k, ((masks [] ops).getD i 0).testBit k = true → L k = true := fun k hb =>
    mask_listed hc (j := i) (fun o'' ho'' k' hk' => by rw [ho] at ho''; cases ho''; exact h2 k' hk') hb
  have hmlex : ∀ k, ((masks [] ops).getD i 0).testBit k = true → k < i := fun k hb => by
    have hclex : Closed ops (fun k => decide (k < i)) := fun j o' ho' hj k hk => by
      have := needs_lt h ho' k hk
      simp only [decide_eq_true_eq] at hj ⊢
      omega
    have := mask_listed hclex (j := i) (fun o'' ho'' k' hk' => by rw [ho] at ho''; cases ho''; simpa using needs_lt h ho k' hk') hb
    simpa using this
  have hmlt : ∀ k, k < n → ((masks [] ops).getD k 0).testBit i = true → i < k := fun k hk hb => by
    obtain ⟨o', ho'⟩ := get k hk
    have hck : Closed ops (fun j => decide (j < k)) := fun j o' ho' hj q hq => by
      have := needs_lt h ho' q hq
      simp only [decide_eq_true_eq] at hj ⊢
      omega
    have := mask_listed hck (j := k) (fun o'' ho'' k' hk' => by simpa using needs_lt h ho'' k' hk') hb
    simpa using this
  have hnd : ∀ j, j < n → ((masks [] ops).getD j 0).testBit i = true → L j = false := fun j hj hb => by
    cases h0 : L j with
    | false => rfl
    | true =>
      have := mask_listed hc (j := j) (fun o'' ho'' k' hk' => hc j o'' ho'' h0 k' hk') hb
      rw [h1] at this; cases this
  intro s hs
  have hts : ∀ k, n ≤ k → k < t → (ops[k]?).bind (·.dst) ≠ some s := fun k hk1 hk2 hd => htail k hk1 hk2 s hd hs
  by_cases hx : ∃ k, k < n ∧ (ops[k]?).bind (·.dst) = some s
  · obtain ⟨k, hk, hkd⟩ := hx
    have hd := hdep k hk
    rw [hkd] at hd
    have htc : (looks ops o).contains s = true := by simpa using hs
    simp only [htc, Bool.not_true, Bool.false_or, Bool.and_eq_true, bne_iff_ne, ne_eq, Bool.or_eq_true] at hd
    obtain ⟨hki, hd⟩ := hd
    rcases hd with hd | hd
    · have h3 := hml k hd
      have h4 := hmlex k hd
      rcases Nat.lt_or_ge s A0.tmps.size with hlt | hge
      · rw [hlex.come k s hk (by simpa using h4) hkd hlt, hb.come s hts k hk h3 hkd hlt]
      · rw [Array.getElem?_eq_none (by rw [hlex.size]; exact hge), Array.getElem?_eq_none (by rw [hb.size]; exact hge)]
    · have h3 := hnd k hk hd
      have h4 := hmlt k hk hd
      rw [hlex.rest s (fun q hq hs' hqd => by have := distinct_heads hdist hq hk hqd hkd; subst this; simp at hs'; omega),
        hb.rest s hts (fun q hq hs' hqd => by have := distinct_heads hdist hq hk hqd hkd; subst this; rw [h3] at hs'; cases hs')]
  · rw [hlex.rest s (fun q hq _ hqd => hx ⟨q, hq, hqd⟩), hb.rest s hts (fun q hq _ hqd => hx ⟨q, hq, hqd⟩)]

/-- How many heads have not come. -/
def missing (n : Nat) (listed : Array Bool) : List Nat := (List.range n).filter fun k => !listed.getD k false
theorem missing_mem {listed : Array Bool} {k : Nat} : k ∈ missing n listed ↔ k < n ∧ listed.getD k false = false := by simp [missing]
theorem missing_set {listed : Array Bool} {i : Nat} (hi : i < n) (hs : i < listed.size) (h1 : listed.getD i false = false) : (missing n (listed.setIfInBounds i true)).length + 1 = (missing n listed).length := by
  have heq : missing n (listed.setIfInBounds i true) = (missing n listed).filter (fun k => decide (k ≠ i)) := by
    unfold missing
    rw [List.filter_filter]
    apply List.filter_congr
    intro k _
    rw [getD_set hs]
    cases hk : decide (k = i) <;> simp_all
  have hnd : (missing n listed).Nodup := List.Nodup.sublist List.filter_sublist List.nodup_range
  have hmem : i ∈ missing n listed := missing_mem.2 ⟨hi, h1⟩
  rw [heq]
  generalize missing n listed = l at hnd hmem
  have he : l.filter (fun k => decide (k ≠ i)) = l.erase i := by
    rw [hnd.erase_eq_filter]
    apply List.filter_congr
    intro x _
    by_cases hx : x = i <;> simp [hx]
  rw [he, List.length_erase_of_mem hmem]
  have : 0 < l.length := List.length_pos_of_mem hmem
  omega
theorem missing_first {listed : Array Bool} (h : missing n listed ≠ []) : ∃ i, i < n ∧ listed.getD i false = false ∧ ∀ k, k < i → listed.getD k false = true := by
  obtain ⟨x, hx⟩ := List.exists_mem_of_ne_nil _ h
  rw [missing_mem] at hx
  revert hx
  induction x using Nat.strongRecOn with
  | _ i ih' =>
    intro hi
    by_cases hx : ∃ k, k < i ∧ listed.getD k false = false
    · obtain ⟨k, hk, hk0⟩ := hx
      exact ih' k hk ⟨by omega, hk0⟩
    · refine ⟨i, hi.1, hi.2, fun k hk => ?_⟩
      cases h0 : listed.getD k false with
      | true => rfl
      | false => exact absurd ⟨k, hk, h0⟩ hx

theorem phaseB (h : drawOk ops n = true) {A : Nat → Act} {V : Nat → Value} (lexA : ∀ i, i ≤ n → Sl ops n (A 0) V (fun k => decide (k < i)) (A i))
    (still : ∀ i o, i < n → ops[i]? = some o → Yl P ρ ops C o (V i) (A i)) :
    ∀ (fuel : Nat) (listed : Array Bool) (t : Nat) (b bs : Act) (w : World), listed.size = ops.length → n ≤ t → t ≤ ops.length → (∀ k, n ≤ k → k < ops.length → (listed.getD k false = decide (k < t))) →
      Closed ops (fun k => listed.getD k false) → (∀ k, k < n → listed.getD k false = false → kindAt ops k ≠ 2) → ((∃ k, k < n ∧ listed.getD k false = false ∧ kindAt ops k = 1) → C w) →
      SlD ops n t (A 0) V (fun k => listed.getD k false) b → Sim ops n V (fun k => listed.getD k false) b bs →
      wpT P ρ ops.toArray C Q ((flags ops n).drop (t - n)) (ops.drop t) bs w → (missing n listed).length + (ops.length - t) ≤ fuel →
      wpAnyIn (fence ρ) 0 P .any ops.toArray Q fuel listed b w := by
  obtain ⟨hn, hheads, hdist, _⟩ := drawOk_parts h
  have get : ∀ i, i < ops.length → ∃ o, ops[i]? = some o := fun i hi => ⟨ops[i]'hi, List.getElem?_eq_getElem hi⟩
  intro fuel
  induction fuel with
  | zero =>
    intro listed t b bs w hs hnt htm hL hc hk2 hk1 hsl hsim hw hf
    have hm0 : missing n listed = [] := List.eq_nil_of_length_eq_zero (by omega)
    have ht : t = ops.length := by omega
    have hall : ∀ k, k < n → listed.getD k false = true := fun k hk => by
      cases h0 : listed.getD k false with
      | true => rfl
      | false => have := missing_mem.2 ⟨hk, h0⟩; rw [hm0] at this; cases this
    have hbs : bs = b := by
      have : bs.tmps = b.tmps := Array.ext_getElem? (fun s => hsim.rest s (fun k hk hs => by rw [hall k hk] at hs; cases hs))
      cases bs; cases b; simp only [Act.mk.injEq]; exact ⟨this, hsim.defers⟩
    subst hbs
    refine ⟨?_, ?_⟩
    · rw [List.eq_nil_iff_forall_not_mem]
      intro i hi
      obtain ⟨o, ho, h1, _⟩ := (ready_iff hs).1 hi
      have hil : i < ops.length := (List.getElem?_eq_some_iff.1 ho).1
      rcases Nat.lt_or_ge i n with h | h
      · rw [hall i h] at h1; cases h1
      · rw [hL i h hil] at h1; simp at h1; omega
    · have hdr : ops.drop t = [] := List.drop_eq_nil_iff.2 (by omega)
      rw [hdr] at hw
      exact hw
  | succ fuel ih =>
    intro listed t b bs w hs hnt htm hL hc hk2 hk1 hsl hsim hw hf
    refine ⟨fun h0 => ?_, fun i hi => ?_⟩
    · -- nothing is ready: all is done
      by_cases hm : missing n listed = []
      · have hall : ∀ k, k < n → listed.getD k false = true := fun k hk => by
          cases h0 : listed.getD k false with
          | true => rfl
          | false => have := missing_mem.2 ⟨hk, h0⟩; rw [hm] at this; cases this
        by_cases ht : t = ops.length
        · have hbs : bs = b := by
            have : bs.tmps = b.tmps := Array.ext_getElem? (fun s => hsim.rest s (fun k hk hs => by rw [hall k hk] at hs; cases hs))
            cases bs; cases b; simp only [Act.mk.injEq]; exact ⟨this, hsim.defers⟩
          subst hbs
          have hdr : ops.drop t = [] := List.drop_eq_nil_iff.2 (by omega)
          rw [hdr] at hw
          exact hw
        · obtain ⟨o, ho⟩ := get t (by omega)
          have : t ∈ Region.ready .any ops.toArray listed := (ready_iff hs).2 ⟨o, ho, by rw [hL t hnt (by omega)]; simp, fun k hk => by
            have hkt := needs_lt h ho k hk
            rcases Nat.lt_or_ge k n with h | h
            · exact hall k h
            · rw [hL k h (by omega)]; simpa using hkt⟩
          rw [h0] at this
          cases this
      · obtain ⟨i, hi, h1, h2⟩ := missing_first hm
        obtain ⟨o, ho⟩ := get i (by omega)
        have : i ∈ Region.ready .any ops.toArray listed := (ready_iff hs).2 ⟨o, ho, h1, fun k hk => h2 k (needs_lt h ho k hk)⟩
        rw [h0] at this
        cases this
    · obtain ⟨o, ho, h1, h2⟩ := (ready_iff hs).1 hi
      have hil : i < ops.length := (List.getElem?_eq_some_iff.1 ho).1
      have hset : ∀ k, (listed.setIfInBounds i true).getD k false = (decide (k = i) || listed.getD k false) := fun k => getD_set (by omega)
      have hmi : ∀ k, ((masks [] ops).getD i 0).testBit k = true → listed.getD k false = true := fun k hb =>
        mask_listed hc (j := i) (fun o'' ho'' k' hk' => by rw [ho] at ho''; cases ho''; exact h2 k' hk') hb
      rcases Nat.lt_or_ge i n with hin | hin
      · -- a head
        have htail : ∀ k, n ≤ k → k < t → ∀ d, (ops[k]?).bind (·.dst) = some d → d ∉ looks ops o := fun k hk1 hk2 d hd => by
          obtain ⟨ok_, hok⟩ := get k (by omega)
          have hLk : listed.getD k false = true := by rw [hL k hk1 (by omega)]; simpa using hk2
          rcases tail_before h hk1 hok (by omega : i < k) with hb | ⟨_, _, oi, hoi, hx1, hx2⟩
          · have := mask_listed hc (j := k) (fun o'' ho'' k' hk' => hc k o'' ho'' hLk k' hk') hb
            rw [h1] at this; cases this
          · rw [ho] at hoi; cases hoi
            exact hx2 d (by simpa [hok] using hd)
        have hlook := look_head h hin ho (lexA i (by omega)) hc h2 h1 hsl htail
        have hy := (still i o hin ho).same (sel_ok h ho) hlook
        have hkind : kindOf o.op = kindAt ops i := by simp [kindAt, ho]
        refine hy.op1 ho (by rw [hkind]; exact hk2 i hin h1) (by
          rw [hkind]
          have h2' := hk2 i hin h1
          have : kindAt ops i ≤ 2 := by
            unfold kindAt
            split
            · rename_i o' _
              unfold kindOf
              split <;> first | omega | (split <;> omega)
            · omega
          by_cases h3 : kindAt ops i = 0
          · exact .inl h3
          · exact .inr (hk1 ⟨i, hin, h1, by omega⟩)) ?_
        refine ih _ t _ bs w (by simp [hs]) hnt htm ?_ ?_ ?_ ?_ ?_ ?_ hw ?_
        · intro k hk1 hk2
          rw [hset, hL k hk1 hk2]
          have : k ≠ i := by omega
          simp [this]
        · intro j o' ho' hj k hk
          simp only [hset, Bool.or_eq_true, decide_eq_true_eq] at hj ⊢
          rcases hj with rfl | hj
          · rw [ho] at ho'; cases ho'; exact .inr (h2 k hk)
          · exact .inr (hc j o' ho' hj k hk)
        · intro k hk hk0
          rw [hset] at hk0
          simp only [Bool.or_eq_false_iff] at hk0
          exact hk2 k hk hk0.2
        · rintro ⟨k, hk, hk0, hkk⟩
          rw [hset] at hk0
          simp only [Bool.or_eq_false_iff] at hk0
          exact hk1 ⟨k, hk, hk0.2, hkk⟩
        · refine ⟨?_, ?_, ?_⟩
          · cases o.dst <;> simp [Act.put, hsl.size]
          · intro s hts k hk hks hkd hlt
            rw [hset] at hks
            simp only [Bool.or_eq_true, decide_eq_true_eq] at hks
            by_cases hki : k = i
            · subst hki
              have hod : o.dst = some s := by simpa [ho] using hkd
              simp [Act.put, hod, hsl.size, hlt]
            · have hks' : listed.getD k false = true := hks.resolve_left hki
              have := hsl.come s hts k hk hks' hkd hlt
              cases hod : o.dst with
              | none => exact this
              | some d =>
                have hne : d ≠ s := fun e => hki (distinct_heads hdist hk hin hkd (by simp [ho, hod, e]))
                simp only [Act.put, Array.getElem?_setIfInBounds_ne hne]
                exact this
          · intro s hts hr
            have h3 := hsl.rest s hts (fun k hk hks => hr k hk (by rw [hset]; simp [hks]))
            have h4 := hr i hin (by rw [hset]; simp)
            cases hod : o.dst with
            | none => exact h3
            | some d =>
              have hne : d ≠ s := fun e => h4 (by simp [ho, hod, e])
              simp only [Act.put, Array.getElem?_setIfInBounds_ne hne]
              exact h3
        · refine ⟨?_, ?_, ?_, ?_⟩
          · rw [hsim.size]; cases o.dst <;> simp [Act.put]
          · rw [hsim.defers]; cases o.dst <;> rfl
          · intro s k hk hks hkd hlt
            rw [hset] at hks
            simp only [Bool.or_eq_false_iff] at hks
            exact hsim.come s k hk hks.2 hkd (by
              have : (b.put o.dst (V i)).tmps.size = b.tmps.size := by cases o.dst <;> simp [Act.put]
              rw [this] at hlt; exact hlt)
          · intro s hr
            by_cases hsi : o.dst = some s
            · rcases Nat.lt_or_ge s b.tmps.size with hlt | hge
              · rw [hsim.come s i hin h1 (by simp [ho, hsi]) hlt]
                simp [Act.put, hsi, hlt]
              · rw [Array.getElem?_eq_none (by rw [hsim.size]; exact hge), Array.getElem?_eq_none (by simp [Act.put, hsi]; exact hge)]
            · have h3 := hsim.rest s (fun k hk hks hkd => by
                by_cases hki : k = i
                · subst hki; exact hsi (by simpa [ho] using hkd)
                · exact hr k hk (by rw [hset]; simp [hki, hks]) hkd)
              rw [h3]
              cases hod : o.dst with
              | none => rfl
              | some d =>
                have hne : d ≠ s := fun e => hsi (by rw [hod, e])
                simp only [Act.put, Array.getElem?_setIfInBounds_ne hne]
        · have := missing_set hin (by omega) h1
          omega
      · -- the next of the later ones
        have hit : i = t := by
          rcases Nat.lt_trichotomy i t with hlt | heq | hgt
          · rw [hL i hin hil] at h1; simp at h1; omega
          · exact heq
          · rcases tail_before h hin ho hgt with hb | ⟨hx, _⟩
            · have := hmi t hb
              rw [hL t hnt (by omega)] at this
              simp at this
            · omega
        subst hit
        have hlook : ∀ s ∈ looks ops o, bs.tmps[s]? = b.tmps[s]? := fun s hs' => hsim.rest s (fun k hk hks hkd => by
          rcases tail_before h hin ho (by omega : k < i) with hb | ⟨_, _, oi, hoi, hx1, _⟩
          · rw [hmi k hb] at hks; cases hks
          · exact (hx1 s (by simpa [hoi] using hkd)).1 hs')
        obtain ⟨hwant, hsem⟩ := same_op (ρ := ρ) (sel_ok h ho) hlook
        have hdr : ops.drop i = o :: ops.drop (i + 1) := by
          rw [List.drop_eq_getElem_cons hil]
          congr 1
          have := List.getElem?_eq_getElem hil
          rw [ho] at this; cases this; rfl
        rw [hdr] at hw
        have hfl : (flags ops n).drop (i - n) = flagOf ops n i :: (flags ops n).drop (i + 1 - n) := by
          have hlt : i - n < (flags ops n).length := by simp [flags]; omega
          rw [List.drop_eq_getElem_cons hlt]
          congr 1
          · simp [flags]; congr 1; omega
          · congr 1; omega
        rw [hfl] at hw
        unfold wpT at hw
        simp only [List.headD_cons, List.tail_cons] at hw
        have hfull : (flagOf ops n i).2 = true → b = bs := fun hf' => by
          simp only [flagOf, List.all_eq_true, List.mem_range] at hf'
          have hall : ∀ k, k < n → listed.getD k false = true := fun k hk => hmi k (hf' k hk)
          have : bs.tmps = b.tmps := Array.ext_getElem? (fun s => hsim.rest s (fun k hk hs => by rw [hall k hk] at hs; cases hs))
          cases bs; cases b; simp only [Act.mk.injEq]; exact ⟨this.symm, hsim.defers.symm⟩
        have next : ∀ (ds : List Deferred) (v : Value) (w' : World), ((flagOf ops n i).1 = true → C w') → wpT P ρ ops.toArray C Q ((flags ops n).drop (i + 1 - n)) (ops.drop (i + 1)) (({ tmps := bs.tmps, defers := ds } : Act).put o.dst v) w' →
            wpAnyIn (fence ρ) 0 P .any ops.toArray Q fuel (listed.setIfInBounds i true) (({ tmps := b.tmps, defers := ds } : Act).put o.dst v) w' := by
          intro ds v w' hC hw'
          refine ih _ (i + 1) _ _ w' (by simp [hs]) (by omega) (by omega) ?_ ?_ ?_ ?_ ?_ ?_ hw' ?_
          · intro k hk1 hk2
            rw [hset, hL k hk1 hk2]
            by_cases hki : k = i
            · subst hki; simp
            · simp only [hki, decide_false, Bool.false_or, decide_eq_decide]; omega
          · intro j o' ho' hj k hk
            simp only [hset, Bool.or_eq_true, decide_eq_true_eq] at hj ⊢
            rcases hj with rfl | hj
            · rw [ho] at ho'; cases ho'; exact .inr (h2 k hk)
            · exact .inr (hc j o' ho' hj k hk)
          · intro k hk hk0
            rw [hset] at hk0
            simp only [Bool.or_eq_false_iff] at hk0
            exact hk2 k hk hk0.2
          · rintro ⟨k, hk, hk0, hkk⟩
            rw [hset] at hk0
            simp only [Bool.or_eq_false_iff] at hk0
            refine hC ?_
            simp only [flagOf, late, List.any_eq_true, List.mem_range, Bool.and_eq_true, Bool.not_eq_true', beq_iff_eq]
            refine ⟨k, hk, ?_, hkk⟩
            cases hb : ((masks [] ops).getD i 0).testBit k with
            | false => rfl
            | true => rw [hmi k hb] at hk0; cases hk0.2
          · refine ⟨?_, ?_, ?_⟩
            · cases o.dst <;> simp [Act.put, hsl.size]
            · intro s hts k hk hks hkd hlt
              rw [hset] at hks
              have hki : k ≠ i := by omega
              simp only [hki, decide_false, Bool.false_or] at hks
              have := hsl.come s (fun q hq1 hq2 => hts q hq1 (by omega)) k hk hks hkd hlt
              have h3 := hts i hin (by omega)
              cases hod : o.dst with
              | none => exact this
              | some d =>
                have hne : d ≠ s := fun e => h3 (by simp [ho, hod, e])
                simp only [Act.put, Array.getElem?_setIfInBounds_ne hne]
                exact this
            · intro s hts hr
              have h3 := hts i hin (by omega)
              have h4 := hsl.rest s (fun q hq1 hq2 => hts q hq1 (by omega)) (fun k hk hks => hr k hk (by rw [hset]; simp [hks]))
              cases hod : o.dst with
              | none => exact h4
              | some d =>
                have hne : d ≠ s := fun e => h3 (by simp [ho, hod, e])
                simp only [Act.put, Array.getElem?_setIfInBounds_ne hne]
                exact h4
          · have hkeep : ∀ k, k < n → (listed.setIfInBounds i true).getD k false = false → listed.getD k false = false := fun k hk hks => by
              rw [hset] at hks
              simp only [Bool.or_eq_false_iff] at hks
              exact hks.2
            refine ⟨?_, ?_, ?_, ?_⟩
            · cases o.dst <;> simp [Act.put, hsim.size]
            · cases o.dst <;> rfl
            · intro s k hk hks hkd hlt
              have hks' := hkeep k hk hks
              have hlt' : s < b.tmps.size := by
                have : (({ tmps := b.tmps, defers := ds } : Act).put o.dst v).tmps.size = b.tmps.size := by cases o.dst <;> simp [Act.put]
                rw [this] at hlt; exact hlt
              have h3 := hsim.come s k hk hks' hkd hlt'
              have hne : o.dst ≠ some s := by
                rcases tail_before h hin ho (by omega : k < i) with hb | ⟨_, _, oi, hoi, hx1, _⟩
                · rw [hmi k hb] at hks'; cases hks'
                · exact (hx1 s (by simpa [hoi] using hkd)).2
              cases hod : o.dst with
              | none => exact h3
              | some d =>
                have hne' : d ≠ s := fun e => hne (by rw [hod, e])
                simp only [Act.put, Array.getElem?_setIfInBounds_ne hne']
                exact h3
            · intro s hr
              have h3 := hsim.rest s (fun k hk hks hkd => hr k hk (by
                rw [hset]
                have : k ≠ i := by omega
                simp [this, hks]) hkd)
              cases hod : o.dst with
              | none => exact h3
              | some d =>
                by_cases hds : d = s
                · subst hds
                  rcases Nat.lt_or_ge d b.tmps.size with hlt | hge
                  · simp [Act.put, hlt, hsim.size]
                  · rw [Array.getElem?_eq_none (by simp [Act.put, hsim.size]; exact hge), Array.getElem?_eq_none (by simp [Act.put]; exact hge)]
                · simp only [Act.put, Array.getElem?_setIfInBounds_ne hds]
                  exact h3
          · have hmeq : missing n (listed.setIfInBounds i true) = missing n listed := by
              unfold missing
              apply List.filter_congr
              intro k hk
              have hkn : k < n := List.mem_range.1 hk
              have : k ≠ i := by omega
              rw [hset]; simp [this]
            rw [hmeq]
            omega
        unfold wpOpIn
        simp only [List.getElem?_toArray, ho]
        rw [hwant] at hw
        split
        · rename_i hwt
          rw [if_pos hwt] at hw
          refine wpIn_transfer hsem hsim.defers hw (fun ds v w' hm => next ds v w' hm.1 hm.2) (fun ch w' hq => by rw [hfull hq.1]; exact hq.2) (fun ⟨a, w, hq⟩ => ⟨a, w, hq.2⟩)
        · rename_i hwt
          rw [if_neg hwt] at hw
          refine ⟨fun _ _ => trivial, ?_⟩
          have := next b.defers undef w hw.1 (by have := hw.2; rw [← hsim.defers]; exact this)
          exact this

theorem any_of_heads (h : drawOk ops n = true) {A : Nat → Act} {V : Nat → Value} (step : ∀ i o, i < n → ops[i]? = some o → A (i + 1) = (A i).put o.dst (V i))
    (still : ∀ i o, i < n → ops[i]? = some o → Yl P ρ ops C o (V i) (A i)) (tail : ∀ w', C w' → wpT P ρ ops.toArray C Q (flags ops n) (ops.drop n) (A n) w') {w : World} (hw : C w) :
    wpAnyIn (fence ρ) 0 P .any ops.toArray Q ops.length (Array.replicate ops.length false) (A 0) w := by
  obtain ⟨hn, hheads, hdist, _⟩ := drawOk_parts h
  have get : ∀ i, i < ops.length → ∃ o, ops[i]? = some o := fun i hi => ⟨ops[i]'hi, List.getElem?_eq_getElem hi⟩
  have lexA : ∀ i, i ≤ n → Sl ops n (A 0) V (fun k => decide (k < i)) (A i) := by
    intro i
    induction i with
    | zero => intro _; exact ⟨rfl, rfl, fun k t _ hs => by simp at hs, fun t _ => rfl⟩
    | succ i ih =>
      intro hi
      obtain ⟨o, ho⟩ := get i (by omega)
      rw [step i o (by omega) ho]
      exact (ih (by omega)).put hdist (by omega) ho (fun k _ => by simp; omega)
  have main : ∀ (u : Nat) (listed : Array Bool) (b : Act) (w : World) (fuel : Nat), (missing n listed).length = u → u + (ops.length - n) ≤ fuel → listed.size = ops.length →
      (∀ k, listed.getD k false = true → k < n) → Closed ops (fun k => listed.getD k false) → Sl ops n (A 0) V (fun k => listed.getD k false) b → C w →
      wpAnyIn (fence ρ) 0 P .any ops.toArray Q fuel listed b w := by
    intro u
    induction u with
    | zero =>
      intro listed b w fuel hu hf hs hL hc hsl hw
      have hm0 : missing n listed = [] := List.eq_nil_of_length_eq_zero hu
      have hall : ∀ k, k < n → listed.getD k false = true := fun k hk => by
        cases h0 : listed.getD k false with
        | true => rfl
        | false => have := missing_mem.2 ⟨hk, h0⟩; rw [hm0] at this; cases this
      refine phaseB h lexA still fuel listed n b (A n) w hs (Nat.le_refl _) hn ?_ hc (fun k hk h0 => by rw [hall k hk] at h0; cases h0) (fun _ => hw) ⟨hsl.size, fun s _ => fun k hk hS hd hlt => hsl.come k s hk hS hd hlt, fun s _ hr => hsl.rest s hr⟩ ?_ (by simpa using tail w hw) (by omega)
      · intro k hk1 hk2
        cases h0 : listed.getD k false with
        | false => simp; omega
        | true => have := hL k h0; omega
      · have : b = A n := hsl.eq (by
          have := lexA n (Nat.le_refl _)
          exact ⟨this.defers, this.size, fun k t hk _ => this.come k t hk (by simpa using hk), fun t hr => this.rest t (fun k hk _ => hr k hk (hall k hk))⟩)
        subst this
        exact ⟨rfl, rfl, (fun s k hk h0 => by rw [hall k hk] at h0; cases h0), fun _ _ => rfl⟩
    | succ u ih =>
      intro listed b w fuel hu hf hs hL hc hsl hw
      by_cases h2x : ∃ k, k < n ∧ listed.getD k false = false ∧ kindAt ops k = 2
      · obtain ⟨q, hq, hq0, hq2⟩ := h2x
        cases fuel with
        | zero => omega
        | succ fuel =>
          refine ⟨fun h0 => ?_, fun i hi => ?_⟩
          · obtain ⟨i, hi, h1, h2⟩ := missing_first (n := n) (listed := listed) (fun e => by rw [e] at hu; simp at hu)
            obtain ⟨o, ho⟩ := get i (by omega)
            have : i ∈ Region.ready .any ops.toArray listed := (ready_iff hs).2 ⟨o, ho, h1, fun k hk => h2 k (needs_lt h ho k hk)⟩
            rw [h0] at this
            cases this
          · obtain ⟨o, ho, h1, h2⟩ := (ready_iff hs).1 hi
            have hil : i < ops.length := (List.getElem?_eq_some_iff.1 ho).1
            have hmi : ∀ k, ((masks [] ops).getD i 0).testBit k = true → listed.getD k false = true := fun k hb =>
              mask_listed hc (j := i) (fun o'' ho'' k' hk' => by rw [ho] at ho''; cases ho''; exact h2 k' hk') hb
            have hin : i < n := by
              rcases Nat.lt_or_ge i n with hlt | hge
              · exact hlt
              · rcases tail_before h hge ho (by omega : q < i) with hb | ⟨_, hx, _⟩
                · rw [hmi q hb] at hq0; cases hq0
                · exact absurd hq2 hx
            have hlook := look_head (t := n) h hin ho (lexA i (by omega)) hc h2 h1 ⟨hsl.size, fun s _ => fun k hk hS hd hlt => hsl.come k s hk hS hd hlt, fun s _ hr => hsl.rest s hr⟩ (fun k hk1 hk2 => by omega)
            have hy := (still i o hin ho).same (sel_ok h ho) hlook
            refine hy.op ho hw (fun w'' hw'' => ih _ _ w'' fuel ?_ (by omega) (by simp [hs]) ?_ ?_ ?_ hw'')
            · have := missing_set hin (by omega) h1
              omega
            · intro k hk
              rw [getD_set (by omega)] at hk
              simp only [Bool.or_eq_true, decide_eq_true_eq] at hk
              rcases hk with rfl | hk
              · exact hin
              · exact hL k hk
            · intro j o' ho' hj k hk
              simp only [getD_set (show i < listed.size by omega), Bool.or_eq_true, decide_eq_true_eq] at hj ⊢
              rcases hj with rfl | hj
              · rw [ho] at ho'; cases ho'; exact .inr (h2 k hk)
              · exact .inr (hc j o' ho' hj k hk)
            · exact hsl.put hdist hin ho (fun k _ => by rw [getD_set (by omega)]; simp)
      · have hA := lexA n (Nat.le_refl _)
        refine phaseB h lexA still fuel listed n b (A n) w hs (Nat.le_refl _) hn ?_ hc (fun k hk h0 e => h2x ⟨k, hk, h0, e⟩) (fun _ => hw) ⟨hsl.size, fun s _ => fun k hk hS hd hlt => hsl.come k s hk hS hd hlt, fun s _ hr => hsl.rest s hr⟩ ?_ (by simpa using tail w hw) (by omega)
        · intro k hk1 hk2
          cases h0 : listed.getD k false with
          | false => simp; omega
          | true => have := hL k h0; omega
        · refine ⟨by rw [hA.size, hsl.size], by rw [hA.defers, hsl.defers], fun s k hk h0 hd hlt => hA.come k s hk (by simpa using hk) hd (by have h9 := hsl.size; rw [h9] at hlt; exact hlt), fun s hr => ?_⟩
          by_cases hx : ∃ k, k < n ∧ (ops[k]?).bind (·.dst) = some s
          · obtain ⟨k, hk, hkd⟩ := hx
            have hS : listed.getD k false = true := by
              cases h0 : listed.getD k false with
              | true => rfl
              | false => exact absurd hkd (hr k hk h0)
            rcases Nat.lt_or_ge s (A 0).tmps.size with hlt | hge
            · rw [hA.come k s hk (by simpa using hk) hkd hlt, hsl.come k s hk hS hkd hlt]
            · rw [Array.getElem?_eq_none (by rw [hA.size]; exact hge), Array.getElem?_eq_none (by rw [hsl.size]; exact hge)]
          · rw [hA.rest s (fun q hq _ hqd => hx ⟨q, hq, hqd⟩), hsl.rest s (fun q hq _ hqd => hx ⟨q, hq, hqd⟩)]
  have h0 : ∀ k, (Array.replicate ops.length false).getD k false = false := fun k => by
    rcases Nat.lt_or_ge k ops.length with h | h
    · simp [h]
    · simp [h]
  refine main n _ (A 0) w _ ?_ (by omega) (by simp) (fun k hk => by rw [h0] at hk; cases hk) (fun j o ho hj => by simp only [h0] at hj; cases hj) ?_ hw
  · simp only [missing, h0]
    have : (List.range n).filter (fun k => !false) = List.range n := List.filter_eq_self.2 (fun _ _ => rfl)
    rw [this]
    simp
  · exact ⟨rfl, rfl, fun k t _ hs => (by rw [h0] at hs; cases hs), fun t _ => rfl⟩

/-- What the heads owe, in the order of the text; each leaves one value. -/
def wpH (P : Program) (ops : List Oper) (C : World → Prop) (M : Env → Prop) : List Oper → Env → Prop
  | [], K => M K
  | o :: rest, K =>
    match o.guard with
    | none => opH P K C (fun v => wpH P ops C M rest (putE o.dst v K)) o.type o.op
    | some (j, want) => match gdst ops j with
      | some d => (match K.get d with
        | some (.bool b) => (b = want → opH P (K.set d (.bool want)) C (fun v => wpH P ops C M rest (putE o.dst v (K.set d (.bool want)))) o.type o.op) ∧
            (b = !want → wpH P ops C M rest (putE o.dst undef (K.set d (.bool !want))))
        | some (.tuple _) => wpH P ops C M rest (putE o.dst undef K)
        | _ => False)
      | none => False

theorem wpH_steps (hN : 0 < N) {M : Env → Prop} : ∀ (rest : List Oper) (k : Nat) (K : Env) (a : Act), (∀ j, j < rest.length → rest[j]? = ops[k + j]?) → dstsOk N rest = true → Kn K N ds a → wpH P ops C M rest K →
    ∃ (A : Nat → Act) (V : Nat → Value) (K' : Env), A k = a ∧ (∀ i o, k ≤ i → i < k + rest.length → ops[i]? = some o → A (i + 1) = (A i).put o.dst (V i) ∧ Yl P ρ ops C o (V i) (A i)) ∧
      Kn K' N ds (A (k + rest.length)) ∧ M K'
  | [], k, K, a, _, _, ha, h => ⟨fun _ => a, fun _ => undef, K, rfl, fun i o h1 h2 => by simp at h2; omega, ha, h⟩
  | o :: rest, k, K, a, hr, hd, ha, h => by
    simp only [dstsOk, List.all_cons, Bool.and_eq_true] at hd
    have hd0 : ∀ d, o.dst = some d → d < N := fun d he => by have := hd.1; rw [he] at this; simpa using this
    have ho : ops[k]? = some o := by simpa using (hr 0 (by simp)).symm
    -- one step, whatever it leaves
    have go : ∀ (v : Value) (K1 : Env), Kn K1 N ds a → Yl P ρ ops C o v a → wpH P ops C M rest (putE o.dst v K1) →
        ∃ (A : Nat → Act) (V : Nat → Value) (K' : Env), A k = a ∧ (∀ i o', k ≤ i → i < k + (o :: rest).length → ops[i]? = some o' → A (i + 1) = (A i).put o'.dst (V i) ∧ Yl P ρ ops C o' (V i) (A i)) ∧
          Kn K' N ds (A (k + (o :: rest).length)) ∧ M K' := by
      intro v K1 hk1 hy hh
      obtain ⟨A, V, K', hA, hst, hk', hM⟩ := wpH_steps hN rest (k + 1) _ (a.put o.dst v) (fun j hj => by have := hr (j + 1) (by simp; omega); simpa [Nat.add_assoc, Nat.add_comm 1 j] using this) hd.2 (hk1.put hd0) hh
      refine ⟨fun i => if i = k then a else A i, fun i => if i = k then v else V i, K', by simp, fun i o' h1 h2 ho' => ?_, ?_, hM⟩
      · by_cases hi : i = k
        · subst hi
          rw [ho] at ho'; cases ho'
          simp [hA, hy]
        · have h3 := hst i o' (by omega) (by simp at h2; omega) ho'
          simp only [if_neg hi, if_neg (show i + 1 ≠ k by omega)]
          exact h3
      · have : k + (o :: rest).length = k + 1 + rest.length := by simp; omega
        rw [this]
        simp only [if_neg (show k + 1 + rest.length ≠ k by omega)]
        exact hk'
    have still : ∀ {K1 : Env} {v : Value}, Kn K1 N ds a → Region.wanted o (yielded ops.toArray a.tmps) = true → StillF P K1 C o.type o.op v → Yl P ρ ops C o v a := fun hk1 hwt hs =>
      .inl ⟨hwt, fun hk w' hw' => upon1_of_opF hk1 hN (hs.1 hk w' hw'), fun hk w' hw' => upon1_of_opF (C := fun x => x = w') hk1 hN (hs.2 hk w' hw')⟩
    simp only [wpH] at h
    cases hg : o.guard with
    | none =>
      rw [hg] at h
      obtain ⟨v, hv, hs⟩ := opH_still h
      exact go v K ha (still ha (by simp [Region.wanted, hg]) hs) hv
    | some gd =>
      obtain ⟨j, want⟩ := gd
      rw [hg] at h
      simp only at h
      split at h
      · rename_i d hgd
        have hy : yielded ops.toArray a.tmps j = match a.tmps[d]? with | some (.bool b) => some b | _ => none := by
          unfold gdst at hgd
          split at hgd
          · rename_i oj hj
            simp only [yielded, List.getElem?_toArray, hj, Option.bind_some, hgd]
            split <;> simp_all
          · cases hgd
        split at h
        · rename_i b hb
          have hya : yielded ops.toArray a.tmps j = some b := by rw [hy, ha.at_ _ _ hb]
          by_cases hbw : b = want
          · subst hbw
            have hw : Region.wanted o (yielded ops.toArray a.tmps) = true := by simp [Region.wanted, hg, hya]
            have ha' := ha.set hb
            obtain ⟨v, hv, hs⟩ := opH_still (h.1 rfl)
            exact go v _ ha' (still ha' hw hs) hv
          · have hbn : b = !want := by cases b <;> cases want <;> simp_all
            have hw : Region.wanted o (yielded ops.toArray a.tmps) = false := by simp [Region.wanted, hg, hya, hbw]
            exact go undef _ (ha.set (hbn ▸ hb)) (.inr ⟨hw, rfl⟩) (h.2 hbn)
        · rename_i x hb
          have hya : yielded ops.toArray a.tmps j = none := by rw [hy, ha.at_ _ _ hb]
          have hw : Region.wanted o (yielded ops.toArray a.tmps) = false := by simp [Region.wanted, hg, hya]
          exact go undef _ ha (.inr ⟨hw, rfl⟩) h
        · exact h.elim
      · exact h.elim

def oweC : Bool → Prop → Prop → Prop
  | true, c, m => c ∧ m
  | false, _, m => m
def oweP : Bool → Prop → Prop
  | true, p => p
  | false, _ => False
/-- What the later operations owe; 'fl' as in 'flags'. -/
def wpE (P : Program) (ops : List Oper) (C : World → Prop) (pan : List PanicEntry → Env → World → Prop) (M : Env → World → Prop) : List (Bool × Bool) → List Oper → Env → World → Prop
  | _, [], K, w => M K w
  | fl, o :: rest, K, w =>
    match o.guard with
    | none => opF P K w (fun v w' => oweC (fl.headD (false, false)).1 (C w') (wpE P ops C pan M fl.tail rest (putE o.dst v K) w')) (fun ch w' => oweP (fl.headD (false, false)).2 (pan ch K w')) o.type o.op
    | some (j, want) => match gdst ops j with
      | some d => (match K.get d with
        | some (.bool b) => (b = want → opF P (K.set d (.bool want)) w (fun v w' => oweC (fl.headD (false, false)).1 (C w') (wpE P ops C pan M fl.tail rest (putE o.dst v (K.set d (.bool want))) w')) (fun ch w' => oweP (fl.headD (false, false)).2 (pan ch (K.set d (.bool want)) w')) o.type o.op) ∧
            (b = !want → oweC (fl.headD (false, false)).1 (C w) (wpE P ops C pan M fl.tail rest (putE o.dst undef (K.set d (.bool !want))) w))
        | some (.tuple _) => oweC (fl.headD (false, false)).1 (C w) (wpE P ops C pan M fl.tail rest (putE o.dst undef K) w)
        | _ => False)
      | none => False

theorem oweC_sound {b : Bool} {c m m' : Prop} (h : oweC b c m) (hm : m → m') : (b = true → c) ∧ m' := by
  cases b
  · exact ⟨fun h => Bool.noConfusion h, hm h⟩
  · exact ⟨fun _ => h.1, hm h.2⟩
theorem oweP_sound {b : Bool} {p p' : Prop} (h : oweP b p) (hm : p → p') : b = true ∧ p' := by
  cases b
  · exact h.elim
  · exact ⟨rfl, hm h⟩

theorem wpE_sound {Φ : Post} {pan : List PanicEntry → Env → World → Prop} {M : Env → World → Prop} (hp : ∀ ch K w, pan ch K w → Φ (.panic ch) K ds w) (hM : ∀ K w, M K w → Φ .normal K ds w) :
    ∀ (rest : List Oper) (fl : List (Bool × Bool)) (K : Env) (w : World) (a : Act), dstsOk N rest = true → Kn K N ds a → wpE P ops C pan M fl rest K w → wpT P ρ ops.toArray C (lift N Φ) fl rest a w
  | [], fl, K, w, a, _, ha, h => ⟨K, ds, ha, hM _ _ h⟩
  | o :: rest, fl, K, w, a, hd, ha, h => by
    simp only [dstsOk, List.all_cons, Bool.and_eq_true] at hd
    have hd0 : ∀ d, o.dst = some d → d < N := fun d he => by have := hd.1; rw [he] at this; simpa using this
    simp only [wpE] at h
    unfold wpT
    cases hg : o.guard with
    | none =>
      rw [hg] at h
      simp only [Region.wanted, hg, if_true]
      exact opF_sound ha h (fun v w' hv => oweC_sound hv fun hv => wpE_sound hp hM rest _ _ _ _ hd.2 (ha.put hd0) hv) (fun ch w' hc => oweP_sound hc fun hc => ⟨K, ds, ha, hp _ _ _ hc⟩)
    | some gd =>
      obtain ⟨j, want⟩ := gd
      rw [hg] at h
      simp only at h
      split at h
      · rename_i d hgd
        have hy : yielded ops.toArray a.tmps j = match a.tmps[d]? with | some (.bool b) => some b | _ => none := by
          unfold gdst at hgd
          split at hgd
          · rename_i oj hj
            simp only [yielded, List.getElem?_toArray, hj, Option.bind_some, hgd]
            split <;> simp_all
          · cases hgd
        split at h
        · rename_i b hb
          have hya : yielded ops.toArray a.tmps j = some b := by rw [hy, ha.at_ _ _ hb]
          by_cases hbw : b = want
          · subst hbw
            have hw : Region.wanted o (yielded ops.toArray a.tmps) = true := by simp [Region.wanted, hg, hya]
            rw [if_pos hw]
            have ha' := ha.set hb
            exact opF_sound ha' (h.1 rfl) (fun v w' hv => oweC_sound hv fun hv => wpE_sound hp hM rest _ _ _ _ hd.2 (ha'.put hd0) hv) (fun ch w' hc => oweP_sound hc fun hc => ⟨_, ds, ha', hp _ _ _ hc⟩)
          · have hbn : b = !want := by cases b <;> cases want <;> simp_all
            have hw : ¬ Region.wanted o (yielded ops.toArray a.tmps) = true := by simp [Region.wanted, hg, hya, hbw]
            rw [if_neg hw]
            have ha' := ha.set (hbn ▸ hb)
            exact oweC_sound (h.2 hbn) fun hv => wpE_sound hp hM rest _ _ _ _ hd.2 (ha'.put hd0) hv
        · rename_i x hb
          have hya : yielded ops.toArray a.tmps j = none := by rw [hy, ha.at_ _ _ hb]
          have hw : ¬ Region.wanted o (yielded ops.toArray a.tmps) = true := by simp [Region.wanted, hg, hya]
          rw [if_neg hw]
          exact oweC_sound h fun hv => wpE_sound hp hM rest _ _ _ _ hd.2 (ha.put hd0) hv
        · exact h.elim
      · exact h.elim

/-- A REGION THAT DRAWS ITS ORDER: n heads, in worlds of the class C; then the others. -/
theorem ok_draw (n : Nat) (fl : List (Bool × Bool)) (C : World → Prop) {id : Nat} {Φ : Post} (hm : P.follows .mixedOrders = true) (hN : 0 < N) (hd : dstsOk N ops = true) (hB : drawOk ops n = true) (hfl : flags ops n = fl)
    (hC : C { w with drawn := w.drawn + 1 })
    (h : wpH P ops C (fun K' => ∀ w', C w' → wpE P ops C (fun ch K w => Φ (.panic ch) K ds w) (fun K w => Φ .normal K ds w) fl (ops.drop n) K' w') (ops.take n) K) :
    ok P ρ N (.region id ops.toArray true) K ds w Φ := by
  intro a ha
  subst hfl
  have hn := (drawOk_parts hB).1
  have hlen : (ops.take n).length = n := by simp; omega
  have hdall : ∀ l, (∀ o ∈ l, o ∈ ops) → dstsOk N l = true := fun l hl => by
    simp only [dstsOk, List.all_eq_true] at hd ⊢
    exact fun o ho => hd o (hl o ho)
  obtain ⟨A, V, K', hA, hst, hk', hM⟩ := wpH_steps (ρ := ρ) hN (ops.take n) 0 K a (fun j hj => by rw [hlen] at hj; simp [List.getElem?_take, hj]) (hdall _ fun o ho => List.mem_of_mem_take ho) ha h
  rw [hlen] at hst hk'
  simp only [Nat.zero_add] at hst hk'
  refine wpIn_region_any hm ?_
  have := any_of_heads (P := P) (ρ := ρ) (C := C) (Q := lift N Φ) hB (A := A) (V := V) (fun i o hi ho => (hst i o (Nat.zero_le _) hi ho).1) (fun i o hi ho => (hst i o (Nat.zero_le _) hi ho).2)
    (fun w' hw' => wpE_sound (fun _ _ _ h => h) (fun _ _ h => h) _ _ _ _ _ (hdall _ fun o ho => List.mem_of_mem_drop ho) hk' (hM w' hw')) hC
  rw [hA] at this
  simpa using this
end
end Go.Proofs.Vg
