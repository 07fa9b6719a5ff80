/- Part 2 of 14: Vg10, Vg11, Vg12, Vg13, Vg14, Vg15, D0, Fx, Vg16, Vg28. -/
import Derived.Test.YtafjfcameabbmaaM1
import Derived.RangeFuncLeaves
import Derived.RangeFuncRecord
import Derived.Test.YtafjfcameabbmaaProg
import Derived.KernelRfl
set_option linter.unusedVariables false
set_option linter.unusedSimpArgs false
namespace Go.Proofs.Vg
open Go Go.RowKit

section
variable {P : Program} {ρ : Option Nat} {N : Nat} {K : Env} {ds : List Deferred} {w : World} {ops : List Oper} {n : Nat} {C : World → Prop} {Q : Exit → Act → World → Prop}

/-- What each later operation needs to know: does it leave a head behind that reads memory; have all heads come. -/
def flagOf (ops : List Oper) (n t : Nat) : Bool × Bool := (late ops (masks [] ops) n t, (List.range n).all fun i => ((masks [] ops).getD t 0).testBit i)
def flags (ops : List Oper) (n : Nat) : List (Bool × Bool) := (List.range (ops.length - n)).map fun j => flagOf ops n (n + j)

/-- The slots that no later operation has written: as in 'Sl'. -/
structure SlD (ops : List Oper) (n t : Nat) (a0 : Act) (V : Nat → Value) (S : Nat → Bool) (b : Act) : Prop where
  size : b.tmps.size = a0.tmps.size
  come : ∀ s, (∀ k, n ≤ k → k < t → (ops[k]?).bind (·.dst) ≠ some s) → ∀ k, k < n → S k = true → (ops[k]?).bind (·.dst) = some s → s < a0.tmps.size → b.tmps[s]? = some (V k)
  rest : ∀ s, (∀ k, n ≤ k → k < t → (ops[k]?).bind (·.dst) ≠ some s) → (∀ k, k < n → S k = true → (ops[k]?).bind (·.dst) ≠ some s) → b.tmps[s]? = a0.tmps[s]?
/-- The act as it is, and as it would be had all heads come. -/
structure Sim (ops : List Oper) (n : Nat) (V : Nat → Value) (S : Nat → Bool) (b bs : Act) : Prop where
  size : bs.tmps.size = b.tmps.size
  defers : bs.defers = b.defers
  come : ∀ s k, k < n → S k = false → (ops[k]?).bind (·.dst) = some s → s < b.tmps.size → bs.tmps[s]? = some (V k)
  rest : ∀ s, (∀ k, k < n → S k = false → (ops[k]?).bind (·.dst) ≠ some s) → bs.tmps[s]? = b.tmps[s]?

theorem distinct_heads (hd : distinctOk ops n = true) {i k : Nat} (hi : i < n) (hk : k < n) {s : Nat} (h1 : (ops[i]?).bind (·.dst) = some s) (h2 : (ops[k]?).bind (·.dst) = some s) : i = k := by
  have := List.all_eq_true.1 (List.all_eq_true.1 hd i (List.mem_range.2 hi)) k (List.mem_range.2 hk)
  simp only [h1, h2, Bool.or_eq_true, beq_iff_eq, bne_iff_ne, ne_eq, not_true_eq_false, or_false] at this
  exact this

/-- The slots that a ready head looks at are as in the order of the text. -/
theorem look_head (h : drawOk ops n = true) {A0 Ai b : Act} {V : Nat → Value} {i t : Nat} {o : Oper} {L : Nat → Bool} (hi : i < n) (ho : ops[i]? = some o) (hlex : Sl ops n A0 V (fun k => decide (k < i)) Ai)
    (hc : Closed ops L) (h2 : ∀ k ∈ needs o, L k = true) (h1 : L i = false) (hb : SlD ops n t A0 V L b) (htail : ∀ k, n ≤ k → k < t → ∀ d, (ops[k]?).bind (·.dst) = some d → d ∉ looks ops o) :
    ∀ s ∈ looks ops o, Ai.tmps[s]? = b.tmps[s]? := by
  obtain ⟨hn, hheads, hdist, _⟩ := drawOk_parts h
  have get : ∀ i, i < n → ∃ o, ops[i]? = some o := fun i hi => ⟨ops[i]'(by omega), List.getElem?_eq_getElem (by omega)⟩
  have hho := hheads i hi
  simp only [headOk, ho, Bool.and_eq_true, List.all_eq_true, List.mem_range] at hho
  obtain ⟨_, hdep⟩ := hho
  have hml : ∀ k, ((masks [] ops).getD i 0).testBit k = true → L k = true := fun k hb =>
    mask_listed hc (j := i) (fun o'' ho'' k' hk' => by rw [ho] at ho''; cases ho''; exact h2 k' hk') hb
  have hmlex : ∀ k, ((masks [] ops).getD i 0).testBit k = true → k < i := fun k hb => by
    have hclex : Closed ops (fun k => decide (k < i)) := fun j o' ho' hj k hk => by
      have := needs_lt h ho' k hk
      simp only [decide_eq_true_eq] at hj ⊢
      omega
    have := mask_listed hclex (j := i) (fun o'' ho'' k' hk' => by rw [ho] at ho''; cases ho''; simpa using needs_lt h ho k' hk') hb
    simpa using this
  have hmlt : ∀ k, k < n → ((masks [] ops).getD k 0).testBit i = true → i < k := fun k hk hb => by
    obtain ⟨o', ho'⟩ := get k hk
    have hck : Closed ops (fun j => decide (j < k)) := fun j o' ho' hj q hq => by
      have := needs_lt h ho' q hq
      simp only [decide_eq_true_eq] at hj ⊢
      omega
    have := mask_listed hck (j := k) (fun o'' ho'' k' hk' => by simpa using needs_lt h ho'' k' hk') hb
    simpa using this
  have hnd : ∀ j, j < n → ((masks [] ops).getD j 0).testBit i = true → L j = false := fun j hj hb => by
    cases h0 : L j with
    | false => rfl
    | true =>
      have := mask_listed hc (j := j) (fun o'' ho'' k' hk' => hc j o'' ho'' h0 k' hk') hb
      rw [h1] at this; cases this
  intro s hs
  have hts : ∀ k, n ≤ k → k < t → (ops[k]?).bind (·.dst) ≠ some s := fun k hk1 hk2 hd => htail k hk1 hk2 s hd hs
  by_cases hx : ∃ k, k < n ∧ (ops[k]?).bind (·.dst) = some s
  · obtain ⟨k, hk, hkd⟩ := hx
    have hd := hdep k hk
    rw [hkd] at hd
    have htc : (looks ops o).contains s = true := by simpa using hs
    simp only [htc, Bool.not_true, Bool.false_or, Bool.and_eq_true, bne_iff_ne, ne_eq, Bool.or_eq_true] at hd
    obtain ⟨hki, hd⟩ := hd
    rcases hd with hd | hd
    · have h3 := hml k hd
      have h4 := hmlex k hd
      rcases Nat.lt_or_ge s A0.tmps.size with hlt | hge
      · rw [hlex.come k s hk (by simpa using h4) hkd hlt, hb.come s hts k hk h3 hkd hlt]
      · rw [Array.getElem?_eq_none (by rw [hlex.size]; exact hge), Array.getElem?_eq_none (by rw [hb.size]; exact hge)]
    · have h3 := hnd k hk hd
      have h4 := hmlt k hk hd
      rw [hlex.rest s (fun q hq hs' hqd => by have := distinct_heads hdist hq hk hqd hkd; subst this; simp at hs'; omega),
        hb.rest s hts (fun q hq hs' hqd => by have := distinct_heads hdist hq hk hqd hkd; subst this; rw [h3] at hs'; cases hs')]
  · rw [hlex.rest s (fun q hq _ hqd => hx ⟨q, hq, hqd⟩), hb.rest s hts (fun q hq _ hqd => hx ⟨q, hq, hqd⟩)]

/-- How many heads have not come. -/
def missing (n : Nat) (listed : Array Bool) : List Nat := (List.range n).filter fun k => !listed.getD k false
theorem missing_mem {listed : Array Bool} {k : Nat} : k ∈ missing n listed ↔ k < n ∧ listed.getD k false = false := by simp [missing]
theorem missing_set {listed : Array Bool} {i : Nat} (hi : i < n) (hs : i < listed.size) (h1 : listed.getD i false = false) : (missing n (listed.setIfInBounds i true)).length + 1 = (missing n listed).length := by
  have heq : missing n (listed.setIfInBounds i true) = (missing n listed).filter (fun k => decide (k ≠ i)) := by
    unfold missing
    rw [List.filter_filter]
    apply List.filter_congr
    intro k _
    rw [getD_set hs]
    cases hk : decide (k = i) <;> simp_all
  have hnd : (missing n listed).Nodup := List.Nodup.sublist List.filter_sublist List.nodup_range
  have hmem : i ∈ missing n listed := missing_mem.2 ⟨hi, h1⟩
  rw [heq]
  generalize missing n listed = l at hnd hmem
  have he : l.filter (fun k => decide (k ≠ i)) = l.erase i := by
    rw [hnd.erase_eq_filter]
    apply List.filter_congr
    intro x _
    by_cases hx : x = i <;> simp [hx]
  rw [he, List.length_erase_of_mem hmem]
  have : 0 < l.length := List.length_pos_of_mem hmem
  omega
theorem missing_first {listed : Array Bool} (h : missing n listed ≠ []) : ∃ i, i < n ∧ listed.getD i false = false ∧ ∀ k, k < i → listed.getD k false = true := by
  obtain ⟨x, hx⟩ := List.exists_mem_of_ne_nil _ h
  rw [missing_mem] at hx
  revert hx
  induction x using Nat.strongRecOn with
  | _ i ih' =>
    intro hi
    by_cases hx : ∃ k, k < i ∧ listed.getD k false = false
    · obtain ⟨k, hk, hk0⟩ := hx
      exact ih' k hk ⟨by omega, hk0⟩
    · refine ⟨i, hi.1, hi.2, fun k hk => ?_⟩
      cases h0 : listed.getD k false with
      | true => rfl
      | false => exact absurd ⟨k, hk, h0⟩ hx

theorem phaseB (h : drawOk ops n = true) {A : Nat → Act} {V : Nat → Value} (lexA : ∀ i, i ≤ n → Sl ops n (A 0) V (fun k => decide (k < i)) (A i))
    (still : ∀ i o, i < n → ops[i]? = some o → Yl P ρ ops C o (V i) (A i)) :
    ∀ (fuel : Nat) (listed : Array Bool) (t : Nat) (b bs : Act) (w : World), listed.size = ops.length → n ≤ t → t ≤ ops.length → (∀ k, n ≤ k → k < ops.length → (listed.getD k false = decide (k < t))) →
      Closed ops (fun k => listed.getD k false) → (∀ k, k < n → listed.getD k false = false → kindAt ops k ≠ 2) → ((∃ k, k < n ∧ listed.getD k false = false ∧ kindAt ops k = 1) → C w) →
      SlD ops n t (A 0) V (fun k => listed.getD k false) b → Sim ops n V (fun k => listed.getD k false) b bs →
      wpT P ρ ops.toArray C Q ((flags ops n).drop (t - n)) (ops.drop t) bs w → (missing n listed).length + (ops.length - t) ≤ fuel →
      wpAnyIn (fence ρ) 0 P .any ops.toArray Q fuel listed b w := by
  obtain ⟨hn, hheads, hdist, _⟩ := drawOk_parts h
  have get : ∀ i, i < ops.length → ∃ o, ops[i]? = some o := fun i hi => ⟨ops[i]'hi, List.getElem?_eq_getElem hi⟩
  intro fuel
  induction fuel with
  | zero =>
    intro listed t b bs w hs hnt htm hL hc hk2 hk1 hsl hsim hw hf
    have hm0 : missing n listed = [] := List.eq_nil_of_length_eq_zero (by omega)
    have ht : t = ops.length := by omega
    have hall : ∀ k, k < n → listed.getD k false = true := fun k hk => by
      cases h0 : listed.getD k false with
      | true => rfl
      | false => have := missing_mem.2 ⟨hk, h0⟩; rw [hm0] at this; cases this
    have hbs : bs = b := by
      have : bs.tmps = b.tmps := Array.ext_getElem? (fun s => hsim.rest s (fun k hk hs => by rw [hall k hk] at hs; cases hs))
      cases bs; cases b; simp only [Act.mk.injEq]; exact ⟨this, hsim.defers⟩
    subst hbs
    refine ⟨?_, ?_⟩
    · rw [List.eq_nil_iff_forall_not_mem]
      intro i hi
      obtain ⟨o, ho, h1, _⟩ := (ready_iff hs).1 hi
      have hil : i < ops.length := (List.getElem?_eq_some_iff.1 ho).1
      rcases Nat.lt_or_ge i n with h | h
      · rw [hall i h] at h1; cases h1
      · rw [hL i h hil] at h1; simp at h1; omega
    · have hdr : ops.drop t = [] := List.drop_eq_nil_iff.2 (by omega)
      rw [hdr] at hw
      exact hw
  | succ fuel ih =>
    intro listed t b bs w hs hnt htm hL hc hk2 hk1 hsl hsim hw hf
    refine ⟨fun h0 => ?_, fun i hi => ?_⟩
    · -- nothing is ready: all is done
      by_cases hm : missing n listed = []
      · have hall : ∀ k, k < n → listed.getD k false = true := fun k hk => by
          cases h0 : listed.getD k false with
          | true => rfl
          | false => have := missing_mem.2 ⟨hk, h0⟩; rw [hm] at this; cases this
        by_cases ht : t = ops.length
        · have hbs : bs = b := by
            have : bs.tmps = b.tmps := Array.ext_getElem? (fun s => hsim.rest s (fun k hk hs => by rw [hall k hk] at hs; cases hs))
            cases bs; cases b; simp only [Act.mk.injEq]; exact ⟨this, hsim.defers⟩
          subst hbs
          have hdr : ops.drop t = [] := List.drop_eq_nil_iff.2 (by omega)
          rw [hdr] at hw
          exact hw
        · obtain ⟨o, ho⟩ := get t (by omega)
          have : t ∈ Region.ready .any ops.toArray listed := (ready_iff hs).2 ⟨o, ho, by rw [hL t hnt (by omega)]; simp, fun k hk => by
            have hkt := needs_lt h ho k hk
            rcases Nat.lt_or_ge k n with h | h
            · exact hall k h
            · rw [hL k h (by omega)]; simpa using hkt⟩
          rw [h0] at this
          cases this
      · obtain ⟨i, hi, h1, h2⟩ := missing_first hm
        obtain ⟨o, ho⟩ := get i (by omega)
        have : i ∈ Region.ready .any ops.toArray listed := (ready_iff hs).2 ⟨o, ho, h1, fun k hk => h2 k (needs_lt h ho k hk)⟩
        rw [h0] at this
        cases this
    · obtain ⟨o, ho, h1, h2⟩ := (ready_iff hs).1 hi
      have hil : i < ops.length := (List.getElem?_eq_some_iff.1 ho).1
      have hset : ∀ k, (listed.setIfInBounds i true).getD k false = (decide (k = i) || listed.getD k false) := fun k => getD_set (by omega)
      have hmi : ∀ k, ((masks [] ops).getD i 0).testBit k = true → listed.getD k false = true := fun k hb =>
        mask_listed hc (j := i) (fun o'' ho'' k' hk' => by rw [ho] at ho''; cases ho''; exact h2 k' hk') hb
      rcases Nat.lt_or_ge i n with hin | hin
      · -- a head
        have htail : ∀ k, n ≤ k → k < t → ∀ d, (ops[k]?).bind (·.dst) = some d → d ∉ looks ops o := fun k hk1 hk2 d hd => by
          obtain ⟨ok_, hok⟩ := get k (by omega)
          have hLk : listed.getD k false = true := by rw [hL k hk1 (by omega)]; simpa using hk2
          rcases tail_before h hk1 hok (by omega : i < k) with hb | ⟨_, _, oi, hoi, hx1, hx2⟩
          · have := mask_listed hc (j := k) (fun o'' ho'' k' hk' => hc k o'' ho'' hLk k' hk') hb
            rw [h1] at this; cases this
          · rw [ho] at hoi; cases hoi
            exact hx2 d (by simpa [hok] using hd)
        have hlook := look_head h hin ho (lexA i (by omega)) hc h2 h1 hsl htail
        have hy := (still i o hin ho).same (sel_ok h ho) hlook
        have hkind : kindOf o.op = kindAt ops i := by simp [kindAt, ho]
        refine hy.op1 ho (by rw [hkind]; exact hk2 i hin h1) (by
          rw [hkind]
          have h2' := hk2 i hin h1
          have : kindAt ops i ≤ 2 := by
            unfold kindAt
            split
            · rename_i o' _
              unfold kindOf
              split <;> first | omega | (split <;> omega)
            · omega
          by_cases h3 : kindAt ops i = 0
          · exact .inl h3
          · exact .inr (hk1 ⟨i, hin, h1, by omega⟩)) ?_
        refine ih _ t _ bs w (by simp [hs]) hnt htm ?_ ?_ ?_ ?_ ?_ ?_ hw ?_
        · intro k hk1 hk2
          rw [hset, hL k hk1 hk2]
          have : k ≠ i := by omega
          simp [this]
        · intro j o' ho' hj k hk
          simp only [hset, Bool.or_eq_true, decide_eq_true_eq] at hj ⊢
          rcases hj with rfl | hj
          · rw [ho] at ho'; cases ho'; exact .inr (h2 k hk)
          · exact .inr (hc j o' ho' hj k hk)
        · intro k hk hk0
          rw [hset] at hk0
          simp only [Bool.or_eq_false_iff] at hk0
          exact hk2 k hk hk0.2
        · rintro ⟨k, hk, hk0, hkk⟩
          rw [hset] at hk0
          simp only [Bool.or_eq_false_iff] at hk0
          exact hk1 ⟨k, hk, hk0.2, hkk⟩
        · refine ⟨?_, ?_, ?_⟩
          · cases o.dst <;> simp [Act.put, hsl.size]
          · intro s hts k hk hks hkd hlt
            rw [hset] at hks
            simp only [Bool.or_eq_true, decide_eq_true_eq] at hks
            by_cases hki : k = i
            · subst hki
              have hod : o.dst = some s := by simpa [ho] using hkd
              simp [Act.put, hod, hsl.size, hlt]
            · have hks' : listed.getD k false = true := hks.resolve_left hki
              have := hsl.come s hts k hk hks' hkd hlt
              cases hod : o.dst with
              | none => exact this
              | some d =>
                have hne : d ≠ s := fun e => hki (distinct_heads hdist hk hin hkd (by simp [ho, hod, e]))
                simp only [Act.put, Array.getElem?_setIfInBounds_ne hne]
                exact this
          · intro s hts hr
            have h3 := hsl.rest s hts (fun k hk hks => hr k hk (by rw [hset]; simp [hks]))
            have h4 := hr i hin (by rw [hset]; simp)
            cases hod : o.dst with
            | none => exact h3
            | some d =>
              have hne : d ≠ s := fun e => h4 (by simp [ho, hod, e])
              simp only [Act.put, Array.getElem?_setIfInBounds_ne hne]
              exact h3
        · refine ⟨?_, ?_, ?_, ?_⟩
          · rw [hsim.size]; cases o.dst <;> simp [Act.put]
          · rw [hsim.defers]; cases o.dst <;> rfl
          · intro s k hk hks hkd hlt
            rw [hset] at hks
            simp only [Bool.or_eq_false_iff] at hks
            exact hsim.come s k hk hks.2 hkd (by
              have : (b.put o.dst (V i)).tmps.size = b.tmps.size := by cases o.dst <;> simp [Act.put]
              rw [this] at hlt; exact hlt)
          · intro s hr
            by_cases hsi : o.dst = some s
            · rcases Nat.lt_or_ge s b.tmps.size with hlt | hge
              · rw [hsim.come s i hin h1 (by simp [ho, hsi]) hlt]
                simp [Act.put, hsi, hlt]
              · rw [Array.getElem?_eq_none (by rw [hsim.size]; exact hge), Array.getElem?_eq_none (by simp [Act.put, hsi]; exact hge)]
            · have h3 := hsim.rest s (fun k hk hks hkd => by
                by_cases hki : k = i
                · subst hki; exact hsi (by simpa [ho] using hkd)
                · exact hr k hk (by rw [hset]; simp [hki, hks]) hkd)
              rw [h3]
              cases hod : o.dst with
              | none => rfl
              | some d =>
                have hne : d ≠ s := fun e => hsi (by rw [hod, e])
                simp only [Act.put, Array.getElem?_setIfInBounds_ne hne]
        · have := missing_set hin (by omega) h1
          omega
      · -- the next of the later ones
        have hit : i = t := by
          rcases Nat.lt_trichotomy i t with hlt | heq | hgt
          · rw [hL i hin hil] at h1; simp at h1; omega
          · exact heq
          · rcases tail_before h hin ho hgt with hb | ⟨hx, _⟩
            · have := hmi t hb
              rw [hL t hnt (by omega)] at this
              simp at this
            · omega
        subst hit
        have hlook : ∀ s ∈ looks ops o, bs.tmps[s]? = b.tmps[s]? := fun s hs' => hsim.rest s (fun k hk hks hkd => by
          rcases tail_before h hin ho (by omega : k < i) with hb | ⟨_, _, oi, hoi, hx1, _⟩
          · rw [hmi k hb] at hks; cases hks
          · exact (hx1 s (by simpa [hoi] using hkd)).1 hs')
        obtain ⟨hwant, hsem⟩ := same_op (ρ := ρ) (sel_ok h ho) hlook
        have hdr : ops.drop i = o :: ops.drop (i + 1) := by
          rw [List.drop_eq_getElem_cons hil]
          congr 1
          have := List.getElem?_eq_getElem hil
          rw [ho] at this; cases this; rfl
        rw [hdr] at hw
        have hfl : (flags ops n).drop (i - n) = flagOf ops n i :: (flags ops n).drop (i + 1 - n) := by
          have hlt : i - n < (flags ops n).length := by simp [flags]; omega
          rw [List.drop_eq_getElem_cons hlt]
          congr 1
          · simp [flags]; congr 1; omega
          · congr 1; omega
        rw [hfl] at hw
        unfold wpT at hw
        simp only [List.headD_cons, List.tail_cons] at hw
        have hfull : (flagOf ops n i).2 = true → b = bs := fun hf' => by
          simp only [flagOf, List.all_eq_true, List.mem_range] at hf'
          have hall : ∀ k, k < n → listed.getD k false = true := fun k hk => hmi k (hf' k hk)
          have : bs.tmps = b.tmps := Array.ext_getElem? (fun s => hsim.rest s (fun k hk hs => by rw [hall k hk] at hs; cases hs))
          cases bs; cases b; simp only [Act.mk.injEq]; exact ⟨this.symm, hsim.defers.symm⟩
        have next : ∀ (ds : List Deferred) (v : Value) (w' : World), ((flagOf ops n i).1 = true → C w') → wpT P ρ ops.toArray C Q ((flags ops n).drop (i + 1 - n)) (ops.drop (i + 1)) (({ tmps := bs.tmps, defers := ds } : Act).put o.dst v) w' →
            wpAnyIn (fence ρ) 0 P .any ops.toArray Q fuel (listed.setIfInBounds i true) (({ tmps := b.tmps, defers := ds } : Act).put o.dst v) w' := by
          intro ds v w' hC hw'
          refine ih _ (i + 1) _ _ w' (by simp [hs]) (by omega) (by omega) ?_ ?_ ?_ ?_ ?_ ?_ hw' ?_
          · intro k hk1 hk2
            rw [hset, hL k hk1 hk2]
            by_cases hki : k = i
            · subst hki; simp
            · simp only [hki, decide_false, Bool.false_or, decide_eq_decide]; omega
          · intro j o' ho' hj k hk
            simp only [hset, Bool.or_eq_true, decide_eq_true_eq] at hj ⊢
            rcases hj with rfl | hj
            · rw [ho] at ho'; cases ho'; exact .inr (h2 k hk)
            · exact .inr (hc j o' ho' hj k hk)
          · intro k hk hk0
            rw [hset] at hk0
            simp only [Bool.or_eq_false_iff] at hk0
            exact hk2 k hk hk0.2
          · rintro ⟨k, hk, hk0, hkk⟩
            rw [hset] at hk0
            simp only [Bool.or_eq_false_iff] at hk0
            refine hC ?_
            simp only [flagOf, late, List.any_eq_true, List.mem_range, Bool.and_eq_true, Bool.not_eq_true', beq_iff_eq]
            refine ⟨k, hk, ?_, hkk⟩
            cases hb : ((masks [] ops).getD i 0).testBit k with
            | false => rfl
            | true => rw [hmi k hb] at hk0; cases hk0.2
          · refine ⟨?_, ?_, ?_⟩
            · cases o.dst <;> simp [Act.put, hsl.size]
            · intro s hts k hk hks hkd hlt
              rw [hset] at hks
              have hki : k ≠ i := by omega
              simp only [hki, decide_false, Bool.false_or] at hks
              have := hsl.come s (fun q hq1 hq2 => hts q hq1 (by omega)) k hk hks hkd hlt
              have h3 := hts i hin (by omega)
              cases hod : o.dst with
              | none => exact this
              | some d =>
                have hne : d ≠ s := fun e => h3 (by simp [ho, hod, e])
                simp only [Act.put, Array.getElem?_setIfInBounds_ne hne]
                exact this
            · intro s hts hr
              have h3 := hts i hin (by omega)
              have h4 := hsl.rest s (fun q hq1 hq2 => hts q hq1 (by omega)) (fun k hk hks => hr k hk (by rw [hset]; simp [hks]))
              cases hod : o.dst with
              | none => exact h4
              | some d =>
                have hne : d ≠ s := fun e => h3 (by simp [ho, hod, e])
                simp only [Act.put, Array.getElem?_setIfInBounds_ne hne]
                exact h4
          · have hkeep : ∀ k, k < n → (listed.setIfInBounds i true).getD k false = false → listed.getD k false = false := fun k hk hks => by
              rw [hset] at hks
              simp only [Bool.or_eq_false_iff] at hks
              exact hks.2
            refine ⟨?_, ?_, ?_, ?_⟩
            · cases o.dst <;> simp [Act.put, hsim.size]
            · cases o.dst <;> rfl
            · intro s k hk hks hkd hlt
              have hks' := hkeep k hk hks
              have hlt' : s < b.tmps.size := by
                have : (({ tmps := b.tmps, defers := ds } : Act).put o.dst v).tmps.size = b.tmps.size := by cases o.dst <;> simp [Act.put]
                rw [this] at hlt; exact hlt
              have h3 := hsim.come s k hk hks' hkd hlt'
              have hne : o.dst ≠ some s := by
                rcases tail_before h hin ho (by omega : k < i) with hb | ⟨_, _, oi, hoi, hx1, _⟩
                · rw [hmi k hb] at hks'; cases hks'
                · exact (hx1 s (by simpa [hoi] using hkd)).2
              cases hod : o.dst with
              | none => exact h3
              | some d =>
                have hne' : d ≠ s := fun e => hne (by rw [hod, e])
                simp only [Act.put, Array.getElem?_setIfInBounds_ne hne']
                exact h3
            · intro s hr
              have h3 := hsim.rest s (fun k hk hks hkd => hr k hk (by
                rw [hset]
                have : k ≠ i := by omega
                simp [this, hks]) hkd)
              cases hod : o.dst with
              | none => exact h3
              | some d =>
                by_cases hds : d = s
                · subst hds
                  rcases Nat.lt_or_ge d b.tmps.size with hlt | hge
                  · simp [Act.put, hlt, hsim.size]
                  · rw [Array.getElem?_eq_none (by simp [Act.put, hsim.size]; exact hge), Array.getElem?_eq_none (by simp [Act.put]; exact hge)]
                · simp only [Act.put, Array.getElem?_setIfInBounds_ne hds]
                  exact h3
          · have hmeq : missing n (listed.setIfInBounds i true) = missing n listed := by
              unfold missing
              apply List.filter_congr
              intro k hk
              have hkn : k < n := List.mem_range.1 hk
              have : k ≠ i := by omega
              rw [hset]; simp [this]
            rw [hmeq]
            omega
        unfold wpOpIn
        simp only [List.getElem?_toArray, ho]
        rw [hwant] at hw
        split
        · rename_i hwt
          rw [if_pos hwt] at hw
          refine wpIn_transfer hsem hsim.defers hw (fun ds v w' hm => next ds v w' hm.1 hm.2) (fun ch w' hq => by rw [hfull hq.1]; exact hq.2) (fun ⟨a, w, hq⟩ => ⟨a, w, hq.2⟩)
        · rename_i hwt
          rw [if_neg hwt] at hw
          refine ⟨fun _ _ => trivial, ?_⟩
          have := next b.defers undef w hw.1 (by have := hw.2; rw [← hsim.defers]; exact this)
          exact this

theorem any_of_heads (h : drawOk ops n = true) {A : Nat → Act} {V : Nat → Value} (step : ∀ i o, i < n → ops[i]? = some o → A (i + 1) = (A i).put o.dst (V i))
    (still : ∀ i o, i < n → ops[i]? = some o → Yl P ρ ops C o (V i) (A i)) (tail : ∀ w', C w' → wpT P ρ ops.toArray C Q (flags ops n) (ops.drop n) (A n) w') {w : World} (hw : C w) :
    wpAnyIn (fence ρ) 0 P .any ops.toArray Q ops.length (Array.replicate ops.length false) (A 0) w := by
  obtain ⟨hn, hheads, hdist, _⟩ := drawOk_parts h
  have get : ∀ i, i < ops.length → ∃ o, ops[i]? = some o := fun i hi => ⟨ops[i]'hi, List.getElem?_eq_getElem hi⟩
  have lexA : ∀ i, i ≤ n → Sl ops n (A 0) V (fun k => decide (k < i)) (A i) := by
    intro i
    induction i with
    | zero => intro _; exact ⟨rfl, rfl, fun k t _ hs => by simp at hs, fun t _ => rfl⟩
    | succ i ih =>
      intro hi
      obtain ⟨o, ho⟩ := get i (by omega)
      rw [step i o (by omega) ho]
      exact (ih (by omega)).put hdist (by omega) ho (fun k _ => by simp; omega)
  have main : ∀ (u : Nat) (listed : Array Bool) (b : Act) (w : World) (fuel : Nat), (missing n listed).length = u → u + (ops.length - n) ≤ fuel → listed.size = ops.length →
      (∀ k, listed.getD k false = true → k < n) → Closed ops (fun k => listed.getD k false) → Sl ops n (A 0) V (fun k => listed.getD k false) b → C w →
      wpAnyIn (fence ρ) 0 P .any ops.toArray Q fuel listed b w := by
    intro u
    induction u with
    | zero =>
      intro listed b w fuel hu hf hs hL hc hsl hw
      have hm0 : missing n listed = [] := List.eq_nil_of_length_eq_zero hu
      have hall : ∀ k, k < n → listed.getD k false = true := fun k hk => by
        cases h0 : listed.getD k false with
        | true => rfl
        | false => have := missing_mem.2 ⟨hk, h0⟩; rw [hm0] at this; cases this
      refine phaseB h lexA still fuel listed n b (A n) w hs (Nat.le_refl _) hn ?_ hc (fun k hk h0 => by rw [hall k hk] at h0; cases h0) (fun _ => hw) ⟨hsl.size, fun s _ => fun k hk hS hd hlt => hsl.come k s hk hS hd hlt, fun s _ hr => hsl.rest s hr⟩ ?_ (by simpa using tail w hw) (by omega)
      · intro k hk1 hk2
        cases h0 : listed.getD k false with
        | false => simp; omega
        | true => have := hL k h0; omega
      · have : b = A n := hsl.eq (by
          have := lexA n (Nat.le_refl _)
          exact ⟨this.defers, this.size, fun k t hk _ => this.come k t hk (by simpa using hk), fun t hr => this.rest t (fun k hk _ => hr k hk (hall k hk))⟩)
        subst this
        exact ⟨rfl, rfl, (fun s k hk h0 => by rw [hall k hk] at h0; cases h0), fun _ _ => rfl⟩
    | succ u ih =>
      intro listed b w fuel hu hf hs hL hc hsl hw
      by_cases h2x : ∃ k, k < n ∧ listed.getD k false = false ∧ kindAt ops k = 2
      · obtain ⟨q, hq, hq0, hq2⟩ := h2x
        cases fuel with
        | zero => omega
        | succ fuel =>
          refine ⟨fun h0 => ?_, fun i hi => ?_⟩
          · obtain ⟨i, hi, h1, h2⟩ := missing_first (n := n) (listed := listed) (fun e => by rw [e] at hu; simp at hu)
            obtain ⟨o, ho⟩ := get i (by omega)
            have : i ∈ Region.ready .any ops.toArray listed := (ready_iff hs).2 ⟨o, ho, h1, fun k hk => h2 k (needs_lt h ho k hk)⟩
            rw [h0] at this
            cases this
          · obtain ⟨o, ho, h1, h2⟩ := (ready_iff hs).1 hi
            have hil : i < ops.length := (List.getElem?_eq_some_iff.1 ho).1
            have hmi : ∀ k, ((masks [] ops).getD i 0).testBit k = true → listed.getD k false = true := fun k hb =>
              mask_listed hc (j := i) (fun o'' ho'' k' hk' => by rw [ho] at ho''; cases ho''; exact h2 k' hk') hb
            have hin : i < n := by
              rcases Nat.lt_or_ge i n with hlt | hge
              · exact hlt
              · rcases tail_before h hge ho (by omega : q < i) with hb | ⟨_, hx, _⟩
                · rw [hmi q hb] at hq0; cases hq0
                · exact absurd hq2 hx
            have hlook := look_head (t := n) h hin ho (lexA i (by omega)) hc h2 h1 ⟨hsl.size, fun s _ => fun k hk hS hd hlt => hsl.come k s hk hS hd hlt, fun s _ hr => hsl.rest s hr⟩ (fun k hk1 hk2 => by omega)
            have hy := (still i o hin ho).same (sel_ok h ho) hlook
            refine hy.op ho hw (fun w'' hw'' => ih _ _ w'' fuel ?_ (by omega) (by simp [hs]) ?_ ?_ ?_ hw'')
            · have := missing_set hin (by omega) h1
              omega
            · intro k hk
              rw [getD_set (by omega)] at hk
              simp only [Bool.or_eq_true, decide_eq_true_eq] at hk
              rcases hk with rfl | hk
              · exact hin
              · exact hL k hk
            · intro j o' ho' hj k hk
              simp only [getD_set (show i < listed.size by omega), Bool.or_eq_true, decide_eq_true_eq] at hj ⊢
              rcases hj with rfl | hj
              · rw [ho] at ho'; cases ho'; exact .inr (h2 k hk)
              · exact .inr (hc j o' ho' hj k hk)
            · exact hsl.put hdist hin ho (fun k _ => by rw [getD_set (by omega)]; simp)
      · have hA := lexA n (Nat.le_refl _)
        refine phaseB h lexA still fuel listed n b (A n) w hs (Nat.le_refl _) hn ?_ hc (fun k hk h0 e => h2x ⟨k, hk, h0, e⟩) (fun _ => hw) ⟨hsl.size, fun s _ => fun k hk hS hd hlt => hsl.come k s hk hS hd hlt, fun s _ hr => hsl.rest s hr⟩ ?_ (by simpa using tail w hw) (by omega)
        · intro k hk1 hk2
          cases h0 : listed.getD k false with
          | false => simp; omega
          | true => have := hL k h0; omega
        · refine ⟨by rw [hA.size, hsl.size], by rw [hA.defers, hsl.defers], fun s k hk h0 hd hlt => hA.come k s hk (by simpa using hk) hd (by have h9 := hsl.size; rw [h9] at hlt; exact hlt), fun s hr => ?_⟩
          by_cases hx : ∃ k, k < n ∧ (ops[k]?).bind (·.dst) = some s
          · obtain ⟨k, hk, hkd⟩ := hx
            have hS : listed.getD k false = true := by
              cases h0 : listed.getD k false with
              | true => rfl
              | false => exact absurd hkd (hr k hk h0)
            rcases Nat.lt_or_ge s (A 0).tmps.size with hlt | hge
            · rw [hA.come k s hk (by simpa using hk) hkd hlt, hsl.come k s hk hS hkd hlt]
            · rw [Array.getElem?_eq_none (by rw [hA.size]; exact hge), Array.getElem?_eq_none (by rw [hsl.size]; exact hge)]
          · rw [hA.rest s (fun q hq _ hqd => hx ⟨q, hq, hqd⟩), hsl.rest s (fun q hq _ hqd => hx ⟨q, hq, hqd⟩)]
  have h0 : ∀ k, (Array.replicate ops.length false).getD k false = false := fun k => by
    rcases Nat.lt_or_ge k ops.length with h | h
    · simp [h]
    · simp [h]
  refine main n _ (A 0) w _ ?_ (by omega) (by simp) (fun k hk => by rw [h0] at hk; cases hk) (fun j o ho hj => by simp only [h0] at hj; cases hj) ?_ hw
  · simp only [missing, h0]
    have : (List.range n).filter (fun k => !false) = List.range n := List.filter_eq_self.2 (fun _ _ => rfl)
    rw [this]
    simp
  · exact ⟨rfl, rfl, fun k t _ hs => (by rw [h0] at hs; cases hs), fun t _ => rfl⟩

/-- What the heads owe, in the order of the text; each leaves one value. -/
def wpH (P : Program) (ops : List Oper) (C : World → Prop) (M : Env → Prop) : List Oper → Env → Prop
  | [], K => M K
  | o :: rest, K =>
    match o.guard with
    | none => opH P K C (fun v => wpH P ops C M rest (putE o.dst v K)) o.type o.op
    | some (j, want) => match gdst ops j with
      | some d => (match K.get d with
        | some (.bool b) => (b = want → opH P (K.set d (.bool want)) C (fun v => wpH P ops C M rest (putE o.dst v (K.set d (.bool want)))) o.type o.op) ∧
            (b = !want → wpH P ops C M rest (putE o.dst undef (K.set d (.bool !want))))
        | some (.tuple _) => wpH P ops C M rest (putE o.dst undef K)
        | _ => False)
      | none => False

theorem wpH_steps (hN : 0 < N) {M : Env → Prop} : ∀ (rest : List Oper) (k : Nat) (K : Env) (a : Act), (∀ j, j < rest.length → rest[j]? = ops[k + j]?) → dstsOk N rest = true → Kn K N ds a → wpH P ops C M rest K →
    ∃ (A : Nat → Act) (V : Nat → Value) (K' : Env), A k = a ∧ (∀ i o, k ≤ i → i < k + rest.length → ops[i]? = some o → A (i + 1) = (A i).put o.dst (V i) ∧ Yl P ρ ops C o (V i) (A i)) ∧
      Kn K' N ds (A (k + rest.length)) ∧ M K'
  | [], k, K, a, _, _, ha, h => ⟨fun _ => a, fun _ => undef, K, rfl, fun i o h1 h2 => by simp at h2; omega, ha, h⟩
  | o :: rest, k, K, a, hr, hd, ha, h => by
    simp only [dstsOk, List.all_cons, Bool.and_eq_true] at hd
    have hd0 : ∀ d, o.dst = some d → d < N := fun d he => by have := hd.1; rw [he] at this; simpa using this
    have ho : ops[k]? = some o := by simpa using (hr 0 (by simp)).symm
    -- one step, whatever it leaves
    have go : ∀ (v : Value) (K1 : Env), Kn K1 N ds a → Yl P ρ ops C o v a → wpH P ops C M rest (putE o.dst v K1) →
        ∃ (A : Nat → Act) (V : Nat → Value) (K' : Env), A k = a ∧ (∀ i o', k ≤ i → i < k + (o :: rest).length → ops[i]? = some o' → A (i + 1) = (A i).put o'.dst (V i) ∧ Yl P ρ ops C o' (V i) (A i)) ∧
          Kn K' N ds (A (k + (o :: rest).length)) ∧ M K' := by
      intro v K1 hk1 hy hh
      obtain ⟨A, V, K', hA, hst, hk', hM⟩ := wpH_steps hN rest (k + 1) _ (a.put o.dst v) (fun j hj => by have := hr (j + 1) (by simp; omega); simpa [Nat.add_assoc, Nat.add_comm 1 j] using this) hd.2 (hk1.put hd0) hh
      refine ⟨fun i => if i = k then a else A i, fun i => if i = k then v else V i, K', by simp, fun i o' h1 h2 ho' => ?_, ?_, hM⟩
      · by_cases hi : i = k
        · subst hi
          rw [ho] at ho'; cases ho'
          simp [hA, hy]
        · have h3 := hst i o' (by omega) (by simp at h2; omega) ho'
          simp only [if_neg hi, if_neg (show i + 1 ≠ k by omega)]
          exact h3
      · have : k + (o :: rest).length = k + 1 + rest.length := by simp; omega
        rw [this]
        simp only [if_neg (show k + 1 + rest.length ≠ k by omega)]
        exact hk'
    have still : ∀ {K1 : Env} {v : Value}, Kn K1 N ds a → Region.wanted o (yielded ops.toArray a.tmps) = true → StillF P K1 C o.type o.op v → Yl P ρ ops C o v a := fun hk1 hwt hs =>
      .inl ⟨hwt, fun hk w' hw' => upon1_of_opF hk1 hN (hs.1 hk w' hw'), fun hk w' hw' => upon1_of_opF (C := fun x => x = w') hk1 hN (hs.2 hk w' hw')⟩
    simp only [wpH] at h
    cases hg : o.guard with
    | none =>
      rw [hg] at h
      obtain ⟨v, hv, hs⟩ := opH_still h
      exact go v K ha (still ha (by simp [Region.wanted, hg]) hs) hv
    | some gd =>
      obtain ⟨j, want⟩ := gd
      rw [hg] at h
      simp only at h
      split at h
      · rename_i d hgd
        have hy : yielded ops.toArray a.tmps j = match a.tmps[d]? with | some (.bool b) => some b | _ => none := by
          unfold gdst at hgd
          split at hgd
          · rename_i oj hj
            simp only [yielded, List.getElem?_toArray, hj, Option.bind_some, hgd]
            split <;> simp_all
          · cases hgd
        split at h
        · rename_i b hb
          have hya : yielded ops.toArray a.tmps j = some b := by rw [hy, ha.at_ _ _ hb]
          by_cases hbw : b = want
          · subst hbw
            have hw : Region.wanted o (yielded ops.toArray a.tmps) = true := by simp [Region.wanted, hg, hya]
            have ha' := ha.set hb
            obtain ⟨v, hv, hs⟩ := opH_still (h.1 rfl)
            exact go v _ ha' (still ha' hw hs) hv
          · have hbn : b = !want := by cases b <;> cases want <;> simp_all
            have hw : Region.wanted o (yielded ops.toArray a.tmps) = false := by simp [Region.wanted, hg, hya, hbw]
            exact go undef _ (ha.set (hbn ▸ hb)) (.inr ⟨hw, rfl⟩) (h.2 hbn)
        · rename_i x hb
          have hya : yielded ops.toArray a.tmps j = none := by rw [hy, ha.at_ _ _ hb]
          have hw : Region.wanted o (yielded ops.toArray a.tmps) = false := by simp [Region.wanted, hg, hya]
          exact go undef _ ha (.inr ⟨hw, rfl⟩) h
        · exact h.elim
      · exact h.elim

def oweC : Bool → Prop → Prop → Prop
  | true, c, m => c ∧ m
  | false, _, m => m
def oweP : Bool → Prop → Prop
  | true, p => p
  | false, _ => False
/-- What the later operations owe; 'fl' as in 'flags'. -/
def wpE (P : Program) (ops : List Oper) (C : World → Prop) (pan : List PanicEntry → Env → World → Prop) (M : Env → World → Prop) : List (Bool × Bool) → List Oper → Env → World → Prop
  | _, [], K, w => M K w
  | fl, o :: rest, K, w =>
    match o.guard with
    | none => opF P K w (fun v w' => oweC (fl.headD (false, false)).1 (C w') (wpE P ops C pan M fl.tail rest (putE o.dst v K) w')) (fun ch w' => oweP (fl.headD (false, false)).2 (pan ch K w')) o.type o.op
    | some (j, want) => match gdst ops j with
      | some d => (match K.get d with
        | some (.bool b) => (b = want → opF P (K.set d (.bool want)) w (fun v w' => oweC (fl.headD (false, false)).1 (C w') (wpE P ops C pan M fl.tail rest (putE o.dst v (K.set d (.bool want))) w')) (fun ch w' => oweP (fl.headD (false, false)).2 (pan ch (K.set d (.bool want)) w')) o.type o.op) ∧
            (b = !want → oweC (fl.headD (false, false)).1 (C w) (wpE P ops C pan M fl.tail rest (putE o.dst undef (K.set d (.bool !want))) w))
        | some (.tuple _) => oweC (fl.headD (false, false)).1 (C w) (wpE P ops C pan M fl.tail rest (putE o.dst undef K) w)
        | _ => False)
      | none => False

theorem oweC_sound {b : Bool} {c m m' : Prop} (h : oweC b c m) (hm : m → m') : (b = true → c) ∧ m' := by
  cases b
  · exact ⟨fun h => Bool.noConfusion h, hm h⟩
  · exact ⟨fun _ => h.1, hm h.2⟩
theorem oweP_sound {b : Bool} {p p' : Prop} (h : oweP b p) (hm : p → p') : b = true ∧ p' := by
  cases b
  · exact h.elim
  · exact ⟨rfl, hm h⟩

theorem wpE_sound {Φ : Post} {pan : List PanicEntry → Env → World → Prop} {M : Env → World → Prop} (hp : ∀ ch K w, pan ch K w → Φ (.panic ch) K ds w) (hM : ∀ K w, M K w → Φ .normal K ds w) :
    ∀ (rest : List Oper) (fl : List (Bool × Bool)) (K : Env) (w : World) (a : Act), dstsOk N rest = true → Kn K N ds a → wpE P ops C pan M fl rest K w → wpT P ρ ops.toArray C (lift N Φ) fl rest a w
  | [], fl, K, w, a, _, ha, h => ⟨K, ds, ha, hM _ _ h⟩
  | o :: rest, fl, K, w, a, hd, ha, h => by
    simp only [dstsOk, List.all_cons, Bool.and_eq_true] at hd
    have hd0 : ∀ d, o.dst = some d → d < N := fun d he => by have := hd.1; rw [he] at this; simpa using this
    simp only [wpE] at h
    unfold wpT
    cases hg : o.guard with
    | none =>
      rw [hg] at h
      simp only [Region.wanted, hg, if_true]
      exact opF_sound ha h (fun v w' hv => oweC_sound hv fun hv => wpE_sound hp hM rest _ _ _ _ hd.2 (ha.put hd0) hv) (fun ch w' hc => oweP_sound hc fun hc => ⟨K, ds, ha, hp _ _ _ hc⟩)
    | some gd =>
      obtain ⟨j, want⟩ := gd
      rw [hg] at h
      simp only at h
      split at h
      · rename_i d hgd
        have hy : yielded ops.toArray a.tmps j = match a.tmps[d]? with | some (.bool b) => some b | _ => none := by
          unfold gdst at hgd
          split at hgd
          · rename_i oj hj
            simp only [yielded, List.getElem?_toArray, hj, Option.bind_some, hgd]
            split <;> simp_all
          · cases hgd
        split at h
        · rename_i b hb
          have hya : yielded ops.toArray a.tmps j = some b := by rw [hy, ha.at_ _ _ hb]
          by_cases hbw : b = want
          · subst hbw
            have hw : Region.wanted o (yielded ops.toArray a.tmps) = true := by simp [Region.wanted, hg, hya]
            rw [if_pos hw]
            have ha' := ha.set hb
            exact opF_sound ha' (h.1 rfl) (fun v w' hv => oweC_sound hv fun hv => wpE_sound hp hM rest _ _ _ _ hd.2 (ha'.put hd0) hv) (fun ch w' hc => oweP_sound hc fun hc => ⟨_, ds, ha', hp _ _ _ hc⟩)
          · have hbn : b = !want := by cases b <;> cases want <;> simp_all
            have hw : ¬ Region.wanted o (yielded ops.toArray a.tmps) = true := by simp [Region.wanted, hg, hya, hbw]
            rw [if_neg hw]
            have ha' := ha.set (hbn ▸ hb)
            exact oweC_sound (h.2 hbn) fun hv => wpE_sound hp hM rest _ _ _ _ hd.2 (ha'.put hd0) hv
        · rename_i x hb
          have hya : yielded ops.toArray a.tmps j = none := by rw [hy, ha.at_ _ _ hb]
          have hw : ¬ Region.wanted o (yielded ops.toArray a.tmps) = true := by simp [Region.wanted, hg, hya]
          rw [if_neg hw]
          exact oweC_sound h fun hv => wpE_sound hp hM rest _ _ _ _ hd.2 (ha.put hd0) hv
        · exact h.elim
      · exact h.elim

/-- A REGION THAT DRAWS ITS ORDER: n heads, in worlds of the class C; then the others. -/
theorem ok_draw (n : Nat) (fl : List (Bool × Bool)) (C : World → Prop) {id : Nat} {Φ : Post} (hm : P.follows .mixedOrders = true) (hN : 0 < N) (hd : dstsOk N ops = true) (hB : drawOk ops n = true) (hfl : flags ops n = fl)
    (hC : C { w with drawn := w.drawn + 1 })
    (h : wpH P ops C (fun K' => ∀ w', C w' → wpE P ops C (fun ch K w => Φ (.panic ch) K ds w) (fun K w => Φ .normal K ds w) fl (ops.drop n) K' w') (ops.take n) K) :
    ok P ρ N (.region id ops.toArray true) K ds w Φ := by
  intro a ha
  subst hfl
  have hn := (drawOk_parts hB).1
  have hlen : (ops.take n).length = n := by simp; omega
  have hdall : ∀ l, (∀ o ∈ l, o ∈ ops) → dstsOk N l = true := fun l hl => by
    simp only [dstsOk, List.all_eq_true] at hd ⊢
    exact fun o ho => hd o (hl o ho)
  obtain ⟨A, V, K', hA, hst, hk', hM⟩ := wpH_steps (ρ := ρ) hN (ops.take n) 0 K a (fun j hj => by rw [hlen] at hj; simp [List.getElem?_take, hj]) (hdall _ fun o ho => List.mem_of_mem_take ho) ha h
  rw [hlen] at hst hk'
  simp only [Nat.zero_add] at hst hk'
  refine wpIn_region_any hm ?_
  have := any_of_heads (P := P) (ρ := ρ) (C := C) (Q := lift N Φ) hB (A := A) (V := V) (fun i o hi ho => (hst i o (Nat.zero_le _) hi ho).1) (fun i o hi ho => (hst i o (Nat.zero_le _) hi ho).2)
    (fun w' hw' => wpE_sound (fun _ _ _ h => h) (fun _ _ h => h) _ _ _ _ _ (hdall _ fun o ho => List.mem_of_mem_drop ho) hk' (hM w' hw')) hC
  rw [hA] at this
  simpa using this
end
end Go.Proofs.Vg
set_option linter.unusedVariables false
set_option linter.unusedSimpArgs false
namespace Go.Proofs.Vg
open Go Go.RowKit

section
variable {P : Program} {t : TypeId} {k k' : IntKind} {a b : Int} {s u : ByteArray} {x y : Bool}
theorem bvAdd : binV P t .add (.int k a) (.int k' b) = some (k = k' ∧ inI k (a + b), .int k (a + b)) := rfl
theorem bvSub : binV P t .sub (.int k a) (.int k' b) = some (k = k' ∧ inI k (a - b), .int k (a - b)) := rfl
theorem bvMul : binV P t .mul (.int k a) (.int k' b) = some (k = k' ∧ inI k (a * b), .int k (a * b)) := rfl
theorem bvEql : binV P t .eql (.int k a) (.int k' b) = some (k = k', .bool (decide (a = b))) := rfl
theorem bvNeq : binV P t .neq (.int k a) (.int k' b) = some (k = k', .bool (!decide (a = b))) := rfl
theorem bvLss : binV P t .lss (.int k a) (.int k' b) = some (k = k', .bool (decide (a < b))) := rfl
theorem bvLeq : binV P t .leq (.int k a) (.int k' b) = some (k = k', .bool (decide (a ≤ b))) := rfl
theorem bvGtr : binV P t .gtr (.int k a) (.int k' b) = some (k = k', .bool (decide (b < a))) := rfl
theorem bvGeq : binV P t .geq (.int k a) (.int k' b) = some (k = k', .bool (decide (b ≤ a))) := rfl
theorem bvSEql : binV P t .eql (.string s) (.string u) = some (True, .bool (decide (s = u))) := rfl
theorem bvSNeq : binV P t .neq (.string s) (.string u) = some (True, .bool (!decide (s = u))) := rfl
theorem bvBEql : binV P t .eql (.bool x) (.bool y) = some (P.underlying t = some .bool, .bool (decide (x = y))) := rfl
theorem bvBNeq : binV P t .neq (.bool x) (.bool y) = some (P.underlying t = some .bool, .bool (!decide (x = y))) := rfl
end

/-- A test that is decided. -/
theorem ok_if {P : Program} {ρ : Option Nat} {N : Nat} {K : Env} {ds : List Deferred} {w : World} {Φ : Post} {c : Operand} {x y : Code} {p : Prop} [Decidable p] (hc : ev K c = some (.bool (decide p)))
    (ht : p → ok P ρ N x K ds w Φ) (hf : ¬ p → ok P ρ N y K ds w Φ) : ok P ρ N (.cond c x y) K ds w Φ :=
  ok_cond hc (fun h => ht (of_decide_eq_true h)) (fun h => hf (of_decide_eq_false h))
theorem ok_ifn {P : Program} {ρ : Option Nat} {N : Nat} {K : Env} {ds : List Deferred} {w : World} {Φ : Post} {c : Operand} {x y : Code} {p : Prop} [Decidable p] (hc : ev K c = some (.bool (!decide p)))
    (ht : ¬ p → ok P ρ N x K ds w Φ) (hf : p → ok P ρ N y K ds w Φ) : ok P ρ N (.cond c x y) K ds w Φ :=
  ok_cond hc (fun h => ht (by simpa using h)) (fun h => hf (by simpa using h))

/-- A function's contract: it returns. -/
def Rets (P : Program) (f : FuncId) (args : List Value) (w : World) (R : Value → World → Prop) : Prop := Calls P f args.toArray w (callR R fun _ _ => False)

section
variable {P : Program} {w : World} {next : Value → World → Prop} {pan : List PanicEntry → World → Prop} {R : Value → World → Prop}

theorem Rets.mono {f : FuncId} {args : List Value} {R' : Value → World → Prop} (h : Rets P f args w R) (hr : ∀ v w', R v w' → R' v w') : Rets P f args w R' :=
  Calls.mono h fun e w' he => by cases e <;> simp only [callR] at he ⊢ <;> first | exact hr _ _ he | exact he

theorem Inv.call {f : FuncId} {args : List Value} (hen : ∀ (xs : Array Value) (w : World), (callFunc f xs).run P w = .ok (.enter f xs) w) (h : Rets P f args w R) (hn : ∀ v w', R v w' → next v w') :
    Inv P (.func (.func f) #[] #[]) args w (callR next pan) := by
  refine .inl ⟨f, #[], #[], rfl, hen, ?_⟩
  have : (#[] ++ args.toArray ++ #[] : Array Value) = args.toArray := by simp
  rw [this]
  exact Calls.mono h fun e w' he => by cases e <;> simp only [callR] at he ⊢ <;> first | exact hn _ _ he | exact he.elim
/-- A closure: its captured values behind the arguments. -/
theorem Inv.clos {f : FuncId} {args cap : List Value} (hen : ∀ (xs : Array Value) (w : World), (callFunc f xs).run P w = .ok (.enter f xs) w) (h : Rets P f (args ++ cap) w R) (hn : ∀ v w', R v w' → next v w') :
    Inv P (.func (.func f) #[] cap.toArray) args w (callR next pan) := by
  refine .inl ⟨f, #[], cap.toArray, rfl, hen, ?_⟩
  have : (#[] ++ args.toArray ++ cap.toArray : Array Value) = (args ++ cap).toArray := by simp
  rw [this]
  exact Calls.mono h fun e w' he => by cases e <;> simp only [callR] at he ⊢ <;> first | exact hn _ _ he | exact he.elim

/-- A function's contract, from its body. -/
theorem rets_of_ok {f : FuncId} {fn : Func} {c : Code} {args : List Value} (hf : P.funcs[f]? = some fn) (hb : fn.body = some c) (hn : fn.ntmps = args.length + (fn.ntmps - args.length))
    (h : ok P none fn.ntmps c (argEnv 0 args) [] w (fin fn.results.toList (callR R fun _ _ => False))) : Rets P f args w R := calls_of_ok hf hb hn h

theorem add_at (b o n : Nat) : (⟨b, o, none⟩ : Addr).add n = ⟨b, o + n, none⟩ := by unfold Addr.add; split <;> simp_all

/-! Slices: 'sz' cells an element. -/
def Sli (w : World) (sz : Nat) (v : Value) (rows : List (List Value)) : Prop :=
  ∃ A c, v = .slice A rows.length c ∧ rows.length ≤ 140737488355328 ∧ ∀ j row, rows[j]? = some row → ∃ b o, A = some ⟨b, o, none⟩ ∧ cellsAt w ⟨b, o + j * sz, none⟩ row
theorem Sli.ext {sz : Nat} {v : Value} {rows : List (List Value)} {w' : World} (h : Sli w sz v rows) (he : Ext w w') : Sli w' sz v rows := by
  obtain ⟨A, c, hv, hl, hr⟩ := h
  exact ⟨A, c, hv, hl, fun j row hj => by
    obtain ⟨b, o, hA, hc⟩ := hr j row hj
    exact ⟨b, o, hA, he.cellsAt hc⟩⟩
def ints (xs : List Int) : List (List Value) := xs.map fun x => [.int .i64 x]
def bls (xs : List Bool) : List (List Value) := xs.map fun x => [.bool x]
abbrev SlI (w : World) (v : Value) (xs : List Int) : Prop := Sli w 1 v (ints xs)
abbrev SlB (w : World) (v : Value) (xs : List Bool) : Prop := Sli w 1 v (bls xs)
@[simp] theorem ints_length (xs : List Int) : (ints xs).length = xs.length := by simp [ints]
@[simp] theorem bls_length (xs : List Bool) : (bls xs).length = xs.length := by simp [bls]
/-- An element's cell. -/
theorem SlI.at_ {v : Value} {xs : List Int} (h : SlI w v xs) : ∃ A c, v = .slice A xs.length c ∧ xs.length ≤ 140737488355328 ∧ ∀ j, (hj : j < xs.length) → ∃ b o, A = some ⟨b, o, none⟩ ∧ w.cell? ⟨b, o + j, none⟩ = some (.int .i64 xs[j]) := by
  obtain ⟨A, c, hv, hl, hr⟩ := h
  refine ⟨A, c, by simpa using hv, by simpa using hl, fun j hj => ?_⟩
  obtain ⟨b, o, hA, hc⟩ := hr j [.int .i64 xs[j]] (by simp [ints, hj])
  refine ⟨b, o, hA, ?_⟩
  have := hc 0 _ rfl
  simpa [add_at] using this
theorem SlB.at_ {v : Value} {xs : List Bool} (h : SlB w v xs) : ∃ A c, v = .slice A xs.length c ∧ xs.length ≤ 140737488355328 ∧ ∀ j, (hj : j < xs.length) → ∃ b o, A = some ⟨b, o, none⟩ ∧ w.cell? ⟨b, o + j, none⟩ = some (.bool xs[j]) := by
  obtain ⟨A, c, hv, hl, hr⟩ := h
  refine ⟨A, c, by simpa using hv, by simpa using hl, fun j hj => ?_⟩
  obtain ⟨b, o, hA, hc⟩ := hr j [.bool xs[j]] (by simp [bls, hj])
  refine ⟨b, o, hA, ?_⟩
  have := hc 0 _ rfl
  simpa [add_at] using this
end
end Go.Proofs.Vg
set_option linter.unusedVariables false
set_option linter.unusedSimpArgs false
namespace Go.Proofs.Vg
open Go Go.RowKit

/-! Memory. -/
/-- Blocks outside of S are as they were. -/
structure Chg (S : Nat → Prop) (w w' : World) : Prop where
  os : w'.os = w.os
  tape : w'.tape = w.tape
  output : w'.output = w.output
  size : w.heap.size ≤ w'.heap.size
  block : ∀ k, k < w.heap.size → ¬ S k → w'.heap[k]? = w.heap[k]?
theorem Chg.refl (S : Nat → Prop) (w : World) : Chg S w w := ⟨rfl, rfl, rfl, Nat.le_refl _, fun _ _ _ => rfl⟩
theorem Chg.trans {S : Nat → Prop} {a b c : World} (h : Chg S a b) (k : Chg S b c) : Chg S a c :=
  ⟨k.os.trans h.os, k.tape.trans h.tape, k.output.trans h.output, Nat.le_trans h.size k.size, fun i hi hs => (k.block i (Nat.lt_of_lt_of_le hi h.size) hs).trans (h.block i hi hs)⟩
theorem Chg.mono {S S' : Nat → Prop} {a b : World} (h : Chg S a b) (hs : ∀ k, k < a.heap.size → S k → S' k) : Chg S' a b :=
  ⟨h.os, h.tape, h.output, h.size, fun i hi hn => h.block i hi (fun hk => hn (hs i hi hk))⟩
theorem Ext.chg {a b : World} (h : Ext a b) (S : Nat → Prop) : Chg S a b := ⟨h.os, h.tape, h.output, h.size, fun i hi _ => Below.block h i hi⟩
theorem Chg.ext {S : Nat → Prop} {a b : World} (h : Chg S a b) (hs : ∀ k, k < a.heap.size → ¬ S k) : Ext a b := ⟨h.os, h.tape, h.output, h.size, fun i hi => h.block i hi (hs i hi)⟩
/-- Since a, only what is newer than a has turned. -/
theorem Ext.chg_trans {S : Nat → Prop} {a b c : World} (h : Ext a b) (k : Chg S b c) (hs : ∀ i, S i → a.heap.size ≤ i) : Ext a c :=
  ⟨k.os.trans h.os, k.tape.trans h.tape, k.output.trans h.output, Nat.le_trans h.size k.size, fun i hi => (k.block i (Nat.lt_of_lt_of_le hi h.size) (fun hk => absurd (hs i hk) (by omega))).trans (Below.block h i hi)⟩

/-- A block of cells, none frozen. -/
def Blk (w : World) (b : Nat) (cs : List Value) (e : TypeId) : Prop := w.heap[b]? = some (.cells cs.toArray e (0, 0))
section
variable {w w' : World} {b : Nat} {cs : List Value} {e : TypeId} {S : Nat → Prop}
theorem Blk.lt (h : Blk w b cs e) : b < w.heap.size := (Array.getElem?_eq_some_iff.1 h).1
theorem Blk.ext (h : Blk w b cs e) (he : Ext w w') : Blk w' b cs e := he.block h
theorem Blk.chg (h : Blk w b cs e) (hc : Chg S w w') (hs : ¬ S b) : Blk w' b cs e := (hc.block b h.lt hs).trans h
theorem Blk.cell (h : Blk w b cs e) {j : Nat} {u : Value} (hj : cs[j]? = some u) : w.cell? ⟨b, j, none⟩ = some u := by
  unfold World.cell?
  rw [show w.heap[(⟨b, j, none⟩ : Addr).block]? = some (.cells cs.toArray e (0, 0)) from h]
  simpa using hj
theorem Blk.cells (h : Blk w b cs e) {o : Nat} {row : List Value} (hr : ∀ j u, row[j]? = some u → cs[o + j]? = some u) : cellsAt w ⟨b, o, none⟩ row := fun j u hj => by
  rw [add_at]; exact h.cell (hr j u hj)
theorem Chg.cell (hc : Chg S w w') {a : Addr} {v : Value} (h : w.cell? a = some v) (hs : ¬ S a.block) : w'.cell? a = some v :=
  (World.cell?_of_block (w := w) (hc.block a.block (World.block_lt_of_cell? w a h) hs)).trans h
theorem Chg.cellsAt (hc : Chg S w w') {a : Addr} {cs : List Value} (h : cellsAt w a cs) (hs : ¬ S a.block) : cellsAt w' a cs := fun j u hj => hc.cell (h j u hj) (by
  unfold Addr.add; split <;> exact hs)
end

section
variable {P : Program} {w : World}
/-- A type's zero value, its cells, its bytes. -/
def zinfo (P : Program) (t : TypeId) : Option (Option Value × Nat × Nat) := (P.info? t).map fun i => (i.zero, i.size, i.bytes)
theorem zinfo_some {t : TypeId} {z : Option Value} {n by_ : Nat} (h : zinfo P t = some (z, n, by_)) : ∃ i, P.info? t = some i ∧ i.zero = z ∧ i.size = n ∧ i.bytes = by_ := by
  unfold zinfo at h
  cases hi : P.info? t with
  | none => simp [hi] at h
  | some i => simp [hi] at h; exact ⟨i, rfl, h.1, h.2.1, h.2.2⟩

/-- A new block at the end of the heap. -/
def newW (w : World) (cs : List Value) (e : TypeId) : World := w.alloc (.cells cs.toArray e)
theorem newW_ext (w : World) (cs : List Value) (e : TypeId) : Ext w (newW w cs e) := ⟨rfl, rfl, rfl, by simp [newW], fun k hk => Below.heap_alloc w _ k hk⟩
theorem newW_blk (w : World) (cs : List Value) (e : TypeId) : Blk (newW w cs e) w.heap.size cs e := heap_alloc_new w _
theorem newW_size (w : World) (cs : List Value) (e : TypeId) : (newW w cs e).heap.size = w.heap.size + 1 := by simp [newW]

theorem Runs.alloc {t : TypeId} {z : Value} {n by_ : Nat} {nx : Value → World → Prop} (hz : zinfo P t = some (some z, n, by_))
    (h : ∀ w1, Ext w w1 → w1.heap.size = w.heap.size + 1 → Blk w1 w.heap.size z.cells.toList t → nx (.pointer (some ⟨w.heap.size, 0, none⟩)) w1) : Runs P (Instr.alloc t true (.tuple #[])) w nx := by
  obtain ⟨i, hi, hz, _, _⟩ := zinfo_some hz
  refine ⟨_, newW w z.cells.toList t, ?_, h _ (newW_ext _ _ _) (newW_size _ _ _) (newW_blk _ _ _)⟩
  simp [Instr.alloc, zeroValue, typeInfo, hi, hz, newVar, newRow, newObj, Sem.run, newW]
theorem Runs.box {t : TypeId} {v : Value} {nx : Value → World → Prop}
    (h : ∀ w1, Ext w w1 → w1.heap.size = w.heap.size + 1 → Blk w1 w.heap.size v.cells.toList t → nx (.pointer (some ⟨w.heap.size, 0, none⟩)) w1) : Runs P (Instr.box t v) w nx := by
  refine ⟨_, newW w v.cells.toList t, ?_, h _ (newW_ext _ _ _) (newW_size _ _ _) (newW_blk _ _ _)⟩
  simp [Instr.box, newVar, newRow, newObj, Sem.run, newW]

/-- Some cells of a list replaced. -/
def splice (cs : List Value) (o : Nat) (vs : List Value) : List Value := cs.take o ++ vs ++ cs.drop (o + vs.length)
theorem splice_one (cs : List Value) (o : Nat) (v : Value) (h : o < cs.length) : splice cs o [v] = cs.set o v := by
  unfold splice
  rw [List.set_eq_take_append_cons_drop, if_pos h]
  simp
theorem splice_length (cs : List Value) (o : Nat) (vs : List Value) (h : o + vs.length ≤ cs.length) : (splice cs o vs).length = cs.length := by
  unfold splice; simp; omega
theorem splice_all (cs vs : List Value) (h : vs.length = cs.length) : splice cs 0 vs = vs := by
  unfold splice; simp [h]

theorem Runs.store {t : TypeId} {b o : Nat} {cs : List Value} {e : TypeId} {v : Value} {z : Option Value} {n by_ : Nat} {nx : World → Prop} (hb : Blk w b cs e) (hz : zinfo P t = some (z, n, by_)) (hv : v.cells.size = n)
    (h1 : ∀ u ∈ v.cells.toList, u.oneCell' = true) (hfit : o + n ≤ cs.length)
    (h : ∀ w1, Chg (· = b) w w1 → w1.heap.size = w.heap.size → Blk w1 b (splice cs o v.cells.toList) e → nx w1) : Runs P (storeVar t ⟨b, o, none⟩ v) w (fun _ w' => nx w') := by
  obtain ⟨i, hi, _, hs, _⟩ := zinfo_some hz
  have hr := run_storeCells_at P b o e v.cells.toList 0 cs.toArray w hb (by simp; omega) h1
  refine ⟨(), w.setRow b (splice cs o v.cells.toList).toArray, ?_, h _ ?_ (size_setRow _ _ _) ?_⟩
  · simp only [storeVar, sizeOf, typeInfo, Sem.run_bind]
    simp [hi, hs, hv] at hr ⊢
    rw [hr]
    simp [splice, hv]
  · exact ⟨rfl, rfl, rfl, by rw [size_setRow]; exact Nat.le_refl _, fun k _ hk => setRow_other w b k _ hk⟩
  · exact setRow_heap w b cs.toArray _ e _ hb

/-- make([]T, n), T of one cell. -/
theorem Runs.make1 {t e : TypeId} {z : Value} {by_ : Nat} {k : IntKind} {n : Int} {nx : Value → World → Prop} (ht : P.underlying t = some (.slice e)) (hz : zinfo P e = some (some z, 1, by_)) (hzc : z.cells = #[z])
    (h0 : 0 ≤ n) (hn : (by_ : Int) * n ≤ 281474976710656) (h63 : n ≤ 9223372036854775807)
    (h : ∀ w1, Ext w w1 → w1.heap.size = w.heap.size + 1 → Blk w1 w.heap.size (List.replicate n.toNat z) e → nx (.slice (some ⟨w.heap.size, 0, none⟩) n.toNat n.toNat) w1) :
    Runs P (Instr.makeSlice t (.int k n) (.int k n)) w nx := by
  obtain ⟨i, hi, hzz, hs, hb⟩ := zinfo_some hz
  have hr := run_make (P := P) w t e i z ht hi hzz k k n n h0 (Int.le_refl _) (by rw [hb]; exact hn) h63
  have hm : madeCells z.cells (n.toNat * i.size) = (List.replicate n.toNat z).toArray := by
    rw [hs, hzc, Nat.mul_one]
    apply Array.ext
    · simp [madeCells]
    · intro j h1 h2
      simp [madeCells, Nat.mod_one]
  rw [hm] at hr
  exact ⟨_, _, hr, h (newW w (List.replicate n.toNat z) e) (newW_ext _ _ _) (newW_size _ _ _) (newW_blk _ _ _)⟩

/-- A literal slice, its cells by evaluation. -/
theorem Runs.lit {t : TypeId} {e n : Nat} {parts : List (Nat × Value)} {cs : List Value} {nx : Value → World → Prop} {z : Value} {sz by_ : Nat} (ht : P.underlying t = some (.slice e)) (hz : zinfo P e = some (some z, sz, by_))
    (hsm : n * sz ≤ 16777216) (hf : Instr.fill (fun i => some (i * sz, sz)) ((Array.range (n * sz)).map fun j => z.cells[j % z.cells.size]!) parts = some cs.toArray) (hn : 0 < n * sz)
    (h : ∀ w1, Ext w w1 → w1.heap.size = w.heap.size + 1 → Blk w1 w.heap.size cs e → nx (.slice (some ⟨w.heap.size, 0, none⟩) n n) w1) : Runs P (Instr.buildSlice t n parts.toArray) w nx := by
  obtain ⟨i, hi, hzz, hs, hb⟩ := zinfo_some hz
  refine ⟨_, newW w cs e, ?_, h _ (newW_ext _ _ _) (newW_size _ _ _) (newW_blk _ _ _)⟩
  subst hs
  have h1 : ¬ (n * i.size > 2 ^ 24) := by omega
  have h2 : ¬ (n * i.size = 0) := by omega
  simp [Instr.buildSlice, run_underlying ht, sizeOf, zeroValue, typeInfo, hi, hzz, hf, newRow, newObj, Sem.run, newW, h1, h2]
end
end Go.Proofs.Vg
set_option linter.unusedVariables false
set_option linter.unusedSimpArgs false
namespace Go.Proofs.Vg
open Go Go.RowKit

/-! A range over a function. -/
/-- A call of yield l: the loop's body goes through one round. -/
def Yields (P : Program) (l : Nat) (args : List Value) (W : World) (R : Bool → World → Prop) : Prop :=
  ∃ fn tmps assign body, (Instr.yield l args.toArray).run P W = .ok (.round l fn tmps assign body) W ∧
    RoundIn (fence none) 0 P l fn tmps assign body W (fun e W' => ∃ b, e = .returned (.bool b) ∧ R b W')

theorem Inv.yield {P : Program} {l : Nat} {args : List Value} {W : World} {R : Bool → World → Prop} {next : Value → World → Prop} {pan : List PanicEntry → World → Prop} (h : Yields P l args W R) (hn : ∀ b W', R b W' → next (.bool b) W') :
    Inv P (.func (.yield l) #[] #[]) args W (callR next pan) := by
  obtain ⟨fn, tmps, assign, body, hy, hr⟩ := h
  refine .inr ⟨l, #[], #[], fn, tmps, assign, body, rfl, by simpa using hy, RoundIn.mono hr ?_⟩
  rintro e W' ⟨b, rfl, hb⟩
  exact hn _ _ hb

/-- Worlds alike but for the two blocks of a loop's book-keeping. -/
structure Off (n : Nat) (W W' : World) : Prop where
  os : W'.os = W.os
  tape : W'.tape = W.tape
  output : W'.output = W.output
  size : W'.heap.size = W.heap.size
  block : ∀ k, k ≠ n → k ≠ n + 1 → W'.heap[k]? = W.heap[k]?
theorem Off.put (n : Nat) (W : World) (o : Obj) : Off n W (W.putObj (n + 1) o) := ⟨rfl, rfl, rfl, by simp, fun k _ h => World.putObj_heap_other h⟩
def Keep (n : Nat) (W W' : World) : Prop := W'.heap[n]? = W.heap[n]? ∧ W'.heap[n + 1]? = W.heap[n + 1]?
theorem Keep.refl (n : Nat) (W : World) : Keep n W W := ⟨rfl, rfl⟩
theorem Keep.trans {n : Nat} {a b c : World} (h : Keep n a b) (k : Keep n b c) : Keep n a c := ⟨k.1.trans h.1, k.2.trans h.2⟩
theorem Keep.ext {n : Nat} {W W' : World} (h : Ext W W') (hn : n + 1 < W.heap.size) : Keep n W W' := ⟨Below.block h n (by omega), Below.block h (n + 1) hn⟩
theorem Keep.chg {n : Nat} {S : Nat → Prop} {W W' : World} (h : Chg S W W') (hn : n + 1 < W.heap.size) (h0 : ¬ S n) (h1 : ¬ S (n + 1)) : Keep n W W' := ⟨h.block n (by omega) h0, h.block (n + 1) hn h1⟩

def bindE : List Nat → List Value → Env → Env
  | p :: ps, v :: vs, K => bindE ps vs ((p, v) :: K)
  | _, _, K => K

section
variable {P : Program} {N : Nat} {K : Env} {ds : List Deferred} {w : World} {a : Act} {Φ : Post}

theorem Kn.bind : ∀ (ps : List Nat) (vs : List Value) (K : Env) (tmps : Array Value), (∀ p ∈ ps, p < N) → Kn K N [] { tmps := tmps, defers := [] } →
    Kn (bindE ps vs K) N [] { tmps := (ps.zip vs).foldl (fun tmps (p : Nat × Value) => tmps.setIfInBounds p.1 p.2) tmps, defers := [] }
  | [], vs, K, tmps, _, h => by cases vs <;> exact h
  | p :: ps, [], K, tmps, _, h => h
  | p :: ps, v :: vs, K, tmps, hp, h => by
    simp only [bindE, List.zip_cons_cons, List.foldl_cons]
    exact Kn.bind ps vs _ _ (fun q hq => hp q (List.mem_cons_of_mem _ hq)) (h.put (dst := some p) (v := v) (fun d hd => by cases hd; exact hp p List.mem_cons_self))

/-- The mark that an outermost loop leaves. -/
def markOf (n : Nat) : Deferred := { target := .collected n, args := #[] }

theorem ok_range {S : Type} {g : Operand} {ps : List Nat} {assign body : Code} {gf : FuncId} {cap : List Value} (J : S → World → Prop) (Jx : Code → World → Prop) (s0 : S) (elem : S → List Value) (more fini : S → Prop) (nxt : S → S → Prop)
    (hg : ev K g = some (.func (.func gf) #[] cap.toArray)) (hen : ∀ (xs : Array Value) (w : World), (callFunc gf xs).run P w = .ok (.enter gf xs) w)
    (hps : ∀ p ∈ ps, p < N) (hel : ∀ s, more s → (elem s).length = ps.length)
    (hst : ∀ s W W', Off w.heap.size W W' → J s W → J s W') (hstx : ∀ c W W', Off w.heap.size W W' → Jx c W → Jx c W') (hmono : ∀ s W W', Ext W W' → J s W → J s W')
    (hJ0 : ∀ W, Ext w W → W.heap.size = w.heap.size + 2 → J s0 W)
    (hround : ∀ s W, more s → J s W → w.heap.size + 1 < W.heap.size → ok P (some (w.heap.size + 1)) N assign (bindE ps (elem s) K) [] W (fun e K1 ds1 W1 => e = .normal ∧ Keep w.heap.size W W1 ∧
      ∀ W2, Off w.heap.size W1 W2 → ok P (some (w.heap.size + 1)) N body K1 ds1 W2 (fun e K3 ds3 W3 => Keep w.heap.size W2 W3 ∧ match e with
        | .normal => ∃ s', nxt s s' ∧ J s' W3
        | .ret => Jx .ret W3
        | .exit id => Jx (.exit id) W3
        | _ => False)))
    (hit : ∀ (J' : S → World → Prop) (Jx' : World → Prop) (W : World), (∀ s W W', Ext W W' → J' s W → J' s W') → (∀ s W, J' s W → J s W) → J' s0 W →
      (∀ s W, more s → J' s W → Yields P (w.heap.size + 1) (elem s) W (fun b W' => (b = true ∧ ∃ s', nxt s s' ∧ J' s' W') ∨ (b = false ∧ Jx' W'))) →
      Rets P gf (.func (.yield (w.heap.size + 1)) #[] #[] :: cap) W (fun _ W' => (∃ s, fini s ∧ J' s W') ∨ Jx' W'))
    (hdone : ∀ s W, fini s → J s W → W.heap[w.heap.size]? = some (.deferred (some [])) → Φ .normal K (markOf w.heap.size :: ds) W)
    (hret : ∀ W, Jx .ret W → W.heap[w.heap.size]? = some (.deferred (some [])) → Φ .ret K (markOf w.heap.size :: ds) W)
    (hexit : ∀ id W, Jx (.exit id) W → W.heap[w.heap.size]? = some (.deferred (some [])) → Φ (.exit id) K (markOf w.heap.size :: ds) W) :
    ok P none N (.rangeFunc g ps.toArray assign body) K ds w Φ := by
  intro a ha
  refine wpIn_rangeFunc (fun fn hfn => ?_)
  generalize hn : w.heap.size = n at *
  -- the record
  let rec_ : LoopState → Option Code → Loop := fun st pd => { state := st, pending := pd, fn := fn, tmps := a.tmps, params := ps.toArray, assign := assign, body := body, defers := n }
  let w1 : World := (w.alloc (.deferred (some []))).alloc (.loop (rec_ .ready none))
  have hw1 : Ext w w1 := ⟨rfl, rfl, rfl, by simp [w1]; omega, fun k hk => by
    show ((w.alloc _).alloc _).heap[k]? = _
    rw [Below.heap_alloc _ _ k (by simp; omega), Below.heap_alloc _ _ k hk]⟩
  have hl1 : w1.heap[n + 1]? = some (.loop (rec_ .ready none)) := by
    have := World.alloc_heap_new (w.alloc (.deferred (some []))) (.loop (rec_ .ready none))
    simp only [World.size_alloc, hn] at this
    exact this
  have hd1 : w1.heap[n]? = some (.deferred (some [])) := by
    show ((w.alloc _).alloc _).heap[n]? = _
    rw [Below.heap_alloc _ _ n (by simp; omega)]
    have := World.alloc_heap_new w (.deferred (some []))
    rw [hn] at this
    exact this
  refine ⟨n + 1, [markOf n], w1, { target := .fn (.func gf) cap.toArray, args := #[.func (.yield (n + 1)) #[] #[]] }, w1, gf, #[.func (.yield (n + 1)) #[] #[]] ++ cap.toArray, w1, ?_, ?_, ?_, ?_, fence_depth _ _, ?_⟩
  · have := run_enterLoop_outer (P := P) (w := w) fn a.tmps ps.toArray assign body
    rw [hn] at this
    exact this
  · have he := ev_eval ha hg
    simp only [resolve, rangeCall, he]
    simp [Deferred.ofValue, Act.eval]
  · intro f' _; trivial
  · simp [invoke, hen]
  -- the call
  let J' : S → World → Prop := fun s W => J s W ∧ W.heap[n + 1]? = some (.loop (rec_ .ready none)) ∧ W.heap[n]? = some (.deferred (some []))
  let Jx' : World → Prop := fun W => ∃ c, Jx c W ∧ (c = .ret ∨ ∃ id, c = .exit id) ∧ W.heap[n + 1]? = some (.loop (rec_ .done (some c))) ∧ W.heap[n]? = some (.deferred (some []))
  have hcall := hit J' Jx' w1 (fun s W W' he ⟨h1, h2, h3⟩ => ⟨hmono s W W' he h1, he.block h2, he.block h3⟩) (fun s W h => h.1) ⟨hJ0 w1 hw1 (by simp [w1, hn]), hl1, hd1⟩ (fun s W hm ⟨hj, hl, hd⟩ => by
    -- one round
    have hlt : n + 1 < W.heap.size := (Array.getElem?_eq_some_iff.1 hl).1
    have hy := run_yield (P := P) (args := (elem s).toArray) hl (by simp [rec_, hel s hm])
    refine ⟨fn, _, assign, body, hy, roundIn_of_wpIn trivial ?_⟩
    have hk0 : Kn K N [] { tmps := a.tmps, defers := [] } := ⟨ha.size, rfl, ha.at_⟩
    have hkb := Kn.bind ps (elem s) K a.tmps hps hk0
    have hfold : (((rec_ .ready none).params.zip (elem s).toArray).foldl (fun tmps (x : Tmp × Value) => match x with | (t, a) => tmps.setIfInBounds t a) (rec_ .ready none).tmps) =
        (ps.zip (elem s)).foldl (fun tmps (p : Nat × Value) => tmps.setIfInBounds p.1 p.2) a.tmps := by
      simp only [rec_]
      rw [← Array.foldl_toList]
      simp
    have hra := hround s W hm hj hlt _ hkb
    rw [hfold]
    refine wpIn_mono (F := fence (some (n + 1))) hra ?_
    rintro e a1 W1 ⟨K1, ds1, hk1, rfl, hkeep, hbody⟩
    have hl1' : W1.heap[n + 1]? = some (.loop (rec_ .ready none)) := hkeep.2.trans hl
    have hd1' : W1.heap[n]? = some (.deferred (some [])) := hkeep.1.trans hd
    have hlt1 : n + 1 < W1.heap.size := (Array.getElem?_eq_some_iff.1 hl1').1
    refine ⟨_, run_beginRound hl1' rfl, ?_⟩
    refine wpIn_mono (F := fence (some (n + 1))) (hbody _ (Off.put n W1 _) a1 hk1) ?_
    have hl2 : (W1.putObj (n + 1) (.loop { rec_ .ready none with state := .busy })).heap[n + 1]? = some (.loop (rec_ .busy none)) := World.putObj_heap_same hlt1
    have hd2 : (W1.putObj (n + 1) (.loop { rec_ .ready none with state := .busy })).heap[n]? = some (.deferred (some [])) := (World.putObj_heap_other (by omega)).trans hd1'
    rintro e a3 W3 ⟨K3, ds3, hk3, hkeep3, hpost⟩
    have hl3 := hkeep3.2.trans hl2
    have hd3 := hkeep3.1.trans hd2
    have hlt3 : n + 1 < W3.heap.size := (Array.getElem?_eq_some_iff.1 hl3).1
    cases e with
    | normal =>
      obtain ⟨s', hns, hj'⟩ := hpost
      refine ⟨_, _, run_endRound none hl3, true, rfl, .inl ⟨rfl, s', hns, hst _ _ _ (Off.put n W3 _) hj', World.putObj_heap_same hlt3, (World.putObj_heap_other (by omega)).trans hd3⟩⟩
    | ret =>
      refine ⟨_, _, run_endRound (some .ret) hl3, false, rfl, .inr ⟨rfl, .ret, hstx _ _ _ (Off.put n W3 _) hpost, .inl rfl, World.putObj_heap_same hlt3, (World.putObj_heap_other (by omega)).trans hd3⟩⟩
    | exit id =>
      refine ⟨_, _, run_endRound (some (.exit id)) hl3, false, rfl, .inr ⟨rfl, .exit id, hstx _ _ _ (Off.put n W3 _) hpost, .inr ⟨id, rfl⟩, World.putObj_heap_same hlt3, (World.putObj_heap_other (by omega)).trans hd3⟩⟩
    | goto t => exact hpost.elim
    | panic ch => exact hpost.elim
    | outgrown => exact hpost.elim)
  have hcall' : CallsIn Fence.wide (0 - 1) P gf (#[.func (.yield (n + 1)) #[] #[]] ++ cap.toArray) w1 (callR (fun _ W' => (∃ s, fini s ∧ J' s W') ∨ Jx' W') fun _ _ => False) := by
    refine callsIn_wide.2 ?_
    have : (#[.func (.yield (n + 1)) #[] #[]] ++ cap.toArray : Array Value) = (.func (.yield (n + 1)) #[] #[] :: cap).toArray := by simp
    rw [this]
    exact hcall
  have hka : Kn K N (markOf n :: ds) { a with defers := [markOf n] ++ a.defers } := ⟨ha.size, by simp [ha.defers], ha.at_⟩
  refine CallsIn.mono hcall' ?_
  rintro e W he
  cases e <;> simp only [callR] at he
  · simp only [rangePost]
    rcases he with ⟨s, hf, hj, hl, hd⟩ | ⟨c, hx, hc, hl, hd⟩
    · refine ⟨none, _, run_endLoop hl (by simp [rec_]), ?_⟩
      exact ⟨K, _, hka, hdone s _ hf (hst _ _ _ (Off.put n W _) hj) ((World.putObj_heap_other (by omega)).trans hd)⟩
    · refine ⟨some c, _, run_endLoop hl (by simp [rec_]), ?_⟩
      have hx' := hstx _ _ _ (Off.put n W (.loop { rec_ .done (some c) with state := .exhausted })) hx
      have hd' : (W.putObj (n + 1) (.loop { rec_ .done (some c) with state := .exhausted })).heap[n]? = some (.deferred (some [])) := (World.putObj_heap_other (by omega)).trans hd
      rcases hc with rfl | ⟨id, rfl⟩
      · exact wpIn_ret ⟨K, _, hka, hret _ hx' hd'⟩
      · exact wpIn_exit ⟨K, _, hka, hexit id _ hx' hd'⟩

/-- A function's end, where a range over a function may have left its mark. -/
def finM (rs : List ResultVar) (R : Ending → World → Prop) : Post
  | .ret, K, ds, w => (ds = [] ∧ match retE K rs with | some v => R (.returned v) w | none => False) ∨
      (∃ r, ds = [markOf r] ∧ w.heap[r]? = some (.deferred (some [])) ∧ match retE K rs with | some v => R (.returned v) (w.putObj r (.deferred none)) | none => False)
  | _, _, _, _ => False

theorem calls_of_okM {f : FuncId} {fn : Func} {c : Code} {args : List Value} {R : Ending → World → Prop} (hf : P.funcs[f]? = some fn) (hb : fn.body = some c) (hn : fn.ntmps = args.length + (fn.ntmps - args.length))
    (h : ok P none fn.ntmps c (argEnv 0 args) [] w (finM fn.results.toList R)) : Calls P f args.toArray w R := by
  refine (callsIn_wide (n := 0)).1 (callsIn_of_wp_marks hf hb trivial (c := c) ?_)
  have hk := Kn.enter args (fn.ntmps - args.length)
  rw [← hn] at hk
  have hw := h _ hk
  refine wpIn_mono (F := fence none) hw ?_
  rintro e a' w' ⟨K, ds, hk, hp⟩
  cases e <;> simp only [finM] at hp <;> simp only [bodyPostM]
  rcases hp with ⟨rfl, hp⟩ | ⟨r, rfl, hr, hp⟩
  · split at hp
    · rename_i v hv
      rw [hk.defers]
      exact ⟨v, retE_run hk hv _, hp⟩
    · exact hp.elim
  · split at hp
    · rename_i v hv
      rw [hk.defers]
      refine ⟨by simp, .inl ⟨r, _, rfl, run_takeDeferred hr, ?_⟩⟩
      exact ⟨v, retE_run hk hv _, hp⟩
    · exact hp.elim
theorem rets_of_okM {f : FuncId} {fn : Func} {c : Code} {args : List Value} {R : Value → World → Prop} (hf : P.funcs[f]? = some fn) (hb : fn.body = some c) (hn : fn.ntmps = args.length + (fn.ntmps - args.length))
    (h : ok P none fn.ntmps c (argEnv 0 args) [] w (finM fn.results.toList (callR R fun _ _ => False))) : Rets P f args w R := calls_of_okM hf hb hn h
end
end Go.Proofs.Vg
set_option linter.unusedVariables false
set_option linter.unusedSimpArgs false
namespace Go.Proofs.Vg
open Go Go.RowKit

section
variable {P : Program} {w : World}

/-- x[lo:hi] of a slice. -/
theorem run_sliceAt {t e : TypeId} {sz by_ : Nat} {z : Option Value} (ht : P.underlying t = some (.slice e)) (hz : zinfo P e = some (z, sz, by_)) (A : Option Addr) (len cap : Nat) (lo hi : Option Nat) (kl kh : IntKind)
    (hhi : hi.getD len ≤ cap) (hlo : lo.getD 0 ≤ hi.getD len) (w : World) :
    (Instr.sliceAt t (.slice A len cap) (lo.map fun (x : Nat) => .int kl (x : Int)) (hi.map fun (x : Nat) => .int kh (x : Int)) none).run P w =
      .ok (.slice (if cap = lo.getD 0 then A else A.map (·.add (lo.getD 0 * sz))) (hi.getD len - lo.getD 0) (cap - lo.getD 0)) w := by
  obtain ⟨i, hi', _, hs, _⟩ := zinfo_some hz
  subst hs
  cases lo with
  | none =>
    cases hi with
    | none => simp [Instr.sliceAt, run_underlying ht, Instr.slice, Instr.sliceBounds, sizeOf, typeInfo, hi']
    | some h =>
      simp only [Option.getD_some] at hhi hlo
      have h1 : (0 : Int) ≤ (h : Int) ∧ (h : Int) ≤ (cap : Int) := by omega
      simp [Instr.sliceAt, run_underlying ht, Instr.slice, Instr.sliceBounds, Instr.sliceBound, asIntOf, sizeOf, typeInfo, hi', h1, hhi]
  | some l =>
    cases hi with
    | none =>
      simp only [Option.getD_some, Option.getD_none] at hhi hlo
      simp [Instr.sliceAt, run_underlying ht, Instr.slice, Instr.sliceBounds, Instr.sliceBound, asIntOf, sizeOf, typeInfo, hi', hlo]
    | some h =>
      simp only [Option.getD_some] at hhi hlo
      simp [Instr.sliceAt, run_underlying ht, Instr.slice, Instr.sliceBounds, Instr.sliceBound, asIntOf, sizeOf, typeInfo, hi', hlo, hhi]

/-- What is behind a slice's first elements. -/
theorem Sli.drop {sz : Nat} {A : Option Addr} {n c lo : Nat} {rows : List (List Value)} (h : Sli w sz (.slice A n c) rows) (hlo : lo ≤ n) (hc : n ≤ c) :
    Sli w sz (.slice (if c = lo then A else A.map (·.add (lo * sz))) (n - lo) (c - lo)) (rows.drop lo) := by
  obtain ⟨A', c', hv, hl, hr⟩ := h
  cases hv
  refine ⟨_, _, by rw [List.length_drop], by rw [List.length_drop]; omega, fun j row hj => ?_⟩
  rw [List.getElem?_drop] at hj
  obtain ⟨b, o, hA, hcc⟩ := hr (lo + j) row hj
  have hlt : lo + j < rows.length := (List.getElem?_eq_some_iff.1 hj).1
  rw [if_neg (by omega), hA]
  refine ⟨b, o + lo * sz, by simp [add_at], ?_⟩
  have : o + lo * sz + j * sz = o + (lo + j) * sz := by rw [Nat.add_mul]; omega
  rw [this]
  exact hcc

/-- xs[lo:], of one-cell elements. -/
theorem Runs.sliceLo {t e : TypeId} {by_ : Nat} {z : Option Value} (ht : P.underlying t = some (.slice e)) (hz : zinfo P e = some (z, 1, by_)) {A : Option Addr} {n c : Nat} {rows : List (List Value)} (h : Sli w 1 (.slice A n c) rows) (hc : n ≤ c)
    (lo : Nat) (hlo : lo ≤ n) {k : IntKind} {i : Int} (hi : i = (lo : Int)) {nx : Value → World → Prop} (hx : ∀ A' c', Sli w 1 (.slice A' (n - lo) c') (rows.drop lo) → nx (.slice A' (n - lo) c') w) :
    Runs P (Instr.sliceAt t (.slice A n c) (some (.int k i)) none none) w nx := by
  subst hi
  have := run_sliceAt (P := P) ht hz A n c (some lo) none k k (by simpa using hc) (by simpa using hlo) w
  exact ⟨_, _, this, hx _ _ (by simpa using h.drop hlo hc)⟩

/-- append of one element (of 'sz' cells) that lies in a block of its own. -/
theorem Runs.append1 {t ty e : TypeId} {z : Value} {sz by_ base : Nat} (ht : P.underlying t = some (.slice e)) (hz : zinfo P e = some (some z, sz, by_)) (hzs : z.cells.size = sz) (hsz : 0 < sz)
    {v : Value} {n : Nat} {xs : List Value} (hown : w.ownsRow base e sz v n xs) {b : Nat} {news : List Value} {c : Nat} {eb : TypeId} (hb : Blk w b news eb) (hl : news.length = sz) (h1 : ∀ u ∈ news, u.oneCell' = true)
    (h63 : n + 1 ≤ maxLen) (hbytes : (n + 1) * by_ ≤ 140737488355328) (hbase : base ≤ w.heap.size) {cs : Array Bool} {nx : Value → World → Prop}
    (h : ∀ v' w', w'.ownsRow base e sz v' (n + 1) (xs ++ news) → w.grownBy w' v.ownBlock → nx v' w') :
    Runs P (builtin .append #[t, t] ty cs [v, .slice (some ⟨b, 0, none⟩) 1 c].toArray) w (builtinR nx) := by
  obtain ⟨i, hi, hzz, hs, hbb⟩ := zinfo_some hz
  obtain ⟨v', w', hr, ho, hg, _⟩ := run_append_own (P := P) w base t ty e i z sz by_ ht hi hzz hs hbb hzs hsz v n xs hown ⟨b, 0, none⟩ 1 c news (by omega)
    (fun j u hj => by have := hb.cells (o := 0) (row := news) (fun j u hj => by simpa using hj) j u hj; exact this) h1 h63 hbytes hbase
  refine ⟨.value v', w', ?_, h v' w' ho hg⟩
  simp only [builtin]
  rw [Sem.run_bind]
  have : [v, Value.slice (some ⟨b, 0, none⟩) 1 c].toArray = #[v, .slice (some ⟨b, 0, none⟩) 1 c] := rfl
  rw [this, hr]
  rfl

theorem grown_ext {w w' : World} {B : Nat} {v : Value} {base e sz n : Nat} {xs : List Value} (hown : w.ownsRow base e sz v n xs) (hg : w.grownBy w' v.ownBlock) (S : Nat → Prop) (hS : ∀ k, base ≤ k → S k) : Chg S w w' :=
  ⟨hg.os, hg.tape, hg.output, hg.size, fun k hk hs => hg.block k hk (fun e => hs (hS k (hown.lt k e.symm).1))⟩
/-- What is owned can be read. -/
theorem Sli.of_own {base e sz n : Nat} {v : Value} {xs : List Value} {rows : List (List Value)} (h : w.ownsRow base e sz v n xs) (hx : xs = rows.flatten) (hr : ∀ r ∈ rows, r.length = sz) (hn : rows.length = n) (hb : n ≤ 140737488355328) : Sli w sz v rows := by
  subst hn
  have key : ∀ (j : Nat) (row : List Value), rows[j]? = some row → ∀ k u, row[k]? = some u → xs[j * sz + k]? = some u := by
    subst hx
    clear h hb
    intro j row hj k u hk
    have hrow : row.length = sz := hr row (List.mem_of_getElem? hj)
    have hk' : k < sz := by rw [← hrow]; exact (List.getElem?_eq_some_iff.1 hk).1
    induction rows generalizing j with
    | nil => simp at hj
    | cons r rs ih =>
      have hr0 : r.length = sz := hr r List.mem_cons_self
      cases j with
      | zero =>
        simp at hj; subst hj
        rw [List.flatten_cons, List.getElem?_append_left (by omega)]
        simpa using hk
      | succ j =>
        rw [List.flatten_cons, List.getElem?_append_right (by rw [hr0, Nat.add_mul]; omega), hr0]
        have := ih (fun x hx => hr x (List.mem_cons_of_mem _ hx)) j (by simpa using hj)
        rw [← this]
        congr 1
        rw [Nat.add_mul]; omega
  rcases h.2 with ⟨rfl, h0⟩ | ⟨g, cap, cur, rfl, hb', hg, h1, h2, h3, h4⟩
  · refine ⟨none, 0, by rw [h0], hb, fun j row hj => ?_⟩
    have : j < rows.length := (List.getElem?_eq_some_iff.1 hj).1
    omega
  · refine ⟨_, _, rfl, hb, fun j row hj => ⟨g, 0, rfl, fun k u hk => ?_⟩⟩
    have hx' := key j row hj k u hk
    have hc := h.cells (g := g) rfl (j * sz + k) u hx'
    rw [add_at] at hc ⊢
    simpa using hc
end
end Go.Proofs.Vg
set_option linter.unusedVariables false
set_option linter.unusedSimpArgs false
namespace Go.Proofs.Vg
open Go Go.RowKit

section
variable {P : Program} {w : World}

/-- copy(dst, src), elements of one cell, dst in a block of the call's own. -/
theorem Runs.copy {dT sT ty e : TypeId} {z : Option Value} {by_ : Nat} (ht : P.underlying dT = some (.slice e)) (hz : zinfo P e = some (z, 1, by_)) {b o dLen dCap : Nat} {a : Addr} {sLen sCap : Nat} {cur : List Value} {te : TypeId} (hb : Blk w b cur te)
    {cs : List Value} (hn : cs.length = Nat.min sLen dLen) (hsrc : cellsAt w a cs) (hfit : o + cs.length ≤ cur.length) (h1 : ∀ v ∈ cs, v.oneCell' = true) {cb : Array Bool} {nx : Value → World → Prop}
    (h : ∀ w1, Chg (· = b) w w1 → w1.heap.size = w.heap.size → Blk w1 b (splice cur o cs) te → nx (.int .i64 (cs.length : Int)) w1) :
    Runs P (builtin .copy #[dT, sT] ty cb [.slice (some ⟨b, o, none⟩) dLen dCap, .slice (some a) sLen sCap].toArray) w (builtinR nx) := by
  obtain ⟨i, hi, _, hs, _⟩ := zinfo_some hz
  have hr := run_copy_row (P := P) (ty := ty) w dT sT e b o dLen dCap a sLen sCap cur.toArray te cs ht (by simp [hi, hs]) hb hn hsrc (by simpa using hfit) h1
  refine ⟨.value (.int .i64 (cs.length : Int)), w.setRow b (splice cur o cs).toArray, ?_, h _ ?_ (size_setRow _ _ _) ?_⟩
  · simp only [builtin]
    rw [Sem.run_bind]
    rw [show [Value.slice (some ⟨b, o, none⟩) dLen dCap, Value.slice (some a) sLen sCap].toArray = #[.slice (some ⟨b, o, none⟩) dLen dCap, .slice (some a) sLen sCap] from rfl, hr]
    simp [splice, goInt]
  · exact ⟨rfl, rfl, rfl, by rw [size_setRow]; exact Nat.le_refl _, fun k _ hk => setRow_other w b k _ hk⟩
  · exact setRow_heap w b cur.toArray _ te _ hb

/-- A conversion between whole numbers that fits. -/
theorem Runs.conv {s d : TypeId} {ds : TypeDesc} {k k' : IntKind} {n : Int} {nx : Value → World → Prop} (hs : P.underlying s = some ds) (hd : P.underlying d = some (.int k')) (hn : inI k' n) (h : nx (.int k' n) w) :
    Runs P (convert s d (.int k n)) w nx := by
  refine ⟨_, w, ?_, h⟩
  simp [convert, run_underlying hs, run_underlying hd, Conv.intToInt, wrap_in hn]

theorem and_mask (n : Nat) (h : n < 4294967296) : n &&& 4294967295 = n := by
  have := Nat.and_two_pow_sub_one_eq_mod n 32
  simp at this
  rw [this, Nat.mod_eq_of_lt h]
theorem Runs.and32 {t : TypeId} {x y : Operand} {n : Int} {nx : Value → World → Prop} (h0 : 0 ≤ n) (h1 : n < 4294967296) (h : nx (.int .u64 n) w) :
    Runs P (do eqGuard .and t x y (.int .u64 n) (.int .u64 4294967295); binOp .and t (.int .u64 n) (.int .u64 4294967295)) w nx := by
  refine ⟨_, w, ?_, h⟩
  obtain ⟨m, rfl⟩ := Int.eq_ofNat_of_zero_le h0
  have hb := u64_and_nat m 4294967295 (by omega) (by omega)
  rw [and_mask m (by omega)] at hb
  simp [eqGuard, binOp, Op.intBits]
  exact hb
theorem Runs.shr32 {t : TypeId} {x y : Operand} {n : Int} {nx : Value → World → Prop} (h0 : 0 ≤ n) (h1 : n < 4294967296) (h : nx (.int .u64 0) w) :
    Runs P (do eqGuard .shr t x y (.int .u64 n) (.int .u64 32); binOp .shr t (.int .u64 n) (.int .u64 32)) w nx := by
  refine ⟨_, w, ?_, h⟩
  have : n.fdiv 4294967296 = 0 := by
    rw [Int.fdiv_eq_ediv_of_nonneg _ (by omega)]
    omega
  simp [eqGuard, binOp, Op.shift, IntKind.bits, this]
end
end Go.Proofs.Vg
/- Plain: trees of kids; what 'formed' means. No program. -/
set_option linter.unusedVariables false
set_option linter.unusedSimpArgs false
namespace Go.Proofs.Ytafjfcameabbmaa
open Go Go.Proofs.Vg Go.RowKit
namespace Dbg
def kidsOf (ks : List (List Int)) (i : Nat) : List Int := ks.getD i []
def edgeB (n i : Nat) (k : Int) : Bool := decide ((i : Int) < k) && decide (k < (n : Int))
def edgesB (ks : List (List Int)) : Bool := (List.range ks.length).all fun i => (kidsOf ks i).all (edgeB ks.length i)
def onesB (ks : List (List Int)) : Bool := (List.range ks.length).all fun v => v == 0 || ks.flatten.count (v : Int) == 1
def formedB (ks : List (List Int)) : Bool := decide (0 < ks.length) && edgesB ks && onesB ks
/-- The parents' counters. -/
def counts (n : Nat) (T : List Int) : List Int := (List.range n).map fun (v : Nat) => ((T.count (v : Int) : Nat) : Int)
@[simp] theorem counts_length (n : Nat) (T : List Int) : (counts n T).length = n := by simp [counts]
theorem counts_get (n : Nat) (T : List Int) (v : Nat) (h : v < n) : (counts n T)[v]? = some ((T.count (v : Int) : Nat) : Int) := by simp [counts, h]
theorem counts_snoc (n : Nat) (T : List Int) (k : Int) (h0 : 0 ≤ k) (h1 : k < n) : counts n (T ++ [k]) = (counts n T).set k.toNat (((T.count k : Nat) : Int) + 1) := by
  apply List.ext_getElem?
  intro v
  rcases Nat.lt_or_ge v n with hv | hv
  · rw [counts_get n _ v hv, List.getElem?_set]
    by_cases e : k.toNat = v
    · subst e
      have : ((k.toNat : Nat) : Int) = k := by omega
      simp [hv, this]
    · have : (k == (v : Int)) = false := by simp; omega
      rw [if_neg e, counts_get n _ v hv, List.count_append]
      have h3 : List.count (v : Int) [k] = 0 := by
        rw [List.count_eq_zero]; simp; omega
      rw [h3, Nat.add_zero]
  · rw [List.getElem?_eq_none (by simp; omega), List.getElem?_eq_none (by simp; omega)]
theorem counts_nil (n : Nat) : counts n [] = List.replicate n 0 := by
  apply List.ext_getElem?
  intro v
  rcases Nat.lt_or_ge v n with hv | hv
  · rw [counts_get n _ v hv]; simp [hv]
  · rw [List.getElem?_eq_none (by simp; omega), List.getElem?_eq_none (by simp; omega)]
/-- What came before node i, and before its j-th kid. -/
def upto (ks : List (List Int)) (i j : Nat) : List Int := (ks.take i).flatten ++ (kidsOf ks i).take j
theorem upto_zero (ks : List (List Int)) : upto ks 0 0 = [] := by simp [upto]
theorem upto_kid (ks : List (List Int)) (i j : Nat) (h : j < (kidsOf ks i).length) : upto ks i (j + 1) = upto ks i j ++ [(kidsOf ks i)[j]] := by
  unfold upto
  rw [List.take_succ_eq_append_getElem h, List.append_assoc]
theorem upto_node (ks : List (List Int)) (i : Nat) (h : i < ks.length) : upto ks i (kidsOf ks i).length = upto ks (i + 1) 0 := by
  unfold upto
  rw [List.take_length, List.take_succ_eq_append_getElem h, List.flatten_append]
  simp [kidsOf, h]
theorem upto_end (ks : List (List Int)) : upto ks ks.length 0 = ks.flatten := by simp [upto]
theorem kidsOf_get (ks : List (List Int)) (i : Nat) (h : i < ks.length) : kidsOf ks i = ks[i] := by simp [kidsOf, h]
theorem upto_length (ks : List (List Int)) (i j : Nat) (h : i < ks.length) : (upto ks i j).length ≤ ks.flatten.length := by
  have h1 : (upto ks i j).length ≤ (upto ks (i + 1) 0).length := by
    rw [← upto_node ks i h]
    unfold upto
    simp
    omega
  have h2 : ((ks.take (i + 1)).flatten).length ≤ ks.flatten.length := by
    conv => rhs; rw [← List.take_append_drop (i + 1) ks]
    rw [List.flatten_append]; simp
  unfold upto at h1 ⊢
  simp at h1 h2 ⊢
  omega
theorem onesB_iff (ks : List (List Int)) : ((counts ks.length ks.flatten).drop 1).any (fun x => !decide (x = 1)) = !onesB ks := by
  rw [Bool.eq_iff_iff]
  simp only [List.any_eq_true, Bool.not_eq_true', decide_eq_false_iff_not, onesB, List.all_eq_false, Bool.or_eq_true, beq_iff_eq, not_or, List.mem_range]
  constructor
  · rintro ⟨x, hx, hne⟩
    obtain ⟨j, hj⟩ := List.mem_iff_getElem?.1 hx
    rw [List.getElem?_drop] at hj
    have hlt : 1 + j < ks.length := by
      have := (List.getElem?_eq_some_iff.1 hj).1; simpa using this
    rw [counts_get _ _ _ hlt] at hj
    cases hj
    exact ⟨1 + j, hlt, by omega, by omega⟩
  · rintro ⟨v, hv, h0, h1⟩
    refine ⟨((ks.flatten.count (v : Int) : Nat) : Int), ?_, by omega⟩
    refine List.mem_iff_getElem?.2 ⟨v - 1, ?_⟩
    rw [List.getElem?_drop, show 1 + (v - 1) = v by omega, counts_get _ _ _ hv]
end Dbg

/-- A slice of nodes whose kids are these. -/
def NodesG (w : World) (v : Value) (ks : List (List Int)) : Prop :=
  ∃ rows, Sli w 5 v rows ∧ rows.length = ks.length ∧ ∀ i, (h : i < ks.length) → ∃ (c p : Int) (vi vo vk : Value), rows[i]? = some [.int .i64 c, .int .i64 p, vi, vo, vk] ∧ vi.oneCell' = true ∧ vo.oneCell' = true ∧ vi.cells = #[vi] ∧ vo.cells = #[vo] ∧ SlI w vk ks[i]
theorem NodesG.ext {w w' : World} {v : Value} {ks : List (List Int)} (h : NodesG w v ks) (he : Ext w w') : NodesG w' v ks := by
  obtain ⟨rows, hs, hl, hr⟩ := h
  refine ⟨rows, hs.ext he, hl, fun i hi => ?_⟩
  obtain ⟨c, p, vi, vo, vk, h1, h2, h3, h4, h5, h6⟩ := hr i hi
  exact ⟨c, p, vi, vo, vk, h1, h2, h3, h4, h5, h6.ext he⟩
theorem NodesG.at_ {w : World} {v : Value} {ks : List (List Int)} (h : NodesG w v ks) : ∃ A cp, v = .slice A ks.length cp ∧ ks.length ≤ 140737488355328 ∧
    ∀ i, (h : i < ks.length) → ∃ (b o : Nat) (c p : Int) (vi vo vk : Value), A = some ⟨b, o, none⟩ ∧ cellsAt w ⟨b, o + i * 5, none⟩ [.int .i64 c, .int .i64 p, vi, vo, vk] ∧ vi.oneCell' = true ∧ vo.oneCell' = true ∧ vi.cells = #[vi] ∧ vo.cells = #[vo] ∧ SlI w vk ks[i] := by
  obtain ⟨rows, ⟨A, cp, hv, hl, hc⟩, hn, hr⟩ := h
  refine ⟨A, cp, by rw [← hn]; exact hv, by rw [← hn]; exact hl, fun i hi => ?_⟩
  obtain ⟨c, p, vi, vo, vk, h1, h2, h3, h4, h5, h6⟩ := hr i hi
  obtain ⟨b, o, hA, hcc⟩ := hc i _ h1
  exact ⟨b, o, c, p, vi, vo, vk, hA, hcc, h2, h3, h4, h5, h6⟩
end Go.Proofs.Ytafjfcameabbmaa
/- Closed facts of the loaded program: sizes of types, places of fields, which functions have bodies. -/
set_option linter.unusedVariables false
namespace Go.Proofs.Ytafjfcameabbmaa
open Go Go.Proofs.Vg
namespace Fx
theorem ag3 : aggN Try.prog 3 = some none := by kernel_rfl
theorem ag4 : aggN Try.prog 4 = some none := by kernel_rfl
theorem ag22 : aggN Try.prog 22 = some none := by kernel_rfl
theorem ag23 : aggN Try.prog 23 = some none := by kernel_rfl
theorem ag26 : aggN Try.prog 26 = some none := by kernel_rfl
theorem ag31 : aggN Try.prog 31 = some none := by kernel_rfl
theorem ag35 : aggN Try.prog 35 = some none := by kernel_rfl
theorem ag37 : aggN Try.prog 37 = some (some 5) := by kernel_rfl
theorem ag50 : aggN Try.prog 50 = some none := by kernel_rfl
theorem ag55 : aggN Try.prog 55 = some (some 3) := by kernel_rfl
theorem ag60 : aggN Try.prog 60 = some (some 3) := by kernel_rfl
theorem fo37_0 : fieldOff Try.prog 37 0 = some 0 := by kernel_rfl
theorem fo37_1 : fieldOff Try.prog 37 1 = some 1 := by kernel_rfl
theorem fo37_2 : fieldOff Try.prog 37 2 = some 2 := by kernel_rfl
theorem fo37_3 : fieldOff Try.prog 37 3 = some 3 := by kernel_rfl
theorem fo37_4 : fieldOff Try.prog 37 4 = some 4 := by kernel_rfl
theorem fo55_0 : fieldOff Try.prog 55 0 = some 0 := by kernel_rfl
theorem fo55_1 : fieldOff Try.prog 55 1 = some 1 := by kernel_rfl
theorem fo55_2 : fieldOff Try.prog 55 2 = some 2 := by kernel_rfl
theorem fo60_0 : fieldOff Try.prog 60 0 = some 0 := by kernel_rfl
theorem fo60_1 : fieldOff Try.prog 60 1 = some 1 := by kernel_rfl
theorem fo60_2 : fieldOff Try.prog 60 2 = some 2 := by kernel_rfl
theorem fo61_4 : fieldOff Try.prog 61 4 = some 4 := by kernel_rfl
theorem es22 : elemSize Try.prog 22 = some 5 := by kernel_rfl
theorem es23 : elemSize Try.prog 23 = some 1 := by kernel_rfl
theorem es26 : elemSize Try.prog 26 = some 1 := by kernel_rfl
theorem es31 : elemSize Try.prog 31 = some 5 := by kernel_rfl
theorem es63 : elemSize Try.prog 63 = some 1 := by kernel_rfl
theorem isl22 : isSlice Try.prog 22 = true := by kernel_rfl
theorem isl23 : isSlice Try.prog 23 = true := by kernel_rfl
theorem isl26 : isSlice Try.prog 26 = true := by kernel_rfl
theorem isl31 : isSlice Try.prog 31 = true := by kernel_rfl
theorem isl63 : isSlice Try.prog 63 = true := by kernel_rfl
theorem un3 : Try.prog.underlying 3 = some (.int .i64) := by kernel_rfl
theorem un4 : Try.prog.underlying 4 = some (.bool) := by kernel_rfl
theorem un9 : Try.prog.underlying 9 = some (.string) := by kernel_rfl
theorem un22 : Try.prog.underlying 22 = some (.slice 37) := by kernel_rfl
theorem un23 : Try.prog.underlying 23 = some (.slice 4) := by kernel_rfl
theorem un26 : Try.prog.underlying 26 = some (.slice 3) := by kernel_rfl
theorem un27 : Try.prog.underlying 27 = some (.int .i64) := by kernel_rfl
theorem un31 : Try.prog.underlying 31 = some (.slice 61) := by kernel_rfl
theorem un62 : Try.prog.underlying 62 = some (.map 3 4) := by kernel_rfl
theorem un63 : Try.prog.underlying 63 = some (.slice 26) := by kernel_rfl
theorem un103 : Try.prog.underlying 103 = some (.int .u64) := by kernel_rfl
theorem un112 : Try.prog.underlying 112 = some (.int .u32) := by kernel_rfl
theorem un115 : Try.prog.underlying 115 = some (.int .u64) := by kernel_rfl
theorem zi3 : zinfo Try.prog 3 = some (some (.int .i64 0), 1, 8) := by kernel_rfl
theorem zi4 : zinfo Try.prog 4 = some (some (.bool false), 1, 1) := by kernel_rfl
theorem zi22 : zinfo Try.prog 22 = some (some (.slice none 0 0), 1, 24) := by kernel_rfl
theorem zi23 : zinfo Try.prog 23 = some (some (.slice none 0 0), 1, 24) := by kernel_rfl
theorem zi26 : zinfo Try.prog 26 = some (some (.slice none 0 0), 1, 24) := by kernel_rfl
theorem zi37 : zinfo Try.prog 37 = some (some (.agg #[.int .i64 0, .int .i64 0, .slice none 0 0, .slice none 0 0, .slice none 0 0]), 5, 88) := by kernel_rfl
theorem zi50 : zinfo Try.prog 50 = some (some (.pointer none), 1, 8) := by kernel_rfl
theorem zi55 : zinfo Try.prog 55 = some (some (.agg #[.slice none 0 0, .slice none 0 0, .int .i64 0]), 3, 56) := by kernel_rfl
theorem zi60 : zinfo Try.prog 60 = some (some (.agg #[.slice none 0 0, .int .i64 0, .slice none 0 0]), 3, 56) := by kernel_rfl
theorem zi61 : zinfo Try.prog 61 = some (some (.agg #[.int .i64 0, .int .i64 0, .slice none 0 0, .slice none 0 0, .slice none 0 0]), 5, 88) := by kernel_rfl
theorem en8 : ∀ (xs : Array Value) (w : World), (callFunc 8 xs).run Try.prog w = .ok (.enter 8 xs) w := fun _ _ => by kernel_rfl
theorem en9 : ∀ (xs : Array Value) (w : World), (callFunc 9 xs).run Try.prog w = .ok (.enter 9 xs) w := fun _ _ => by kernel_rfl
theorem en10 : ∀ (xs : Array Value) (w : World), (callFunc 10 xs).run Try.prog w = .ok (.enter 10 xs) w := fun _ _ => by kernel_rfl
theorem en11 : ∀ (xs : Array Value) (w : World), (callFunc 11 xs).run Try.prog w = .ok (.enter 11 xs) w := fun _ _ => by kernel_rfl
theorem en12 : ∀ (xs : Array Value) (w : World), (callFunc 12 xs).run Try.prog w = .ok (.enter 12 xs) w := fun _ _ => by kernel_rfl
theorem en13 : ∀ (xs : Array Value) (w : World), (callFunc 13 xs).run Try.prog w = .ok (.enter 13 xs) w := fun _ _ => by kernel_rfl
theorem en14 : ∀ (xs : Array Value) (w : World), (callFunc 14 xs).run Try.prog w = .ok (.enter 14 xs) w := fun _ _ => by kernel_rfl
theorem en15 : ∀ (xs : Array Value) (w : World), (callFunc 15 xs).run Try.prog w = .ok (.enter 15 xs) w := fun _ _ => by kernel_rfl
theorem en20 : ∀ (xs : Array Value) (w : World), (callFunc 20 xs).run Try.prog w = .ok (.enter 20 xs) w := fun _ _ => by kernel_rfl
theorem en21 : ∀ (xs : Array Value) (w : World), (callFunc 21 xs).run Try.prog w = .ok (.enter 21 xs) w := fun _ _ => by kernel_rfl
theorem en22 : ∀ (xs : Array Value) (w : World), (callFunc 22 xs).run Try.prog w = .ok (.enter 22 xs) w := fun _ _ => by kernel_rfl
theorem en23 : ∀ (xs : Array Value) (w : World), (callFunc 23 xs).run Try.prog w = .ok (.enter 23 xs) w := fun _ _ => by kernel_rfl
theorem en24 : ∀ (xs : Array Value) (w : World), (callFunc 24 xs).run Try.prog w = .ok (.enter 24 xs) w := fun _ _ => by kernel_rfl
theorem en25 : ∀ (xs : Array Value) (w : World), (callFunc 25 xs).run Try.prog w = .ok (.enter 25 xs) w := fun _ _ => by kernel_rfl
theorem en26 : ∀ (xs : Array Value) (w : World), (callFunc 26 xs).run Try.prog w = .ok (.enter 26 xs) w := fun _ _ => by kernel_rfl
theorem en27 : ∀ (xs : Array Value) (w : World), (callFunc 27 xs).run Try.prog w = .ok (.enter 27 xs) w := fun _ _ => by kernel_rfl
theorem en28 : ∀ (xs : Array Value) (w : World), (callFunc 28 xs).run Try.prog w = .ok (.enter 28 xs) w := fun _ _ => by kernel_rfl
theorem en29 : ∀ (xs : Array Value) (w : World), (callFunc 29 xs).run Try.prog w = .ok (.enter 29 xs) w := fun _ _ => by kernel_rfl
theorem en30 : ∀ (xs : Array Value) (w : World), (callFunc 30 xs).run Try.prog w = .ok (.enter 30 xs) w := fun _ _ => by kernel_rfl
theorem en31 : ∀ (xs : Array Value) (w : World), (callFunc 31 xs).run Try.prog w = .ok (.enter 31 xs) w := fun _ _ => by kernel_rfl
theorem en42 : ∀ (xs : Array Value) (w : World), (callFunc 42 xs).run Try.prog w = .ok (.enter 42 xs) w := fun _ _ => by kernel_rfl
theorem en43 : ∀ (xs : Array Value) (w : World), (callFunc 43 xs).run Try.prog w = .ok (.enter 43 xs) w := fun _ _ => by kernel_rfl
theorem en44 : ∀ (xs : Array Value) (w : World), (callFunc 44 xs).run Try.prog w = .ok (.enter 44 xs) w := fun _ _ => by kernel_rfl
theorem en45 : ∀ (xs : Array Value) (w : World), (callFunc 45 xs).run Try.prog w = .ok (.enter 45 xs) w := fun _ _ => by kernel_rfl
theorem en46 : ∀ (xs : Array Value) (w : World), (callFunc 46 xs).run Try.prog w = .ok (.enter 46 xs) w := fun _ _ => by kernel_rfl
theorem en47 : ∀ (xs : Array Value) (w : World), (callFunc 47 xs).run Try.prog w = .ok (.enter 47 xs) w := fun _ _ => by kernel_rfl
theorem en48 : ∀ (xs : Array Value) (w : World), (callFunc 48 xs).run Try.prog w = .ok (.enter 48 xs) w := fun _ _ => by kernel_rfl
theorem en49 : ∀ (xs : Array Value) (w : World), (callFunc 49 xs).run Try.prog w = .ok (.enter 49 xs) w := fun _ _ => by kernel_rfl
theorem en50 : ∀ (xs : Array Value) (w : World), (callFunc 50 xs).run Try.prog w = .ok (.enter 50 xs) w := fun _ _ => by kernel_rfl
theorem en55 : ∀ (xs : Array Value) (w : World), (callFunc 55 xs).run Try.prog w = .ok (.enter 55 xs) w := fun _ _ => by kernel_rfl
theorem en56 : ∀ (xs : Array Value) (w : World), (callFunc 56 xs).run Try.prog w = .ok (.enter 56 xs) w := fun _ _ => by kernel_rfl
theorem en60 : ∀ (xs : Array Value) (w : World), (callFunc 60 xs).run Try.prog w = .ok (.enter 60 xs) w := fun _ _ => by kernel_rfl
theorem en61 : ∀ (xs : Array Value) (w : World), (callFunc 61 xs).run Try.prog w = .ok (.enter 61 xs) w := fun _ _ => by kernel_rfl
theorem en62 : ∀ (xs : Array Value) (w : World), (callFunc 62 xs).run Try.prog w = .ok (.enter 62 xs) w := fun _ _ => by kernel_rfl
theorem mixed : Try.prog.follows .mixedOrders = true := by kernel_rfl
end Fx
end Go.Proofs.Ytafjfcameabbmaa
set_option linter.unusedVariables false
set_option linter.unusedSimpArgs false
namespace Go.Proofs.Vg
open Go Go.RowKit
section
variable {P : Program} {ρ : Option Nat} {N : Nat} {K : Env} {ds : List Deferred} {w : World} {Φ : Post}
/-- One behind the other, with what is known between them. -/
theorem ok_join {c d : Code} (K1 : Env) (F : World → Prop) (h : ok P ρ N c K ds w (thenN (fun K' ds' w' => ds' = ds ∧ sub K1 K' ∧ F w') Φ)) (h2 : ∀ w', F w' → ok P ρ N d K1 ds w' Φ) : ok P ρ N (.seq c d) K ds w Φ :=
  ok_seq (fun M hM => ok_mono h fun e K' ds' w' he => by
    cases e <;> simp only [thenN] at he ⊢ <;> first | exact he | skip
    obtain ⟨rfl, hs, hf⟩ := he
    exact hM _ _ _ (ok_less K1 hs (h2 _ hf)))

variable {ops : List Oper} {pan : List PanicEntry → Env → World → Prop} {M : Env → World → Prop} {H : Env → Prop} {C : World → Prop}
/-! One operation at a time: what comes behind it is a name. -/
theorem ofX2 {X Y : Value → Env → Prop} (h : X = Y) {v : Value} {K : Env} (hy : Y v K) : X v K := h ▸ hy
theorem ofX3 {X Y : Value → Env → World → Prop} (h : X = Y) {v : Value} {K : Env} {w : World} (hy : Y v K w) : X v K w := h ▸ hy
theorem wpL_step {o : Oper} {rest : List Oper} (h : ∀ X : Value → Env → World → Prop, X = (fun v K' w' => wpL P ops pan M rest (putE o.dst v K') w') →
    match o.guard with
    | none => opF P K w (fun v w' => X v K w') (fun ch w' => pan ch K w') o.type o.op
    | some (j, want) => match gdst ops j with
      | some d => (match K.get d with
        | some (.bool b) => (b = want → opF P (K.set d (.bool want)) w (fun v w' => X v (K.set d (.bool want)) w') (fun ch w' => pan ch (K.set d (.bool want)) w') o.type o.op) ∧
            (b = !want → X undef (K.set d (.bool !want)) w)
        | some (.tuple _) => X undef K w
        | _ => False)
      | none => False) : wpL P ops pan M (o :: rest) K w := h _ rfl
theorem wpL_end (h : M K w) : wpL P ops pan M [] K w := h
theorem wpH_step {o : Oper} {rest : List Oper} (h : ∀ X : Value → Env → Prop, X = (fun v K' => wpH P ops C H rest (putE o.dst v K')) →
    match o.guard with
    | none => opH P K C (fun v => X v K) o.type o.op
    | some (j, want) => match gdst ops j with
      | some d => (match K.get d with
        | some (.bool b) => (b = want → opH P (K.set d (.bool want)) C (fun v => X v (K.set d (.bool want))) o.type o.op) ∧
            (b = !want → X undef (K.set d (.bool !want)))
        | some (.tuple _) => X undef K
        | _ => False)
      | none => False) : wpH P ops C H (o :: rest) K := h _ rfl
theorem wpH_end (h : H K) : wpH P ops C H [] K := h
theorem wpE_step {fl : List (Bool × Bool)} {o : Oper} {rest : List Oper} (h : ∀ X : Value → Env → World → Prop, X = (fun v K' w' => wpE P ops C pan M fl.tail rest (putE o.dst v K') w') →
    match o.guard with
    | none => opF P K w (fun v w' => oweC (fl.headD (false, false)).1 (C w') (X v K w')) (fun ch w' => oweP (fl.headD (false, false)).2 (pan ch K w')) o.type o.op
    | some (j, want) => match gdst ops j with
      | some d => (match K.get d with
        | some (.bool b) => (b = want → opF P (K.set d (.bool want)) w (fun v w' => oweC (fl.headD (false, false)).1 (C w') (X v (K.set d (.bool want)) w')) (fun ch w' => oweP (fl.headD (false, false)).2 (pan ch (K.set d (.bool want)) w')) o.type o.op) ∧
            (b = !want → oweC (fl.headD (false, false)).1 (C w) (X undef (K.set d (.bool !want)) w))
        | some (.tuple _) => oweC (fl.headD (false, false)).1 (C w) (X undef K w)
        | _ => False)
      | none => False) : wpE P ops C pan M fl (o :: rest) K w := h _ rfl
theorem wpE_end {fl : List (Bool × Bool)} (h : M K w) : wpE P ops C pan M fl [] K w := h
end
end Go.Proofs.Vg
/- A region that draws its order, by an invariant over the set of operations that have come. -/
set_option linter.unusedVariables false
set_option linter.unusedSimpArgs false
namespace Go.Proofs.Vg
open Go Go.RowKit
section
variable {P : Program} {ρ : Option Nat} {N : Nat} {K : Env} {ds : List Deferred} {w : World} {a : Act} {Φ : Post} {ops : List Oper}

theorem wp1_sound {M : Env → World → Prop} {Kont : Act → World → Prop} {i : Nat} {o : Oper} (ho : ops[i]? = some o) (hd0 : ∀ d, o.dst = some d → d < N) (ha : Kn K N ds a)
    (h : wpL P ops (fun ch K w => Φ (.panic ch) K ds w) M [o] K w) (hM : ∀ K' w' a', Kn K' N ds a' → M K' w' → Kont a' w') : wpOpIn (fence ρ) 0 P ops.toArray (lift N Φ) i Kont a w := by
  have hi : ops.toArray[i]? = some o := by simpa using ho
  simp only [wpL] at h
  unfold wpOpIn
  simp only [hi]
  cases hg : o.guard with
  | none =>
    rw [hg] at h
    simp only [Region.wanted, hg, if_true]
    exact opF_sound ha h (fun v w' hv => hM _ _ _ (ha.put hd0) hv) (fun ch w' hc => ⟨K, ds, ha, hc⟩)
  | some gd =>
    obtain ⟨j, want⟩ := gd
    rw [hg] at h
    simp only at h
    split at h
    · rename_i d hgd
      have hy : yielded ops.toArray a.tmps j = match a.tmps[d]? with | some (.bool b) => some b | _ => none := by
        unfold gdst at hgd
        split at hgd
        · rename_i oj hj
          simp only [yielded, List.getElem?_toArray, hj, Option.bind_some, hgd]
          split <;> simp_all
        · cases hgd
      split at h
      · rename_i b hb
        have hya : yielded ops.toArray a.tmps j = some b := by rw [hy, ha.at_ _ _ hb]
        by_cases hbw : b = want
        · subst hbw
          have hw : Region.wanted o (yielded ops.toArray a.tmps) = true := by simp [Region.wanted, hg, hya]
          rw [if_pos hw]
          have ha' := ha.set hb
          exact opF_sound ha' (h.1 rfl) (fun v w' hv => hM _ _ _ (ha'.put hd0) hv) (fun ch w' hc => ⟨_, ds, ha', hc⟩)
        · have hbn : b = !want := by cases b <;> cases want <;> simp_all
          have hw : ¬ Region.wanted o (yielded ops.toArray a.tmps) = true := by simp [Region.wanted, hg, hya, hbw]
          rw [if_neg hw]
          have ha' := ha.set (hbn ▸ hb)
          exact ⟨fun _ _ => trivial, hM _ _ _ (ha'.put hd0) (h.2 hbn)⟩
      · rename_i x hb
        have hya : yielded ops.toArray a.tmps j = none := by rw [hy, ha.at_ _ _ hb]
        have hw : ¬ Region.wanted o (yielded ops.toArray a.tmps) = true := by simp [Region.wanted, hg, hya]
        rw [if_neg hw]
        exact ⟨fun _ _ => trivial, hM _ _ _ (ha.put hd0) h⟩
      · exact h.elim
    · exact h.elim

def needsOk (ops : List Oper) : Bool := (List.range ops.length).all fun j => match ops[j]? with | some o => (needs o).all (· < j) | none => true
theorem needsOk_lt (h : needsOk ops = true) {j : Nat} {o : Oper} (ho : ops[j]? = some o) : ∀ k ∈ needs o, k < j := by
  have hj := (List.getElem?_eq_some_iff.1 ho).1
  have h1 := List.all_eq_true.1 h j (List.mem_range.2 hj)
  rw [ho] at h1
  intro k hk
  have := List.all_eq_true.1 h1 k hk
  simpa using this
def up (L : Nat → Bool) (i : Nat) : Nat → Bool := fun k => decide (k = i) || L k

/-- A REGION THAT DRAWS ITS ORDER: J holds of what has come. -/
theorem ok_any (J : (Nat → Bool) → Env → World → Prop) {id : Nat} (hm : P.follows .mixedOrders = true) (hd : dstsOk N ops = true) (hn : needsOk ops = true) (K0 : Env) (hs0 : sub K0 K)
    (h0 : J (fun _ => false) K0 { w with drawn := w.drawn + 1 })
    (hstep : ∀ (L : Nat → Bool) (K : Env) (w : World) (i : Nat) (o : Oper), J L K w → ops[i]? = some o → L i = false → (∀ k ∈ needs o, L k = true) → wpL P ops (fun ch K w => Φ (.panic ch) K ds w) (fun K' w' => J (up L i) K' w') [o] K w)
    (hend : ∀ K w, J (fun k => decide (k < ops.length)) K w → Φ .normal K ds w) : ok P ρ N (.region id ops.toArray true) K ds w Φ := by
  intro a ha
  refine wpIn_region_any hm ?_
  have main : ∀ (u : Nat) (listed : Array Bool) (K : Env) (b : Act) (w : World) (fuel : Nat), (missing ops.length listed).length = u → u ≤ fuel → listed.size = ops.length → Kn K N ds b → J (fun k => listed.getD k false) K w →
      wpAnyIn (fence ρ) 0 P .any ops.toArray (lift N Φ) fuel listed b w := by
    intro u
    induction u with
    | zero =>
      intro listed K b w fuel hu hf hs hk hJ
      have hm0 : missing ops.length listed = [] := List.eq_nil_of_length_eq_zero hu
      have hall : ∀ k, k < ops.length → listed.getD k false = true := fun k hk => by
        cases h0 : listed.getD k false with
        | true => rfl
        | false => have := missing_mem.2 ⟨hk, h0⟩; rw [hm0] at this; cases this
      have hL : (fun k => listed.getD k false) = fun k => decide (k < ops.length) := by
        funext k
        by_cases hk : k < ops.length
        · rw [hall k hk]; simp [hk]
        · have : listed.getD k false = false := by simp [show ¬ k < listed.size by omega]
          rw [this]; simp [hk]
      rw [hL] at hJ
      have hend' : lift N Φ .normal b w := ⟨K, ds, hk, hend K w hJ⟩
      have hr : Region.ready .any ops.toArray listed = [] := by
        apply List.eq_nil_iff_forall_not_mem.2
        intro i hi
        obtain ⟨o, ho, h1, _⟩ := (ready_iff hs).1 hi
        rw [hall i (List.getElem?_eq_some_iff.1 ho).1] at h1
        cases h1
      cases fuel with
      | zero => exact ⟨hr, hend'⟩
      | succ fuel => exact ⟨fun _ => hend', fun i hi => by rw [hr] at hi; cases hi⟩
    | succ u ih =>
      intro listed K b w fuel hu hf hs hk hJ
      cases fuel with
      | zero => omega
      | succ fuel =>
        refine ⟨fun h0 => ?_, fun i hi => ?_⟩
        · obtain ⟨i, hi, h1, h2⟩ := missing_first (n := ops.length) (listed := listed) (fun e => by rw [e] at hu; simp at hu)
          have ho : ops[i]? = some ops[i] := List.getElem?_eq_getElem hi
          have : i ∈ Region.ready .any ops.toArray listed := (ready_iff hs).2 ⟨_, ho, h1, fun k hk => h2 k (needsOk_lt hn ho k hk)⟩
          rw [h0] at this
          cases this
        · obtain ⟨o, ho, h1, h2⟩ := (ready_iff hs).1 hi
          have hil : i < ops.length := (List.getElem?_eq_some_iff.1 ho).1
          have hd0 : ∀ d, o.dst = some d → d < N := fun d he => by
            have := List.all_eq_true.1 hd o (List.mem_of_getElem? ho)
            rw [he] at this; simpa using this
          refine wp1_sound ho hd0 hk (hstep _ K w i o hJ ho h1 h2) (fun K' w' a' hk' hJ' => ih _ K' a' w' fuel ?_ (by omega) (by simp [hs]) hk' ?_)
          · have := missing_set hil (by omega) h1
            omega
          · have : (fun k => (listed.setIfInBounds i true).getD k false) = up (fun k => listed.getD k false) i := by
              funext k
              rw [getD_set (by omega)]; rfl
            rw [this]; exact hJ'
  have h00 : (fun k => (Array.replicate ops.length false).getD k false) = fun _ => false := by
    funext k
    rcases Nat.lt_or_ge k ops.length with h | h
    · simp [h]
    · simp [h]
  have := main _ (Array.replicate ops.length false) K0 a { w with drawn := w.drawn + 1 } ops.length rfl ?_ (by simp) (ha.less hs0) (by rw [h00]; exact h0)
  · simpa using this
  · have := List.length_filter_le (fun k => !(Array.replicate ops.length false).getD k false) (List.range ops.length)
    simpa [missing] using this
end
end Go.Proofs.Vg
