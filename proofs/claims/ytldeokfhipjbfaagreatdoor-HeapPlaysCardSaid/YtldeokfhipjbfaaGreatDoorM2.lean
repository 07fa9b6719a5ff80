/- Part 2 of 13: Vg10, Vg11, Vg12, Vg13, Vg14, Vg15, Fx, Vg16, Vg17, Vg19, Vg20, Vg18, Vg21, Vg24. -/
import Derived.Test.YtldeokfhipjbfaaGreatDoorM1
import Derived.RangeFuncLeaves
import Derived.RangeFuncRecord
import Derived.Test.YtldeokfhipjbfaaGreatDoorProg
import Derived.KernelRfl
import Derived.Deep.Slices
import Derived.SizedLaws
import Derived.Carry
import Derived.ProofKit
import Derived.MapKept
set_option linter.unusedVariables false
set_option linter.unusedSimpArgs false
namespace Go.Proofs.Vg
open Go Go.RowKit

section
variable {P : Program} {ρ : Option Nat} {N : Nat} {K : Env} {ds : List Deferred} {w : World} {ops : List Oper} {n : Nat} {C : World → Prop} {Q : Exit → Act → World → Prop}

/-- What each later operation needs to know: does it leave a head behind that reads memory; have all heads come. -/
def flagOf (ops : List Oper) (n t : Nat) : Bool × Bool := (late ops (masks [] ops) n t, (List.range n).all fun i => ((masks [] ops).getD t 0).testBit i)
def flags (ops : List Oper) (n : Nat) : List (Bool × Bool) := (List.range (ops.length - n)).map fun j => flagOf ops n (n + j)

/-- The slots that no later operation has written: as in 'Sl'. -/
structure SlD (ops : List Oper) (n t : Nat) (a0 : Act) (V : Nat → Value) (S : Nat → Bool) (b : Act) : Prop where
  size : b.tmps.size = a0.tmps.size
  come : ∀ s, (∀ k, n ≤ k → k < t → (ops[k]?).bind (·.dst) ≠ some s) → ∀ k, k < n → S k = true → (ops[k]?).bind (·.dst) = some s → s < a0.tmps.size → b.tmps[s]? = some (V k)
  rest : ∀ s, (∀ k, n ≤ k → k < t → (ops[k]?).bind (·.dst) ≠ some s) → (∀ k, k < n → S k = true → (ops[k]?).bind (·.dst) ≠ some s) → b.tmps[s]? = a0.tmps[s]?
/-- The act as it is, and as it would be had all heads come. -/
structure Sim (ops : List Oper) (n : Nat) (V : Nat → Value) (S : Nat → Bool) (b bs : Act) : Prop where
  size : bs.tmps.size = b.tmps.size
  defers : bs.defers = b.defers
  come : ∀ s k, k < n → S k = false → (ops[k]?).bind (·.dst) = some s → s < b.tmps.size → bs.tmps[s]? = some (V k)
  rest : ∀ s, (∀ k, k < n → S k = false → (ops[k]?).bind (·.dst) ≠ some s) → bs.tmps[s]? = b.tmps[s]?

theorem distinct_heads (hd : distinctOk ops n = true) {i k : Nat} (hi : i < n) (hk : k < n) {s : Nat} (h1 : (ops[i]?).bind (·.dst) = some s) (h2 : (ops[k]?).bind (·.dst) = some s) : i = k := by
  have := List.all_eq_true.1 (List.all_eq_true.1 hd i (List.mem_range.2 hi)) k (List.mem_range.2 hk)
  simp only [h1, h2, Bool.or_eq_true, beq_iff_eq, bne_iff_ne, ne_eq, not_true_eq_false, or_false] at this
  exact this

/-- The slots that a ready head looks at are as in the order of the text. -/
theorem look_head (h : drawOk ops n = true) {A0 Ai b : Act} {V : Nat → Value} {i t : Nat} {o : Oper} {L : Nat → Bool} (hi : i < n) (ho : ops[i]? = some o) (hlex : Sl ops n A0 V (fun k => decide (k < i)) Ai)
    (hc : Closed ops L) (h2 : ∀ k ∈ needs o, L k = true) (h1 : L i = false) (hb : SlD ops n t A0 V L b) (htail : ∀ k, n ≤ k → k < t → ∀ d, (ops[k]?).bind (·.dst) = some d → d ∉ looks ops o) :
    ∀ s ∈ looks ops o, Ai.tmps[s]? = b.tmps[s]? := by
  obtain ⟨hn, hheads, hdist, _⟩ := drawOk_parts h
  have get : ∀ i, i < n → ∃ o, ops[i]? = some o := fun i hi => ⟨ops[i]'(by omega), List.getElem?_eq_getElem (by omega)⟩
  have hho := hheads i hi
  simp only [headOk, ho, Bool.and_eq_true, List.all_eq_true, List.mem_range] at hho
  obtain ⟨_, hdep⟩ := hho
  have hml : ∀ k, ((masks [] ops).getD i 0).testBit k = true → L k = true := fun k hb =>
    mask_listed hc (j := i) (fun o'' ho'' k' hk' => by rw [ho] at ho''; cases ho''; exact h2 k' hk') hb
  have hmlex : ∀ k, ((masks [] ops).getD i 0).testBit k = true → k < i := fun k hb => by
    have hclex : Closed ops (fun k => decide (k < i)) := fun j o' ho' hj k hk => by
      have := needs_lt h ho' k hk
      simp only [decide_eq_true_eq] at hj ⊢
      omega
    have := mask_listed hclex (j := i) (fun o'' ho'' k' hk' => by rw [ho] at ho''; cases ho''; simpa using needs_lt h ho k' hk') hb
    simpa using this
  have hmlt : ∀ k, k < n → ((masks [] ops).getD k 0).testBit i = true → i < k := fun k hk hb => by
    obtain ⟨o', ho'⟩ := get k hk
    have hck : Closed ops (fun j => decide (j < k)) := fun j o' ho' hj q hq => by
      have := needs_lt h ho' q hq
      simp only [decide_eq_true_eq] at hj ⊢
      omega
    have := mask_listed hck (j := k) (fun o'' ho'' k' hk' => by simpa using needs_lt h ho'' k' hk') hb
    simpa using this
  have hnd : ∀ j, j < n → ((masks [] ops).getD j 0).testBit i = true → L j = false := fun j hj hb => by
    cases h0 : L j with
    | false => rfl
    | true =>
      have := mask_listed hc (j := j) (fun o'' ho'' k' hk' => hc j o'' ho'' h0 k' hk') hb
      rw [h1] at this; cases this
  intro s hs
  have hts : ∀ k, n ≤ k → k < t → (ops[k]?).bind (·.dst) ≠ some s := fun k hk1 hk2 hd => htail k hk1 hk2 s hd hs
  by_cases hx : ∃ k, k < n ∧ (ops[k]?).bind (·.dst) = some s
  · obtain ⟨k, hk, hkd⟩ := hx
    have hd := hdep k hk
    rw [hkd] at hd
    have htc : (looks ops o).contains s = true := by simpa using hs
    simp only [htc, Bool.not_true, Bool.false_or, Bool.and_eq_true, bne_iff_ne, ne_eq, Bool.or_eq_true] at hd
    obtain ⟨hki, hd⟩ := hd
    rcases hd with hd | hd
    · have h3 := hml k hd
      have h4 := hmlex k hd
      rcases Nat.lt_or_ge s A0.tmps.size with hlt | hge
      · rw [hlex.come k s hk (by simpa using h4) hkd hlt, hb.come s hts k hk h3 hkd hlt]
      · rw [Array.getElem?_eq_none (by rw [hlex.size]; exact hge), Array.getElem?_eq_none (by rw [hb.size]; exact hge)]
    · have h3 := hnd k hk hd
      have h4 := hmlt k hk hd
      rw [hlex.rest s (fun q hq hs' hqd => by have := distinct_heads hdist hq hk hqd hkd; subst this; simp at hs'; omega),
        hb.rest s hts (fun q hq hs' hqd => by have := distinct_heads hdist hq hk hqd hkd; subst this; rw [h3] at hs'; cases hs')]
  · rw [hlex.rest s (fun q hq _ hqd => hx ⟨q, hq, hqd⟩), hb.rest s hts (fun q hq _ hqd => hx ⟨q, hq, hqd⟩)]

/-- How many heads have not come. -/
def missing (n : Nat) (listed : Array Bool) : List Nat := (List.range n).filter fun k => !listed.getD k false
theorem missing_mem {listed : Array Bool} {k : Nat} : k ∈ missing n listed ↔ k < n ∧ listed.getD k false = false := by simp [missing]
theorem missing_set {listed : Array Bool} {i : Nat} (hi : i < n) (hs : i < listed.size) (h1 : listed.getD i false = false) : (missing n (listed.setIfInBounds i true)).length + 1 = (missing n listed).length := by
  have heq : missing n (listed.setIfInBounds i true) = (missing n listed).filter (fun k => decide (k ≠ i)) := by
    unfold missing
    rw [List.filter_filter]
    apply List.filter_congr
    intro k _
    rw [getD_set hs]
    cases hk : decide (k = i) <;> simp_all
  have hnd : (missing n listed).Nodup := List.Nodup.sublist List.filter_sublist List.nodup_range
  have hmem : i ∈ missing n listed := missing_mem.2 ⟨hi, h1⟩
  rw [heq]
  generalize missing n listed = l at hnd hmem
  have he : l.filter (fun k => decide (k ≠ i)) = l.erase i := by
    rw [hnd.erase_eq_filter]
    apply List.filter_congr
    intro x _
    by_cases hx : x = i <;> simp [hx]
  rw [he, List.length_erase_of_mem hmem]
  have : 0 < l.length := List.length_pos_of_mem hmem
  omega
theorem missing_first {listed : Array Bool} (h : missing n listed ≠ []) : ∃ i, i < n ∧ listed.getD i false = false ∧ ∀ k, k < i → listed.getD k false = true := by
  obtain ⟨x, hx⟩ := List.exists_mem_of_ne_nil _ h
  rw [missing_mem] at hx
  revert hx
  induction x using Nat.strongRecOn with
  | _ i ih' =>
    intro hi
    by_cases hx : ∃ k, k < i ∧ listed.getD k false = false
    · obtain ⟨k, hk, hk0⟩ := hx
      exact ih' k hk ⟨by omega, hk0⟩
    · refine ⟨i, hi.1, hi.2, fun k hk => ?_⟩
      cases h0 : listed.getD k false with
      | true => rfl
      | false => exact absurd ⟨k, hk, h0⟩ hx

theorem phaseB (h : drawOk ops n = true) {A : Nat → Act} {V : Nat → Value} (lexA : ∀ i, i ≤ n → Sl ops n (A 0) V (fun k => decide (k < i)) (A i))
    (still : ∀ i o, i < n → ops[i]? = some o → Yl P ρ ops C o (V i) (A i)) :
    ∀ (fuel : Nat) (listed : Array Bool) (t : Nat) (b bs : Act) (w : World), listed.size = ops.length → n ≤ t → t ≤ ops.length → (∀ k, n ≤ k → k < ops.length → (listed.getD k false = decide (k < t))) →
      Closed ops (fun k => listed.getD k false) → (∀ k, k < n → listed.getD k false = false → kindAt ops k ≠ 2) → ((∃ k, k < n ∧ listed.getD k false = false ∧ kindAt ops k = 1) → C w) →
      SlD ops n t (A 0) V (fun k => listed.getD k false) b → Sim ops n V (fun k => listed.getD k false) b bs →
      wpT P ρ ops.toArray C Q ((flags ops n).drop (t - n)) (ops.drop t) bs w → (missing n listed).length + (ops.length - t) ≤ fuel →
      wpAnyIn (fence ρ) 0 P .any ops.toArray Q fuel listed b w := by
  obtain ⟨hn, hheads, hdist, _⟩ := drawOk_parts h
  have get : ∀ i, i < ops.length → ∃ o, ops[i]? = some o := fun i hi => ⟨ops[i]'hi, List.getElem?_eq_getElem hi⟩
  intro fuel
  induction fuel with
  | zero =>
    intro listed t b bs w hs hnt htm hL hc hk2 hk1 hsl hsim hw hf
    have hm0 : missing n listed = [] := List.eq_nil_of_length_eq_zero (by omega)
    have ht : t = ops.length := by omega
    have hall : ∀ k, k < n → listed.getD k false = true := fun k hk => by
      cases h0 : listed.getD k false with
      | true => rfl
      | false => have := missing_mem.2 ⟨hk, h0⟩; rw [hm0] at this; cases this
    have hbs : bs = b := by
      have : bs.tmps = b.tmps := Array.ext_getElem? (fun s => hsim.rest s (fun k hk hs => by rw [hall k hk] at hs; cases hs))
      cases bs; cases b; simp only [Act.mk.injEq]; exact ⟨this, hsim.defers⟩
    subst hbs
    refine ⟨?_, ?_⟩
    · rw [List.eq_nil_iff_forall_not_mem]
      intro i hi
      obtain ⟨o, ho, h1, _⟩ := (ready_iff hs).1 hi
      have hil : i < ops.length := (List.getElem?_eq_some_iff.1 ho).1
      rcases Nat.lt_or_ge i n with h | h
      · rw [hall i h] at h1; cases h1
      · rw [hL i h hil] at h1; simp at h1; omega
    · have hdr : ops.drop t = [] := List.drop_eq_nil_iff.2 (by omega)
      rw [hdr] at hw
      exact hw
  | succ fuel ih =>
    intro listed t b bs w hs hnt htm hL hc hk2 hk1 hsl hsim hw hf
    refine ⟨fun h0 => ?_, fun i hi => ?_⟩
    · -- nothing is ready: all is done
      by_cases hm : missing n listed = []
      · have hall : ∀ k, k < n → listed.getD k false = true := fun k hk => by
          cases h0 : listed.getD k false with
          | true => rfl
          | false => have := missing_mem.2 ⟨hk, h0⟩; rw [hm] at this; cases this
        by_cases ht : t = ops.length
        · have hbs : bs = b := by
            have : bs.tmps = b.tmps := Array.ext_getElem? (fun s => hsim.rest s (fun k hk hs => by rw [hall k hk] at hs; cases hs))
            cases bs; cases b; simp only [Act.mk.injEq]; exact ⟨this, hsim.defers⟩
          subst hbs
          have hdr : ops.drop t = [] := List.drop_eq_nil_iff.2 (by omega)
          rw [hdr] at hw
          exact hw
        · obtain ⟨o, ho⟩ := get t (by omega)
          have : t ∈ Region.ready .any ops.toArray listed := (ready_iff hs).2 ⟨o, ho, by rw [hL t hnt (by omega)]; simp, fun k hk => by
            have hkt := needs_lt h ho k hk
            rcases Nat.lt_or_ge k n with h | h
            · exact hall k h
            · rw [hL k h (by omega)]; simpa using hkt⟩
          rw [h0] at this
          cases this
      · obtain ⟨i, hi, h1, h2⟩ := missing_first hm
        obtain ⟨o, ho⟩ := get i (by omega)
        have : i ∈ Region.ready .any ops.toArray listed := (ready_iff hs).2 ⟨o, ho, h1, fun k hk => h2 k (needs_lt h ho k hk)⟩
        rw [h0] at this
        cases this
    · obtain ⟨o, ho, h1, h2⟩ := (ready_iff hs).1 hi
      have hil : i < ops.length := (List.getElem?_eq_some_iff.1 ho).1
      have hset : ∀ k, (listed.setIfInBounds i true).getD k false = (decide (k = i) || listed.getD k false) := fun k => getD_set (by omega)
      have hmi : ∀ k, ((masks [] ops).getD i 0).testBit k = true → listed.getD k false = true := fun k hb =>
        mask_listed hc (j := i) (fun o'' ho'' k' hk' => by rw [ho] at ho''; cases ho''; exact h2 k' hk') hb
      rcases Nat.lt_or_ge i n with hin | hin
      · -- a head
        have htail : ∀ k, n ≤ k → k < t → ∀ d, (ops[k]?).bind (·.dst) = some d → d ∉ looks ops o := fun k hk1 hk2 d hd => by
          obtain ⟨ok_, hok⟩ := get k (by omega)
          have hLk : listed.getD k false = true := by rw [hL k hk1 (by omega)]; simpa using hk2
          rcases tail_before h hk1 hok (by omega : i < k) with hb | ⟨_, _, oi, hoi, hx1, hx2⟩
          · have := mask_listed hc (j := k) (fun o'' ho'' k' hk' => hc k o'' ho'' hLk k' hk') hb
            rw [h1] at this; cases this
          · rw [ho] at hoi; cases hoi
            exact hx2 d (by simpa [hok] using hd)
        have hlook := look_head h hin ho (lexA i (by omega)) hc h2 h1 hsl htail
        have hy := (still i o hin ho).same (sel_ok h ho) hlook
        have hkind : kindOf o.op = kindAt ops i := by simp [kindAt, ho]
        refine hy.op1 ho (by rw [hkind]; exact hk2 i hin h1) (by
          rw [hkind]
          have h2' := hk2 i hin h1
          have : kindAt ops i ≤ 2 := by
            unfold kindAt
            split
            · rename_i o' _
              unfold kindOf
              split <;> first | omega | (split <;> omega)
            · omega
          by_cases h3 : kindAt ops i = 0
          · exact .inl h3
          · exact .inr (hk1 ⟨i, hin, h1, by omega⟩)) ?_
        refine ih _ t _ bs w (by simp [hs]) hnt htm ?_ ?_ ?_ ?_ ?_ ?_ hw ?_
        · intro k hk1 hk2
          rw [hset, hL k hk1 hk2]
          have : k ≠ i := by omega
          simp [this]
        · intro j o' ho' hj k hk
          simp only [hset, Bool.or_eq_true, decide_eq_true_eq] at hj ⊢
          rcases hj with rfl | hj
          · rw [ho] at ho'; cases ho'; exact .inr (h2 k hk)
          · exact .inr (hc j o' ho' hj k hk)
        · intro k hk hk0
          rw [hset] at hk0
          simp only [Bool.or_eq_false_iff] at hk0
          exact hk2 k hk hk0.2
        · rintro ⟨k, hk, hk0, hkk⟩
          rw [hset] at hk0
          simp only [Bool.or_eq_false_iff] at hk0
          exact hk1 ⟨k, hk, hk0.2, hkk⟩
        · refine ⟨?_, ?_, ?_⟩
          · cases o.dst <;> simp [Act.put, hsl.size]
          · intro s hts k hk hks hkd hlt
            rw [hset] at hks
            simp only [Bool.or_eq_true, decide_eq_true_eq] at hks
            by_cases hki : k = i
            · subst hki
              have hod : o.dst = some s := by simpa [ho] using hkd
              simp [Act.put, hod, hsl.size, hlt]
            · have hks' : listed.getD k false = true := hks.resolve_left hki
              have := hsl.come s hts k hk hks' hkd hlt
              cases hod : o.dst with
              | none => exact this
              | some d =>
                have hne : d ≠ s := fun e => hki (distinct_heads hdist hk hin hkd (by simp [ho, hod, e]))
                simp only [Act.put, Array.getElem?_setIfInBounds_ne hne]
                exact this
          · intro s hts hr
            have h3 := hsl.rest s hts (fun k hk hks => hr k hk (by rw [hset]; simp [hks]))
            have h4 := hr i hin (by rw [hset]; simp)
            cases hod : o.dst with
            | none => exact h3
            | some d =>
              have hne : d ≠ s := fun e => h4 (by simp [ho, hod, e])
              simp only [Act.put, Array.getElem?_setIfInBounds_ne hne]
              exact h3
        · refine ⟨?_, ?_, ?_, ?_⟩
          · rw [hsim.size]; cases o.dst <;> simp [Act.put]
          · rw [hsim.defers]; cases o.dst <;> rfl
          · intro s k hk hks hkd hlt
            rw [hset] at hks
            simp only [Bool.or_eq_false_iff] at hks
            exact hsim.come s k hk hks.2 hkd (by
              have : (b.put o.dst (V i)).tmps.size = b.tmps.size := by cases o.dst <;> simp [Act.put]
              rw [this] at hlt; exact hlt)
          · intro s hr
            by_cases hsi : o.dst = some s
            · rcases Nat.lt_or_ge s b.tmps.size with hlt | hge
              · rw [hsim.come s i hin h1 (by simp [ho, hsi]) hlt]
                simp [Act.put, hsi, hlt]
              · rw [Array.getElem?_eq_none (by rw [hsim.size]; exact hge), Array.getElem?_eq_none (by simp [Act.put, hsi]; exact hge)]
            · have h3 := hsim.rest s (fun k hk hks hkd => by
                by_cases hki : k = i
                · subst hki; exact hsi (by simpa [ho] using hkd)
                · exact hr k hk (by rw [hset]; simp [hki, hks]) hkd)
              rw [h3]
              cases hod : o.dst with
              | none => rfl
              | some d =>
                have hne : d ≠ s := fun e => hsi (by rw [hod, e])
                simp only [Act.put, Array.getElem?_setIfInBounds_ne hne]
        · have := missing_set hin (by omega) h1
          omega
      · -- the next of the later ones
        have hit : i = t := by
          rcases Nat.lt_trichotomy i t with hlt | heq | hgt
          · rw [hL i hin hil] at h1; simp at h1; omega
          · exact heq
          · rcases tail_before h hin ho hgt with hb | ⟨hx, _⟩
            · have := hmi t hb
              rw [hL t hnt (by omega)] at this
              simp at this
            · omega
        subst hit
        have hlook : ∀ s ∈ looks ops o, bs.tmps[s]? = b.tmps[s]? := fun s hs' => hsim.rest s (fun k hk hks hkd => by
          rcases tail_before h hin ho (by omega : k < i) with hb | ⟨_, _, oi, hoi, hx1, _⟩
          · rw [hmi k hb] at hks; cases hks
          · exact (hx1 s (by simpa [hoi] using hkd)).1 hs')
        obtain ⟨hwant, hsem⟩ := same_op (ρ := ρ) (sel_ok h ho) hlook
        have hdr : ops.drop i = o :: ops.drop (i + 1) := by
          rw [List.drop_eq_getElem_cons hil]
          congr 1
          have := List.getElem?_eq_getElem hil
          rw [ho] at this; cases this; rfl
        rw [hdr] at hw
        have hfl : (flags ops n).drop (i - n) = flagOf ops n i :: (flags ops n).drop (i + 1 - n) := by
          have hlt : i - n < (flags ops n).length := by simp [flags]; omega
          rw [List.drop_eq_getElem_cons hlt]
          congr 1
          · simp [flags]; congr 1; omega
          · congr 1; omega
        rw [hfl] at hw
        unfold wpT at hw
        simp only [List.headD_cons, List.tail_cons] at hw
        have hfull : (flagOf ops n i).2 = true → b = bs := fun hf' => by
          simp only [flagOf, List.all_eq_true, List.mem_range] at hf'
          have hall : ∀ k, k < n → listed.getD k false = true := fun k hk => hmi k (hf' k hk)
          have : bs.tmps = b.tmps := Array.ext_getElem? (fun s => hsim.rest s (fun k hk hs => by rw [hall k hk] at hs; cases hs))
          cases bs; cases b; simp only [Act.mk.injEq]; exact ⟨this.symm, hsim.defers.symm⟩
        have next : ∀ (ds : List Deferred) (v : Value) (w' : World), ((flagOf ops n i).1 = true → C w') → wpT P ρ ops.toArray C Q ((flags ops n).drop (i + 1 - n)) (ops.drop (i + 1)) (({ tmps := bs.tmps, defers := ds } : Act).put o.dst v) w' →
            wpAnyIn (fence ρ) 0 P .any ops.toArray Q fuel (listed.setIfInBounds i true) (({ tmps := b.tmps, defers := ds } : Act).put o.dst v) w' := by
          intro ds v w' hC hw'
          refine ih _ (i + 1) _ _ w' (by simp [hs]) (by omega) (by omega) ?_ ?_ ?_ ?_ ?_ ?_ hw' ?_
          · intro k hk1 hk2
            rw [hset, hL k hk1 hk2]
            by_cases hki : k = i
            · subst hki; simp
            · simp only [hki, decide_false, Bool.false_or, decide_eq_decide]; omega
          · intro j o' ho' hj k hk
            simp only [hset, Bool.or_eq_true, decide_eq_true_eq] at hj ⊢
            rcases hj with rfl | hj
            · rw [ho] at ho'; cases ho'; exact .inr (h2 k hk)
            · exact .inr (hc j o' ho' hj k hk)
          · intro k hk hk0
            rw [hset] at hk0
            simp only [Bool.or_eq_false_iff] at hk0
            exact hk2 k hk hk0.2
          · rintro ⟨k, hk, hk0, hkk⟩
            rw [hset] at hk0
            simp only [Bool.or_eq_false_iff] at hk0
            refine hC ?_
            simp only [flagOf, late, List.any_eq_true, List.mem_range, Bool.and_eq_true, Bool.not_eq_true', beq_iff_eq]
            refine ⟨k, hk, ?_, hkk⟩
            cases hb : ((masks [] ops).getD i 0).testBit k with
            | false => rfl
            | true => rw [hmi k hb] at hk0; cases hk0.2
          · refine ⟨?_, ?_, ?_⟩
            · cases o.dst <;> simp [Act.put, hsl.size]
            · intro s hts k hk hks hkd hlt
              rw [hset] at hks
              have hki : k ≠ i := by omega
              simp only [hki, decide_false, Bool.false_or] at hks
              have := hsl.come s (fun q hq1 hq2 => hts q hq1 (by omega)) k hk hks hkd hlt
              have h3 := hts i hin (by omega)
              cases hod : o.dst with
              | none => exact this
              | some d =>
                have hne : d ≠ s := fun e => h3 (by simp [ho, hod, e])
                simp only [Act.put, Array.getElem?_setIfInBounds_ne hne]
                exact this
            · intro s hts hr
              have h3 := hts i hin (by omega)
              have h4 := hsl.rest s (fun q hq1 hq2 => hts q hq1 (by omega)) (fun k hk hks => hr k hk (by rw [hset]; simp [hks]))
              cases hod : o.dst with
              | none => exact h4
              | some d =>
                have hne : d ≠ s := fun e => h3 (by simp [ho, hod, e])
                simp only [Act.put, Array.getElem?_setIfInBounds_ne hne]
                exact h4
          · have hkeep : ∀ k, k < n → (listed.setIfInBounds i true).getD k false = false → listed.getD k false = false := fun k hk hks => by
              rw [hset] at hks
              simp only [Bool.or_eq_false_iff] at hks
              exact hks.2
            refine ⟨?_, ?_, ?_, ?_⟩
            · cases o.dst <;> simp [Act.put, hsim.size]
            · cases o.dst <;> rfl
            · intro s k hk hks hkd hlt
              have hks' := hkeep k hk hks
              have hlt' : s < b.tmps.size := by
                have : (({ tmps := b.tmps, defers := ds } : Act).put o.dst v).tmps.size = b.tmps.size := by cases o.dst <;> simp [Act.put]
                rw [this] at hlt; exact hlt
              have h3 := hsim.come s k hk hks' hkd hlt'
              have hne : o.dst ≠ some s := by
                rcases tail_before h hin ho (by omega : k < i) with hb | ⟨_, _, oi, hoi, hx1, _⟩
                · rw [hmi k hb] at hks'; cases hks'
                · exact (hx1 s (by simpa [hoi] using hkd)).2
              cases hod : o.dst with
              | none => exact h3
              | some d =>
                have hne' : d ≠ s := fun e => hne (by rw [hod, e])
                simp only [Act.put, Array.getElem?_setIfInBounds_ne hne']
                exact h3
            · intro s hr
              have h3 := hsim.rest s (fun k hk hks hkd => hr k hk (by
                rw [hset]
                have : k ≠ i := by omega
                simp [this, hks]) hkd)
              cases hod : o.dst with
              | none => exact h3
              | some d =>
                by_cases hds : d = s
                · subst hds
                  rcases Nat.lt_or_ge d b.tmps.size with hlt | hge
                  · simp [Act.put, hlt, hsim.size]
                  · rw [Array.getElem?_eq_none (by simp [Act.put, hsim.size]; exact hge), Array.getElem?_eq_none (by simp [Act.put]; exact hge)]
                · simp only [Act.put, Array.getElem?_setIfInBounds_ne hds]
                  exact h3
          · have hmeq : missing n (listed.setIfInBounds i true) = missing n listed := by
              unfold missing
              apply List.filter_congr
              intro k hk
              have hkn : k < n := List.mem_range.1 hk
              have : k ≠ i := by omega
              rw [hset]; simp [this]
            rw [hmeq]
            omega
        unfold wpOpIn
        simp only [List.getElem?_toArray, ho]
        rw [hwant] at hw
        split
        · rename_i hwt
          rw [if_pos hwt] at hw
          refine wpIn_transfer hsem hsim.defers hw (fun ds v w' hm => next ds v w' hm.1 hm.2) (fun ch w' hq => by rw [hfull hq.1]; exact hq.2) (fun ⟨a, w, hq⟩ => ⟨a, w, hq.2⟩)
        · rename_i hwt
          rw [if_neg hwt] at hw
          refine ⟨fun _ _ => trivial, ?_⟩
          have := next b.defers undef w hw.1 (by have := hw.2; rw [← hsim.defers]; exact this)
          exact this

theorem any_of_heads (h : drawOk ops n = true) {A : Nat → Act} {V : Nat → Value} (step : ∀ i o, i < n → ops[i]? = some o → A (i + 1) = (A i).put o.dst (V i))
    (still : ∀ i o, i < n → ops[i]? = some o → Yl P ρ ops C o (V i) (A i)) (tail : ∀ w', C w' → wpT P ρ ops.toArray C Q (flags ops n) (ops.drop n) (A n) w') {w : World} (hw : C w) :
    wpAnyIn (fence ρ) 0 P .any ops.toArray Q ops.length (Array.replicate ops.length false) (A 0) w := by
  obtain ⟨hn, hheads, hdist, _⟩ := drawOk_parts h
  have get : ∀ i, i < ops.length → ∃ o, ops[i]? = some o := fun i hi => ⟨ops[i]'hi, List.getElem?_eq_getElem hi⟩
  have lexA : ∀ i, i ≤ n → Sl ops n (A 0) V (fun k => decide (k < i)) (A i) := by
    intro i
    induction i with
    | zero => intro _; exact ⟨rfl, rfl, fun k t _ hs => by simp at hs, fun t _ => rfl⟩
    | succ i ih =>
      intro hi
      obtain ⟨o, ho⟩ := get i (by omega)
      rw [step i o (by omega) ho]
      exact (ih (by omega)).put hdist (by omega) ho (fun k _ => by simp; omega)
  have main : ∀ (u : Nat) (listed : Array Bool) (b : Act) (w : World) (fuel : Nat), (missing n listed).length = u → u + (ops.length - n) ≤ fuel → listed.size = ops.length →
      (∀ k, listed.getD k false = true → k < n) → Closed ops (fun k => listed.getD k false) → Sl ops n (A 0) V (fun k => listed.getD k false) b → C w →
      wpAnyIn (fence ρ) 0 P .any ops.toArray Q fuel listed b w := by
    intro u
    induction u with
    | zero =>
      intro listed b w fuel hu hf hs hL hc hsl hw
      have hm0 : missing n listed = [] := List.eq_nil_of_length_eq_zero hu
      have hall : ∀ k, k < n → listed.getD k false = true := fun k hk => by
        cases h0 : listed.getD k false with
        | true => rfl
        | false => have := missing_mem.2 ⟨hk, h0⟩; rw [hm0] at this; cases this
      refine phaseB h lexA still fuel listed n b (A n) w hs (Nat.le_refl _) hn ?_ hc (fun k hk h0 => by rw [hall k hk] at h0; cases h0) (fun _ => hw) ⟨hsl.size, fun s _ => fun k hk hS hd hlt => hsl.come k s hk hS hd hlt, fun s _ hr => hsl.rest s hr⟩ ?_ (by simpa using tail w hw) (by omega)
      · intro k hk1 hk2
        cases h0 : listed.getD k false with
        | false => simp; omega
        | true => have := hL k h0; omega
      · have : b = A n := hsl.eq (by
          have := lexA n (Nat.le_refl _)
          exact ⟨this.defers, this.size, fun k t hk _ => this.come k t hk (by simpa using hk), fun t hr => this.rest t (fun k hk _ => hr k hk (hall k hk))⟩)
        subst this
        exact ⟨rfl, rfl, (fun s k hk h0 => by rw [hall k hk] at h0; cases h0), fun _ _ => rfl⟩
    | succ u ih =>
      intro listed b w fuel hu hf hs hL hc hsl hw
      by_cases h2x : ∃ k, k < n ∧ listed.getD k false = false ∧ kindAt ops k = 2
      · obtain ⟨q, hq, hq0, hq2⟩ := h2x
        cases fuel with
        | zero => omega
        | succ fuel =>
          refine ⟨fun h0 => ?_, fun i hi => ?_⟩
          · obtain ⟨i, hi, h1, h2⟩ := missing_first (n := n) (listed := listed) (fun e => by rw [e] at hu; simp at hu)
            obtain ⟨o, ho⟩ := get i (by omega)
            have : i ∈ Region.ready .any ops.toArray listed := (ready_iff hs).2 ⟨o, ho, h1, fun k hk => h2 k (needs_lt h ho k hk)⟩
            rw [h0] at this
            cases this
          · obtain ⟨o, ho, h1, h2⟩ := (ready_iff hs).1 hi
            have hil : i < ops.length := (List.getElem?_eq_some_iff.1 ho).1
            have hmi : ∀ k, ((masks [] ops).getD i 0).testBit k = true → listed.getD k false = true := fun k hb =>
              mask_listed hc (j := i) (fun o'' ho'' k' hk' => by rw [ho] at ho''; cases ho''; exact h2 k' hk') hb
            have hin : i < n := by
              rcases Nat.lt_or_ge i n with hlt | hge
              · exact hlt
              · rcases tail_before h hge ho (by omega : q < i) with hb | ⟨_, hx, _⟩
                · rw [hmi q hb] at hq0; cases hq0
                · exact absurd hq2 hx
            have hlook := look_head (t := n) h hin ho (lexA i (by omega)) hc h2 h1 ⟨hsl.size, fun s _ => fun k hk hS hd hlt => hsl.come k s hk hS hd hlt, fun s _ hr => hsl.rest s hr⟩ (fun k hk1 hk2 => by omega)
            have hy := (still i o hin ho).same (sel_ok h ho) hlook
            refine hy.op ho hw (fun w'' hw'' => ih _ _ w'' fuel ?_ (by omega) (by simp [hs]) ?_ ?_ ?_ hw'')
            · have := missing_set hin (by omega) h1
              omega
            · intro k hk
              rw [getD_set (by omega)] at hk
              simp only [Bool.or_eq_true, decide_eq_true_eq] at hk
              rcases hk with rfl | hk
              · exact hin
              · exact hL k hk
            · intro j o' ho' hj k hk
              simp only [getD_set (show i < listed.size by omega), Bool.or_eq_true, decide_eq_true_eq] at hj ⊢
              rcases hj with rfl | hj
              · rw [ho] at ho'; cases ho'; exact .inr (h2 k hk)
              · exact .inr (hc j o' ho' hj k hk)
            · exact hsl.put hdist hin ho (fun k _ => by rw [getD_set (by omega)]; simp)
      · have hA := lexA n (Nat.le_refl _)
        refine phaseB h lexA still fuel listed n b (A n) w hs (Nat.le_refl _) hn ?_ hc (fun k hk h0 e => h2x ⟨k, hk, h0, e⟩) (fun _ => hw) ⟨hsl.size, fun s _ => fun k hk hS hd hlt => hsl.come k s hk hS hd hlt, fun s _ hr => hsl.rest s hr⟩ ?_ (by simpa using tail w hw) (by omega)
        · intro k hk1 hk2
          cases h0 : listed.getD k false with
          | false => simp; omega
          | true => have := hL k h0; omega
        · refine ⟨by rw [hA.size, hsl.size], by rw [hA.defers, hsl.defers], fun s k hk h0 hd hlt => hA.come k s hk (by simpa using hk) hd (by have h9 := hsl.size; rw [h9] at hlt; exact hlt), fun s hr => ?_⟩
          by_cases hx : ∃ k, k < n ∧ (ops[k]?).bind (·.dst) = some s
          · obtain ⟨k, hk, hkd⟩ := hx
            have hS : listed.getD k false = true := by
              cases h0 : listed.getD k false with
              | true => rfl
              | false => exact absurd hkd (hr k hk h0)
            rcases Nat.lt_or_ge s (A 0).tmps.size with hlt | hge
            · rw [hA.come k s hk (by simpa using hk) hkd hlt, hsl.come k s hk hS hkd hlt]
            · rw [Array.getElem?_eq_none (by rw [hA.size]; exact hge), Array.getElem?_eq_none (by rw [hsl.size]; exact hge)]
          · rw [hA.rest s (fun q hq _ hqd => hx ⟨q, hq, hqd⟩), hsl.rest s (fun q hq _ hqd => hx ⟨q, hq, hqd⟩)]
  have h0 : ∀ k, (Array.replicate ops.length false).getD k false = false := fun k => by
    rcases Nat.lt_or_ge k ops.length with h | h
    · simp [h]
    · simp [h]
  refine main n _ (A 0) w _ ?_ (by omega) (by simp) (fun k hk => by rw [h0] at hk; cases hk) (fun j o ho hj => by simp only [h0] at hj; cases hj) ?_ hw
  · simp only [missing, h0]
    have : (List.range n).filter (fun k => !false) = List.range n := List.filter_eq_self.2 (fun _ _ => rfl)
    rw [this]
    simp
  · exact ⟨rfl, rfl, fun k t _ hs => (by rw [h0] at hs; cases hs), fun t _ => rfl⟩

/-- What the heads owe, in the order of the text; each leaves one value. -/
def wpH (P : Program) (ops : List Oper) (C : World → Prop) (M : Env → Prop) : List Oper → Env → Prop
  | [], K => M K
  | o :: rest, K =>
    match o.guard with
    | none => opH P K C (fun v => wpH P ops C M rest (putE o.dst v K)) o.type o.op
    | some (j, want) => match gdst ops j with
      | some d => (match K.get d with
        | some (.bool b) => (b = want → opH P (K.set d (.bool want)) C (fun v => wpH P ops C M rest (putE o.dst v (K.set d (.bool want)))) o.type o.op) ∧
            (b = !want → wpH P ops C M rest (putE o.dst undef (K.set d (.bool !want))))
        | some (.tuple _) => wpH P ops C M rest (putE o.dst undef K)
        | _ => False)
      | none => False

theorem wpH_steps (hN : 0 < N) {M : Env → Prop} : ∀ (rest : List Oper) (k : Nat) (K : Env) (a : Act), (∀ j, j < rest.length → rest[j]? = ops[k + j]?) → dstsOk N rest = true → Kn K N ds a → wpH P ops C M rest K →
    ∃ (A : Nat → Act) (V : Nat → Value) (K' : Env), A k = a ∧ (∀ i o, k ≤ i → i < k + rest.length → ops[i]? = some o → A (i + 1) = (A i).put o.dst (V i) ∧ Yl P ρ ops C o (V i) (A i)) ∧
      Kn K' N ds (A (k + rest.length)) ∧ M K'
  | [], k, K, a, _, _, ha, h => ⟨fun _ => a, fun _ => undef, K, rfl, fun i o h1 h2 => by simp at h2; omega, ha, h⟩
  | o :: rest, k, K, a, hr, hd, ha, h => by
    simp only [dstsOk, List.all_cons, Bool.and_eq_true] at hd
    have hd0 : ∀ d, o.dst = some d → d < N := fun d he => by have := hd.1; rw [he] at this; simpa using this
    have ho : ops[k]? = some o := by simpa using (hr 0 (by simp)).symm
    -- one step, whatever it leaves
    have go : ∀ (v : Value) (K1 : Env), Kn K1 N ds a → Yl P ρ ops C o v a → wpH P ops C M rest (putE o.dst v K1) →
        ∃ (A : Nat → Act) (V : Nat → Value) (K' : Env), A k = a ∧ (∀ i o', k ≤ i → i < k + (o :: rest).length → ops[i]? = some o' → A (i + 1) = (A i).put o'.dst (V i) ∧ Yl P ρ ops C o' (V i) (A i)) ∧
          Kn K' N ds (A (k + (o :: rest).length)) ∧ M K' := by
      intro v K1 hk1 hy hh
      obtain ⟨A, V, K', hA, hst, hk', hM⟩ := wpH_steps hN rest (k + 1) _ (a.put o.dst v) (fun j hj => by have := hr (j + 1) (by simp; omega); simpa [Nat.add_assoc, Nat.add_comm 1 j] using this) hd.2 (hk1.put hd0) hh
      refine ⟨fun i => if i = k then a else A i, fun i => if i = k then v else V i, K', by simp, fun i o' h1 h2 ho' => ?_, ?_, hM⟩
      · by_cases hi : i = k
        · subst hi
          rw [ho] at ho'; cases ho'
          simp [hA, hy]
        · have h3 := hst i o' (by omega) (by simp at h2; omega) ho'
          simp only [if_neg hi, if_neg (show i + 1 ≠ k by omega)]
          exact h3
      · have : k + (o :: rest).length = k + 1 + rest.length := by simp; omega
        rw [this]
        simp only [if_neg (show k + 1 + rest.length ≠ k by omega)]
        exact hk'
    have still : ∀ {K1 : Env} {v : Value}, Kn K1 N ds a → Region.wanted o (yielded ops.toArray a.tmps) = true → StillF P K1 C o.type o.op v → Yl P ρ ops C o v a := fun hk1 hwt hs =>
      .inl ⟨hwt, fun hk w' hw' => upon1_of_opF hk1 hN (hs.1 hk w' hw'), fun hk w' hw' => upon1_of_opF (C := fun x => x = w') hk1 hN (hs.2 hk w' hw')⟩
    simp only [wpH] at h
    cases hg : o.guard with
    | none =>
      rw [hg] at h
      obtain ⟨v, hv, hs⟩ := opH_still h
      exact go v K ha (still ha (by simp [Region.wanted, hg]) hs) hv
    | some gd =>
      obtain ⟨j, want⟩ := gd
      rw [hg] at h
      simp only at h
      split at h
      · rename_i d hgd
        have hy : yielded ops.toArray a.tmps j = match a.tmps[d]? with | some (.bool b) => some b | _ => none := by
          unfold gdst at hgd
          split at hgd
          · rename_i oj hj
            simp only [yielded, List.getElem?_toArray, hj, Option.bind_some, hgd]
            split <;> simp_all
          · cases hgd
        split at h
        · rename_i b hb
          have hya : yielded ops.toArray a.tmps j = some b := by rw [hy, ha.at_ _ _ hb]
          by_cases hbw : b = want
          · subst hbw
            have hw : Region.wanted o (yielded ops.toArray a.tmps) = true := by simp [Region.wanted, hg, hya]
            have ha' := ha.set hb
            obtain ⟨v, hv, hs⟩ := opH_still (h.1 rfl)
            exact go v _ ha' (still ha' hw hs) hv
          · have hbn : b = !want := by cases b <;> cases want <;> simp_all
            have hw : Region.wanted o (yielded ops.toArray a.tmps) = false := by simp [Region.wanted, hg, hya, hbw]
            exact go undef _ (ha.set (hbn ▸ hb)) (.inr ⟨hw, rfl⟩) (h.2 hbn)
        · rename_i x hb
          have hya : yielded ops.toArray a.tmps j = none := by rw [hy, ha.at_ _ _ hb]
          have hw : Region.wanted o (yielded ops.toArray a.tmps) = false := by simp [Region.wanted, hg, hya]
          exact go undef _ ha (.inr ⟨hw, rfl⟩) h
        · exact h.elim
      · exact h.elim

def oweC : Bool → Prop → Prop → Prop
  | true, c, m => c ∧ m
  | false, _, m => m
def oweP : Bool → Prop → Prop
  | true, p => p
  | false, _ => False
/-- What the later operations owe; 'fl' as in 'flags'. -/
def wpE (P : Program) (ops : List Oper) (C : World → Prop) (pan : List PanicEntry → Env → World → Prop) (M : Env → World → Prop) : List (Bool × Bool) → List Oper → Env → World → Prop
  | _, [], K, w => M K w
  | fl, o :: rest, K, w =>
    match o.guard with
    | none => opF P K w (fun v w' => oweC (fl.headD (false, false)).1 (C w') (wpE P ops C pan M fl.tail rest (putE o.dst v K) w')) (fun ch w' => oweP (fl.headD (false, false)).2 (pan ch K w')) o.type o.op
    | some (j, want) => match gdst ops j with
      | some d => (match K.get d with
        | some (.bool b) => (b = want → opF P (K.set d (.bool want)) w (fun v w' => oweC (fl.headD (false, false)).1 (C w') (wpE P ops C pan M fl.tail rest (putE o.dst v (K.set d (.bool want))) w')) (fun ch w' => oweP (fl.headD (false, false)).2 (pan ch (K.set d (.bool want)) w')) o.type o.op) ∧
            (b = !want → oweC (fl.headD (false, false)).1 (C w) (wpE P ops C pan M fl.tail rest (putE o.dst undef (K.set d (.bool !want))) w))
        | some (.tuple _) => oweC (fl.headD (false, false)).1 (C w) (wpE P ops C pan M fl.tail rest (putE o.dst undef K) w)
        | _ => False)
      | none => False

theorem oweC_sound {b : Bool} {c m m' : Prop} (h : oweC b c m) (hm : m → m') : (b = true → c) ∧ m' := by
  cases b
  · exact ⟨fun h => Bool.noConfusion h, hm h⟩
  · exact ⟨fun _ => h.1, hm h.2⟩
theorem oweP_sound {b : Bool} {p p' : Prop} (h : oweP b p) (hm : p → p') : b = true ∧ p' := by
  cases b
  · exact h.elim
  · exact ⟨rfl, hm h⟩

theorem wpE_sound {Φ : Post} {pan : List PanicEntry → Env → World → Prop} {M : Env → World → Prop} (hp : ∀ ch K w, pan ch K w → Φ (.panic ch) K ds w) (hM : ∀ K w, M K w → Φ .normal K ds w) :
    ∀ (rest : List Oper) (fl : List (Bool × Bool)) (K : Env) (w : World) (a : Act), dstsOk N rest = true → Kn K N ds a → wpE P ops C pan M fl rest K w → wpT P ρ ops.toArray C (lift N Φ) fl rest a w
  | [], fl, K, w, a, _, ha, h => ⟨K, ds, ha, hM _ _ h⟩
  | o :: rest, fl, K, w, a, hd, ha, h => by
    simp only [dstsOk, List.all_cons, Bool.and_eq_true] at hd
    have hd0 : ∀ d, o.dst = some d → d < N := fun d he => by have := hd.1; rw [he] at this; simpa using this
    simp only [wpE] at h
    unfold wpT
    cases hg : o.guard with
    | none =>
      rw [hg] at h
      simp only [Region.wanted, hg, if_true]
      exact opF_sound ha h (fun v w' hv => oweC_sound hv fun hv => wpE_sound hp hM rest _ _ _ _ hd.2 (ha.put hd0) hv) (fun ch w' hc => oweP_sound hc fun hc => ⟨K, ds, ha, hp _ _ _ hc⟩)
    | some gd =>
      obtain ⟨j, want⟩ := gd
      rw [hg] at h
      simp only at h
      split at h
      · rename_i d hgd
        have hy : yielded ops.toArray a.tmps j = match a.tmps[d]? with | some (.bool b) => some b | _ => none := by
          unfold gdst at hgd
          split at hgd
          · rename_i oj hj
            simp only [yielded, List.getElem?_toArray, hj, Option.bind_some, hgd]
            split <;> simp_all
          · cases hgd
        split at h
        · rename_i b hb
          have hya : yielded ops.toArray a.tmps j = some b := by rw [hy, ha.at_ _ _ hb]
          by_cases hbw : b = want
          · subst hbw
            have hw : Region.wanted o (yielded ops.toArray a.tmps) = true := by simp [Region.wanted, hg, hya]
            rw [if_pos hw]
            have ha' := ha.set hb
            exact opF_sound ha' (h.1 rfl) (fun v w' hv => oweC_sound hv fun hv => wpE_sound hp hM rest _ _ _ _ hd.2 (ha'.put hd0) hv) (fun ch w' hc => oweP_sound hc fun hc => ⟨_, ds, ha', hp _ _ _ hc⟩)
          · have hbn : b = !want := by cases b <;> cases want <;> simp_all
            have hw : ¬ Region.wanted o (yielded ops.toArray a.tmps) = true := by simp [Region.wanted, hg, hya, hbw]
            rw [if_neg hw]
            have ha' := ha.set (hbn ▸ hb)
            exact oweC_sound (h.2 hbn) fun hv => wpE_sound hp hM rest _ _ _ _ hd.2 (ha'.put hd0) hv
        · rename_i x hb
          have hya : yielded ops.toArray a.tmps j = none := by rw [hy, ha.at_ _ _ hb]
          have hw : ¬ Region.wanted o (yielded ops.toArray a.tmps) = true := by simp [Region.wanted, hg, hya]
          rw [if_neg hw]
          exact oweC_sound h fun hv => wpE_sound hp hM rest _ _ _ _ hd.2 (ha.put hd0) hv
        · exact h.elim
      · exact h.elim

/-- A REGION THAT DRAWS ITS ORDER: n heads, in worlds of the class C; then the others. -/
theorem ok_draw (n : Nat) (fl : List (Bool × Bool)) (C : World → Prop) {id : Nat} {Φ : Post} (hm : P.follows .mixedOrders = true) (hN : 0 < N) (hd : dstsOk N ops = true) (hB : drawOk ops n = true) (hfl : flags ops n = fl)
    (hC : C { w with drawn := w.drawn + 1 })
    (h : wpH P ops C (fun K' => ∀ w', C w' → wpE P ops C (fun ch K w => Φ (.panic ch) K ds w) (fun K w => Φ .normal K ds w) fl (ops.drop n) K' w') (ops.take n) K) :
    ok P ρ N (.region id ops.toArray true) K ds w Φ := by
  intro a ha
  subst hfl
  have hn := (drawOk_parts hB).1
  have hlen : (ops.take n).length = n := by simp; omega
  have hdall : ∀ l, (∀ o ∈ l, o ∈ ops) → dstsOk N l = true := fun l hl => by
    simp only [dstsOk, List.all_eq_true] at hd ⊢
    exact fun o ho => hd o (hl o ho)
  obtain ⟨A, V, K', hA, hst, hk', hM⟩ := wpH_steps (ρ := ρ) hN (ops.take n) 0 K a (fun j hj => by rw [hlen] at hj; simp [List.getElem?_take, hj]) (hdall _ fun o ho => List.mem_of_mem_take ho) ha h
  rw [hlen] at hst hk'
  simp only [Nat.zero_add] at hst hk'
  refine wpIn_region_any hm ?_
  have := any_of_heads (P := P) (ρ := ρ) (C := C) (Q := lift N Φ) hB (A := A) (V := V) (fun i o hi ho => (hst i o (Nat.zero_le _) hi ho).1) (fun i o hi ho => (hst i o (Nat.zero_le _) hi ho).2)
    (fun w' hw' => wpE_sound (fun _ _ _ h => h) (fun _ _ h => h) _ _ _ _ _ (hdall _ fun o ho => List.mem_of_mem_drop ho) hk' (hM w' hw')) hC
  rw [hA] at this
  simpa using this
end
end Go.Proofs.Vg
set_option linter.unusedVariables false
set_option linter.unusedSimpArgs false
namespace Go.Proofs.Vg
open Go Go.RowKit

section
variable {P : Program} {t : TypeId} {k k' : IntKind} {a b : Int} {s u : ByteArray} {x y : Bool}
theorem bvEql : binV P t .eql (.int k a) (.int k' b) = some (k = k', .bool (decide (a = b))) := rfl
end

/-- A test that is decided. -/
theorem ok_if {P : Program} {ρ : Option Nat} {N : Nat} {K : Env} {ds : List Deferred} {w : World} {Φ : Post} {c : Operand} {x y : Code} {p : Prop} [Decidable p] (hc : ev K c = some (.bool (decide p)))
    (ht : p → ok P ρ N x K ds w Φ) (hf : ¬ p → ok P ρ N y K ds w Φ) : ok P ρ N (.cond c x y) K ds w Φ :=
  ok_cond hc (fun h => ht (of_decide_eq_true h)) (fun h => hf (of_decide_eq_false h))
theorem ok_ifn {P : Program} {ρ : Option Nat} {N : Nat} {K : Env} {ds : List Deferred} {w : World} {Φ : Post} {c : Operand} {x y : Code} {p : Prop} [Decidable p] (hc : ev K c = some (.bool (!decide p)))
    (ht : ¬ p → ok P ρ N x K ds w Φ) (hf : p → ok P ρ N y K ds w Φ) : ok P ρ N (.cond c x y) K ds w Φ :=
  ok_cond hc (fun h => ht (by simpa using h)) (fun h => hf (by simpa using h))

/-- A function's contract: it returns. -/
def Rets (P : Program) (f : FuncId) (args : List Value) (w : World) (R : Value → World → Prop) : Prop := Calls P f args.toArray w (callR R fun _ _ => False)

section
variable {P : Program} {w : World} {next : Value → World → Prop} {pan : List PanicEntry → World → Prop} {R : Value → World → Prop}

theorem Rets.mono {f : FuncId} {args : List Value} {R' : Value → World → Prop} (h : Rets P f args w R) (hr : ∀ v w', R v w' → R' v w') : Rets P f args w R' :=
  Calls.mono h fun e w' he => by cases e <;> simp only [callR] at he ⊢ <;> first | exact hr _ _ he | exact he

theorem Inv.call {f : FuncId} {args : List Value} (hen : ∀ (xs : Array Value) (w : World), (callFunc f xs).run P w = .ok (.enter f xs) w) (h : Rets P f args w R) (hn : ∀ v w', R v w' → next v w') :
    Inv P (.func (.func f) #[] #[]) args w (callR next pan) := by
  refine .inl ⟨f, #[], #[], rfl, hen, ?_⟩
  have : (#[] ++ args.toArray ++ #[] : Array Value) = args.toArray := by simp
  rw [this]
  exact Calls.mono h fun e w' he => by cases e <;> simp only [callR] at he ⊢ <;> first | exact hn _ _ he | exact he.elim
/-- A closure: its captured values behind the arguments. -/
theorem Inv.clos {f : FuncId} {args cap : List Value} (hen : ∀ (xs : Array Value) (w : World), (callFunc f xs).run P w = .ok (.enter f xs) w) (h : Rets P f (args ++ cap) w R) (hn : ∀ v w', R v w' → next v w') :
    Inv P (.func (.func f) #[] cap.toArray) args w (callR next pan) := by
  refine .inl ⟨f, #[], cap.toArray, rfl, hen, ?_⟩
  have : (#[] ++ args.toArray ++ cap.toArray : Array Value) = (args ++ cap).toArray := by simp
  rw [this]
  exact Calls.mono h fun e w' he => by cases e <;> simp only [callR] at he ⊢ <;> first | exact hn _ _ he | exact he.elim

/-- A function's contract, from its body. -/
theorem rets_of_ok {f : FuncId} {fn : Func} {c : Code} {args : List Value} (hf : P.funcs[f]? = some fn) (hb : fn.body = some c) (hn : fn.ntmps = args.length + (fn.ntmps - args.length))
    (h : ok P none fn.ntmps c (argEnv 0 args) [] w (fin fn.results.toList (callR R fun _ _ => False))) : Rets P f args w R := calls_of_ok hf hb hn h

theorem add_at (b o n : Nat) : (⟨b, o, none⟩ : Addr).add n = ⟨b, o + n, none⟩ := by unfold Addr.add; split <;> simp_all

/-! Slices: 'sz' cells an element. -/
def Sli (w : World) (sz : Nat) (v : Value) (rows : List (List Value)) : Prop :=
  ∃ A c, v = .slice A rows.length c ∧ rows.length ≤ 140737488355328 ∧ ∀ j row, rows[j]? = some row → ∃ b o, A = some ⟨b, o, none⟩ ∧ cellsAt w ⟨b, o + j * sz, none⟩ row
theorem Sli.ext {sz : Nat} {v : Value} {rows : List (List Value)} {w' : World} (h : Sli w sz v rows) (he : Ext w w') : Sli w' sz v rows := by
  obtain ⟨A, c, hv, hl, hr⟩ := h
  exact ⟨A, c, hv, hl, fun j row hj => by
    obtain ⟨b, o, hA, hc⟩ := hr j row hj
    exact ⟨b, o, hA, he.cellsAt hc⟩⟩
def ints (xs : List Int) : List (List Value) := xs.map fun x => [.int .i64 x]
def bls (xs : List Bool) : List (List Value) := xs.map fun x => [.bool x]
abbrev SlI (w : World) (v : Value) (xs : List Int) : Prop := Sli w 1 v (ints xs)
abbrev SlB (w : World) (v : Value) (xs : List Bool) : Prop := Sli w 1 v (bls xs)
@[simp] theorem ints_length (xs : List Int) : (ints xs).length = xs.length := by simp [ints]
@[simp] theorem bls_length (xs : List Bool) : (bls xs).length = xs.length := by simp [bls]
/-- An element's cell. -/
theorem SlI.at_ {v : Value} {xs : List Int} (h : SlI w v xs) : ∃ A c, v = .slice A xs.length c ∧ xs.length ≤ 140737488355328 ∧ ∀ j, (hj : j < xs.length) → ∃ b o, A = some ⟨b, o, none⟩ ∧ w.cell? ⟨b, o + j, none⟩ = some (.int .i64 xs[j]) := by
  obtain ⟨A, c, hv, hl, hr⟩ := h
  refine ⟨A, c, by simpa using hv, by simpa using hl, fun j hj => ?_⟩
  obtain ⟨b, o, hA, hc⟩ := hr j [.int .i64 xs[j]] (by simp [ints, hj])
  refine ⟨b, o, hA, ?_⟩
  have := hc 0 _ rfl
  simpa [add_at] using this
theorem SlB.at_ {v : Value} {xs : List Bool} (h : SlB w v xs) : ∃ A c, v = .slice A xs.length c ∧ xs.length ≤ 140737488355328 ∧ ∀ j, (hj : j < xs.length) → ∃ b o, A = some ⟨b, o, none⟩ ∧ w.cell? ⟨b, o + j, none⟩ = some (.bool xs[j]) := by
  obtain ⟨A, c, hv, hl, hr⟩ := h
  refine ⟨A, c, by simpa using hv, by simpa using hl, fun j hj => ?_⟩
  obtain ⟨b, o, hA, hc⟩ := hr j [.bool xs[j]] (by simp [bls, hj])
  refine ⟨b, o, hA, ?_⟩
  have := hc 0 _ rfl
  simpa [add_at] using this
end
end Go.Proofs.Vg
set_option linter.unusedVariables false
set_option linter.unusedSimpArgs false
namespace Go.Proofs.Vg
open Go Go.RowKit

/-! Memory. -/
/-- Blocks outside of S are as they were. -/
structure Chg (S : Nat → Prop) (w w' : World) : Prop where
  os : w'.os = w.os
  tape : w'.tape = w.tape
  output : w'.output = w.output
  size : w.heap.size ≤ w'.heap.size
  block : ∀ k, k < w.heap.size → ¬ S k → w'.heap[k]? = w.heap[k]?
theorem Chg.refl (S : Nat → Prop) (w : World) : Chg S w w := ⟨rfl, rfl, rfl, Nat.le_refl _, fun _ _ _ => rfl⟩
theorem Chg.trans {S : Nat → Prop} {a b c : World} (h : Chg S a b) (k : Chg S b c) : Chg S a c :=
  ⟨k.os.trans h.os, k.tape.trans h.tape, k.output.trans h.output, Nat.le_trans h.size k.size, fun i hi hs => (k.block i (Nat.lt_of_lt_of_le hi h.size) hs).trans (h.block i hi hs)⟩
theorem Chg.mono {S S' : Nat → Prop} {a b : World} (h : Chg S a b) (hs : ∀ k, k < a.heap.size → S k → S' k) : Chg S' a b :=
  ⟨h.os, h.tape, h.output, h.size, fun i hi hn => h.block i hi (fun hk => hn (hs i hi hk))⟩
theorem Ext.chg {a b : World} (h : Ext a b) (S : Nat → Prop) : Chg S a b := ⟨h.os, h.tape, h.output, h.size, fun i hi _ => Below.block h i hi⟩
/-- Since a, only what is newer than a has turned. -/
theorem Ext.chg_trans {S : Nat → Prop} {a b c : World} (h : Ext a b) (k : Chg S b c) (hs : ∀ i, S i → a.heap.size ≤ i) : Ext a c :=
  ⟨k.os.trans h.os, k.tape.trans h.tape, k.output.trans h.output, Nat.le_trans h.size k.size, fun i hi => (k.block i (Nat.lt_of_lt_of_le hi h.size) (fun hk => absurd (hs i hk) (by omega))).trans (Below.block h i hi)⟩

/-- A block of cells, none frozen. -/
def Blk (w : World) (b : Nat) (cs : List Value) (e : TypeId) : Prop := w.heap[b]? = some (.cells cs.toArray e (0, 0))
section
variable {w w' : World} {b : Nat} {cs : List Value} {e : TypeId} {S : Nat → Prop}
theorem Blk.lt (h : Blk w b cs e) : b < w.heap.size := (Array.getElem?_eq_some_iff.1 h).1
theorem Blk.ext (h : Blk w b cs e) (he : Ext w w') : Blk w' b cs e := he.block h
theorem Blk.chg (h : Blk w b cs e) (hc : Chg S w w') (hs : ¬ S b) : Blk w' b cs e := (hc.block b h.lt hs).trans h
theorem Blk.cell (h : Blk w b cs e) {j : Nat} {u : Value} (hj : cs[j]? = some u) : w.cell? ⟨b, j, none⟩ = some u := by
  unfold World.cell?
  rw [show w.heap[(⟨b, j, none⟩ : Addr).block]? = some (.cells cs.toArray e (0, 0)) from h]
  simpa using hj
theorem Blk.cells (h : Blk w b cs e) {o : Nat} {row : List Value} (hr : ∀ j u, row[j]? = some u → cs[o + j]? = some u) : cellsAt w ⟨b, o, none⟩ row := fun j u hj => by
  rw [add_at]; exact h.cell (hr j u hj)
theorem Chg.cell (hc : Chg S w w') {a : Addr} {v : Value} (h : w.cell? a = some v) (hs : ¬ S a.block) : w'.cell? a = some v :=
  (World.cell?_of_block (w := w) (hc.block a.block (World.block_lt_of_cell? w a h) hs)).trans h
theorem Chg.cellsAt (hc : Chg S w w') {a : Addr} {cs : List Value} (h : cellsAt w a cs) (hs : ¬ S a.block) : cellsAt w' a cs := fun j u hj => hc.cell (h j u hj) (by
  unfold Addr.add; split <;> exact hs)
end

section
variable {P : Program} {w : World}
/-- A type's zero value, its cells, its bytes. -/
def zinfo (P : Program) (t : TypeId) : Option (Option Value × Nat × Nat) := (P.info? t).map fun i => (i.zero, i.size, i.bytes)
theorem zinfo_some {t : TypeId} {z : Option Value} {n by_ : Nat} (h : zinfo P t = some (z, n, by_)) : ∃ i, P.info? t = some i ∧ i.zero = z ∧ i.size = n ∧ i.bytes = by_ := by
  unfold zinfo at h
  cases hi : P.info? t with
  | none => simp [hi] at h
  | some i => simp [hi] at h; exact ⟨i, rfl, h.1, h.2.1, h.2.2⟩

/-- A new block at the end of the heap. -/
def newW (w : World) (cs : List Value) (e : TypeId) : World := w.alloc (.cells cs.toArray e)
theorem newW_ext (w : World) (cs : List Value) (e : TypeId) : Ext w (newW w cs e) := ⟨rfl, rfl, rfl, by simp [newW], fun k hk => Below.heap_alloc w _ k hk⟩
theorem newW_blk (w : World) (cs : List Value) (e : TypeId) : Blk (newW w cs e) w.heap.size cs e := heap_alloc_new w _
theorem newW_size (w : World) (cs : List Value) (e : TypeId) : (newW w cs e).heap.size = w.heap.size + 1 := by simp [newW]

theorem Runs.alloc {t : TypeId} {z : Value} {n by_ : Nat} {nx : Value → World → Prop} (hz : zinfo P t = some (some z, n, by_))
    (h : ∀ w1, Ext w w1 → w1.heap.size = w.heap.size + 1 → Blk w1 w.heap.size z.cells.toList t → nx (.pointer (some ⟨w.heap.size, 0, none⟩)) w1) : Runs P (Instr.alloc t true (.tuple #[])) w nx := by
  obtain ⟨i, hi, hz, _, _⟩ := zinfo_some hz
  refine ⟨_, newW w z.cells.toList t, ?_, h _ (newW_ext _ _ _) (newW_size _ _ _) (newW_blk _ _ _)⟩
  simp [Instr.alloc, zeroValue, typeInfo, hi, hz, newVar, newRow, newObj, Sem.run, newW]
theorem Runs.box {t : TypeId} {v : Value} {nx : Value → World → Prop}
    (h : ∀ w1, Ext w w1 → w1.heap.size = w.heap.size + 1 → Blk w1 w.heap.size v.cells.toList t → nx (.pointer (some ⟨w.heap.size, 0, none⟩)) w1) : Runs P (Instr.box t v) w nx := by
  refine ⟨_, newW w v.cells.toList t, ?_, h _ (newW_ext _ _ _) (newW_size _ _ _) (newW_blk _ _ _)⟩
  simp [Instr.box, newVar, newRow, newObj, Sem.run, newW]

/-- Some cells of a list replaced. -/
def splice (cs : List Value) (o : Nat) (vs : List Value) : List Value := cs.take o ++ vs ++ cs.drop (o + vs.length)
theorem splice_one (cs : List Value) (o : Nat) (v : Value) (h : o < cs.length) : splice cs o [v] = cs.set o v := by
  unfold splice
  rw [List.set_eq_take_append_cons_drop, if_pos h]
  simp
theorem splice_length (cs : List Value) (o : Nat) (vs : List Value) (h : o + vs.length ≤ cs.length) : (splice cs o vs).length = cs.length := by
  unfold splice; simp; omega
theorem splice_all (cs vs : List Value) (h : vs.length = cs.length) : splice cs 0 vs = vs := by
  unfold splice; simp [h]

theorem Runs.store {t : TypeId} {b o : Nat} {cs : List Value} {e : TypeId} {v : Value} {z : Option Value} {n by_ : Nat} {nx : World → Prop} (hb : Blk w b cs e) (hz : zinfo P t = some (z, n, by_)) (hv : v.cells.size = n)
    (h1 : ∀ u ∈ v.cells.toList, u.oneCell' = true) (hfit : o + n ≤ cs.length)
    (h : ∀ w1, Chg (· = b) w w1 → w1.heap.size = w.heap.size → Blk w1 b (splice cs o v.cells.toList) e → nx w1) : Runs P (storeVar t ⟨b, o, none⟩ v) w (fun _ w' => nx w') := by
  obtain ⟨i, hi, _, hs, _⟩ := zinfo_some hz
  have hr := run_storeCells_at P b o e v.cells.toList 0 cs.toArray w hb (by simp; omega) h1
  refine ⟨(), w.setRow b (splice cs o v.cells.toList).toArray, ?_, h _ ?_ (size_setRow _ _ _) ?_⟩
  · simp only [storeVar, sizeOf, typeInfo, Sem.run_bind]
    simp [hi, hs, hv] at hr ⊢
    rw [hr]
    simp [splice, hv]
  · exact ⟨rfl, rfl, rfl, by rw [size_setRow]; exact Nat.le_refl _, fun k _ hk => setRow_other w b k _ hk⟩
  · exact setRow_heap w b cs.toArray _ e _ hb

/-- make([]T, n), T of one cell. -/
theorem Runs.make1 {t e : TypeId} {z : Value} {by_ : Nat} {k : IntKind} {n : Int} {nx : Value → World → Prop} (ht : P.underlying t = some (.slice e)) (hz : zinfo P e = some (some z, 1, by_)) (hzc : z.cells = #[z])
    (h0 : 0 ≤ n) (hn : (by_ : Int) * n ≤ 281474976710656) (h63 : n ≤ 9223372036854775807)
    (h : ∀ w1, Ext w w1 → w1.heap.size = w.heap.size + 1 → Blk w1 w.heap.size (List.replicate n.toNat z) e → nx (.slice (some ⟨w.heap.size, 0, none⟩) n.toNat n.toNat) w1) :
    Runs P (Instr.makeSlice t (.int k n) (.int k n)) w nx := by
  obtain ⟨i, hi, hzz, hs, hb⟩ := zinfo_some hz
  have hr := run_make (P := P) w t e i z ht hi hzz k k n n h0 (Int.le_refl _) (by rw [hb]; exact hn) h63
  have hm : madeCells z.cells (n.toNat * i.size) = (List.replicate n.toNat z).toArray := by
    rw [hs, hzc, Nat.mul_one]
    apply Array.ext
    · simp [madeCells]
    · intro j h1 h2
      simp [madeCells, Nat.mod_one]
  rw [hm] at hr
  exact ⟨_, _, hr, h (newW w (List.replicate n.toNat z) e) (newW_ext _ _ _) (newW_size _ _ _) (newW_blk _ _ _)⟩

/-- A literal slice, its cells by evaluation. -/
theorem Runs.lit {t : TypeId} {e n : Nat} {parts : List (Nat × Value)} {cs : List Value} {nx : Value → World → Prop} {z : Value} {sz by_ : Nat} (ht : P.underlying t = some (.slice e)) (hz : zinfo P e = some (some z, sz, by_))
    (hsm : n * sz ≤ 16777216) (hf : Instr.fill (fun i => some (i * sz, sz)) ((Array.range (n * sz)).map fun j => z.cells[j % z.cells.size]!) parts = some cs.toArray) (hn : 0 < n * sz)
    (h : ∀ w1, Ext w w1 → w1.heap.size = w.heap.size + 1 → Blk w1 w.heap.size cs e → nx (.slice (some ⟨w.heap.size, 0, none⟩) n n) w1) : Runs P (Instr.buildSlice t n parts.toArray) w nx := by
  obtain ⟨i, hi, hzz, hs, hb⟩ := zinfo_some hz
  refine ⟨_, newW w cs e, ?_, h _ (newW_ext _ _ _) (newW_size _ _ _) (newW_blk _ _ _)⟩
  subst hs
  have h1 : ¬ (n * i.size > 2 ^ 24) := by omega
  have h2 : ¬ (n * i.size = 0) := by omega
  simp [Instr.buildSlice, run_underlying ht, sizeOf, zeroValue, typeInfo, hi, hzz, hf, newRow, newObj, Sem.run, newW, h1, h2]
end
end Go.Proofs.Vg
set_option linter.unusedVariables false
set_option linter.unusedSimpArgs false
namespace Go.Proofs.Vg
open Go Go.RowKit

/-! A range over a function. -/
/-- A call of yield l: the loop's body goes through one round. -/
def Yields (P : Program) (l : Nat) (args : List Value) (W : World) (R : Bool → World → Prop) : Prop :=
  ∃ fn tmps assign body, (Instr.yield l args.toArray).run P W = .ok (.round l fn tmps assign body) W ∧
    RoundIn (fence none) 0 P l fn tmps assign body W (fun e W' => ∃ b, e = .returned (.bool b) ∧ R b W')

theorem Inv.yield {P : Program} {l : Nat} {args : List Value} {W : World} {R : Bool → World → Prop} {next : Value → World → Prop} {pan : List PanicEntry → World → Prop} (h : Yields P l args W R) (hn : ∀ b W', R b W' → next (.bool b) W') :
    Inv P (.func (.yield l) #[] #[]) args W (callR next pan) := by
  obtain ⟨fn, tmps, assign, body, hy, hr⟩ := h
  refine .inr ⟨l, #[], #[], fn, tmps, assign, body, rfl, by simpa using hy, RoundIn.mono hr ?_⟩
  rintro e W' ⟨b, rfl, hb⟩
  exact hn _ _ hb

/-- Worlds alike but for the two blocks of a loop's book-keeping. -/
structure Off (n : Nat) (W W' : World) : Prop where
  os : W'.os = W.os
  tape : W'.tape = W.tape
  output : W'.output = W.output
  size : W'.heap.size = W.heap.size
  block : ∀ k, k ≠ n → k ≠ n + 1 → W'.heap[k]? = W.heap[k]?
theorem Off.put (n : Nat) (W : World) (o : Obj) : Off n W (W.putObj (n + 1) o) := ⟨rfl, rfl, rfl, by simp, fun k _ h => World.putObj_heap_other h⟩
def Keep (n : Nat) (W W' : World) : Prop := W'.heap[n]? = W.heap[n]? ∧ W'.heap[n + 1]? = W.heap[n + 1]?
theorem Keep.refl (n : Nat) (W : World) : Keep n W W := ⟨rfl, rfl⟩
theorem Keep.chg {n : Nat} {S : Nat → Prop} {W W' : World} (h : Chg S W W') (hn : n + 1 < W.heap.size) (h0 : ¬ S n) (h1 : ¬ S (n + 1)) : Keep n W W' := ⟨h.block n (by omega) h0, h.block (n + 1) hn h1⟩

def bindE : List Nat → List Value → Env → Env
  | p :: ps, v :: vs, K => bindE ps vs ((p, v) :: K)
  | _, _, K => K

section
variable {P : Program} {N : Nat} {K : Env} {ds : List Deferred} {w : World} {a : Act} {Φ : Post}

theorem Kn.bind : ∀ (ps : List Nat) (vs : List Value) (K : Env) (tmps : Array Value), (∀ p ∈ ps, p < N) → Kn K N [] { tmps := tmps, defers := [] } →
    Kn (bindE ps vs K) N [] { tmps := (ps.zip vs).foldl (fun tmps (p : Nat × Value) => tmps.setIfInBounds p.1 p.2) tmps, defers := [] }
  | [], vs, K, tmps, _, h => by cases vs <;> exact h
  | p :: ps, [], K, tmps, _, h => h
  | p :: ps, v :: vs, K, tmps, hp, h => by
    simp only [bindE, List.zip_cons_cons, List.foldl_cons]
    exact Kn.bind ps vs _ _ (fun q hq => hp q (List.mem_cons_of_mem _ hq)) (h.put (dst := some p) (v := v) (fun d hd => by cases hd; exact hp p List.mem_cons_self))

/-- The mark that an outermost loop leaves. -/
def markOf (n : Nat) : Deferred := { target := .collected n, args := #[] }

/-- A function's end, where a range over a function may have left its mark. -/
def finM (rs : List ResultVar) (R : Ending → World → Prop) : Post
  | .ret, K, ds, w => (ds = [] ∧ match retE K rs with | some v => R (.returned v) w | none => False) ∨
      (∃ r, ds = [markOf r] ∧ w.heap[r]? = some (.deferred (some [])) ∧ match retE K rs with | some v => R (.returned v) (w.putObj r (.deferred none)) | none => False)
  | _, _, _, _ => False

theorem calls_of_okM {f : FuncId} {fn : Func} {c : Code} {args : List Value} {R : Ending → World → Prop} (hf : P.funcs[f]? = some fn) (hb : fn.body = some c) (hn : fn.ntmps = args.length + (fn.ntmps - args.length))
    (h : ok P none fn.ntmps c (argEnv 0 args) [] w (finM fn.results.toList R)) : Calls P f args.toArray w R := by
  refine (callsIn_wide (n := 0)).1 (callsIn_of_wp_marks hf hb trivial (c := c) ?_)
  have hk := Kn.enter args (fn.ntmps - args.length)
  rw [← hn] at hk
  have hw := h _ hk
  refine wpIn_mono (F := fence none) hw ?_
  rintro e a' w' ⟨K, ds, hk, hp⟩
  cases e <;> simp only [finM] at hp <;> simp only [bodyPostM]
  rcases hp with ⟨rfl, hp⟩ | ⟨r, rfl, hr, hp⟩
  · split at hp
    · rename_i v hv
      rw [hk.defers]
      exact ⟨v, retE_run hk hv _, hp⟩
    · exact hp.elim
  · split at hp
    · rename_i v hv
      rw [hk.defers]
      refine ⟨by simp, .inl ⟨r, _, rfl, run_takeDeferred hr, ?_⟩⟩
      exact ⟨v, retE_run hk hv _, hp⟩
    · exact hp.elim
theorem rets_of_okM {f : FuncId} {fn : Func} {c : Code} {args : List Value} {R : Value → World → Prop} (hf : P.funcs[f]? = some fn) (hb : fn.body = some c) (hn : fn.ntmps = args.length + (fn.ntmps - args.length))
    (h : ok P none fn.ntmps c (argEnv 0 args) [] w (finM fn.results.toList (callR R fun _ _ => False))) : Rets P f args w R := calls_of_okM hf hb hn h
end
end Go.Proofs.Vg
set_option linter.unusedVariables false
set_option linter.unusedSimpArgs false
namespace Go.Proofs.Vg
open Go Go.RowKit

section
variable {P : Program} {w : World}

/-- x[lo:hi] of a slice. -/
theorem run_sliceAt {t e : TypeId} {sz by_ : Nat} {z : Option Value} (ht : P.underlying t = some (.slice e)) (hz : zinfo P e = some (z, sz, by_)) (A : Option Addr) (len cap : Nat) (lo hi : Option Nat) (kl kh : IntKind)
    (hhi : hi.getD len ≤ cap) (hlo : lo.getD 0 ≤ hi.getD len) (w : World) :
    (Instr.sliceAt t (.slice A len cap) (lo.map fun (x : Nat) => .int kl (x : Int)) (hi.map fun (x : Nat) => .int kh (x : Int)) none).run P w =
      .ok (.slice (if cap = lo.getD 0 then A else A.map (·.add (lo.getD 0 * sz))) (hi.getD len - lo.getD 0) (cap - lo.getD 0)) w := by
  obtain ⟨i, hi', _, hs, _⟩ := zinfo_some hz
  subst hs
  cases lo with
  | none =>
    cases hi with
    | none => simp [Instr.sliceAt, run_underlying ht, Instr.slice, Instr.sliceBounds, sizeOf, typeInfo, hi']
    | some h =>
      simp only [Option.getD_some] at hhi hlo
      have h1 : (0 : Int) ≤ (h : Int) ∧ (h : Int) ≤ (cap : Int) := by omega
      simp [Instr.sliceAt, run_underlying ht, Instr.slice, Instr.sliceBounds, Instr.sliceBound, asIntOf, sizeOf, typeInfo, hi', h1, hhi]
  | some l =>
    cases hi with
    | none =>
      simp only [Option.getD_some, Option.getD_none] at hhi hlo
      simp [Instr.sliceAt, run_underlying ht, Instr.slice, Instr.sliceBounds, Instr.sliceBound, asIntOf, sizeOf, typeInfo, hi', hlo]
    | some h =>
      simp only [Option.getD_some] at hhi hlo
      simp [Instr.sliceAt, run_underlying ht, Instr.slice, Instr.sliceBounds, Instr.sliceBound, asIntOf, sizeOf, typeInfo, hi', hlo, hhi]

/-- What is behind a slice's first elements. -/
theorem Sli.drop {sz : Nat} {A : Option Addr} {n c lo : Nat} {rows : List (List Value)} (h : Sli w sz (.slice A n c) rows) (hlo : lo ≤ n) (hc : n ≤ c) :
    Sli w sz (.slice (if c = lo then A else A.map (·.add (lo * sz))) (n - lo) (c - lo)) (rows.drop lo) := by
  obtain ⟨A', c', hv, hl, hr⟩ := h
  cases hv
  refine ⟨_, _, by rw [List.length_drop], by rw [List.length_drop]; omega, fun j row hj => ?_⟩
  rw [List.getElem?_drop] at hj
  obtain ⟨b, o, hA, hcc⟩ := hr (lo + j) row hj
  have hlt : lo + j < rows.length := (List.getElem?_eq_some_iff.1 hj).1
  rw [if_neg (by omega), hA]
  refine ⟨b, o + lo * sz, by simp [add_at], ?_⟩
  have : o + lo * sz + j * sz = o + (lo + j) * sz := by rw [Nat.add_mul]; omega
  rw [this]
  exact hcc

/-- What is owned can be read. -/
theorem Sli.of_own {base e sz n : Nat} {v : Value} {xs : List Value} {rows : List (List Value)} (h : w.ownsRow base e sz v n xs) (hx : xs = rows.flatten) (hr : ∀ r ∈ rows, r.length = sz) (hn : rows.length = n) (hb : n ≤ 140737488355328) : Sli w sz v rows := by
  subst hn
  have key : ∀ (j : Nat) (row : List Value), rows[j]? = some row → ∀ k u, row[k]? = some u → xs[j * sz + k]? = some u := by
    subst hx
    clear h hb
    intro j row hj k u hk
    have hrow : row.length = sz := hr row (List.mem_of_getElem? hj)
    have hk' : k < sz := by rw [← hrow]; exact (List.getElem?_eq_some_iff.1 hk).1
    induction rows generalizing j with
    | nil => simp at hj
    | cons r rs ih =>
      have hr0 : r.length = sz := hr r List.mem_cons_self
      cases j with
      | zero =>
        simp at hj; subst hj
        rw [List.flatten_cons, List.getElem?_append_left (by omega)]
        simpa using hk
      | succ j =>
        rw [List.flatten_cons, List.getElem?_append_right (by rw [hr0, Nat.add_mul]; omega), hr0]
        have := ih (fun x hx => hr x (List.mem_cons_of_mem _ hx)) j (by simpa using hj)
        rw [← this]
        congr 1
        rw [Nat.add_mul]; omega
  rcases h.2 with ⟨rfl, h0⟩ | ⟨g, cap, cur, rfl, hb', hg, h1, h2, h3, h4⟩
  · refine ⟨none, 0, by rw [h0], hb, fun j row hj => ?_⟩
    have : j < rows.length := (List.getElem?_eq_some_iff.1 hj).1
    omega
  · refine ⟨_, _, rfl, hb, fun j row hj => ⟨g, 0, rfl, fun k u hk => ?_⟩⟩
    have hx' := key j row hj k u hk
    have hc := h.cells (g := g) rfl (j * sz + k) u hx'
    rw [add_at] at hc ⊢
    simpa using hc
end
end Go.Proofs.Vg
set_option linter.unusedVariables false
set_option linter.unusedSimpArgs false
namespace Go.Proofs.Vg
open Go Go.RowKit

section
variable {P : Program} {w : World}

end
end Go.Proofs.Vg
/- Closed facts of the loaded program: sizes of types, places of fields, which functions have bodies. -/
set_option linter.unusedVariables false
namespace Go.Proofs.YtldeokfhipjbfaaGreatDoor
open Go Go.Proofs.Vg
namespace Fx
theorem ag2 : aggN Tryz.prog 2 = some none := by kernel_rfl
theorem ag3 : aggN Tryz.prog 3 = some none := by kernel_rfl
theorem ag4 : aggN Tryz.prog 4 = some none := by kernel_rfl
theorem ag9 : aggN Tryz.prog 9 = some none := by kernel_rfl
theorem ag25 : aggN Tryz.prog 25 = some none := by kernel_rfl
theorem ag29 : aggN Tryz.prog 29 = some none := by kernel_rfl
theorem ag30 : aggN Tryz.prog 30 = some none := by kernel_rfl
theorem ag32 : aggN Tryz.prog 32 = some (some 2) := by kernel_rfl
theorem ag33 : aggN Tryz.prog 33 = some none := by kernel_rfl
theorem ag34 : aggN Tryz.prog 34 = some none := by kernel_rfl
theorem ag36 : aggN Tryz.prog 36 = some (some 4) := by kernel_rfl
theorem ag38 : aggN Tryz.prog 38 = some (some 3) := by kernel_rfl
theorem ag40 : aggN Tryz.prog 40 = some (some 11) := by kernel_rfl
theorem ag65 : aggN Tryz.prog 65 = some none := by kernel_rfl
theorem ag67 : aggN Tryz.prog 67 = some none := by kernel_rfl
theorem ag68 : aggN Tryz.prog 68 = some none := by kernel_rfl
theorem ag72 : aggN Tryz.prog 72 = some none := by kernel_rfl
theorem ag75 : aggN Tryz.prog 75 = some (some 3) := by kernel_rfl
theorem ag103 : aggN Tryz.prog 103 = some none := by kernel_rfl
theorem ag117 : aggN Tryz.prog 117 = some none := by kernel_rfl
theorem ag120 : aggN Tryz.prog 120 = some (some 4) := by kernel_rfl
theorem ag134 : aggN Tryz.prog 134 = some none := by kernel_rfl
theorem ag137 : aggN Tryz.prog 137 = some none := by kernel_rfl
theorem fo32_0 : fieldOff Tryz.prog 32 0 = some 0 := by kernel_rfl
theorem fo32_1 : fieldOff Tryz.prog 32 1 = some 1 := by kernel_rfl
theorem fo36_0 : fieldOff Tryz.prog 36 0 = some 0 := by kernel_rfl
theorem fo36_1 : fieldOff Tryz.prog 36 1 = some 1 := by kernel_rfl
theorem fo36_2 : fieldOff Tryz.prog 36 2 = some 2 := by kernel_rfl
theorem fo36_3 : fieldOff Tryz.prog 36 3 = some 3 := by kernel_rfl
theorem fo38_0 : fieldOff Tryz.prog 38 0 = some 0 := by kernel_rfl
theorem fo38_1 : fieldOff Tryz.prog 38 1 = some 1 := by kernel_rfl
theorem fo38_2 : fieldOff Tryz.prog 38 2 = some 2 := by kernel_rfl
theorem fo40_0 : fieldOff Tryz.prog 40 0 = some 0 := by kernel_rfl
theorem fo40_1 : fieldOff Tryz.prog 40 1 = some 1 := by kernel_rfl
theorem fo40_2 : fieldOff Tryz.prog 40 2 = some 2 := by kernel_rfl
theorem fo40_3 : fieldOff Tryz.prog 40 3 = some 3 := by kernel_rfl
theorem fo40_4 : fieldOff Tryz.prog 40 4 = some 4 := by kernel_rfl
theorem fo40_5 : fieldOff Tryz.prog 40 5 = some 8 := by kernel_rfl
theorem fo70_0 : fieldOff Tryz.prog 70 0 = some 0 := by kernel_rfl
theorem fo70_1 : fieldOff Tryz.prog 70 1 = some 1 := by kernel_rfl
theorem fo74_0 : fieldOff Tryz.prog 74 0 = some 0 := by kernel_rfl
theorem fo75_0 : fieldOff Tryz.prog 75 0 = some 0 := by kernel_rfl
theorem fo75_1 : fieldOff Tryz.prog 75 1 = some 1 := by kernel_rfl
theorem fo75_2 : fieldOff Tryz.prog 75 2 = some 2 := by kernel_rfl
theorem fo106_0 : fieldOff Tryz.prog 106 0 = some 0 := by kernel_rfl
theorem fo108_0 : fieldOff Tryz.prog 108 0 = some 0 := by kernel_rfl
theorem fo108_1 : fieldOff Tryz.prog 108 1 = some 1 := by kernel_rfl
theorem fo108_2 : fieldOff Tryz.prog 108 2 = some 2 := by kernel_rfl
theorem fo108_3 : fieldOff Tryz.prog 108 3 = some 3 := by kernel_rfl
theorem fo120_0 : fieldOff Tryz.prog 120 0 = some 0 := by kernel_rfl
theorem fo120_1 : fieldOff Tryz.prog 120 1 = some 1 := by kernel_rfl
theorem fo120_2 : fieldOff Tryz.prog 120 2 = some 2 := by kernel_rfl
theorem fo120_3 : fieldOff Tryz.prog 120 3 = some 3 := by kernel_rfl
theorem es22 : elemSize Tryz.prog 22 = some 11 := by kernel_rfl
theorem es29 : elemSize Tryz.prog 29 = some 3 := by kernel_rfl
theorem es30 : elemSize Tryz.prog 30 = some 3 := by kernel_rfl
theorem es33 : elemSize Tryz.prog 33 = some 1 := by kernel_rfl
theorem es34 : elemSize Tryz.prog 34 = some 4 := by kernel_rfl
theorem es67 : elemSize Tryz.prog 67 = some 1 := by kernel_rfl
theorem es72 : elemSize Tryz.prog 72 = some 4 := by kernel_rfl
theorem es134 : elemSize Tryz.prog 134 = some 1 := by kernel_rfl
theorem es142 : elemSize Tryz.prog 142 = some 2 := by kernel_rfl
theorem ar132 : arrInfo Tryz.prog 132 = some (10, 1) := by kernel_rfl
theorem ar144 : arrInfo Tryz.prog 144 = some (2, 1) := by kernel_rfl
theorem isl22 : isSlice Tryz.prog 22 = true := by kernel_rfl
theorem isl29 : isSlice Tryz.prog 29 = true := by kernel_rfl
theorem isl30 : isSlice Tryz.prog 30 = true := by kernel_rfl
theorem isl33 : isSlice Tryz.prog 33 = true := by kernel_rfl
theorem isl34 : isSlice Tryz.prog 34 = true := by kernel_rfl
theorem isl67 : isSlice Tryz.prog 67 = true := by kernel_rfl
theorem isl72 : isSlice Tryz.prog 72 = true := by kernel_rfl
theorem isl142 : isSlice Tryz.prog 142 = true := by kernel_rfl
theorem ist9 : isString Tryz.prog 9 = true := by kernel_rfl
theorem un2 : Tryz.prog.underlying 2 = some (.int .i64) := by kernel_rfl
theorem un3 : Tryz.prog.underlying 3 = some (.int .i64) := by kernel_rfl
theorem un4 : Tryz.prog.underlying 4 = some (.bool) := by kernel_rfl
theorem un9 : Tryz.prog.underlying 9 = some (.string) := by kernel_rfl
theorem un22 : Tryz.prog.underlying 22 = some (.slice 40) := by kernel_rfl
theorem un25 : Tryz.prog.underlying 25 = some (.pointer 70) := by kernel_rfl
theorem un27 : Tryz.prog.underlying 27 = some (.pointer 74) := by kernel_rfl
theorem un29 : Tryz.prog.underlying 29 = some (.slice 38) := by kernel_rfl
theorem un30 : Tryz.prog.underlying 30 = some (.slice 75) := by kernel_rfl
theorem un33 : Tryz.prog.underlying 33 = some (.slice 3) := by kernel_rfl
theorem un34 : Tryz.prog.underlying 34 = some (.slice 36) := by kernel_rfl
theorem un67 : Tryz.prog.underlying 67 = some (.slice 103) := by kernel_rfl
theorem un68 : Tryz.prog.underlying 68 = some (.map 3 45) := by kernel_rfl
theorem un72 : Tryz.prog.underlying 72 = some (.slice 120) := by kernel_rfl
theorem un103 : Tryz.prog.underlying 103 = some (.pointer 108) := by kernel_rfl
theorem un134 : Tryz.prog.underlying 134 = some (.slice 4) := by kernel_rfl
theorem un137 : Tryz.prog.underlying 137 = some (.map 3 3) := by kernel_rfl
theorem un142 : Tryz.prog.underlying 142 = some (.slice 144) := by kernel_rfl
theorem zi3 : zinfo Tryz.prog 3 = some (some (.int .i64 0), 1, 8) := by kernel_rfl
theorem zi4 : zinfo Tryz.prog 4 = some (some (.bool false), 1, 1) := by kernel_rfl
theorem zi29 : zinfo Tryz.prog 29 = some (some (.slice none 0 0), 1, 24) := by kernel_rfl
theorem zi32 : zinfo Tryz.prog 32 = some (some (.agg #[.slice none 0 0, .slice none 0 0]), 2, 48) := by kernel_rfl
theorem zi33 : zinfo Tryz.prog 33 = some (some (.slice none 0 0), 1, 24) := by kernel_rfl
theorem zi36 : zinfo Tryz.prog 36 = some (some (.agg #[.int .i64 0, .int .i64 0, .string ByteArray.empty, .slice none 0 0]), 4, 56) := by kernel_rfl
theorem zi38 : zinfo Tryz.prog 38 = some (some (.agg #[.int .i64 0, .int .i64 0, .int .i64 0]), 3, 24) := by kernel_rfl
theorem zi40 : zinfo Tryz.prog 40 = some (some (.agg #[.int .i64 0, .int .i64 0, .int .i64 0, .slice none 0 0, .int .i64 0, .int .i64 0, .string ByteArray.empty, .slice none 0 0, .int .i64 0, .int .i64 0, .int .i64 0]), 11, 128) := by kernel_rfl
theorem zi67 : zinfo Tryz.prog 67 = some (some (.slice none 0 0), 1, 24) := by kernel_rfl
theorem zi75 : zinfo Tryz.prog 75 = some (some (.agg #[.int .i64 0, .int .i64 0, .int .i64 0]), 3, 24) := by kernel_rfl
theorem zi103 : zinfo Tryz.prog 103 = some (some (.pointer none), 1, 8) := by kernel_rfl
theorem zi120 : zinfo Tryz.prog 120 = some (some (.agg #[.bool false, .bool false, .string ByteArray.empty, .slice none 0 0]), 4, 48) := by kernel_rfl
theorem zi134 : zinfo Tryz.prog 134 = some (some (.slice none 0 0), 1, 24) := by kernel_rfl
theorem zi144 : zinfo Tryz.prog 144 = some (some (.agg #[.int .i64 0, .int .i64 0]), 2, 16) := by kernel_rfl
theorem en5 : ∀ (xs : Array Value) (w : World), (callFunc 5 xs).run Tryz.prog w = .ok (.enter 5 xs) w := fun _ _ => by kernel_rfl
theorem en6 : ∀ (xs : Array Value) (w : World), (callFunc 6 xs).run Tryz.prog w = .ok (.enter 6 xs) w := fun _ _ => by kernel_rfl
theorem en7 : ∀ (xs : Array Value) (w : World), (callFunc 7 xs).run Tryz.prog w = .ok (.enter 7 xs) w := fun _ _ => by kernel_rfl
theorem en8 : ∀ (xs : Array Value) (w : World), (callFunc 8 xs).run Tryz.prog w = .ok (.enter 8 xs) w := fun _ _ => by kernel_rfl
theorem en9 : ∀ (xs : Array Value) (w : World), (callFunc 9 xs).run Tryz.prog w = .ok (.enter 9 xs) w := fun _ _ => by kernel_rfl
theorem en10 : ∀ (xs : Array Value) (w : World), (callFunc 10 xs).run Tryz.prog w = .ok (.enter 10 xs) w := fun _ _ => by kernel_rfl
theorem en11 : ∀ (xs : Array Value) (w : World), (callFunc 11 xs).run Tryz.prog w = .ok (.enter 11 xs) w := fun _ _ => by kernel_rfl
theorem en12 : ∀ (xs : Array Value) (w : World), (callFunc 12 xs).run Tryz.prog w = .ok (.enter 12 xs) w := fun _ _ => by kernel_rfl
theorem en13 : ∀ (xs : Array Value) (w : World), (callFunc 13 xs).run Tryz.prog w = .ok (.enter 13 xs) w := fun _ _ => by kernel_rfl
theorem en14 : ∀ (xs : Array Value) (w : World), (callFunc 14 xs).run Tryz.prog w = .ok (.enter 14 xs) w := fun _ _ => by kernel_rfl
theorem en15 : ∀ (xs : Array Value) (w : World), (callFunc 15 xs).run Tryz.prog w = .ok (.enter 15 xs) w := fun _ _ => by kernel_rfl
theorem en16 : ∀ (xs : Array Value) (w : World), (callFunc 16 xs).run Tryz.prog w = .ok (.enter 16 xs) w := fun _ _ => by kernel_rfl
theorem en17 : ∀ (xs : Array Value) (w : World), (callFunc 17 xs).run Tryz.prog w = .ok (.enter 17 xs) w := fun _ _ => by kernel_rfl
theorem en19 : ∀ (xs : Array Value) (w : World), (callFunc 19 xs).run Tryz.prog w = .ok (.enter 19 xs) w := fun _ _ => by kernel_rfl
theorem en20 : ∀ (xs : Array Value) (w : World), (callFunc 20 xs).run Tryz.prog w = .ok (.enter 20 xs) w := fun _ _ => by kernel_rfl
theorem en21 : ∀ (xs : Array Value) (w : World), (callFunc 21 xs).run Tryz.prog w = .ok (.enter 21 xs) w := fun _ _ => by kernel_rfl
theorem en22 : ∀ (xs : Array Value) (w : World), (callFunc 22 xs).run Tryz.prog w = .ok (.enter 22 xs) w := fun _ _ => by kernel_rfl
theorem en23 : ∀ (xs : Array Value) (w : World), (callFunc 23 xs).run Tryz.prog w = .ok (.enter 23 xs) w := fun _ _ => by kernel_rfl
theorem en24 : ∀ (xs : Array Value) (w : World), (callFunc 24 xs).run Tryz.prog w = .ok (.enter 24 xs) w := fun _ _ => by kernel_rfl
theorem en25 : ∀ (xs : Array Value) (w : World), (callFunc 25 xs).run Tryz.prog w = .ok (.enter 25 xs) w := fun _ _ => by kernel_rfl
theorem en26 : ∀ (xs : Array Value) (w : World), (callFunc 26 xs).run Tryz.prog w = .ok (.enter 26 xs) w := fun _ _ => by kernel_rfl
theorem en27 : ∀ (xs : Array Value) (w : World), (callFunc 27 xs).run Tryz.prog w = .ok (.enter 27 xs) w := fun _ _ => by kernel_rfl
theorem en28 : ∀ (xs : Array Value) (w : World), (callFunc 28 xs).run Tryz.prog w = .ok (.enter 28 xs) w := fun _ _ => by kernel_rfl
theorem en29 : ∀ (xs : Array Value) (w : World), (callFunc 29 xs).run Tryz.prog w = .ok (.enter 29 xs) w := fun _ _ => by kernel_rfl
theorem en30 : ∀ (xs : Array Value) (w : World), (callFunc 30 xs).run Tryz.prog w = .ok (.enter 30 xs) w := fun _ _ => by kernel_rfl
theorem en31 : ∀ (xs : Array Value) (w : World), (callFunc 31 xs).run Tryz.prog w = .ok (.enter 31 xs) w := fun _ _ => by kernel_rfl
theorem en32 : ∀ (xs : Array Value) (w : World), (callFunc 32 xs).run Tryz.prog w = .ok (.enter 32 xs) w := fun _ _ => by kernel_rfl
theorem en33 : ∀ (xs : Array Value) (w : World), (callFunc 33 xs).run Tryz.prog w = .ok (.enter 33 xs) w := fun _ _ => by kernel_rfl
theorem en34 : ∀ (xs : Array Value) (w : World), (callFunc 34 xs).run Tryz.prog w = .ok (.enter 34 xs) w := fun _ _ => by kernel_rfl
theorem en35 : ∀ (xs : Array Value) (w : World), (callFunc 35 xs).run Tryz.prog w = .ok (.enter 35 xs) w := fun _ _ => by kernel_rfl
theorem en36 : ∀ (xs : Array Value) (w : World), (callFunc 36 xs).run Tryz.prog w = .ok (.enter 36 xs) w := fun _ _ => by kernel_rfl
theorem en37 : ∀ (xs : Array Value) (w : World), (callFunc 37 xs).run Tryz.prog w = .ok (.enter 37 xs) w := fun _ _ => by kernel_rfl
theorem en38 : ∀ (xs : Array Value) (w : World), (callFunc 38 xs).run Tryz.prog w = .ok (.enter 38 xs) w := fun _ _ => by kernel_rfl
theorem en39 : ∀ (xs : Array Value) (w : World), (callFunc 39 xs).run Tryz.prog w = .ok (.enter 39 xs) w := fun _ _ => by kernel_rfl
theorem en40 : ∀ (xs : Array Value) (w : World), (callFunc 40 xs).run Tryz.prog w = .ok (.enter 40 xs) w := fun _ _ => by kernel_rfl
theorem en41 : ∀ (xs : Array Value) (w : World), (callFunc 41 xs).run Tryz.prog w = .ok (.enter 41 xs) w := fun _ _ => by kernel_rfl
theorem en42 : ∀ (xs : Array Value) (w : World), (callFunc 42 xs).run Tryz.prog w = .ok (.enter 42 xs) w := fun _ _ => by kernel_rfl
theorem en43 : ∀ (xs : Array Value) (w : World), (callFunc 43 xs).run Tryz.prog w = .ok (.enter 43 xs) w := fun _ _ => by kernel_rfl
theorem en44 : ∀ (xs : Array Value) (w : World), (callFunc 44 xs).run Tryz.prog w = .ok (.enter 44 xs) w := fun _ _ => by kernel_rfl
theorem en45 : ∀ (xs : Array Value) (w : World), (callFunc 45 xs).run Tryz.prog w = .ok (.enter 45 xs) w := fun _ _ => by kernel_rfl
theorem en46 : ∀ (xs : Array Value) (w : World), (callFunc 46 xs).run Tryz.prog w = .ok (.enter 46 xs) w := fun _ _ => by kernel_rfl
theorem en47 : ∀ (xs : Array Value) (w : World), (callFunc 47 xs).run Tryz.prog w = .ok (.enter 47 xs) w := fun _ _ => by kernel_rfl
theorem en48 : ∀ (xs : Array Value) (w : World), (callFunc 48 xs).run Tryz.prog w = .ok (.enter 48 xs) w := fun _ _ => by kernel_rfl
theorem en49 : ∀ (xs : Array Value) (w : World), (callFunc 49 xs).run Tryz.prog w = .ok (.enter 49 xs) w := fun _ _ => by kernel_rfl
theorem en50 : ∀ (xs : Array Value) (w : World), (callFunc 50 xs).run Tryz.prog w = .ok (.enter 50 xs) w := fun _ _ => by kernel_rfl
theorem en51 : ∀ (xs : Array Value) (w : World), (callFunc 51 xs).run Tryz.prog w = .ok (.enter 51 xs) w := fun _ _ => by kernel_rfl
theorem en52 : ∀ (xs : Array Value) (w : World), (callFunc 52 xs).run Tryz.prog w = .ok (.enter 52 xs) w := fun _ _ => by kernel_rfl
theorem en53 : ∀ (xs : Array Value) (w : World), (callFunc 53 xs).run Tryz.prog w = .ok (.enter 53 xs) w := fun _ _ => by kernel_rfl
theorem en54 : ∀ (xs : Array Value) (w : World), (callFunc 54 xs).run Tryz.prog w = .ok (.enter 54 xs) w := fun _ _ => by kernel_rfl
theorem en55 : ∀ (xs : Array Value) (w : World), (callFunc 55 xs).run Tryz.prog w = .ok (.enter 55 xs) w := fun _ _ => by kernel_rfl
theorem en56 : ∀ (xs : Array Value) (w : World), (callFunc 56 xs).run Tryz.prog w = .ok (.enter 56 xs) w := fun _ _ => by kernel_rfl
theorem en57 : ∀ (xs : Array Value) (w : World), (callFunc 57 xs).run Tryz.prog w = .ok (.enter 57 xs) w := fun _ _ => by kernel_rfl
theorem en58 : ∀ (xs : Array Value) (w : World), (callFunc 58 xs).run Tryz.prog w = .ok (.enter 58 xs) w := fun _ _ => by kernel_rfl
theorem en59 : ∀ (xs : Array Value) (w : World), (callFunc 59 xs).run Tryz.prog w = .ok (.enter 59 xs) w := fun _ _ => by kernel_rfl
theorem en60 : ∀ (xs : Array Value) (w : World), (callFunc 60 xs).run Tryz.prog w = .ok (.enter 60 xs) w := fun _ _ => by kernel_rfl
theorem en61 : ∀ (xs : Array Value) (w : World), (callFunc 61 xs).run Tryz.prog w = .ok (.enter 61 xs) w := fun _ _ => by kernel_rfl
theorem en62 : ∀ (xs : Array Value) (w : World), (callFunc 62 xs).run Tryz.prog w = .ok (.enter 62 xs) w := fun _ _ => by kernel_rfl
theorem en63 : ∀ (xs : Array Value) (w : World), (callFunc 63 xs).run Tryz.prog w = .ok (.enter 63 xs) w := fun _ _ => by kernel_rfl
theorem en64 : ∀ (xs : Array Value) (w : World), (callFunc 64 xs).run Tryz.prog w = .ok (.enter 64 xs) w := fun _ _ => by kernel_rfl
theorem en65 : ∀ (xs : Array Value) (w : World), (callFunc 65 xs).run Tryz.prog w = .ok (.enter 65 xs) w := fun _ _ => by kernel_rfl
theorem en66 : ∀ (xs : Array Value) (w : World), (callFunc 66 xs).run Tryz.prog w = .ok (.enter 66 xs) w := fun _ _ => by kernel_rfl
theorem en67 : ∀ (xs : Array Value) (w : World), (callFunc 67 xs).run Tryz.prog w = .ok (.enter 67 xs) w := fun _ _ => by kernel_rfl
theorem en68 : ∀ (xs : Array Value) (w : World), (callFunc 68 xs).run Tryz.prog w = .ok (.enter 68 xs) w := fun _ _ => by kernel_rfl
theorem en69 : ∀ (xs : Array Value) (w : World), (callFunc 69 xs).run Tryz.prog w = .ok (.enter 69 xs) w := fun _ _ => by kernel_rfl
theorem en70 : ∀ (xs : Array Value) (w : World), (callFunc 70 xs).run Tryz.prog w = .ok (.enter 70 xs) w := fun _ _ => by kernel_rfl
theorem en71 : ∀ (xs : Array Value) (w : World), (callFunc 71 xs).run Tryz.prog w = .ok (.enter 71 xs) w := fun _ _ => by kernel_rfl
theorem en72 : ∀ (xs : Array Value) (w : World), (callFunc 72 xs).run Tryz.prog w = .ok (.enter 72 xs) w := fun _ _ => by kernel_rfl
theorem en73 : ∀ (xs : Array Value) (w : World), (callFunc 73 xs).run Tryz.prog w = .ok (.enter 73 xs) w := fun _ _ => by kernel_rfl
theorem en74 : ∀ (xs : Array Value) (w : World), (callFunc 74 xs).run Tryz.prog w = .ok (.enter 74 xs) w := fun _ _ => by kernel_rfl
theorem en75 : ∀ (xs : Array Value) (w : World), (callFunc 75 xs).run Tryz.prog w = .ok (.enter 75 xs) w := fun _ _ => by kernel_rfl
theorem en76 : ∀ (xs : Array Value) (w : World), (callFunc 76 xs).run Tryz.prog w = .ok (.enter 76 xs) w := fun _ _ => by kernel_rfl
theorem en77 : ∀ (xs : Array Value) (w : World), (callFunc 77 xs).run Tryz.prog w = .ok (.enter 77 xs) w := fun _ _ => by kernel_rfl
theorem en78 : ∀ (xs : Array Value) (w : World), (callFunc 78 xs).run Tryz.prog w = .ok (.enter 78 xs) w := fun _ _ => by kernel_rfl
theorem en79 : ∀ (xs : Array Value) (w : World), (callFunc 79 xs).run Tryz.prog w = .ok (.enter 79 xs) w := fun _ _ => by kernel_rfl
theorem en80 : ∀ (xs : Array Value) (w : World), (callFunc 80 xs).run Tryz.prog w = .ok (.enter 80 xs) w := fun _ _ => by kernel_rfl
theorem en81 : ∀ (xs : Array Value) (w : World), (callFunc 81 xs).run Tryz.prog w = .ok (.enter 81 xs) w := fun _ _ => by kernel_rfl
theorem en82 : ∀ (xs : Array Value) (w : World), (callFunc 82 xs).run Tryz.prog w = .ok (.enter 82 xs) w := fun _ _ => by kernel_rfl
theorem en83 : ∀ (xs : Array Value) (w : World), (callFunc 83 xs).run Tryz.prog w = .ok (.enter 83 xs) w := fun _ _ => by kernel_rfl
theorem en84 : ∀ (xs : Array Value) (w : World), (callFunc 84 xs).run Tryz.prog w = .ok (.enter 84 xs) w := fun _ _ => by kernel_rfl
theorem en85 : ∀ (xs : Array Value) (w : World), (callFunc 85 xs).run Tryz.prog w = .ok (.enter 85 xs) w := fun _ _ => by kernel_rfl
theorem en86 : ∀ (xs : Array Value) (w : World), (callFunc 86 xs).run Tryz.prog w = .ok (.enter 86 xs) w := fun _ _ => by kernel_rfl
theorem en87 : ∀ (xs : Array Value) (w : World), (callFunc 87 xs).run Tryz.prog w = .ok (.enter 87 xs) w := fun _ _ => by kernel_rfl
theorem en88 : ∀ (xs : Array Value) (w : World), (callFunc 88 xs).run Tryz.prog w = .ok (.enter 88 xs) w := fun _ _ => by kernel_rfl
theorem en89 : ∀ (xs : Array Value) (w : World), (callFunc 89 xs).run Tryz.prog w = .ok (.enter 89 xs) w := fun _ _ => by kernel_rfl
theorem en90 : ∀ (xs : Array Value) (w : World), (callFunc 90 xs).run Tryz.prog w = .ok (.enter 90 xs) w := fun _ _ => by kernel_rfl
theorem en91 : ∀ (xs : Array Value) (w : World), (callFunc 91 xs).run Tryz.prog w = .ok (.enter 91 xs) w := fun _ _ => by kernel_rfl
theorem en92 : ∀ (xs : Array Value) (w : World), (callFunc 92 xs).run Tryz.prog w = .ok (.enter 92 xs) w := fun _ _ => by kernel_rfl
theorem en93 : ∀ (xs : Array Value) (w : World), (callFunc 93 xs).run Tryz.prog w = .ok (.enter 93 xs) w := fun _ _ => by kernel_rfl
theorem en94 : ∀ (xs : Array Value) (w : World), (callFunc 94 xs).run Tryz.prog w = .ok (.enter 94 xs) w := fun _ _ => by kernel_rfl
theorem en95 : ∀ (xs : Array Value) (w : World), (callFunc 95 xs).run Tryz.prog w = .ok (.enter 95 xs) w := fun _ _ => by kernel_rfl
theorem en96 : ∀ (xs : Array Value) (w : World), (callFunc 96 xs).run Tryz.prog w = .ok (.enter 96 xs) w := fun _ _ => by kernel_rfl
theorem en97 : ∀ (xs : Array Value) (w : World), (callFunc 97 xs).run Tryz.prog w = .ok (.enter 97 xs) w := fun _ _ => by kernel_rfl
theorem en98 : ∀ (xs : Array Value) (w : World), (callFunc 98 xs).run Tryz.prog w = .ok (.enter 98 xs) w := fun _ _ => by kernel_rfl
theorem en99 : ∀ (xs : Array Value) (w : World), (callFunc 99 xs).run Tryz.prog w = .ok (.enter 99 xs) w := fun _ _ => by kernel_rfl
theorem en100 : ∀ (xs : Array Value) (w : World), (callFunc 100 xs).run Tryz.prog w = .ok (.enter 100 xs) w := fun _ _ => by kernel_rfl
theorem en101 : ∀ (xs : Array Value) (w : World), (callFunc 101 xs).run Tryz.prog w = .ok (.enter 101 xs) w := fun _ _ => by kernel_rfl
theorem en102 : ∀ (xs : Array Value) (w : World), (callFunc 102 xs).run Tryz.prog w = .ok (.enter 102 xs) w := fun _ _ => by kernel_rfl
theorem en103 : ∀ (xs : Array Value) (w : World), (callFunc 103 xs).run Tryz.prog w = .ok (.enter 103 xs) w := fun _ _ => by kernel_rfl
theorem en104 : ∀ (xs : Array Value) (w : World), (callFunc 104 xs).run Tryz.prog w = .ok (.enter 104 xs) w := fun _ _ => by kernel_rfl
theorem en105 : ∀ (xs : Array Value) (w : World), (callFunc 105 xs).run Tryz.prog w = .ok (.enter 105 xs) w := fun _ _ => by kernel_rfl
theorem en106 : ∀ (xs : Array Value) (w : World), (callFunc 106 xs).run Tryz.prog w = .ok (.enter 106 xs) w := fun _ _ => by kernel_rfl
theorem en107 : ∀ (xs : Array Value) (w : World), (callFunc 107 xs).run Tryz.prog w = .ok (.enter 107 xs) w := fun _ _ => by kernel_rfl
theorem en108 : ∀ (xs : Array Value) (w : World), (callFunc 108 xs).run Tryz.prog w = .ok (.enter 108 xs) w := fun _ _ => by kernel_rfl
theorem en109 : ∀ (xs : Array Value) (w : World), (callFunc 109 xs).run Tryz.prog w = .ok (.enter 109 xs) w := fun _ _ => by kernel_rfl
theorem en110 : ∀ (xs : Array Value) (w : World), (callFunc 110 xs).run Tryz.prog w = .ok (.enter 110 xs) w := fun _ _ => by kernel_rfl
theorem en111 : ∀ (xs : Array Value) (w : World), (callFunc 111 xs).run Tryz.prog w = .ok (.enter 111 xs) w := fun _ _ => by kernel_rfl
theorem en112 : ∀ (xs : Array Value) (w : World), (callFunc 112 xs).run Tryz.prog w = .ok (.enter 112 xs) w := fun _ _ => by kernel_rfl
theorem mixed : Tryz.prog.follows .mixedOrders = true := by kernel_rfl
end Fx
end Go.Proofs.YtldeokfhipjbfaaGreatDoor
set_option linter.unusedVariables false
set_option linter.unusedSimpArgs false
namespace Go.Proofs.Vg
open Go Go.RowKit
section
variable {P : Program} {ρ : Option Nat} {N : Nat} {K : Env} {ds : List Deferred} {w : World} {Φ : Post}
/-- One behind the other, with what is known between them. -/
theorem ok_join {c d : Code} (K1 : Env) (F : World → Prop) (h : ok P ρ N c K ds w (thenN (fun K' ds' w' => ds' = ds ∧ sub K1 K' ∧ F w') Φ)) (h2 : ∀ w', F w' → ok P ρ N d K1 ds w' Φ) : ok P ρ N (.seq c d) K ds w Φ :=
  ok_seq (fun M hM => ok_mono h fun e K' ds' w' he => by
    cases e <;> simp only [thenN] at he ⊢ <;> first | exact he | skip
    obtain ⟨rfl, hs, hf⟩ := he
    exact hM _ _ _ (ok_less K1 hs (h2 _ hf)))

variable {ops : List Oper} {pan : List PanicEntry → Env → World → Prop} {M : Env → World → Prop} {H : Env → Prop} {C : World → Prop}
/-! One operation at a time: what comes behind it is a name. -/
theorem ofX2 {X Y : Value → Env → Prop} (h : X = Y) {v : Value} {K : Env} (hy : Y v K) : X v K := h ▸ hy
theorem ofX3 {X Y : Value → Env → World → Prop} (h : X = Y) {v : Value} {K : Env} {w : World} (hy : Y v K w) : X v K w := h ▸ hy
theorem wpL_step {o : Oper} {rest : List Oper} (h : ∀ X : Value → Env → World → Prop, X = (fun v K' w' => wpL P ops pan M rest (putE o.dst v K') w') →
    match o.guard with
    | none => opF P K w (fun v w' => X v K w') (fun ch w' => pan ch K w') o.type o.op
    | some (j, want) => match gdst ops j with
      | some d => (match K.get d with
        | some (.bool b) => (b = want → opF P (K.set d (.bool want)) w (fun v w' => X v (K.set d (.bool want)) w') (fun ch w' => pan ch (K.set d (.bool want)) w') o.type o.op) ∧
            (b = !want → X undef (K.set d (.bool !want)) w)
        | some (.tuple _) => X undef K w
        | _ => False)
      | none => False) : wpL P ops pan M (o :: rest) K w := h _ rfl
theorem wpL_end (h : M K w) : wpL P ops pan M [] K w := h
theorem wpH_step {o : Oper} {rest : List Oper} (h : ∀ X : Value → Env → Prop, X = (fun v K' => wpH P ops C H rest (putE o.dst v K')) →
    match o.guard with
    | none => opH P K C (fun v => X v K) o.type o.op
    | some (j, want) => match gdst ops j with
      | some d => (match K.get d with
        | some (.bool b) => (b = want → opH P (K.set d (.bool want)) C (fun v => X v (K.set d (.bool want))) o.type o.op) ∧
            (b = !want → X undef (K.set d (.bool !want)))
        | some (.tuple _) => X undef K
        | _ => False)
      | none => False) : wpH P ops C H (o :: rest) K := h _ rfl
theorem wpH_end (h : H K) : wpH P ops C H [] K := h
theorem wpE_step {fl : List (Bool × Bool)} {o : Oper} {rest : List Oper} (h : ∀ X : Value → Env → World → Prop, X = (fun v K' w' => wpE P ops C pan M fl.tail rest (putE o.dst v K') w') →
    match o.guard with
    | none => opF P K w (fun v w' => oweC (fl.headD (false, false)).1 (C w') (X v K w')) (fun ch w' => oweP (fl.headD (false, false)).2 (pan ch K w')) o.type o.op
    | some (j, want) => match gdst ops j with
      | some d => (match K.get d with
        | some (.bool b) => (b = want → opF P (K.set d (.bool want)) w (fun v w' => oweC (fl.headD (false, false)).1 (C w') (X v (K.set d (.bool want)) w')) (fun ch w' => oweP (fl.headD (false, false)).2 (pan ch (K.set d (.bool want)) w')) o.type o.op) ∧
            (b = !want → oweC (fl.headD (false, false)).1 (C w) (X undef (K.set d (.bool !want)) w))
        | some (.tuple _) => oweC (fl.headD (false, false)).1 (C w) (X undef K w)
        | _ => False)
      | none => False) : wpE P ops C pan M fl (o :: rest) K w := h _ rfl
theorem wpE_end {fl : List (Bool × Bool)} (h : M K w) : wpE P ops C pan M fl [] K w := h
end
end Go.Proofs.Vg
/- What comes in: slices read, as 'Sli'. -/
set_option linter.unusedVariables false
set_option linter.unusedSimpArgs false
namespace Go.Proofs.Vg
open Go Go.RowKit Go.Deep Go.ChangeShapes Go.WideShapes Go.ChangeAt

section
variable {H : Type} {enc : TypeId × Value → H} {P : Program} {w : World} {base : Nat} {spare : Nat → Bool} {held : Bool}

/-- No part of it is too great. -/
def Small (P : Program) (t : TypeId) (d : DataW H) : Prop := ∀ n ∈ d.weights P t, n ≤ reachBytes
theorem small_of_all {ts : List TypeId} {ds : List (DataW H)} (h : (DataW.weightsEach P ts ds).all (· ≤ reachBytes) = true) {j : Nat} {t : TypeId} {d : DataW H} (ht : ts[j]? = some t) (hd : ds[j]? = some d) : Small P t d := fun n hn => by
  have := List.all_eq_true.1 h n (DataW.weights_mem_each ht hd n hn)
  simpa using this
theorem weightsAll_mem {e : TypeId} : ∀ {l : List (DataW H)} {d : DataW H}, d ∈ l → ∀ n ∈ d.weights P e, n ∈ DataW.weightsAll P e l
  | d0 :: l, d, hd, n, hn => by
    simp only [DataW.weightsAll, List.mem_append]
    rcases List.mem_cons.1 hd with rfl | hd
    · exact .inl hn
    · exact .inr (weightsAll_mem hd n hn)
theorem cell_spot {w : World} {a : Addr} {v : Value} (h : w.cell? a = some v) : a.spot = none := by
  unfold World.cell? at h
  split at h
  · cases hs : a.spot with
    | none => rfl
    | some s => simp [hs] at h
  · cases h

/-- A SLICE THAT IS READ. -/
theorem rd_slice {t e : TypeId} {sz fuel : Nat} {cs : List Value} {x : DataW H × List MemPlace} (ht : P.underlying t = some (.slice e)) (hc : P.cellsOf e = sz) (h0 : 0 < sz) (hb : 0 < P.bytesOf e) (h : DataW.trod enc P w base spare held fuel t cs = some x) (hs : Small P t x.1) :
    ∃ v rows, cs = [v] ∧ Sli w sz v rows ∧ v.oneCell' = true ∧ v.cells = #[v] ∧ ∀ (i : Nat) (row : List Value), rows[i]? = some row → row.length = sz ∧ ∃ (f : Nat) (y : DataW H × List MemPlace), DataW.trod enc P w base spare held f e row = some y ∧ Small P e y.1 := by
  rcases open_slice ht h with ⟨rfl, rfl⟩ | ⟨a, len, cap, m, n, D, Pl, rfl, hba, hl, hm, hmm, rfl, hx⟩
  · exact ⟨_, [], rfl, ⟨none, 0, rfl, by simp, fun j row hj => by simp at hj⟩, rfl, rfl, fun i row hr => by simp at hr⟩
  rw [hc] at hx
  have hlm : len ≤ m := by rw [hmm]; split <;> omega
  obtain ⟨R, hR⟩ := choose_lt (α := List Value) (p := fun i cs' => w.cells? base (a.add (i * sz)) sz = some cs' ∧ DataW.trod enc P w base spare held n e cs' = some (D i, Pl i)) hx
  have hlen : len ≤ 140737488355328 := by
    have := hs ((len + (m - len)) * P.bytesOf e) (by simp [DataW.weights, ht])
    have h1 : len * 1 ≤ (len + (m - len)) * P.bytesOf e := Nat.mul_le_mul (by omega) hb
    have h2 : reachBytes ≤ 140737488355328 := by decide
    omega
  refine ⟨_, (List.range len).map R, rfl, ⟨some a, cap, by simp, by simpa using hlen, fun j row hj => ?_⟩, rfl, rfl, fun i row hr => ?_⟩
  · have hjl : j < len := by have := (List.getElem?_eq_some_iff.1 hj).1; simpa using this
    simp [hjl] at hj
    subst hj
    obtain ⟨h1, _⟩ := hR j (by omega)
    obtain ⟨_, hrl, hcl⟩ := World.cells?_some h1
    have hcell : ∀ k u, (R j)[k]? = some u → w.cell? ((a.add (j * sz)).add k) = some u := fun k u hk => by
      have hk' : k < sz := by rw [← hrl]; exact (List.getElem?_eq_some_iff.1 hk).1
      rw [hcl k hk', hk]
    have hsp : a.spot = none := by
      have h00 : 0 < (R 0).length := by
        obtain ⟨h1, _⟩ := hR 0 (by omega)
        rw [(World.cells?_some h1).2.1]; exact h0
      obtain ⟨h2, _⟩ := hR 0 (by omega)
      have := (World.cells?_some h2).2.2 0 h0
      rw [List.getElem?_eq_getElem h00] at this
      have := cell_spot this
      simpa [Addr.add] using this
    obtain ⟨b, o, sp⟩ := a
    simp only at hsp
    subst hsp
    refine ⟨b, o, rfl, fun k u hk => ?_⟩
    have := hcell k u hk
    rw [add_at] at this
    exact this
  · have hjl : i < len := by have := (List.getElem?_eq_some_iff.1 hr).1; simpa using this
    simp [hjl] at hr
    subst hr
    obtain ⟨h1, h2⟩ := hR i (by omega)
    refine ⟨(World.cells?_some h1).2.1, n, _, h2, fun q hq => hs q ?_⟩
    simp only [DataW.weights, ht, List.mem_cons, List.mem_append]
    exact .inr (.inl (weightsAll_mem (List.mem_map.2 ⟨i, List.mem_range.2 hjl, rfl⟩) q hq))
def fld (P : Program) (t i : Nat) : Option (TypeId × Nat) := match P.underlying t with
  | some (.struct fs) => (fs[i]?).map fun f => (f.type, f.offset)
  | _ => none
/-- A slice of ints; of bools. -/
theorem rd_ints {t e : TypeId} {fuel : Nat} {cs : List Value} {x : DataW H × List MemPlace} (ht : P.underlying t = some (.slice e)) (he : P.underlying e = some (.int .i64)) (hc : P.cellsOf e = 1) (hb : 0 < P.bytesOf e) (h : DataW.trod enc P w base spare held fuel t cs = some x) (hs : Small P t x.1) :
    ∃ v xs, cs = [v] ∧ SlI w v xs ∧ v.oneCell' = true ∧ v.cells = #[v] := by
  obtain ⟨v, rows, rfl, hsl, h1, h2, hr⟩ := rd_slice ht hc (by decide) hb h hs
  have : ∃ xs : List Int, rows = ints xs := by
    clear hsl
    induction rows with
    | nil => exact ⟨[], rfl⟩
    | cons r rows ih =>
      obtain ⟨xs, rfl⟩ := ih (fun i row hi => hr (i + 1) row (by simpa using hi))
      obtain ⟨_, f, y, hy, _⟩ := hr 0 r rfl
      obtain ⟨n, rfl, _⟩ := DataW.trod_int he hy
      exact ⟨n :: xs, rfl⟩
  obtain ⟨xs, rfl⟩ := this
  exact ⟨v, xs, rfl, hsl, h1, h2⟩
theorem Trod_ext {t : TypeId} (hl : laidOutB P = true) (hr : P.readableRec t = true) (hrow : t < P.types.size) {W W' : World} {sp : Nat → Bool} {v : Value} {d : DataW H} {ps : List MemPlace}
    (h : DataW.Trod enc P W 0 (fun _ => true) true t v d ps) (he : Ext W W') (hlt : ∀ x ∈ ps, x.block < W.heap.size) (hs : ∀ p ∈ ps, sp p.block = true) : DataW.Trod enc P W' 0 sp true t v d ps :=
  WideElems.Trod_stays hl hr hrow h (fun x hx => Below.same he (hlt x hx)) hs
/-- What a law's row asks behind the call: true; all reads as it did. -/
theorem post_ext {f : Func} {s : ChangeSpec} {apart fresh handsOn : Bool} {W W' : World} {args : Array Value} {v : Value} {ds : List (DataW H)} {before : List MemPlace} (hvs : s.vars = [])
    (hW : DataW.Whole enc P f.params.toList s.vars apart W args.toList ds [] before) (he : Ext W W')
    (hres : ∀ (b : Nat) (sp : Nat → Bool) (hd : Bool), DataW.TrodAll enc P W' b sp hd f.resultTypes.toList (v.resultList f.resultTypes.size) (s.fn H ds).results [])
    (hargs : ∀ sp : Nat → Bool, (∀ p ∈ before, sp p.block = true) → DataW.TrodAll enc P W' 0 sp true f.params.toList args.toList (s.fn H ds).args before) (hv : (s.fn H ds).vars = []) :
    s.post enc P f apart fresh handsOn false W args v W' := by
  have hold : ∀ p ∈ before, (fun b => decide (b < W.heap.size)) p.block = true := fun p hp => by simpa using hW.lt p hp
  refine ⟨ds, [], before, [], before, [], hW, ?_, ?_, ?_, World.keptBut_mono (fun p hp => ⟨hp, .inr (.inl hp)⟩) (Below.frame he (· ∈ before)), fun h => by cases h⟩
  · rw [List.append_nil]; exact hres _ _ _
  · rw [List.append_nil]; exact hargs _ hold
  · rw [hvs, List.append_nil, hv]; rfl
end
end Go.Proofs.Vg
/- Values as trees: api.Value in memory (Kind, Num, Text, Args: four cells). -/
set_option linter.unusedVariables false
set_option linter.unusedSimpArgs false
namespace Go.Proofs.Vg
open Go Go.RowKit

inductive Val where
  | mk (kind num : Int) (text : ByteArray) (args : List Val)
mutual
/-- Four cells that read as a value. -/
def VRow (w : World) : List Value → Val → Prop
  | row, .mk k n t args => ∃ v, row = [.int .i64 k, .int .i64 n, .string t, v] ∧ v.oneCell' = true ∧ v.cells = #[v] ∧ ∃ rows, Sli w 4 v rows ∧ VRows w rows args
def VRows (w : World) : List (List Value) → List Val → Prop
  | [], [] => True
  | r :: rs, x :: xs => VRow w r x ∧ VRows w rs xs
  | _, _ => False
end
/-- A slice that reads as values. -/
def VSl (w : World) (v : Value) (xs : List Val) : Prop := v.oneCell' = true ∧ v.cells = #[v] ∧ ∃ rows, Sli w 4 v rows ∧ VRows w rows xs
mutual
theorem VRow.ext {w w' : World} (he : Ext w w') : ∀ (row : List Value) (x : Val), VRow w row x → VRow w' row x
  | row, .mk k n t args, h => by
    simp only [VRow] at h ⊢
    obtain ⟨v, h1, h2, h3, rows, h4, h5⟩ := h
    exact ⟨v, h1, h2, h3, rows, h4.ext he, VRows.ext he rows args h5⟩
theorem VRows.ext {w w' : World} (he : Ext w w') : ∀ (rows : List (List Value)) (xs : List Val), VRows w rows xs → VRows w' rows xs
  | [], [], _ => by simp only [VRows]
  | r :: rs, x :: xs, h => by
    simp only [VRows] at h ⊢
    exact ⟨VRow.ext he r x h.1, VRows.ext he rs xs h.2⟩
  | [], _ :: _, h => by simp [VRows] at h
  | _ :: _, [], h => by simp [VRows] at h
end
theorem VRows.length {w : World} : ∀ {rows : List (List Value)} {xs : List Val}, VRows w rows xs → rows.length = xs.length
  | [], [], _ => rfl
  | r :: rs, x :: xs, h => by simp only [VRows] at h; simp [VRows.length h.2]
  | [], _ :: _, h => by simp [VRows] at h
  | _ :: _, [], h => by simp [VRows] at h
theorem VRows.get {w : World} : ∀ {rows : List (List Value)} {xs : List Val}, VRows w rows xs → ∀ (i : Nat) (x : Val), xs[i]? = some x → ∃ r, rows[i]? = some r ∧ VRow w r x
  | [], [], _, i, x, hx => by simp at hx
  | r :: rs, y :: xs, h, i, x, hx => by
    simp only [VRows] at h
    cases i with
    | zero => simp at hx; subst hx; exact ⟨r, rfl, h.1⟩
    | succ i => exact VRows.get h.2 i x (by simpa using hx)
  | [], _ :: _, h, _, _, _ => by simp [VRows] at h
  | _ :: _, [], h, _, _, _ => by simp [VRows] at h
end Go.Proofs.Vg
/- Functions whose results lie in cells. -/
set_option linter.unusedVariables false
set_option linter.unusedSimpArgs false
namespace Go.Proofs.Vg
open Go Go.RowKit
section
variable {P : Program} {N : Nat} {K : Env} {ds : List Deferred} {w : World} {a : Act}
/-- What one result variable reads as. -/
def oneC (P : Program) (K : Env) (w : World) (nx : Value → Prop) : ResultVar → Prop
  | .tmp t => match K.get t with | some v => nx v | none => False
  | .cell t ty => match K.get t with
    | some (.pointer (some a)) => (match aggN P ty with
      | some none => ∃ v, w.cell? a = some v ∧ nx v
      | some (some n) => ∃ cs : List Value, cs.length = n ∧ cellsAt w a cs ∧ nx (.agg cs.toArray)
      | none => False)
    | _ => False
def retC (P : Program) (K : Env) (w : World) (nx : Value → Prop) : List ResultVar → Prop
  | [x] => oneC P K w nx x
  | [x, y] => oneC P K w (fun u => oneC P K w (fun v => nx (.tuple #[u, v])) y) x
  | _ => False

def oneSem (tmps : Array Value) : ResultVar → Sem Value
  | .tmp t => pure (tmps.getD t undef)
  | .cell a t => do loadVar t (← asAddr (tmps.getD a undef))
theorem oneC_run (ha : Kn K N ds a) {nx : Value → Prop} {x : ResultVar} (h : oneC P K w nx x) : ∃ v, (oneSem a.tmps x).run P w = .ok v w ∧ nx v := by
  cases x with
  | tmp t =>
    simp only [oneC] at h
    split at h
    · rename_i v hv
      exact ⟨v, by simp only [oneSem, ha.getD hv]; rfl, h⟩
    · exact h.elim
  | cell t ty =>
    simp only [oneC] at h
    split at h
    · rename_i b hb
      have hb' := ha.getD hb
      have hasAddr : (asAddr (a.tmps.getD t undef)).run P w = .ok b w := by rw [hb']; simp [asAddr]
      split at h
      · rename_i hg
        obtain ⟨v, hc, hn⟩ := h
        refine ⟨v, ?_, hn⟩
        simp only [oneSem, Sem.run_bind, hasAddr, Result.andThen]
        exact load_run hg hc
      · rename_i n hg
        obtain ⟨cs, hl, hc, hn⟩ := h
        refine ⟨_, ?_, hn⟩
        simp only [oneSem, Sem.run_bind, hasAddr, Result.andThen]
        exact loadAgg_run hg hl hc
      · exact h.elim
    · exact h.elim
theorem results_one (fn : Func) (tmps : Array Value) : results fn tmps = (do let vs ← fn.results.mapM (oneSem tmps); pure (if h : vs.size = 1 then vs[0] else .tuple vs)) := by
  unfold results
  congr 1
theorem retC_run {fn : Func} (ha : Kn K N ds a) {nx : Value → Prop} (h : retC P K w nx fn.results.toList) : ∃ v, (results fn a.tmps).run P w = .ok v w ∧ nx v := by
  have hr : fn.results = fn.results.toList.toArray := by simp
  rw [results_one]
  generalize fn.results.toList = l at *
  rw [hr]
  unfold retC at h
  split at h
  · rename_i x
    obtain ⟨v, hv, hn⟩ := oneC_run ha h
    exact ⟨v, by simp [Sem.run_bind, hv, Result.andThen], hn⟩
  · rename_i x y
    obtain ⟨u, hu, hn⟩ := oneC_run ha h
    obtain ⟨v, hv, hn⟩ := oneC_run ha hn
    exact ⟨_, by simp [Sem.run_bind, hu, hv, Result.andThen], hn⟩
  · exact h.elim
/-- A function's end, its results in cells. -/
def finC (P : Program) (rs : List ResultVar) (R : Ending → World → Prop) : Post
  | .normal, K, ds, w => ds = [] ∧ retC P K w (fun v => R (.returned v) w) rs
  | .ret, K, ds, w => ds = [] ∧ retC P K w (fun v => R (.returned v) w) rs
  | .panic ch, K, ds, w => ds = [] ∧ R (.panicked ch) w
  | _, _, _, _ => False
theorem calls_of_okC {f : FuncId} {fn : Func} {c : Code} {args : List Value} {R : Ending → World → Prop} (hf : P.funcs[f]? = some fn) (hb : fn.body = some c) (hn : fn.ntmps = args.length + (fn.ntmps - args.length))
    (h : ok P none fn.ntmps c (argEnv 0 args) [] w (finC P fn.results.toList R)) : Calls P f args.toArray w R := by
  refine (callsIn_wide (n := 0)).1 (callsIn_of_wp hf hb trivial (c := c) ?_)
  have hk := Kn.enter args (fn.ntmps - args.length)
  rw [← hn] at hk
  have hw := h _ hk
  refine wpIn_mono (F := fence none) hw ?_
  rintro e a' w' ⟨K, ds, hk, hp⟩
  cases e <;> simp only [finC] at hp <;> simp only [bodyPost]
  all_goals first | exact hp.elim | skip
  · obtain ⟨rfl, hp⟩ := hp
    obtain ⟨v, hv, hr⟩ := retC_run hk hp
    exact ⟨hk.defers, v, hv, hr⟩
  · obtain ⟨rfl, hp⟩ := hp
    obtain ⟨v, hv, hr⟩ := retC_run hk hp
    exact ⟨hk.defers, v, hv, hr⟩
  · exact ⟨hp.1 ▸ hk.defers, hp.2⟩
theorem rets_of_okC {f : FuncId} {fn : Func} {c : Code} {args : List Value} {R : Value → World → Prop} (hf : P.funcs[f]? = some fn) (hb : fn.body = some c) (hn : fn.ntmps = args.length + (fn.ntmps - args.length))
    (h : ok P none fn.ntmps c (argEnv 0 args) [] w (finC P fn.results.toList (callR R fun _ _ => False))) : Rets P f args w R := calls_of_okC hf hb hn h
end
end Go.Proofs.Vg
/- A map of ints: a set of numbers. -/
set_option linter.unusedVariables false
set_option linter.unusedSimpArgs false
namespace Go.Proofs.Vg
open Go Go.RowKit Go.MapKept

/-- A map whose keys are ints, and whose values are all 'true'. -/
def MapS (w : World) (r : Nat) (f : Int → Bool) : Prop :=
  ∃ es clock, w.heap[r]? = some (.map es clock) ∧ (∀ e ∈ es.toList, IsKey (.int .i64) e.key ∧ e.val = .bool true) ∧ ∀ n, f n = true ↔ ∃ e ∈ es.toList, e.key = .int .i64 n
section
variable {P : Program} {w : World} {t kt et : TypeId} {r : Nat} {f : Int → Bool}
theorem isKey_i64 (n : Int) : IsKey (.int .i64) (.int .i64 n) := by simp [IsKey]
theorem Runs.makeMap {nx : Value → World → Prop} (h : ∀ w1, Ext w w1 → w1.heap.size = w.heap.size + 1 → MapS w1 w.heap.size (fun _ => false) → nx (.map (some w.heap.size)) w1) : Runs P (Instr.makeMap t none) w nx := by
  refine ⟨_, w.alloc (.map #[] 0), by simp [Instr.makeMap, Result.andThen], h _ ⟨rfl, rfl, rfl, by simp, fun k hk => Below.heap_alloc w _ k hk⟩ (by simp) ⟨#[], 0, heap_alloc_new w _, by simp, by simp⟩⟩
end
end Go.Proofs.Vg
/- A map from ints to values: its reading, and its look-up. -/
set_option linter.unusedVariables false
set_option linter.unusedSimpArgs false
namespace Go.Proofs.Vg
open Go Go.RowKit Go.MapKept

/-- A map whose keys are ints: what it holds. -/
def MapI (w : World) (r : Nat) (f : Int → Option Value) : Prop :=
  ∃ es clock, w.heap[r]? = some (.map es clock) ∧ (∀ e ∈ es.toList, ∃ n, e.key = .int .i64 n ∧ f n = some e.val) ∧ ∀ n v, f n = some v → ∃ e ∈ es.toList, e.key = .int .i64 n
theorem MapI.block {w w' : World} {r : Nat} {f : Int → Option Value} (h : MapI w r f) (hb : w'.heap[r]? = w.heap[r]?) : MapI w' r f := by
  obtain ⟨es, clock, h1, h2⟩ := h
  exact ⟨es, clock, hb.trans h1, h2⟩
theorem MapI.lt {w : World} {r : Nat} {f : Int → Option Value} (h : MapI w r f) : r < w.heap.size := by
  obtain ⟨es, clock, h1, h2⟩ := h
  exact (Array.getElem?_eq_some_iff.1 h1).1
theorem MapI.chg {w w' : World} {r : Nat} {f : Int → Option Value} {S : Nat → Prop} (h : MapI w r f) (hc : Chg S w w') (hs : ¬ S r) : MapI w' r f := h.block (hc.block r h.lt hs)
theorem MapI.ext {w w' : World} {r : Nat} {f : Int → Option Value} (h : MapI w r f) (he : Ext w w') : MapI w' r f := h.chg (he.chg (fun _ => False)) id

section
variable {P : Program} {w : World} {t kt et : TypeId} {r : Nat} {f : Int → Option Value}
theorem Runs.makeMapI {nx : Value → World → Prop} (h : ∀ w1, Ext w w1 → w1.heap.size = w.heap.size + 1 → MapI w1 w.heap.size (fun _ => none) → nx (.map (some w.heap.size)) w1) : Runs P (Instr.makeMap t none) w nx := by
  refine ⟨_, w.alloc (.map #[] 0), by simp [Instr.makeMap, Result.andThen], h _ ⟨rfl, rfl, rfl, by simp, fun k hk => Below.heap_alloc w _ k hk⟩ (by simp) ⟨#[], 0, heap_alloc_new w _, by simp, by simp⟩⟩
theorem run_lookupI {z : Value} {sz by_ : Nat} {okk : Bool} (hm : P.underlying t = some (.map kt et)) (hk : P.underlying kt = some (.int .i64)) (hz : zinfo P et = some (some z, sz, by_)) (h : MapI w r f) (n : Int) :
    (Instr.lookup t (.map (some r)) (.int .i64 n) okk).run P w = .ok (if okk then .tuple #[(f n).getD z, .bool (f n).isSome] else (f n).getD z) w := by
  obtain ⟨es, clock, hb, hall, hf⟩ := h
  obtain ⟨i, hi, hzz, _, _⟩ := zinfo_some hz
  have hk0 := isKey_i64 n
  rcases findNow_spec hk0 es.toList 0 (fun x hx => by obtain ⟨m, hm, _⟩ := hall x hx; rw [hm]; exact isKey_i64 m) with ⟨h1, h2⟩ | ⟨j, e, h1, h2, h3⟩
  · have hfn : f n = none := by
      cases hx : f n with
      | none => rfl
      | some v => obtain ⟨e, he, hke⟩ := hf n v hx; exact absurd hke (h2 e he)
    rw [hfn]
    cases okk <;> simp [Instr.lookup, run_underlying hm, MapKept.run_getObj_map hb, MapKept.run_checkKey hk hk0, MapKept.run_findKey hk h1, Result.andThen, zeroValue, typeInfo, hi, hzz]
  · have hme : e ∈ es.toList := List.mem_of_getElem? h2
    obtain ⟨m, hm1, hm2⟩ := hall e hme
    have hmn : m = n := by rw [hm1] at h3; injection h3
    subst hmn
    rw [hm2]
    cases okk <;> simp [Instr.lookup, run_underlying hm, MapKept.run_getObj_map hb, MapKept.run_checkKey hk hk0, MapKept.run_findKey hk h1, Result.andThen]
theorem Runs.lookupI {z : Value} {sz by_ : Nat} {nx : Value → World → Prop} {okk : Bool} (hm : P.underlying t = some (.map kt et)) (hk : P.underlying kt = some (.int .i64)) (hz : zinfo P et = some (some z, sz, by_)) (h : MapI w r f) (n : Int)
    (hn : nx (if okk then .tuple #[(f n).getD z, .bool (f n).isSome] else (f n).getD z) w) :
    Runs P (Instr.lookup t (.map (some r)) (.int .i64 n) okk) w nx := by
  exact ⟨_, w, run_lookupI hm hk hz h n, hn⟩
/-- A new key. -/
theorem Runs.mapPut {nx : World → Prop} (hm : P.underlying t = some (.map kt et)) (hk : P.underlying kt = some (.int .i64)) (h : MapI w r f) (n : Int) (v : Value) (hno : f n = none)
    (hn : ∀ w1, Chg (· = r) w w1 → w1.heap.size = w.heap.size → MapI w1 r (fun x => if x = n then some v else f x) → nx w1) :
    Runs P (Instr.mapUpdate t (.map (some r)) (.int .i64 n) v) w (fun _ w' => nx w') := by
  obtain ⟨es, clock, hb, hall, hf⟩ := h
  have hk0 := isKey_i64 n
  have hchg : ∀ o : Obj, Chg (· = r) w { w with heap := w.heap.setIfInBounds r o } := fun o => ⟨rfl, rfl, rfl, by simp, fun k _ hk => (heap_set (o' := o) hb).2 k hk⟩
  rcases findNow_spec hk0 es.toList 0 (fun x hx => by obtain ⟨m, hm, _⟩ := hall x hx; rw [hm]; exact isKey_i64 m) with ⟨h1, h2⟩ | ⟨j, e, h1, h2, h3⟩
  · refine ⟨(), _, by simp [Instr.mapUpdate, run_underlying hm, MapKept.run_getObj_map hb, MapKept.run_checkKey hk hk0, MapKept.run_findKey hk h1, MapKept.run_setObj_map _ hb, Result.andThen]; rfl, hn _ (hchg _) (by simp) ⟨_, _, (heap_set hb).1, fun x hx => ?_, fun m u hu => ?_⟩⟩
    · simp only [Array.toList_push, List.mem_append, List.mem_singleton] at hx
      rcases hx with hx | rfl
      · obtain ⟨m, hm1, hm2⟩ := hall x hx
        refine ⟨m, hm1, ?_⟩
        have : m ≠ n := fun e => by subst e; rw [hno] at hm2; cases hm2
        simp [this, hm2]
      · exact ⟨n, rfl, by simp⟩
    · simp only [Array.toList_push, List.mem_append, List.mem_singleton]
      by_cases hmn : m = n
      · subst hmn; exact ⟨_, .inr rfl, rfl⟩
      · simp [hmn] at hu
        obtain ⟨e, he, hke⟩ := hf m u hu
        exact ⟨e, .inl he, hke⟩
  · exfalso
    have hme : e ∈ es.toList := List.mem_of_getElem? h2
    obtain ⟨m, hm1, hm2⟩ := hall e hme
    have hmn : m = n := by rw [hm1] at h3; injection h3
    subst hmn
    rw [hno] at hm2; cases hm2
end
end Go.Proofs.Vg
/- Reading: with the datum's size. -/
set_option linter.unusedVariables false
set_option linter.unusedSimpArgs false
namespace Go.Proofs.Vg
open Go Go.RowKit Go.Deep Go.ChangeShapes Go.WideShapes Go.ChangeAt

section
variable {H : Type} {enc : TypeId × Value → H} {P : Program} {w : World} {base : Nat} {spare : Nat → Bool} {held : Bool}
/-- A SLICE THAT IS READ. -/
theorem rd_slice' {t e : TypeId} {sz fuel : Nat} {cs : List Value} {x : DataW H × List MemPlace} (ht : P.underlying t = some (.slice e)) (hc : P.cellsOf e = sz) (h0 : 0 < sz) (hb : 0 < P.bytesOf e) (h : DataW.trod enc P w base spare held fuel t cs = some x) (hs : Small P t x.1) :
    ∃ v rows, cs = [v] ∧ Sli w sz v rows ∧ v.oneCell' = true ∧ v.cells = #[v] ∧ ∀ (i : Nat) (row : List Value), rows[i]? = some row → row.length = sz ∧ ∃ (f : Nat) (y : DataW H × List MemPlace), DataW.trod enc P w base spare held f e row = some y ∧ Small P e y.1 ∧ SizeOf.sizeOf y.1 < SizeOf.sizeOf x.1 := by
  rcases open_slice ht h with ⟨rfl, rfl⟩ | ⟨a, len, cap, m, n, D, Pl, rfl, hba, hl, hm, hmm, rfl, hx⟩
  · exact ⟨_, [], rfl, ⟨none, 0, rfl, by simp, fun j row hj => by simp at hj⟩, rfl, rfl, fun i row hr => by simp at hr⟩
  rw [hc] at hx
  have hlm : len ≤ m := by rw [hmm]; split <;> omega
  obtain ⟨R, hR⟩ := choose_lt (α := List Value) (p := fun i cs' => w.cells? base (a.add (i * sz)) sz = some cs' ∧ DataW.trod enc P w base spare held n e cs' = some (D i, Pl i)) hx
  have hlen : len ≤ 140737488355328 := by
    have := hs ((len + (m - len)) * P.bytesOf e) (by simp [DataW.weights, ht])
    have h1 : len * 1 ≤ (len + (m - len)) * P.bytesOf e := Nat.mul_le_mul (by omega) hb
    have h2 : reachBytes ≤ 140737488355328 := by decide
    omega
  refine ⟨_, (List.range len).map R, rfl, ⟨some a, cap, by simp, by simpa using hlen, fun j row hj => ?_⟩, rfl, rfl, fun i row hr => ?_⟩
  · have hjl : j < len := by have := (List.getElem?_eq_some_iff.1 hj).1; simpa using this
    simp [hjl] at hj
    subst hj
    obtain ⟨h1, _⟩ := hR j (by omega)
    obtain ⟨_, hrl, hcl⟩ := World.cells?_some h1
    have hcell : ∀ k u, (R j)[k]? = some u → w.cell? ((a.add (j * sz)).add k) = some u := fun k u hk => by
      have hk' : k < sz := by rw [← hrl]; exact (List.getElem?_eq_some_iff.1 hk).1
      rw [hcl k hk', hk]
    have hsp : a.spot = none := by
      have h00 : 0 < (R 0).length := by
        obtain ⟨h1, _⟩ := hR 0 (by omega)
        rw [(World.cells?_some h1).2.1]; exact h0
      obtain ⟨h2, _⟩ := hR 0 (by omega)
      have := (World.cells?_some h2).2.2 0 h0
      rw [List.getElem?_eq_getElem h00] at this
      have := cell_spot this
      simpa [Addr.add] using this
    obtain ⟨b, o, sp⟩ := a
    simp only at hsp
    subst hsp
    refine ⟨b, o, rfl, fun k u hk => ?_⟩
    have := hcell k u hk
    rw [add_at] at this
    exact this
  · have hjl : i < len := by have := (List.getElem?_eq_some_iff.1 hr).1; simpa using this
    simp [hjl] at hr
    subst hr
    obtain ⟨h1, h2⟩ := hR i (by omega)
    refine ⟨(World.cells?_some h1).2.1, n, _, h2, fun q hq => hs q ?_, by
      have hm : D i ∈ (List.range len).map D := List.mem_map.2 ⟨i, List.mem_range.2 hjl, rfl⟩
      have := List.sizeOf_lt_of_mem hm
      simp
      omega⟩
    simp only [DataW.weights, ht, List.mem_cons, List.mem_append]
    exact .inr (.inl (weightsAll_mem (List.mem_map.2 ⟨i, List.mem_range.2 hjl, rfl⟩) q hq))
/-- A struct's field. -/
theorem rd_field' {t : TypeId} {fs : Array Field} {fuel : Nat} {cs : List Value} {x : DataW H × List MemPlace} (ht : P.underlying t = some (.struct fs)) (h : DataW.trod enc P w base spare held fuel t cs = some x) (hs : Small P t x.1) {i : Nat} {f : Field} (hf : fs[i]? = some f) :
    ∃ (n : Nat) (y : DataW H × List MemPlace), DataW.trod enc P w base spare held n f.type ((cs.drop f.offset).take (P.cellsOf f.type)) = some y ∧ Small P f.type y.1 ∧ SizeOf.sizeOf y.1 < SizeOf.sizeOf x.1 := by
  obtain ⟨xs, n, _, rfl, hl, hlen, hfs⟩ := DataW.trod_struct ht h
  have h1 := hfs i f hf
  have hi : i < xs.length := by rw [hlen]; exact (Array.getElem?_eq_some_iff.1 hf).1
  rw [List.getElem?_eq_getElem hi] at h1
  refine ⟨n, _, h1, fun q hq => hs q ?_, by
    have hm : (xs[i]).1 ∈ xs.map (·.1) := List.mem_map.2 ⟨xs[i], List.getElem_mem hi, rfl⟩
    have := List.sizeOf_lt_of_mem hm
    simp
    omega⟩
  simp only [DataW.weights, ht]
  exact DataW.weights_mem_each (j := i) (t := f.type) (d := xs[i].1) (by simp [Array.getElem?_toList, hf]) (by simp [hi]) q hq
theorem rd_fld' {t i o : Nat} {ft : TypeId} {fuel : Nat} {cs : List Value} {x : DataW H × List MemPlace} (hf : fld P t i = some (ft, o)) (h : DataW.trod enc P w base spare held fuel t cs = some x) (hs : Small P t x.1) :
    ∃ (n : Nat) (y : DataW H × List MemPlace), DataW.trod enc P w base spare held n ft ((cs.drop o).take (P.cellsOf ft)) = some y ∧ Small P ft y.1 ∧ SizeOf.sizeOf y.1 < SizeOf.sizeOf x.1 := by
  unfold fld at hf
  split at hf
  · rename_i fs ht
    cases hfi : fs[i]? with
    | none => simp [hfi] at hf
    | some f =>
      simp [hfi] at hf
      obtain ⟨rfl, rfl⟩ := hf
      exact rd_field' ht h hs hfi
  · cases hf
end
end Go.Proofs.Vg
