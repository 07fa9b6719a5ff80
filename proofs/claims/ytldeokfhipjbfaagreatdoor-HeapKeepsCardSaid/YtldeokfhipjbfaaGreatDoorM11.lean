/- Part 11 of 12: K6, K7, K8, K9, K10, K11. -/
import Derived.Test.YtldeokfhipjbfaaGreatDoorM10
import Derived.Test.YtldeokfhipjbfaaGreatDoorM3
/- The two heaps and the words, together. -/
set_option linter.unusedVariables false
set_option linter.unusedSimpArgs false
set_option linter.defProp false
namespace Go.Proofs.YtldeokfhipjbfaaGreatDoor
open Go Go.Proofs.Vg Go.RowKit

structure StR (w : World) (hb rb qb bz : Nat) (H : List Ob) (l : List Wd) (F1 F2 : Nat → Prop) (vh vr : Value) : Prop where
  hp : HeapW w hb rb H F1
  rp : RHeapW w qb H F2
  z : Blk w bz [vh, vr] 32
  oh : w.ownsRow 0 38 3 vh l.length (oflat l)
  or : w.ownsRow 0 75 3 vr l.length (oflat l)
  l1 : ∀ k, F1 k → k < w.heap.size
  l2 : ∀ k, F2 k → k < w.heap.size
  d12 : ∀ k, F1 k → ¬ F2 k
  d1z : ¬ F1 bz ∧ ∀ k, F1 k → vh.ownBlock ≠ some k ∧ vr.ownBlock ≠ some k
  d2z : ¬ F2 bz ∧ ∀ k, F2 k → vh.ownBlock ≠ some k ∧ vr.ownBlock ≠ some k
  dz : vh.ownBlock ≠ some bz ∧ vr.ownBlock ≠ some bz
  dv : ∀ k, vh.ownBlock = some k → vr.ownBlock ≠ some k
  nrb : ¬ F1 rb ∧ ¬ F2 rb ∧ rb ≠ bz ∧ vh.ownBlock ≠ some rb ∧ vr.ownBlock ≠ some rb
def Ft (F1 F2 : Nat → Prop) (bz : Nat) (vh vr : Value) (k : Nat) : Prop := F1 k ∨ F2 k ∨ k = bz ∨ vh.ownBlock = some k ∨ vr.ownBlock = some k
/-- The two heaps hold the same objects, and the words are the same. -/
def St (w : World) (hb rb qb bz : Nat) (H : List Ob) (l : List Wd) (F : Nat → Prop) : Prop :=
  ∃ F1 F2 vh vr, StR w hb rb qb bz H l F1 F2 vh vr ∧ (∀ k, Ft F1 F2 bz vh vr k → F k) ∧ ¬ F rb
section
variable {w w' : World} {hb rb qb bz : Nat} {H : List Ob} {l : List Wd} {F F1 F2 : Nat → Prop} {vh vr : Value}
theorem StR.lt (h : StR w hb rb qb bz H l F1 F2 vh vr) (k : Nat) (hk : Ft F1 F2 bz vh vr k) : k < w.heap.size := by
  rcases hk with hk | hk | hk | hk | hk
  · exact h.l1 k hk
  · exact h.l2 k hk
  · rw [hk]; exact h.z.lt
  · exact (h.oh.lt k hk).2
  · exact (h.or.lt k hk).2
theorem StR.chg {T : Nat → Prop} (h : StR w hb rb qb bz H l F1 F2 vh vr) (hc : Chg T w w') (hT : ∀ k, Ft F1 F2 bz vh vr k → ¬ T k) (hr : ¬ T rb) : StR w' hb rb qb bz H l F1 F2 vh vr := by
  have hs := hc.size
  exact ⟨h.hp.chg hc (fun k hk => hT k (.inl hk)) hr, h.rp.chg hc (fun k hk => hT k (.inr (.inl hk))), h.z.chg hc (hT _ (.inr (.inr (.inl rfl)))), owns_chg' h.oh hc (fun k hk => hT k (.inr (.inr (.inr (.inl hk))))), owns_chg' h.or hc (fun k hk => hT k (.inr (.inr (.inr (.inr hk))))),
    fun k hk => by have := h.l1 k hk; omega, fun k hk => by have := h.l2 k hk; omega, h.d12, h.d1z, h.d2z, h.dz, h.dv, h.nrb⟩
theorem StR.ext (h : StR w hb rb qb bz H l F1 F2 vh vr) (he : Ext w w') : StR w' hb rb qb bz H l F1 F2 vh vr := h.chg (he.chg (fun _ => False)) (fun _ _ => id) id
/-- The program's heap goes on. -/
theorem StR.heap {H2 : List Ob} (h : StR w hb rb qb bz H l F1 F2 vh vr) (hg : Grown w w' hb rb H2 F1) : ∃ F1', HeapW w' hb rb H2 F1' ∧ Chg F1 w w' ∧ (∀ k, F1' k → F1 k ∨ (w.heap.size ≤ k ∧ k < w'.heap.size)) := by
  obtain ⟨h1, F', h2, h3⟩ := hg
  exact ⟨F', h2, h1, h3⟩
/-- Both heaps go on, one behind the other; the words stay. -/
theorem StR.both {H2 : List Ob} (h : StR w hb rb qb bz H l F1 F2 vh vr) {F1' F2' : Nat → Prop} (hp : HeapW w' hb rb H2 F1') (hr : RHeapW w' qb H2 F2') (hc : Chg (fun k => F1 k ∨ F2 k) w w')
    (h1 : ∀ k, F1' k → F1 k ∨ (w.heap.size ≤ k ∧ k < w'.heap.size)) (h2 : ∀ k, F2' k → F2 k ∨ (w.heap.size ≤ k ∧ k < w'.heap.size)) (hd : ∀ k, w.heap.size ≤ k → F1' k → ¬ F2' k) : StR w' hb rb qb bz H2 l F1' F2' vh vr := by
  have hs := hc.size
  have hz := h.z.lt
  have hrb := HeapW.lt h.hp
  have hvl : ∀ k, vh.ownBlock = some k → k < w.heap.size := fun k hk => (h.oh.lt k hk).2
  have hrl : ∀ k, vr.ownBlock = some k → k < w.heap.size := fun k hk => (h.or.lt k hk).2
  refine ⟨hp, hr, h.z.chg hc (fun e => e.elim h.d1z.1 h.d2z.1), owns_chg' h.oh hc (fun k hk e => e.elim (fun e => (h.d1z.2 k e).1 hk) (fun e => (h.d2z.2 k e).1 hk)), owns_chg' h.or hc (fun k hk e => e.elim (fun e => (h.d1z.2 k e).2 hk) (fun e => (h.d2z.2 k e).2 hk)), fun k hk => ?_, fun k hk => ?_, fun k hk hk2 => ?_, ⟨fun e => ?_, fun k hk => ?_⟩, ⟨fun e => ?_, fun k hk => ?_⟩, h.dz, h.dv, ⟨fun e => ?_, fun e => ?_, h.nrb.2.2⟩⟩
  · rcases h1 k hk with h3 | h3
    · have := h.l1 k h3; omega
    · exact h3.2
  · rcases h2 k hk with h3 | h3
    · have := h.l2 k h3; omega
    · exact h3.2
  · rcases h1 k hk with h3 | h3
    · rcases h2 k hk2 with h4 | h4
      · exact h.d12 k h3 h4
      · have := h.l1 k h3; omega
    · exact hd k h3.1 hk hk2
  · rcases h1 _ e with h3 | h3
    · exact h.d1z.1 h3
    · omega
  · rcases h1 k hk with h3 | h3
    · exact h.d1z.2 k h3
    · exact ⟨fun e => by have := hvl k e; omega, fun e => by have := hrl k e; omega⟩
  · rcases h2 _ e with h3 | h3
    · exact h.d2z.1 h3
    · omega
  · rcases h2 k hk with h3 | h3
    · exact h.d2z.2 k h3
    · exact ⟨fun e => by have := hvl k e; omega, fun e => by have := hrl k e; omega⟩
  · rcases h1 _ e with h3 | h3
    · exact h.nrb.1 h3
    · omega
  · rcases h2 _ e with h3 | h3
    · exact h.nrb.2.1 h3
    · omega
/-- A word more. -/
theorem StR.add {vh' vr' : Value} {x : Wd} (h : StR w hb rb qb bz H l F1 F2 vh vr) (hc : Chg (fun k => vh.ownBlock = some k ∨ vr.ownBlock = some k ∨ k = bz) w w') (hz : Blk w' bz [vh', vr'] 32)
    (oh : w'.ownsRow 0 38 3 vh' (l.length + 1) (oflat l ++ x.row)) (or : w'.ownsRow 0 75 3 vr' (l.length + 1) (oflat l ++ x.row)) (o1 : Own2 w vh vh') (o2 : Own2 w vr vr') : StR w' hb rb qb bz H (l ++ [x]) F1 F2 vh' vr' := by
  have hs := hc.size
  have hzl := h.z.lt
  have hrb := HeapW.lt h.hp
  have hfl : oflat (l ++ [x]) = oflat l ++ x.row := by simp [oflat]
  have n1 : ∀ k, F1 k → ¬ (vh.ownBlock = some k ∨ vr.ownBlock = some k ∨ k = bz) := fun k hk e => by
    rcases e with e | e | e
    · exact (h.d1z.2 k hk).1 e
    · exact (h.d1z.2 k hk).2 e
    · exact h.d1z.1 (e ▸ hk)
  have n2 : ∀ k, F2 k → ¬ (vh.ownBlock = some k ∨ vr.ownBlock = some k ∨ k = bz) := fun k hk e => by
    rcases e with e | e | e
    · exact (h.d2z.2 k hk).1 e
    · exact (h.d2z.2 k hk).2 e
    · exact h.d2z.1 (e ▸ hk)
  refine ⟨h.hp.chg hc n1 (fun e => by rcases e with e | e | e; exact h.nrb.2.2.2.1 e; exact h.nrb.2.2.2.2 e; exact h.nrb.2.2.1 e), h.rp.chg hc n2, hz, by rw [hfl, List.length_append]; exact oh, by rw [hfl, List.length_append]; exact or, fun k hk => by have := h.l1 k hk; omega, fun k hk => by have := h.l2 k hk; omega, h.d12,
    ⟨h.d1z.1, fun k hk => ⟨o1.ne (h.l1 k hk) (h.d1z.2 k hk).1, o2.ne (h.l1 k hk) (h.d1z.2 k hk).2⟩⟩, ⟨h.d2z.1, fun k hk => ⟨o1.ne (h.l2 k hk) (h.d2z.2 k hk).1, o2.ne (h.l2 k hk) (h.d2z.2 k hk).2⟩⟩, ⟨o1.ne hzl h.dz.1, o2.ne hzl h.dz.2⟩, fun k hk e => ?_, ⟨h.nrb.1, h.nrb.2.1, h.nrb.2.2.1, o1.ne hrb h.nrb.2.2.2.1, o2.ne hrb h.nrb.2.2.2.2⟩⟩
  obtain ⟨g, cap, cur, e1, -, hg1, -⟩ := oh.2.resolve_left (fun h => by have := h.2; omega)
  obtain ⟨g', cap', cur', e2, -, hg2, -⟩ := or.2.resolve_left (fun h => by have := h.2; omega)
  rw [e1] at hk; rw [e2] at e
  simp only [Value.ownBlock, Option.some.injEq] at hk e
  rw [hk] at hg1; rw [e] at hg2
  rw [hg1] at hg2
  cases hg2
/-- The words, read. -/
theorem StR.slh (h : StR w hb rb qb bz H l F1 F2 vh vr) (hl : l.length ≤ 1048576) : SlW w vh l := Sli.of_own h.oh rfl (fun r hr => (words_rows l r hr).1) (by simp) (by omega)
theorem StR.slr (h : StR w hb rb qb bz H l F1 F2 vh vr) (hl : l.length ≤ 1048576) : SlW w vr l := Sli.of_own h.or rfl (fun r hr => (words_rows l r hr).1) (by simp) (by omega)
end
/-- One act of a play. -/
structure ActD where
  d : Int
  k : Int
  n : Int
  of : List Int
  v : Val
  wd : Wd
/-- Eleven cells that read as an act; what they lead to lies in 'S'. -/
def ActR (w : World) (S : Nat → Prop) (r : List Value) (a : ActD) : Prop :=
  ∃ ov vrow, r = [.int .i64 a.d, .int .i64 a.k, .int .i64 a.n, ov] ++ vrow ++ a.wd.row ∧ ov.oneCell' = true ∧ SliS w S 1 ov (ints a.of) ∧ VRowS w S vrow a.v
theorem ActR.len {w : World} {S : Nat → Prop} {r : List Value} {a : ActD} (h : ActR w S r a) : r.length = 11 := by
  obtain ⟨ov, vrow, rfl, -, -, h2⟩ := h
  have := (VRowS.row _ _ h2).len
  simp [this]
theorem ActR.one {w : World} {S : Nat → Prop} {r : List Value} {a : ActD} (h : ActR w S r a) : ∀ u ∈ r, u.oneCell' = true := by
  obtain ⟨ov, vrow, rfl, h1, -, h2⟩ := h
  intro u hu
  simp only [List.append_assoc, List.cons_append, List.nil_append, List.mem_cons, List.mem_append, Wd.row, List.not_mem_nil, or_false] at hu
  rcases hu with rfl | rfl | rfl | rfl | hu | rfl | rfl | rfl <;> first | rfl | exact h1 | exact (VRowS.row _ _ h2).one _ hu
theorem SliS.chg {w w' : World} {S S' T : Nat → Prop} {sz : Nat} {v : Value} {rows : List (List Value)} (h : SliS w S sz v rows) (hc : Chg T w w') (hs : ∀ k, S k → S' k ∧ ¬ T k) : SliS w' S' sz v rows := by
  obtain ⟨A, c, h1, h2, h3⟩ := h
  refine ⟨A, c, h1, h2, fun j row hj => ?_⟩
  obtain ⟨b, o, h4, h5, h6⟩ := h3 j row hj
  exact ⟨b, o, h4, (hs b h5).1, hc.cellsAt h6 (hs b h5).2⟩
theorem ActR.chg {w w' : World} {S S' T : Nat → Prop} {r : List Value} {a : ActD} (h : ActR w S r a) (hc : Chg T w w') (hs : ∀ k, S k → S' k ∧ ¬ T k) : ActR w' S' r a := by
  obtain ⟨ov, vrow, h1, h2, h3, h4⟩ := h
  exact ⟨ov, vrow, h1, h2, SliS.chg h3 hc hs, VRowS.chg hc hs _ _ h4⟩
def actH (H : List Ob) (l : List Wd) (a : ActD) : List Ob :=
  if a.d = 0 then (storeS H a.v).1
  else if a.d = 1 then (if makeE H a.k a.n (pickF l a.of) = 0 then (mkW H a.k a.n (pickF l a.of)).1 else H)
  else if (pickF l a.of).length < 2 then H else setH H ((pickF l a.of).getD 0 ⟨0, 0, 0⟩) a.n ((pickF l a.of).getD 1 ⟨0, 0, 0⟩)
def actL (H : List Ob) (l : List Wd) (a : ActD) : List Wd :=
  if a.d = 0 then l ++ [(storeS H a.v).2.1]
  else if a.d = 1 then l ++ [if makeE H a.k a.n (pickF l a.of) = 0 then (mkW H a.k a.n (pickF l a.of)).2 else ⟨0, 0, 0⟩]
  else l
end Go.Proofs.YtldeokfhipjbfaaGreatDoor
/- act: storing, making, setting. -/
set_option linter.unusedVariables false
set_option linter.unusedSimpArgs false
set_option linter.defProp false
namespace Go.Proofs.YtldeokfhipjbfaaGreatDoor
open Go Go.Proofs.Vg Go.RowKit

def PW (w0 w : World) (ph pr : Value) (ws : List Wd) : Prop := w.ownsRow 0 38 3 ph ws.length (oflat ws) ∧ w.ownsRow 0 75 3 pr ws.length (oflat ws) ∧ (∀ k, ph.ownBlock = some k → w0.heap.size ≤ k) ∧ (∀ k, pr.ownBlock = some k → w0.heap.size ≤ k)
theorem PW.ext {w0 w w' : World} {ph pr : Value} {ws : List Wd} (h : PW w0 w ph pr ws) (he : Ext w w') : PW w0 w' ph pr ws :=
  ⟨owns_chg' h.1 (he.chg (fun _ => False)) (fun _ _ => id), owns_chg' h.2.1 (he.chg (fun _ => False)) (fun _ _ => id), h.2.2⟩
theorem owns_ty {w : World} {base e sz n : Nat} {v : Value} {xs : List Value} (h : w.ownsRow base e sz v n xs) {b e' : Nat} {cs : List Value} (hb : Blk w b cs e') (hne : e ≠ e') : v.ownBlock ≠ some b := by
  intro hk
  rcases h.2 with ⟨rfl, -⟩ | ⟨g, cap, cur, rfl, -, hg, -⟩
  · simp [Value.ownBlock] at hk
  · simp only [Value.ownBlock, Option.some.injEq] at hk
    subst hk
    unfold Blk at hb
    rw [hb] at hg
    cases hg
    exact hne rfl
/-- The words that an act picks, while they come. -/
structure J9 (w0 : World) (hb qb bz B7 : Nat) (vh vr ov : Value) (ws : List Wd) (L : Nat → Bool) (K : Env) (w : World) : Prop where
  ext : Ext w0 w
  e0 : K.get 0 = some (ptrOf hb)
  e1 : K.get 1 = some (ptrOf qb)
  e2 : K.get 2 = some (ptrOf bz)
  e7 : K.get 7 = some (ptrOf B7)
  h0 : L 0 = true → K.get 22 = some (ptrOf bz)
  h1 : L 1 = true → K.get 23 = some (ptrOf bz)
  h2 : L 2 = true → K.get 24 = some (.agg #[vh, vr])
  h3 : L 3 = true → K.get 25 = some (.pointer (some ⟨B7, 3, none⟩))
  h4 : L 4 = true → K.get 26 = some ov
  h5 : L 5 = true → ∃ ph pr, K.get 27 = some (.agg #[ph, pr]) ∧ PW w0 w ph pr ws
  h6 : L 6 = true → L 7 = false → ∃ B, K.get 9 = some (ptrOf B) ∧ w0.heap.size ≤ B ∧ Blk w B [.slice none 0 0, .slice none 0 0] 32
  h7 : L 7 = true → ∃ B ph pr, K.get 9 = some (ptrOf B) ∧ w0.heap.size ≤ B ∧ Blk w B [ph, pr] 32 ∧ PW w0 w ph pr ws
section
variable {w0 w w' : World} {hb qb bz B7 : Nat} {vh vr ov : Value} {ws : List Wd} {L : Nat → Bool} {K : Env}
theorem J9.s0 (h : J9 w0 hb qb bz B7 vh vr ov ws L K w) : J9 w0 hb qb bz B7 vh vr ov ws (up L 0) ((22, ptrOf bz) :: K) w :=
  ⟨(h.ext),
   (by simpa [Env.get] using h.e0),
   (by simpa [Env.get] using h.e1),
   (by simpa [Env.get] using h.e2),
   (by simpa [Env.get] using h.e7),
   (fun _ => by simp [Env.get]),
   (fun hh => by simpa [Env.get] using h.h1 (by simpa [up] using hh)),
   (fun hh => by simpa [Env.get] using h.h2 (by simpa [up] using hh)),
   (fun hh => by simpa [Env.get] using h.h3 (by simpa [up] using hh)),
   (fun hh => by simpa [Env.get] using h.h4 (by simpa [up] using hh)),
   (fun hh => by simpa [Env.get] using h.h5 (by simpa [up] using hh)),
   (fun h1 h2 => by simpa [Env.get] using h.h6 (by simpa [up] using h1) (by simpa [up] using h2)),
   (fun hh => by simpa [Env.get] using h.h7 (by simpa [up] using hh))⟩
theorem J9.s1 (h : J9 w0 hb qb bz B7 vh vr ov ws L K w) : J9 w0 hb qb bz B7 vh vr ov ws (up L 1) ((23, ptrOf bz) :: K) w :=
  ⟨(h.ext),
   (by simpa [Env.get] using h.e0),
   (by simpa [Env.get] using h.e1),
   (by simpa [Env.get] using h.e2),
   (by simpa [Env.get] using h.e7),
   (fun hh => by simpa [Env.get] using h.h0 (by simpa [up] using hh)),
   (fun _ => by simp [Env.get]),
   (fun hh => by simpa [Env.get] using h.h2 (by simpa [up] using hh)),
   (fun hh => by simpa [Env.get] using h.h3 (by simpa [up] using hh)),
   (fun hh => by simpa [Env.get] using h.h4 (by simpa [up] using hh)),
   (fun hh => by simpa [Env.get] using h.h5 (by simpa [up] using hh)),
   (fun h1 h2 => by simpa [Env.get] using h.h6 (by simpa [up] using h1) (by simpa [up] using h2)),
   (fun hh => by simpa [Env.get] using h.h7 (by simpa [up] using hh))⟩
theorem J9.s2 (h : J9 w0 hb qb bz B7 vh vr ov ws L K w) : J9 w0 hb qb bz B7 vh vr ov ws (up L 2) ((24, .agg #[vh, vr]) :: K) w :=
  ⟨(h.ext),
   (by simpa [Env.get] using h.e0),
   (by simpa [Env.get] using h.e1),
   (by simpa [Env.get] using h.e2),
   (by simpa [Env.get] using h.e7),
   (fun hh => by simpa [Env.get] using h.h0 (by simpa [up] using hh)),
   (fun hh => by simpa [Env.get] using h.h1 (by simpa [up] using hh)),
   (fun _ => by simp [Env.get]),
   (fun hh => by simpa [Env.get] using h.h3 (by simpa [up] using hh)),
   (fun hh => by simpa [Env.get] using h.h4 (by simpa [up] using hh)),
   (fun hh => by simpa [Env.get] using h.h5 (by simpa [up] using hh)),
   (fun h1 h2 => by simpa [Env.get] using h.h6 (by simpa [up] using h1) (by simpa [up] using h2)),
   (fun hh => by simpa [Env.get] using h.h7 (by simpa [up] using hh))⟩
theorem J9.s3 (h : J9 w0 hb qb bz B7 vh vr ov ws L K w) : J9 w0 hb qb bz B7 vh vr ov ws (up L 3) ((25, .pointer (some ⟨B7, 3, none⟩)) :: K) w :=
  ⟨(h.ext),
   (by simpa [Env.get] using h.e0),
   (by simpa [Env.get] using h.e1),
   (by simpa [Env.get] using h.e2),
   (by simpa [Env.get] using h.e7),
   (fun hh => by simpa [Env.get] using h.h0 (by simpa [up] using hh)),
   (fun hh => by simpa [Env.get] using h.h1 (by simpa [up] using hh)),
   (fun hh => by simpa [Env.get] using h.h2 (by simpa [up] using hh)),
   (fun _ => by simp [Env.get]),
   (fun hh => by simpa [Env.get] using h.h4 (by simpa [up] using hh)),
   (fun hh => by simpa [Env.get] using h.h5 (by simpa [up] using hh)),
   (fun h1 h2 => by simpa [Env.get] using h.h6 (by simpa [up] using h1) (by simpa [up] using h2)),
   (fun hh => by simpa [Env.get] using h.h7 (by simpa [up] using hh))⟩
theorem J9.s4 (h : J9 w0 hb qb bz B7 vh vr ov ws L K w) : J9 w0 hb qb bz B7 vh vr ov ws (up L 4) ((26, ov) :: K) w :=
  ⟨(h.ext),
   (by simpa [Env.get] using h.e0),
   (by simpa [Env.get] using h.e1),
   (by simpa [Env.get] using h.e2),
   (by simpa [Env.get] using h.e7),
   (fun hh => by simpa [Env.get] using h.h0 (by simpa [up] using hh)),
   (fun hh => by simpa [Env.get] using h.h1 (by simpa [up] using hh)),
   (fun hh => by simpa [Env.get] using h.h2 (by simpa [up] using hh)),
   (fun hh => by simpa [Env.get] using h.h3 (by simpa [up] using hh)),
   (fun _ => by simp [Env.get]),
   (fun hh => by simpa [Env.get] using h.h5 (by simpa [up] using hh)),
   (fun h1 h2 => by simpa [Env.get] using h.h6 (by simpa [up] using h1) (by simpa [up] using h2)),
   (fun hh => by simpa [Env.get] using h.h7 (by simpa [up] using hh))⟩
theorem J9.s5 {ph pr : Value} (h : J9 w0 hb qb bz B7 vh vr ov ws L K w) (he : Ext w w') (hp : PW w0 w' ph pr ws) : J9 w0 hb qb bz B7 vh vr ov ws (up L 5) ((27, .agg #[ph, pr]) :: K) w' :=
  ⟨(h.ext.trans he),
   (by simpa [Env.get] using h.e0),
   (by simpa [Env.get] using h.e1),
   (by simpa [Env.get] using h.e2),
   (by simpa [Env.get] using h.e7),
   (fun hh => by simpa [Env.get] using h.h0 (by simpa [up] using hh)),
   (fun hh => by simpa [Env.get] using h.h1 (by simpa [up] using hh)),
   (fun hh => by simpa [Env.get] using h.h2 (by simpa [up] using hh)),
   (fun hh => by simpa [Env.get] using h.h3 (by simpa [up] using hh)),
   (fun hh => by simpa [Env.get] using h.h4 (by simpa [up] using hh)),
   (fun _ => ⟨ph, pr, by simp [Env.get], hp⟩),
   (fun h1 h2 => by
     obtain ⟨B, q1, q2, q3⟩ := h.h6 (by simpa [up] using h1) (by simpa [up] using h2)
     exact ⟨B, by simpa [Env.get] using q1, q2, q3.ext he⟩),
   (fun h1 => by
     obtain ⟨B, ph, pr, q1, q2, q3, q4⟩ := h.h7 (by simpa [up] using h1)
     exact ⟨B, ph, pr, by simpa [Env.get] using q1, q2, q3.ext he, q4.ext he⟩)⟩
theorem J9.s6 (h : J9 w0 hb qb bz B7 vh vr ov ws L K w) (hL : L 7 = false) (he : Ext w w') (hb' : Blk w' w.heap.size [.slice none 0 0, .slice none 0 0] 32) : J9 w0 hb qb bz B7 vh vr ov ws (up L 6) ((9, ptrOf w.heap.size) :: K) w' :=
  ⟨(h.ext.trans he),
   (by simpa [Env.get] using h.e0),
   (by simpa [Env.get] using h.e1),
   (by simpa [Env.get] using h.e2),
   (by simpa [Env.get] using h.e7),
   (fun hh => by simpa [Env.get] using h.h0 (by simpa [up] using hh)),
   (fun hh => by simpa [Env.get] using h.h1 (by simpa [up] using hh)),
   (fun hh => by simpa [Env.get] using h.h2 (by simpa [up] using hh)),
   (fun hh => by simpa [Env.get] using h.h3 (by simpa [up] using hh)),
   (fun hh => by simpa [Env.get] using h.h4 (by simpa [up] using hh)),
   (fun h1 => by
     obtain ⟨ph, pr, q1, q2⟩ := h.h5 (by simpa [up] using h1)
     exact ⟨ph, pr, by simpa [Env.get] using q1, q2.ext he⟩),
   (fun _ _ => ⟨w.heap.size, by simp [Env.get], h.ext.size, hb'⟩),
   (fun h1 => by rw [up_ne (by decide), hL] at h1; cases h1)⟩
theorem J9.s7 {B : Nat} {ph pr : Value} {cs : List Value} (h : J9 w0 hb qb bz B7 vh vr ov ws L K w) (hk : K.get 9 = some (ptrOf B)) (hB : w0.heap.size ≤ B) (hz : Blk w B cs 32) (hp : PW w0 w ph pr ws) (hc : Chg (· = B) w w') (hb' : Blk w' B [ph, pr] 32) : J9 w0 hb qb bz B7 vh vr ov ws (up L 7) K w' :=
  ⟨(h.ext.chg_trans hc (fun k hk => by omega)),
   (h.e0),
   (h.e1),
   (h.e2),
   (h.e7),
   (fun hh => h.h0 (by simpa [up] using hh)),
   (fun hh => h.h1 (by simpa [up] using hh)),
   (fun hh => h.h2 (by simpa [up] using hh)),
   (fun hh => h.h3 (by simpa [up] using hh)),
   (fun hh => h.h4 (by simpa [up] using hh)),
   (fun h1 => by
     obtain ⟨ph', pr', q1, q2⟩ := h.h5 (by simpa [up] using h1)
     exact ⟨ph', pr', q1, owns_chg' q2.1 hc (fun k hk e => owns_ty q2.1 hz (by decide) (e ▸ hk)), owns_chg' q2.2.1 hc (fun k hk e => owns_ty q2.2.1 hz (by decide) (e ▸ hk)), q2.2.2⟩),
   (fun _ h2 => by rw [up_self] at h2; cases h2),
   (fun _ => ⟨B, ph, pr, hk, hB, hb', owns_chg' hp.1 hc (fun k hk e => owns_ty hp.1 hz (by decide) (e ▸ hk)), owns_chg' hp.2.1 hc (fun k hk e => owns_ty hp.2.1 hz (by decide) (e ▸ hk)), hp.2.2⟩)⟩

end

/-- Operations that leave known values, and what holds of the world. -/
structure JS (slots : List (Option Nat)) (vals : List (Option Value)) (E0 : Env) (Q : (Nat → Bool) → World → Prop) (L : Nat → Bool) (K : Env) (w : World) : Prop where
  env : ∀ s v, E0.get s = some v → K.get s = some v
  simple : ∀ (i s : Nat) (v : Value), slots[i]? = some (some s) → vals[i]? = some (some v) → L i = true → K.get s = some v
  q : Q L w
theorem JS.step {slots : List (Option Nat)} {vals : List (Option Value)} {E0 : Env} {Q : (Nat → Bool) → World → Prop} {L : Nat → Bool} {K : Env} {w w' : World} (inj : injB slots = true) (free : freeB slots (E0.map Prod.fst) = true)
    (h : JS slots vals E0 Q L K w) {j s : Nat} {v : Value} (hs : slots[j]? = some (some s)) (hv : vals[j]? = some (some v)) (hq : Q (up L j) w') : JS slots vals E0 Q (up L j) ((s, v) :: K) w' := by
  refine ⟨fun s' v' h' => ?_, fun i s' v' h1 h2 h3 => ?_, hq⟩
  · rw [get_ne (fun e => by subst e; have := freeB_iff free _ _ hs; rw [h'] at this; cases this)]
    exact h.env _ _ h'
  · by_cases e : i = j
    · subst e
      rw [hs] at h1; cases h1
      rw [hv] at h2; cases h2
      exact get_self
    · rw [get_ne (show s' ≠ s from fun e' => e (injB_iff inj _ _ _ h1 (e' ▸ hs)))]
      exact h.simple _ _ _ h1 h2 (by rwa [up_ne e] at h3)
/-- Setting in both heaps, one behind the other. -/
def Q2 (w3 : World) (hb rb qb : Nat) (H H' : List Ob) (F1 F2 : Nat → Prop) (p1 p2 : Nat) (L : Nat → Bool) (w : World) : Prop :=
  Chg (fun k => F1 k ∨ F2 k) w3 w ∧ (L p1 = false → L p2 = false → HeapW w hb rb H F1) ∧ (L p2 = false → RHeapW w qb H F2) ∧
  (L p1 = true → ∃ F1', HeapW w hb rb H' F1' ∧ (∀ k, F1' k → F1 k ∨ w3.heap.size ≤ k) ∧ (∀ k, F1' k → k < w.heap.size) ∧
    (L p2 = true → ∃ F2', RHeapW w qb H' F2' ∧ (∀ k, F2' k → F2 k ∨ w3.heap.size ≤ k) ∧ (∀ k, F2' k → k < w.heap.size) ∧ (∀ k, F1' k → w3.heap.size ≤ k → ¬ F2' k)))
theorem Q2.keep {w3 w : World} {hb rb qb : Nat} {H H' : List Ob} {F1 F2 : Nat → Prop} {p1 p2 : Nat} {L : Nat → Bool} {j : Nat} (h : Q2 w3 hb rb qb H H' F1 F2 p1 p2 L w) (h1 : p1 ≠ j) (h2 : p2 ≠ j) : Q2 w3 hb rb qb H H' F1 F2 p1 p2 (up L j) w := by
  unfold Q2 at h ⊢
  rw [up_ne h1, up_ne h2]
  exact h

-- -- function 9
set_option maxHeartbeats 8000000 in
set_option maxRecDepth 8000 in
theorem act_ok (w : World) (hb rb qb bz : Nat) (H : List Ob) (l : List Wd) (F : Nat → Prop) (hSt : St w hb rb qb bz H l F) (mk : Nat) (hg : Glob w mk) (hgF : ¬ F 0 ∧ ¬ F 1 ∧ ¬ F mk) (S : Nat → Prop) (r : List Value) (a : ActD) (hr : ActR w S r a) (hSF : ∀ k, S k → ¬ F k ∧ k < w.heap.size) (hF : ∀ k, F k → k < w.heap.size)
    (hd : a.d = 0 ∨ a.d = 1 ∨ a.d = 2) (hl : H.length + cntV a.v + 1 ≤ 1048576) (hll : l.length ≤ 100000) (hof : a.of.length ≤ 100000) (hLim : ∀ x, (argsOf H x).length ≤ 1048576) :
    Rets Tryz.prog 9 [ptrOf hb, ptrOf qb, ptrOf bz, .agg r.toArray] w (fun v w' => v = .bool true ∧ Chg F w w' ∧ ∃ F', St w' hb rb qb bz (actH H l a) (actL H l a) F' ∧ ∀ k, F' k → F k ∨ (w.heap.size ≤ k ∧ k < w'.heap.size)) := by
  have hr11 := hr.len
  obtain ⟨F1, F2, vh, vr, hS, hFt, hFrb⟩ := hSt
  obtain ⟨ov, vrow, hrr, hov1, hov, hvr⟩ := id hr
  have hv4 := (VRowS.row _ _ hvr).len
  obtain ⟨one1, cel1, -⟩ := owns_one hS.oh
  obtain ⟨one2, cel2, -⟩ := owns_one hS.or
  have hlh := hS.slh (by omega)
  have hlr := hS.slr (by omega)
  refine rets_of_ok Tryz.func9 rfl rfl ?_
  refine ok_seq (fun M hM => ok_region rfl ?_)
  repeat ((try subst X); (first | (first | apply zL | apply zH | apply zE); intro X hX | apply zl | apply zh | apply ze); try simp only [zU, reduceIte, Nat.reduceEqDiff, Nat.reduceAdd, reduceCtorEq, Q9])
  refine Runs.box (fun w1 he1 hz1 hb1 => ?_)
  generalize hB7 : w.heap.size = B7 at hz1 hb1
  simp only [Value.cells] at hb1
  repeat ((try subst X); (first | (first | apply zL | apply zH | apply zE); intro X hX | apply zl | apply zh | apply ze); try simp only [zU, reduceIte, Nat.reduceEqDiff, Nat.reduceAdd, reduceCtorEq, Q9])
  refine hM _ _ _ ?_; clear hM M
  have hS1 := hS.ext he1
  have c0 : w1.cell? ⟨B7, 0, none⟩ = some (.int .i64 a.d) := hb1.cell (by simp [hrr])
  have c1 : w1.cell? ⟨B7, 1, none⟩ = some (.int .i64 a.k) := hb1.cell (by simp [hrr])
  have c2 : w1.cell? ⟨B7, 2, none⟩ = some (.int .i64 a.n) := hb1.cell (by simp [hrr])
  have c3 : w1.cell? ⟨B7, 3, none⟩ = some ov := hb1.cell (by simp [hrr])
  have c4 : cellsAt w1 ⟨B7, 4, none⟩ vrow := hb1.cells (o := 4) (fun j u hj => by
    have hj4 := (List.getElem?_eq_some_iff.1 hj).1
    simp only [hrr]
    rw [List.append_assoc, List.getElem?_append_right (by simp)]
    simp only [List.length_cons, List.length_nil, Nat.zero_add]
    rw [show 4 + j - 4 = j by omega, List.getElem?_append_left hj4]
    exact hj)
  have hlh1 := hlh.ext he1
  have hlr1 := hlr.ext he1
  have hov1' : SlI w1 ov a.of := SliS.sli (SliS.chg hov (he1.chg (fun _ => False)) (fun k hk => ⟨hk, id⟩))
  have hB7l := hb1.lt
  refine ok_seq (fun M hM => ?_)
  refine ok_anyC (J9 w1 hb qb bz B7 vh vr ov (pickF l a.of)) Fx.mixed (by decide) (by decide +kernel) [(0, ptrOf hb), (1, ptrOf qb), (2, ptrOf bz), (7, ptrOf B7)] (by simp [sub, Env.get]) ?_ ?_ ?_
  · exact ⟨Ext.drew _, rfl, rfl, rfl, rfl, fun h => (by cases h), fun h => (by cases h), fun h => (by cases h), fun h => (by cases h), fun h => (by cases h), fun h => (by cases h), fun h => (by cases h), fun h => (by cases h)⟩
  · intro L K w' j o hJ hcl ho hLj hn
    have hj : j < 8 := by have := (List.getElem?_eq_some_iff.1 ho).1; simpa using this
    have hjj : j = 0 ∨ j = 1 ∨ j = 2 ∨ j = 3 ∨ j = 4 ∨ j = 5 ∨ j = 6 ∨ j = 7 := by omega
    rcases hjj with rfl | rfl | rfl | rfl | rfl | rfl | rfl | rfl <;> simp only [List.getElem?_cons_zero, List.getElem?_cons_succ, Option.some.injEq] at ho <;> subst ho
    · simp only [wpL, opF, ev, hJ.e2]; exact hJ.s0
    · have f := hJ.h0 (hn 0 (by simp [needs, Region.binds]))
      simp only [wpL, opF, ev, f]; exact hJ.s1
    · have f := hJ.h1 (hn 1 (by simp [needs, Region.binds]))
      simp only [wpL, opF, ev, f, Fx.ag32]
      exact ⟨[vh, vr], rfl, ((hS1.ext hJ.ext).z).cells (o := 0) (fun j u hj => by simpa using hj), hJ.s2⟩
    · simp only [wpL, opF, ev, hJ.e7, Fx.fo40_3, add_at]; exact hJ.s3
    · have f := hJ.h3 (hn 3 (by simp [needs, Region.binds]))
      simp only [wpL, opF, ev, f, Fx.ag33]
      exact ⟨_, hJ.ext.cell c3, hJ.s4⟩
    · have f := hJ.h2 (hn 2 (by simp [needs, Region.binds]))
      have f2 := hJ.h4 (hn 4 (by simp [needs, Region.binds]))
      simp only [wpL, opF, evs, ev, f, f2]
      refine Inv.call Fx.en11 (pick_ok w' vh vr ov l a.of (hlh1.ext hJ.ext) (hlr1.ext hJ.ext) (Sli.ext hov1' hJ.ext) (by omega) (by omega)) ?_
      rintro v w3 ⟨he3, ph, pr, rfl, g1, g2, g3, g4⟩
      exact hJ.s5 he3 ⟨g1, g2, fun k hk => by have := (g3 k hk).1; have := hJ.ext.size; omega, fun k hk => by have := g4 k hk; have := hJ.ext.size; omega⟩
    · simp only [wpL, opF]
      refine Runs.alloc Fx.zi32 (fun w3 he3 hs3 hb3 => ?_)
      exact hJ.s6 (hcl.no (j := 7) (k := 6) rfl (by simp [needs, Region.binds]) hLj) he3 hb3
    · obtain ⟨ph, pr, f, hp⟩ := hJ.h5 (hn 5 (by simp [needs, Region.binds]))
      obtain ⟨B, q1, q2, q3⟩ := hJ.h6 (hn 6 (by simp [needs, Region.binds])) hLj
      obtain ⟨o1, o2, -⟩ := owns_one hp.1
      obtain ⟨o3, o4, -⟩ := owns_one hp.2.1
      simp only [wpL, opF, ev, f, q1]
      refine Runs.store q3 Fx.zi32 rfl (by intro u hu; simp [Value.cells] at hu; rcases hu with rfl | rfl; exact o1; exact o3) (by simp) (fun w3 hc3 hs3 hb3 => ?_)
      rw [splice_all _ _ (by simp [Value.cells])] at hb3
      exact hJ.s7 q1 q2 q3 hp hc3 hb3
  intro K w3 hJ
  obtain ⟨B9, ph, pr, k9, hB9, hb9, hPW⟩ := hJ.h7 (by rfl)
  have he13 := hJ.ext
  have k0 := hJ.e0
  have k1 := hJ.e1
  have k2 := hJ.e2
  have k7 := hJ.e7
  clear hJ
  try simp only [zW, zU, reduceIte, Nat.reduceEqDiff, Nat.reduceAdd, reduceCtorEq, Q9]
  refine hM _ _ _ ?_; clear hM M
  refine ok_less [(0, ptrOf hb), (1, ptrOf qb), (2, ptrOf bz), (7, ptrOf B7), (9, ptrOf B9)] (by simp only [sub, and_true]; exact ⟨k0, k1, k2, k7, k9⟩) ?_
  clear k0 k1 k2 k7 k9
  have he03 := he1.trans he13
  have hs03 := he03.size
  have hS3 := hS1.ext he13
  have hr3 : ActR w3 S r a := hr.chg (he03.chg (fun _ => False)) (fun k hk => ⟨hk, id⟩)
  have hpl : (pickF l a.of).length ≤ 100000 := by unfold pickF; split <;> simp <;> omega
  have hwh : SlW w3 ph (pickF l a.of) := Sli.of_own hPW.1 rfl (fun r hr => (words_rows _ r hr).1) (by simp) (by omega)
  have hwr : SlW w3 pr (pickF l a.of) := Sli.of_own hPW.2.1 rfl (fun r hr => (words_rows _ r hr).1) (by simp) (by omega)
  have hb93 := hb9
  have hb9l := hb9.lt
  have hg3 := hg.ext he03
  have c0' := he13.cell c0
  have c1' := he13.cell c1
  have c2' := he13.cell c2
  have c4' := he13.cellsAt c4
  have hb73 := hb1.ext he13
  have hvr3 : VRowS w3 S vrow a.v := VRowS.ext hvr he03
  have hnS : ∀ k, S k → ¬ F1 k ∧ ¬ F2 k := fun k hk => ⟨fun h => (hSF k hk).1 (hFt k (.inl h)), fun h => (hSF k hk).1 (hFt k (.inr (.inl h)))⟩
  have hF1l : ∀ k, F1 k → k < w.heap.size := hS.l1
  have hF2l : ∀ k, F2 k → k < w.heap.size := hS.l2
  have hngF1 : ¬ F1 0 ∧ ¬ F1 1 ∧ ¬ F1 mk := ⟨fun h => hgF.1 (hFt _ (.inl h)), fun h => hgF.2.1 (hFt _ (.inl h)), fun h => hgF.2.2 (hFt _ (.inl h))⟩
  clear hb1
  refine ok_seq (fun M0 hM0 => ?_)
  refine ok_seq (fun M hM => ok_region rfl ?_)
  repeat ((try subst X); (first | (first | apply zL | apply zH | apply zE); intro X hX | apply zl | apply zh | apply ze); try simp only [zU, reduceIte, Nat.reduceEqDiff, Nat.reduceAdd, reduceCtorEq, Q9])
  refine ⟨_, c0', ?_⟩
  repeat ((try subst X); (first | (first | apply zL | apply zH | apply zE); intro X hX | apply zl | apply zh | apply ze); try simp only [zU, reduceIte, Nat.reduceEqDiff, Nat.reduceAdd, reduceCtorEq, Q9])
  refine hM _ _ _ ?_; clear hM M
  refine ok_block ?_
  refine ok_seq (fun M hM => ok_region rfl ?_); repeat ((try subst X); (first | (first | apply zL | apply zH | apply zE); intro X hX | apply zl | apply zh | apply ze); try simp only [zU, reduceIte, Nat.reduceEqDiff, Nat.reduceAdd, reduceCtorEq, Q9])
  refine hM _ _ _ ?_; clear hM M
  refine ok_if rfl (fun hd0 => ?_) (fun hd0 => ?_)
  · -- storing
    have eH : actH H l a = (storeS H a.v).1 := by unfold actH; rw [if_pos hd0]
    have eL : actL H l a = l ++ [(storeS H a.v).2.1] := by unfold actL; rw [if_pos hd0]
    rw [eH, eL]
    clear eH eL
    refine ok_seq (fun M hM => ok_region rfl ?_)
    repeat ((try subst X); (first | (first | apply zL | apply zH | apply zE); intro X hX | apply zl | apply zh | apply ze); try simp only [zU, reduceIte, Nat.reduceEqDiff, Nat.reduceAdd, reduceCtorEq, Q9])
    refine ⟨vrow, hv4, c4', ?_⟩
    repeat ((try subst X); (first | (first | apply zL | apply zH | apply zE); intro X hX | apply zl | apply zh | apply ze); try simp only [zU, reduceIte, Nat.reduceEqDiff, Nat.reduceAdd, reduceCtorEq, Q9])
    refine Inv.call Fx.en19 (Store_ok a.v w3 S vrow mk hb rb H F1 hvr3 (fun k hk => ⟨(hnS k hk).1, by have := (hSF k hk).2; omega⟩) hg3 hngF1 hS3.hp (fun k hk => hS3.l1 k hk) (by omega)) ?_
    rintro v w4 ⟨rfl, hG4⟩
    obtain ⟨F1', hp4, hc4, hF1'⟩ := hS3.heap hG4
    generalize hHe : (storeS H a.v).1 = H' at hp4
    generalize hXe : (storeS H a.v).2.1 = x'
    generalize hEe : (storeS H a.v).2.2 = e'
    clear hG4
    have hs4 := hc4.size
    have out1 : ∀ k, w.heap.size ≤ k → ¬ F1 k := fun k hk h => by have := hF1l k h; omega
    repeat ((try subst X); (first | (first | apply zL | apply zH | apply zE); intro X hX | apply zl | apply zh | apply ze); try simp only [zU, reduceIte, Nat.reduceEqDiff, Nat.reduceAdd, reduceCtorEq, Q9])
    refine Runs.alloc Fx.zi38 (fun w5 he5 hs5 hb5 => ?_)
    generalize hB10 : w4.heap.size = B10 at hs5 hb5
    simp only [Value.cells] at hb5
    repeat ((try subst X); (first | (first | apply zL | apply zH | apply zE); intro X hX | apply zl | apply zh | apply ze); try simp only [zU, reduceIte, Nat.reduceEqDiff, Nat.reduceAdd, reduceCtorEq, Q9])
    refine Runs.store hb5 Fx.zi38 rfl (by intro u hu; simp [Value.cells, Wd.row] at hu; rcases hu with rfl | rfl | rfl <;> rfl) (by simp) (fun w6 hc6 hs6 hb6 => ?_)
    rw [splice_all _ _ (by simp [Value.cells])] at hb6
    simp only [Value.cells] at hb6
    have he46 : Ext w4 w6 := he5.chg_trans hc6 (fun i hi => by omega)
    have hr6 : RHeapW w6 qb H F2 := (hS3.rp.chg hc4 (fun k hk h1 => hS3.d12 k h1 hk)).ext he46
    repeat ((try subst X); (first | (first | apply zL | apply zH | apply zE); intro X hX | apply zl | apply zh | apply ze); try simp only [zU, reduceIte, Nat.reduceEqDiff, Nat.reduceAdd, reduceCtorEq, Q9])
    refine hM _ _ _ ?_; clear hM M
    refine ok_seq (fun M hM => ok_region rfl ?_)
    repeat ((try subst X); (first | (first | apply zL | apply zH | apply zE); intro X hX | apply zl | apply zh | apply ze); try simp only [zU, reduceIte, Nat.reduceEqDiff, Nat.reduceAdd, reduceCtorEq, Q9])
    refine ⟨vrow, hv4, he46.cellsAt (hc4.cellsAt c4' (out1 B7 (by omega))), ?_⟩
    repeat ((try subst X); (first | (first | apply zL | apply zH | apply zE); intro X hX | apply zl | apply zh | apply ze); try simp only [zU, reduceIte, Nat.reduceEqDiff, Nat.reduceAdd, reduceCtorEq, Q9])
    refine Inv.call Fx.en27 (rStore_ok a.v w6 S vrow qb H F2 (VRowS.ext (VRowS.chg hc4 (fun k hk => ⟨hk, (hnS k hk).1⟩) _ _ hvr3) he46) (fun k hk => ⟨(hnS k hk).2, by have := (hSF k hk).2; omega⟩) hr6 (fun k hk => by have := hF2l k hk; omega) (by omega)) ?_
    rintro v w7 ⟨rfl, hc7, F2', hr7, hF2'⟩
    rw [hHe] at hr7
    rw [hXe, hEe]
    have hs7 := hc7.size
    have out2 : ∀ k, w.heap.size ≤ k → ¬ F2 k := fun k hk h => by have := hF2l k h; omega
    repeat ((try subst X); (first | (first | apply zL | apply zH | apply zE); intro X hX | apply zl | apply zh | apply ze); try simp only [zU, reduceIte, Nat.reduceEqDiff, Nat.reduceAdd, reduceCtorEq, Q9])
    refine Runs.alloc Fx.zi75 (fun w8 he8 hs8 hb8 => ?_)
    generalize hB12 : w7.heap.size = B12 at hs8 hb8
    simp only [Value.cells] at hb8
    repeat ((try subst X); (first | (first | apply zL | apply zH | apply zE); intro X hX | apply zl | apply zh | apply ze); try simp only [zU, reduceIte, Nat.reduceEqDiff, Nat.reduceAdd, reduceCtorEq, Q9])
    refine Runs.store hb8 Fx.zi75 rfl (by intro u hu; simp [Value.cells, Wd.row] at hu; rcases hu with rfl | rfl | rfl <;> rfl) (by simp) (fun w9 hc9 hs9 hb9' => ?_)
    rw [splice_all _ _ (by simp [Value.cells])] at hb9'
    simp only [Value.cells] at hb9'
    have he79 : Ext w7 w9 := he8.chg_trans hc9 (fun i hi => by omega)
    repeat ((try subst X); (first | (first | apply zL | apply zH | apply zE); intro X hX | apply zl | apply zh | apply ze); try simp only [zU, reduceIte, Nat.reduceEqDiff, Nat.reduceAdd, reduceCtorEq, Q9])
    refine hM _ _ _ ?_; clear hM M
    have hp9 : HeapW w9 hb rb H' F1' := ((hp4.ext he46).chg hc7 (fun k hk h2 => by
      rcases hF1' k hk with h | h
      · exact hS3.d12 k h h2
      · exact out2 k (by omega) h2) hS3.nrb.2.1).ext he79
    have hr9 : RHeapW w9 qb H' F2' := hr7.ext he79
    have hc39 : Chg (fun k => F1 k ∨ F2 k) w3 w9 := (((hc4.mono fun k _ h => .inl h).trans (he46.chg _)).trans (hc7.mono fun k _ h => .inr h)).trans (he79.chg _)
    have hs39 := hc39.size
    have hs46 := he46.size
    have hs79 := he79.size
    have hS9 : StR w9 hb rb qb bz H' l F1' F2' vh vr := hS3.both hp9 hr9 hc39 (fun k hk => (hF1' k hk).imp id (fun h => by omega)) (fun k hk => (hF2' k hk).imp id (fun h => by omega)) (fun k hk h1 h2 => by
      rcases hF1' k h1 with h | h
      · exact out1 k (by omega) h
      · rcases hF2' k h2 with h' | h'
        · exact out2 k (by omega) h'
        · omega)
    have hb109 : Blk w9 B10 x'.row 38 := by
      have h1 : Blk w7 B10 _ 38 := hb6.chg hc7 (out2 _ (by omega))
      first | exact h1.ext he79 | (rw [hXe] at h1; exact h1.ext he79)
    refine ok_seq (fun M hM => ok_region rfl ?_)
    repeat ((try subst X); (first | (first | apply zL | apply zH | apply zE); intro X hX | apply zl | apply zh | apply ze); try simp only [zU, reduceIte, Nat.reduceEqDiff, Nat.reduceAdd, reduceCtorEq, Q9])
    refine ⟨x'.row, rfl, hb109.cells (o := 0) (fun j u hj => by simpa using hj), ?_⟩
    repeat ((try subst X); (first | (first | apply zL | apply zH | apply zE); intro X hX | apply zl | apply zh | apply ze); try simp only [zU, reduceIte, Nat.reduceEqDiff, Nat.reduceAdd, reduceCtorEq, Q9])
    refine ⟨x'.row, rfl, hb9'.cells (o := 0) (fun j u hj => by simpa [Wd.row] using hj), ?_⟩
    repeat ((try subst X); (first | (first | apply zL | apply zH | apply zE); intro X hX | apply zl | apply zh | apply ze); try simp only [zU, reduceIte, Nat.reduceEqDiff, Nat.reduceAdd, reduceCtorEq, Q9])
    refine Inv.call Fx.en28 (wadd_ok w9 bz vh vr l x' x' hS9.z hS9.oh hS9.or hS9.dz.1 hS9.dz.2 hS9.dv (by omega)) ?_
    rintro v w10 ⟨hc10, vh', vr', z1, z2, z3, z4, z5⟩
    have hS10 := hS9.add hc10 z1 z2 z3 z4 z5
    have hs10 := hc10.size
    have outz : ∀ k, w.heap.size ≤ k → ¬ (vh.ownBlock = some k ∨ vr.ownBlock = some k ∨ k = bz) := fun k hk h => by
      rcases h with h | h | h
      · have := (hS.oh.lt k h).2; omega
      · have := (hS.or.lt k h).2; omega
      · have := hS.z.lt; omega
    repeat ((try subst X); (first | (first | apply zL | apply zH | apply zE); intro X hX | apply zl | apply zh | apply ze); try simp only [zU, reduceIte, Nat.reduceEqDiff, Nat.reduceAdd, reduceCtorEq, Q9])
    refine hM _ _ _ ?_; clear hM M
    refine ok_seq (fun M hM => ok_region rfl ?_)
    repeat ((try subst X); (first | (first | apply zL | apply zH | apply zE); intro X hX | apply zl | apply zh | apply ze); try simp only [zU, reduceIte, Nat.reduceEqDiff, Nat.reduceAdd, reduceCtorEq, Q9])
    refine ⟨x'.row, rfl, (hb109.chg hc10 (outz _ (by omega))).cells (o := 0) (fun j u hj => by simpa using hj), ?_⟩
    repeat ((try subst X); (first | (first | apply zL | apply zH | apply zE); intro X hX | apply zl | apply zh | apply ze); try simp only [zU, reduceIte, Nat.reduceEqDiff, Nat.reduceAdd, reduceCtorEq, Q9])
    refine ⟨x'.row, rfl, (hb9'.chg hc10 (outz _ (by omega))).cells (o := 0) (fun j u hj => by simpa [Wd.row] using hj), ?_⟩
    repeat ((try subst X); (first | (first | apply zL | apply zH | apply zE); intro X hX | apply zl | apply zh | apply ze); try simp only [zU, reduceIte, Nat.reduceEqDiff, Nat.reduceAdd, reduceCtorEq, Q9])
    refine Runs.wdEq75 (a := x') (b := x') ?_
    simp only [and_self, decide_true]
    repeat ((try subst X); (first | (first | apply zL | apply zH | apply zE); intro X hX | apply zl | apply zh | apply ze); try simp only [zU, reduceIte, Nat.reduceEqDiff, Nat.reduceAdd, reduceCtorEq, Q9])
    refine hM _ _ _ ?_; clear hM M
    refine ok_ret ?_
    try simp only [zW, zU, reduceIte, Nat.reduceEqDiff, Nat.reduceAdd, reduceCtorEq, Q9]
    have hc3e : Chg (fun k => Ft F1 F2 bz vh vr k) w3 w10 := (hc39.mono fun k _ h => by rcases h with h | h; exact .inl h; exact .inr (.inl h)).trans (hc10.mono fun k _ h => by
      rcases h with h | h | h
      · exact .inr (.inr (.inr (.inl h)))
      · exact .inr (.inr (.inr (.inr h)))
      · exact .inr (.inr (.inl h)))
    rw [hHe, hXe]
    refine ⟨(he03.chg F).trans (hc3e.mono fun k _ h => hFt k h), Ft F1' F2' bz vh' vr', ⟨F1', F2', vh', vr', hS10, fun k hk => hk, fun h => ?_⟩, fun k hk => ?_⟩
    · rcases h with h | h | h | h | h
      · exact hS10.nrb.1 h
      · exact hS10.nrb.2.1 h
      · exact hS10.nrb.2.2.1 h
      · exact hS10.nrb.2.2.2.1 h
      · exact hS10.nrb.2.2.2.2 h
    · have hkl := hS10.lt k hk
      rcases hk with h | h | h | h | h
      · rcases hF1' k h with h | h
        · exact .inl (hFt k (.inl h))
        · exact .inr (by omega)
      · rcases hF2' k h with h | h
        · exact .inl (hFt k (.inr (.inl h)))
        · exact .inr (by omega)
      · exact .inl (hFt k (.inr (.inr (.inl h))))
      · rcases z4 with e | ⟨k', e, hk'⟩
        · rw [e] at h; exact .inl (hFt k (.inr (.inr (.inr (.inl h)))))
        · rw [e] at h; cases h; exact .inr (by omega)
      · rcases z5 with e | ⟨k', e, hk'⟩
        · rw [e] at h; exact .inl (hFt k (.inr (.inr (.inr (.inr h)))))
        · rw [e] at h; cases h; exact .inr (by omega)
  · refine ok_seq (fun M hM => ok_region rfl ?_); repeat ((try subst X); (first | (first | apply zL | apply zH | apply zE); intro X hX | apply zl | apply zh | apply ze); try simp only [zU, reduceIte, Nat.reduceEqDiff, Nat.reduceAdd, reduceCtorEq, Q9])
    refine hM _ _ _ ?_; clear hM M
    refine ok_if rfl (fun hd1 => ?_) (fun hd1 => ?_)
    · -- making
      have eH : actH H l a = (if makeE H a.k a.n (pickF l a.of) = 0 then (mkW H a.k a.n (pickF l a.of)).1 else H) := by unfold actH; rw [if_neg hd0, if_pos hd1]
      have eL : actL H l a = l ++ [(if makeE H a.k a.n (pickF l a.of) = 0 then (mkW H a.k a.n (pickF l a.of)).2 else ⟨0, 0, 0⟩)] := by unfold actL; rw [if_neg hd0, if_pos hd1]
      rw [eH, eL]
      clear eH eL
      refine ok_seq (fun M hM => ok_region rfl ?_)
      repeat ((try subst X); (first | (first | apply zL | apply zH | apply zE); intro X hX | apply zl | apply zh | apply ze); try simp only [zU, reduceIte, Nat.reduceEqDiff, Nat.reduceAdd, reduceCtorEq, Q9])
      refine ⟨_, c1', ?_⟩
      repeat ((try subst X); (first | (first | apply zL | apply zH | apply zE); intro X hX | apply zl | apply zh | apply ze); try simp only [zU, reduceIte, Nat.reduceEqDiff, Nat.reduceAdd, reduceCtorEq, Q9])
      refine ⟨_, c2', ?_⟩
      repeat ((try subst X); (first | (first | apply zL | apply zH | apply zE); intro X hX | apply zl | apply zh | apply ze); try simp only [zU, reduceIte, Nat.reduceEqDiff, Nat.reduceAdd, reduceCtorEq, Q9])
      refine ⟨_, hb93.cell (j := 0) rfl, ?_⟩
      repeat ((try subst X); (first | (first | apply zL | apply zH | apply zE); intro X hX | apply zl | apply zh | apply ze); try simp only [zU, reduceIte, Nat.reduceEqDiff, Nat.reduceAdd, reduceCtorEq, Q9])
      refine Inv.call Fx.en21 (Make_ok w3 hb rb H F1 hS3.hp (fun k hk => hS3.l1 k hk) (by omega) a.k a.n ph (pickF l a.of) hwh (by omega)) ?_
      rintro v w4 ⟨rfl, hG4⟩
      obtain ⟨F1', hp4, hc4, hF1'⟩ := hS3.heap hG4
      generalize hHe : (if makeE H a.k a.n (pickF l a.of) = 0 then (mkW H a.k a.n (pickF l a.of)).1 else H) = H' at hp4
      generalize hXe : (if makeE H a.k a.n (pickF l a.of) = 0 then (mkW H a.k a.n (pickF l a.of)).2 else ⟨0, 0, 0⟩) = x'
      generalize hEe : makeE H a.k a.n (pickF l a.of) = e'
      clear hG4
      have hs4 := hc4.size
      have out1 : ∀ k, w.heap.size ≤ k → ¬ F1 k := fun k hk h => by have := hF1l k h; omega
      repeat ((try subst X); (first | (first | apply zL | apply zH | apply zE); intro X hX | apply zl | apply zh | apply ze); try simp only [zU, reduceIte, Nat.reduceEqDiff, Nat.reduceAdd, reduceCtorEq, Q9])
      refine Runs.alloc Fx.zi38 (fun w5 he5 hs5 hb5 => ?_)
      generalize hB10 : w4.heap.size = B10 at hs5 hb5
      simp only [Value.cells] at hb5
      repeat ((try subst X); (first | (first | apply zL | apply zH | apply zE); intro X hX | apply zl | apply zh | apply ze); try simp only [zU, reduceIte, Nat.reduceEqDiff, Nat.reduceAdd, reduceCtorEq, Q9])
      refine Runs.store hb5 Fx.zi38 rfl (by intro u hu; simp [Value.cells, Wd.row] at hu; rcases hu with rfl | rfl | rfl <;> rfl) (by simp) (fun w6 hc6 hs6 hb6 => ?_)
      rw [splice_all _ _ (by simp [Value.cells])] at hb6
      simp only [Value.cells] at hb6
      have he46 : Ext w4 w6 := he5.chg_trans hc6 (fun i hi => by omega)
      have hr6 : RHeapW w6 qb H F2 := (hS3.rp.chg hc4 (fun k hk h1 => hS3.d12 k h1 hk)).ext he46
      repeat ((try subst X); (first | (first | apply zL | apply zH | apply zE); intro X hX | apply zl | apply zh | apply ze); try simp only [zU, reduceIte, Nat.reduceEqDiff, Nat.reduceAdd, reduceCtorEq, Q9])
      refine hM _ _ _ ?_; clear hM M
      refine ok_seq (fun M hM => ok_region rfl ?_)
      repeat ((try subst X); (first | (first | apply zL | apply zH | apply zE); intro X hX | apply zl | apply zh | apply ze); try simp only [zU, reduceIte, Nat.reduceEqDiff, Nat.reduceAdd, reduceCtorEq, Q9])
      refine ⟨_, he46.cell (hc4.cell c1' (out1 B7 (by omega))), ?_⟩
      repeat ((try subst X); (first | (first | apply zL | apply zH | apply zE); intro X hX | apply zl | apply zh | apply ze); try simp only [zU, reduceIte, Nat.reduceEqDiff, Nat.reduceAdd, reduceCtorEq, Q9])
      refine ⟨_, he46.cell (hc4.cell c2' (out1 B7 (by omega))), ?_⟩
      repeat ((try subst X); (first | (first | apply zL | apply zH | apply zE); intro X hX | apply zl | apply zh | apply ze); try simp only [zU, reduceIte, Nat.reduceEqDiff, Nat.reduceAdd, reduceCtorEq, Q9])
      refine ⟨_, he46.cell (hc4.cell (hb93.cell (j := 1) rfl) (out1 B9 (by omega))), ?_⟩
      repeat ((try subst X); (first | (first | apply zL | apply zH | apply zE); intro X hX | apply zl | apply zh | apply ze); try simp only [zU, reduceIte, Nat.reduceEqDiff, Nat.reduceAdd, reduceCtorEq, Q9])
      have hwr6 : SlW w6 pr (pickF l a.of) := Sli.of_own (owns_chg' (owns_chg' hPW.2.1 hc4 (fun k hk e => by have h1 := hF1l k e; have := hPW.2.2.2 k hk; omega)) (he46.chg (fun _ => False)) (fun _ _ => id)) rfl (fun r hr => (words_rows _ r hr).1) (by simp) (by omega)
      refine Inv.call Fx.en29 (rMake_ok w6 qb H F2 hr6 (fun k hk => by have := hF2l k hk; omega) (by omega) a.k a.n pr (pickF l a.of) hwr6 (by omega)) ?_
      rintro v w7 ⟨rfl, hc7, F2', hr7, hF2'⟩
      rw [hHe] at hr7
      rw [hXe, hEe]
      have hs7 := hc7.size
      have out2 : ∀ k, w.heap.size ≤ k → ¬ F2 k := fun k hk h => by have := hF2l k h; omega
      repeat ((try subst X); (first | (first | apply zL | apply zH | apply zE); intro X hX | apply zl | apply zh | apply ze); try simp only [zU, reduceIte, Nat.reduceEqDiff, Nat.reduceAdd, reduceCtorEq, Q9])
      refine Runs.alloc Fx.zi75 (fun w8 he8 hs8 hb8 => ?_)
      generalize hB12 : w7.heap.size = B12 at hs8 hb8
      simp only [Value.cells] at hb8
      repeat ((try subst X); (first | (first | apply zL | apply zH | apply zE); intro X hX | apply zl | apply zh | apply ze); try simp only [zU, reduceIte, Nat.reduceEqDiff, Nat.reduceAdd, reduceCtorEq, Q9])
      refine Runs.store hb8 Fx.zi75 rfl (by intro u hu; simp [Value.cells, Wd.row] at hu; rcases hu with rfl | rfl | rfl <;> rfl) (by simp) (fun w9 hc9 hs9 hb9' => ?_)
      rw [splice_all _ _ (by simp [Value.cells])] at hb9'
      simp only [Value.cells] at hb9'
      have he79 : Ext w7 w9 := he8.chg_trans hc9 (fun i hi => by omega)
      repeat ((try subst X); (first | (first | apply zL | apply zH | apply zE); intro X hX | apply zl | apply zh | apply ze); try simp only [zU, reduceIte, Nat.reduceEqDiff, Nat.reduceAdd, reduceCtorEq, Q9])
      refine hM _ _ _ ?_; clear hM M
      have hp9 : HeapW w9 hb rb H' F1' := ((hp4.ext he46).chg hc7 (fun k hk h2 => by
        rcases hF1' k hk with h | h
        · exact hS3.d12 k h h2
        · exact out2 k (by omega) h2) hS3.nrb.2.1).ext he79
      have hr9 : RHeapW w9 qb H' F2' := hr7.ext he79
      have hc39 : Chg (fun k => F1 k ∨ F2 k) w3 w9 := (((hc4.mono fun k _ h => .inl h).trans (he46.chg _)).trans (hc7.mono fun k _ h => .inr h)).trans (he79.chg _)
      have hs39 := hc39.size
      have hs46 := he46.size
      have hs79 := he79.size
      have hS9 : StR w9 hb rb qb bz H' l F1' F2' vh vr := hS3.both hp9 hr9 hc39 (fun k hk => (hF1' k hk).imp id (fun h => by omega)) (fun k hk => (hF2' k hk).imp id (fun h => by omega)) (fun k hk h1 h2 => by
        rcases hF1' k h1 with h | h
        · exact out1 k (by omega) h
        · rcases hF2' k h2 with h' | h'
          · exact out2 k (by omega) h'
          · omega)
      have hb109 : Blk w9 B10 x'.row 38 := by
        have h1 : Blk w7 B10 _ 38 := hb6.chg hc7 (out2 _ (by omega))
        first | exact h1.ext he79 | (rw [hXe] at h1; exact h1.ext he79)
      refine ok_seq (fun M hM => ok_region rfl ?_)
      repeat ((try subst X); (first | (first | apply zL | apply zH | apply zE); intro X hX | apply zl | apply zh | apply ze); try simp only [zU, reduceIte, Nat.reduceEqDiff, Nat.reduceAdd, reduceCtorEq, Q9])
      refine ⟨x'.row, rfl, hb109.cells (o := 0) (fun j u hj => by simpa using hj), ?_⟩
      repeat ((try subst X); (first | (first | apply zL | apply zH | apply zE); intro X hX | apply zl | apply zh | apply ze); try simp only [zU, reduceIte, Nat.reduceEqDiff, Nat.reduceAdd, reduceCtorEq, Q9])
      refine ⟨x'.row, rfl, hb9'.cells (o := 0) (fun j u hj => by simpa [Wd.row] using hj), ?_⟩
      repeat ((try subst X); (first | (first | apply zL | apply zH | apply zE); intro X hX | apply zl | apply zh | apply ze); try simp only [zU, reduceIte, Nat.reduceEqDiff, Nat.reduceAdd, reduceCtorEq, Q9])
      refine Inv.call Fx.en28 (wadd_ok w9 bz vh vr l x' x' hS9.z hS9.oh hS9.or hS9.dz.1 hS9.dz.2 hS9.dv (by omega)) ?_
      rintro v w10 ⟨hc10, vh', vr', z1, z2, z3, z4, z5⟩
      have hS10 := hS9.add hc10 z1 z2 z3 z4 z5
      have hs10 := hc10.size
      have outz : ∀ k, w.heap.size ≤ k → ¬ (vh.ownBlock = some k ∨ vr.ownBlock = some k ∨ k = bz) := fun k hk h => by
        rcases h with h | h | h
        · have := (hS.oh.lt k h).2; omega
        · have := (hS.or.lt k h).2; omega
        · have := hS.z.lt; omega
      repeat ((try subst X); (first | (first | apply zL | apply zH | apply zE); intro X hX | apply zl | apply zh | apply ze); try simp only [zU, reduceIte, Nat.reduceEqDiff, Nat.reduceAdd, reduceCtorEq, Q9])
      refine hM _ _ _ ?_; clear hM M
      refine ok_seq (fun M hM => ok_region rfl ?_)
      repeat ((try subst X); (first | (first | apply zL | apply zH | apply zE); intro X hX | apply zl | apply zh | apply ze); try simp only [zU, reduceIte, Nat.reduceEqDiff, Nat.reduceAdd, reduceCtorEq, Q9])
      refine ⟨x'.row, rfl, (hb109.chg hc10 (outz _ (by omega))).cells (o := 0) (fun j u hj => by simpa using hj), ?_⟩
      repeat ((try subst X); (first | (first | apply zL | apply zH | apply zE); intro X hX | apply zl | apply zh | apply ze); try simp only [zU, reduceIte, Nat.reduceEqDiff, Nat.reduceAdd, reduceCtorEq, Q9])
      refine ⟨x'.row, rfl, (hb9'.chg hc10 (outz _ (by omega))).cells (o := 0) (fun j u hj => by simpa [Wd.row] using hj), ?_⟩
      repeat ((try subst X); (first | (first | apply zL | apply zH | apply zE); intro X hX | apply zl | apply zh | apply ze); try simp only [zU, reduceIte, Nat.reduceEqDiff, Nat.reduceAdd, reduceCtorEq, Q9])
      refine Runs.wdEq75 (a := x') (b := x') ?_
      simp only [and_self, decide_true]
      repeat ((try subst X); (first | (first | apply zL | apply zH | apply zE); intro X hX | apply zl | apply zh | apply ze); try simp only [zU, reduceIte, Nat.reduceEqDiff, Nat.reduceAdd, reduceCtorEq, Q9])
      refine hM _ _ _ ?_; clear hM M
      refine ok_ret ?_
      try simp only [zW, zU, reduceIte, Nat.reduceEqDiff, Nat.reduceAdd, reduceCtorEq, Q9]
      have hc3e : Chg (fun k => Ft F1 F2 bz vh vr k) w3 w10 := (hc39.mono fun k _ h => by rcases h with h | h; exact .inl h; exact .inr (.inl h)).trans (hc10.mono fun k _ h => by
        rcases h with h | h | h
        · exact .inr (.inr (.inr (.inl h)))
        · exact .inr (.inr (.inr (.inr h)))
        · exact .inr (.inr (.inl h)))
      rw [hHe, hXe]
      refine ⟨(he03.chg F).trans (hc3e.mono fun k _ h => hFt k h), Ft F1' F2' bz vh' vr', ⟨F1', F2', vh', vr', hS10, fun k hk => hk, fun h => ?_⟩, fun k hk => ?_⟩
      · rcases h with h | h | h | h | h
        · exact hS10.nrb.1 h
        · exact hS10.nrb.2.1 h
        · exact hS10.nrb.2.2.1 h
        · exact hS10.nrb.2.2.2.1 h
        · exact hS10.nrb.2.2.2.2 h
      · have hkl := hS10.lt k hk
        rcases hk with h | h | h | h | h
        · rcases hF1' k h with h | h
          · exact .inl (hFt k (.inl h))
          · exact .inr (by omega)
        · rcases hF2' k h with h | h
          · exact .inl (hFt k (.inr (.inl h)))
          · exact .inr (by omega)
        · exact .inl (hFt k (.inr (.inr (.inl h))))
        · rcases z4 with e | ⟨k', e, hk'⟩
          · rw [e] at h; exact .inl (hFt k (.inr (.inr (.inr (.inl h)))))
          · rw [e] at h; cases h; exact .inr (by omega)
        · rcases z5 with e | ⟨k', e, hk'⟩
          · rw [e] at h; exact .inl (hFt k (.inr (.inr (.inr (.inr h)))))
          · rw [e] at h; cases h; exact .inr (by omega)
    · -- setting
      have hd2 : a.d = 2 := by omega
      have eL : actL H l a = l := by unfold actL; rw [if_neg hd0, if_neg hd1]
      rw [eL]
      refine ok_seq (fun M hM => ok_region rfl ?_); repeat ((try subst X); (first | (first | apply zL | apply zH | apply zE); intro X hX | apply zl | apply zh | apply ze); try simp only [zU, reduceIte, Nat.reduceEqDiff, Nat.reduceAdd, reduceCtorEq, Q9])
      refine hM _ _ _ ?_; clear hM M
      refine ok_if rfl (fun _ => ?_) (fun h => absurd hd2 h)
      obtain ⟨Ah, ch, hph, -, hch⟩ := id hwh
      obtain ⟨Ar, cr, hpr, -, hcr⟩ := id hwr
      rw [wd_len] at hph hpr
      refine ok_join [(0, ptrOf hb), (1, ptrOf qb), (2, ptrOf bz), (7, ptrOf B7), (9, ptrOf B9)] (fun w' => w' = w3 ∧ ¬ (pickF l a.of).length < 2) ?_ ?_
      · refine ok_seq (fun M hM => ok_region rfl ?_)
        repeat ((try subst X); (first | (first | apply zL | apply zH | apply zE); intro X hX | apply zl | apply zh | apply ze); try simp only [zU, reduceIte, Nat.reduceEqDiff, Nat.reduceAdd, reduceCtorEq, Q9])
        refine ⟨_, hb93.cell (j := 0) rfl, ?_⟩
        rw [hph]
        repeat ((try subst X); (first | (first | apply zL | apply zH | apply zE); intro X hX | apply zl | apply zh | apply ze); try simp only [zU, reduceIte, Nat.reduceEqDiff, Nat.reduceAdd, reduceCtorEq, Q9])
        refine hM _ _ _ ?_; clear hM M
        refine ok_if rfl (fun hlt => ?_) (fun hlt => ok_skip ?_)
        · refine ok_seq (fun M hM => ok_region rfl ?_); repeat ((try subst X); (first | (first | apply zL | apply zH | apply zE); intro X hX | apply zl | apply zh | apply ze); try simp only [zU, reduceIte, Nat.reduceEqDiff, Nat.reduceAdd, reduceCtorEq, Q9])
          refine hM _ _ _ ?_; clear hM M
          refine ok_ret ?_
          try simp only [zW, zU, reduceIte, Nat.reduceEqDiff, Nat.reduceAdd, reduceCtorEq, Q9]
          have hlt' : (pickF l a.of).length < 2 := by omega
          have eH : actH H l a = H := by unfold actH; rw [if_neg hd0, if_neg hd1, if_pos hlt']
          rw [eH]
          exact ⟨he03.chg F, F, ⟨F1, F2, vh, vr, hS3, hFt, hFrb⟩, fun k hk => .inl hk⟩
        · try simp only [zW, zU, reduceIte, Nat.reduceEqDiff, Nat.reduceAdd, reduceCtorEq, Q9]
          exact ⟨by simp [sub, Env.get], by omega⟩
      rintro w' ⟨rfl, hnlt⟩
      have eH : actH H l a = setH H ((pickF l a.of).getD 0 ⟨0, 0, 0⟩) a.n ((pickF l a.of).getD 1 ⟨0, 0, 0⟩) := by unfold actH; rw [if_neg hd0, if_neg hd1, if_neg hnlt]
      rw [eH]
      generalize hx0 : (pickF l a.of).getD 0 ⟨0, 0, 0⟩ = x0
      generalize hx1 : (pickF l a.of).getD 1 ⟨0, 0, 0⟩ = x1
      have hw0 : (pickF l a.of)[0]? = some x0 := by rw [← hx0, List.getD_eq_getElem?_getD, List.getElem?_eq_getElem (by omega : 0 < (pickF l a.of).length)]; rfl
      have hw1 : (pickF l a.of)[1]? = some x1 := by rw [← hx1, List.getD_eq_getElem?_getD, List.getElem?_eq_getElem (by omega : 1 < (pickF l a.of).length)]; rfl
      generalize hws : pickF l a.of = ws at *
      obtain ⟨gh, oh, rfl, hch0⟩ := hch 0 x0.row (by simp [hw0])
      obtain ⟨gh', oh', e1, hch1⟩ := hch 1 x1.row (by simp [hw1])
      cases e1
      obtain ⟨gr, or', rfl, hcr0⟩ := hcr 0 x0.row (by simp [hw0])
      obtain ⟨gr', or'', e2, hcr1⟩ := hcr 1 x1.row (by simp [hw1])
      cases e2
      have hgh : w1.heap.size ≤ gh := hPW.2.2.1 gh (by rw [hph]; rfl)
      have hgr : w1.heap.size ≤ gr := hPW.2.2.2 gr (by rw [hpr]; rfl)
      have out : ∀ k, w.heap.size ≤ k → ¬ (F1 k ∨ F2 k) := fun k hk h => by
        rcases h with h | h
        · have := hF1l k h; omega
        · have := hF2l k h; omega
      obtain ⟨E0, hE0⟩ : ∃ E0 : Env, E0 = [(0, ptrOf hb), (1, ptrOf qb), (2, ptrOf bz), (7, ptrOf B7), (9, ptrOf B9)] := ⟨_, rfl⟩
      obtain ⟨slots, hsl⟩ : ∃ slots : List (Option Nat), slots = [some 100, some 101, some 102, some 103, some 104, some 105, some 106, some 107, some 108, some 109, some 110, some 111, some 112, some 113, some 114, some 115, some 116, some 117, some 118, some 119, some 120, some 121, some 122, some 123, some 124, some 8] := ⟨_, rfl⟩
      obtain ⟨vals, hvl⟩ : ∃ vals : List (Option Value), vals = [some (ptrOf hb), some (.pointer (some ⟨B9, 0, none⟩)), some ph, some (.pointer (some ⟨gh, oh + 0 * 3, none⟩)), some (wv x0), some (.pointer (some ⟨B7, 2, none⟩)), some (.int .i64 a.n), some (.pointer (some ⟨B9, 0, none⟩)), some ph, some (.pointer (some ⟨gh, oh + 1 * 3, none⟩)), some (wv x1), some (.int .i64 (setE H x0 a.n x1)),
        some (ptrOf qb), some (.pointer (some ⟨B9, 1, none⟩)), some pr, some (.pointer (some ⟨gr, or' + 0 * 3, none⟩)), some (wv x0), some (.pointer (some ⟨B7, 2, none⟩)), some (.int .i64 a.n), some (.pointer (some ⟨B9, 1, none⟩)), some pr, some (.pointer (some ⟨gr, or' + 1 * 3, none⟩)), some (wv x1), some (.int .i64 (setE H x0 a.n x1)), some (.bool true), some (.bool true)] := ⟨_, rfl⟩
      have inj : injB slots = true := by subst hsl; rfl
      have free : freeB slots (E0.map Prod.fst) = true := by subst hsl; subst hE0; rfl
      refine ok_seq (fun M hM => ?_)
      refine ok_anyC (JS slots vals E0 (Q2 w' hb rb qb H (setH H x0 a.n x1) F1 F2 11 23)) Fx.mixed (by decide) (by decide +kernel) E0 (by subst hE0; simp [sub, Env.get]) ?_ ?_ ?_
      · exact ⟨fun s v h => h, fun i s v _ _ h => (by cases h), (Ext.drew _).chg _, fun _ _ => hS3.hp.ext (Ext.drew _), fun _ => hS3.rp.ext (Ext.drew _), fun h => (by cases h)⟩
      · intro L K wj j o hJ hcl ho hLj hn
        have hj : j < 26 := by have := (List.getElem?_eq_some_iff.1 ho).1; simpa using this
        have hcj := hJ.q.1
        have hjj : j = 0 ∨ j = 1 ∨ j = 2 ∨ j = 3 ∨ j = 4 ∨ j = 5 ∨ j = 6 ∨ j = 7 ∨ j = 8 ∨ j = 9 ∨ j = 10 ∨ j = 11 ∨ j = 12 ∨ j = 13 ∨ j = 14 ∨ j = 15 ∨ j = 16 ∨ j = 17 ∨ j = 18 ∨ j = 19 ∨ j = 20 ∨ j = 21 ∨ j = 22 ∨ j = 23 ∨ j = 24 ∨ j = 25 := by omega
        have kp : ∀ j, (11 : Nat) ≠ j → (23 : Nat) ≠ j → Q2 w' hb rb qb H (setH H x0 a.n x1) F1 F2 11 23 (up L j) wj := fun j h1 h2 => hJ.q.keep h1 h2
        rcases hjj with rfl | rfl | rfl | rfl | rfl | rfl | rfl | rfl | rfl | rfl | rfl | rfl | rfl | rfl | rfl | rfl | rfl | rfl | rfl | rfl | rfl | rfl | rfl | rfl | rfl | rfl <;> simp only [List.getElem?_cons_zero, List.getElem?_cons_succ, Option.some.injEq] at ho <;> subst ho
        · have f := hJ.env 0 _ (by rw [hE0]; rfl)
          simp only [wpL, opF, ev, f]
          exact hJ.step inj free (by rw [hsl]; rfl) (by rw [hvl]; rfl) (kp 0 (by decide) (by decide))
        · have f := hJ.env 9 _ (by rw [hE0]; rfl)
          simp only [wpL, opF, ev, f, Fx.fo32_0, add_at]
          exact hJ.step inj free (by rw [hsl]; rfl) (by rw [hvl]; rfl) (kp 1 (by decide) (by decide))
        · have f := hJ.simple 1 101 _ (by rw [hsl]; rfl) (by rw [hvl]; rfl) (hn 1 (by simp [needs, Region.binds]))
          simp only [wpL, opF, ev, f, Fx.ag29]
          exact ⟨_, hcj.cell (hb93.cell (j := 0) rfl) (out B9 (by omega)), hJ.step inj free (by rw [hsl]; rfl) (by rw [hvl]; rfl) (kp 2 (by decide) (by decide))⟩
        · have f := hJ.simple 2 102 _ (by rw [hsl]; rfl) (by rw [hvl]; rfl) (hn 2 (by simp [needs, Region.binds]))
          rw [hph] at f
          simp only [wpL, opF, ev, f, Fx.es29]
          refine ⟨by omega, by omega, ?_⟩
          simp only [add_at]
          exact hJ.step inj free (by rw [hsl]; rfl) (by rw [hvl]; rfl) (kp 3 (by decide) (by decide))
        · have f := hJ.simple 3 103 _ (by rw [hsl]; rfl) (by rw [hvl]; rfl) (hn 3 (by simp [needs, Region.binds]))
          simp only [wpL, opF, ev, f, Fx.ag38]
          exact ⟨x0.row, rfl, hcj.cellsAt hch0 (out gh (by omega)), hJ.step inj free (by rw [hsl]; rfl) (by rw [hvl]; rfl) (kp 4 (by decide) (by decide))⟩
        · have f := hJ.env 7 _ (by rw [hE0]; rfl)
          simp only [wpL, opF, ev, f, Fx.fo40_2, add_at]
          exact hJ.step inj free (by rw [hsl]; rfl) (by rw [hvl]; rfl) (kp 5 (by decide) (by decide))
        · have f := hJ.simple 5 105 _ (by rw [hsl]; rfl) (by rw [hvl]; rfl) (hn 5 (by simp [needs, Region.binds]))
          simp only [wpL, opF, ev, f, Fx.ag2]
          exact ⟨_, hcj.cell c2' (out B7 (by omega)), hJ.step inj free (by rw [hsl]; rfl) (by rw [hvl]; rfl) (kp 6 (by decide) (by decide))⟩
        · have f := hJ.env 9 _ (by rw [hE0]; rfl)
          simp only [wpL, opF, ev, f, Fx.fo32_0, add_at]
          exact hJ.step inj free (by rw [hsl]; rfl) (by rw [hvl]; rfl) (kp 7 (by decide) (by decide))
        · have f := hJ.simple 7 107 _ (by rw [hsl]; rfl) (by rw [hvl]; rfl) (hn 7 (by simp [needs, Region.binds]))
          simp only [wpL, opF, ev, f, Fx.ag29]
          exact ⟨_, hcj.cell (hb93.cell (j := 0) rfl) (out B9 (by omega)), hJ.step inj free (by rw [hsl]; rfl) (by rw [hvl]; rfl) (kp 8 (by decide) (by decide))⟩
        · have f := hJ.simple 8 108 _ (by rw [hsl]; rfl) (by rw [hvl]; rfl) (hn 8 (by simp [needs, Region.binds]))
          rw [hph] at f
          simp only [wpL, opF, ev, f, Fx.es29]
          refine ⟨by omega, by omega, ?_⟩
          simp only [add_at]
          exact hJ.step inj free (by rw [hsl]; rfl) (by rw [hvl]; rfl) (kp 9 (by decide) (by decide))
        · have f := hJ.simple 9 109 _ (by rw [hsl]; rfl) (by rw [hvl]; rfl) (hn 9 (by simp [needs, Region.binds]))
          simp only [wpL, opF, ev, f, Fx.ag38]
          exact ⟨x1.row, rfl, hcj.cellsAt hch1 (out gh (by omega)), hJ.step inj free (by rw [hsl]; rfl) (by rw [hvl]; rfl) (kp 10 (by decide) (by decide))⟩
        · have f0 := hJ.simple 0 100 _ (by rw [hsl]; rfl) (by rw [hvl]; rfl) (hn 0 (by simp [needs, Region.binds]))
          have f1 := hJ.simple 4 104 _ (by rw [hsl]; rfl) (by rw [hvl]; rfl) (hn 4 (by simp [needs, Region.binds]))
          have f2 := hJ.simple 6 106 _ (by rw [hsl]; rfl) (by rw [hvl]; rfl) (hn 6 (by simp [needs, Region.binds]))
          have f3 := hJ.simple 10 110 _ (by rw [hsl]; rfl) (by rw [hvl]; rfl) (hn 10 (by simp [needs, Region.binds]))
          have c23 : L 23 = false := hcl.no (j := 23) (k := 11) rfl (by simp [needs, Region.binds]) hLj
          simp only [wpL, opF, evs, ev, f0, f1, f2, f3]
          refine Inv.call Fx.en22 (Set_ok wj hb rb H F1 (hJ.q.2.1 hLj c23) (by omega) x0 a.n x1) ?_
          rintro v w5 ⟨rfl, hc5, F1', g1, g2⟩
          have hs5 := hc5.size
          have hsj := hcj.size
          refine hJ.step inj free (by rw [hsl]; rfl) (by rw [hvl]; rfl) ⟨hcj.trans (hc5.mono fun k _ h => .inl h), fun h => (by rw [up_self] at h; cases h), fun _ => (hJ.q.2.2.1 c23).chg hc5 (fun k hk h => hS3.d12 k h hk), fun _ => ⟨F1', g1, fun k hk => (g2 k hk).imp id (fun h => by omega), fun k hk => ?_, fun h => ?_⟩⟩
          · rcases g2 k hk with h | h
            · have := hF1l k h; omega
            · omega
          · rw [up_ne (by decide), c23] at h; cases h
        · have f := hJ.env 1 _ (by rw [hE0]; rfl)
          simp only [wpL, opF, ev, f]
          exact hJ.step inj free (by rw [hsl]; rfl) (by rw [hvl]; rfl) (kp 12 (by decide) (by decide))
        · have f := hJ.env 9 _ (by rw [hE0]; rfl)
          simp only [wpL, opF, ev, f, Fx.fo32_1, add_at]
          exact hJ.step inj free (by rw [hsl]; rfl) (by rw [hvl]; rfl) (kp 13 (by decide) (by decide))
        · have f := hJ.simple 13 113 _ (by rw [hsl]; rfl) (by rw [hvl]; rfl) (hn 13 (by simp [needs, Region.binds]))
          simp only [wpL, opF, ev, f, Fx.ag30]
          exact ⟨_, hcj.cell (hb93.cell (j := 1) rfl) (out B9 (by omega)), hJ.step inj free (by rw [hsl]; rfl) (by rw [hvl]; rfl) (kp 14 (by decide) (by decide))⟩
        · have f := hJ.simple 14 114 _ (by rw [hsl]; rfl) (by rw [hvl]; rfl) (hn 14 (by simp [needs, Region.binds]))
          rw [hpr] at f
          simp only [wpL, opF, ev, f, Fx.es30]
          refine ⟨by omega, by omega, ?_⟩
          simp only [add_at]
          exact hJ.step inj free (by rw [hsl]; rfl) (by rw [hvl]; rfl) (kp 15 (by decide) (by decide))
        · have f := hJ.simple 15 115 _ (by rw [hsl]; rfl) (by rw [hvl]; rfl) (hn 15 (by simp [needs, Region.binds]))
          simp only [wpL, opF, ev, f, Fx.ag75]
          exact ⟨x0.row, rfl, hcj.cellsAt hcr0 (out gr (by omega)), hJ.step inj free (by rw [hsl]; rfl) (by rw [hvl]; rfl) (kp 16 (by decide) (by decide))⟩
        · have f := hJ.env 7 _ (by rw [hE0]; rfl)
          simp only [wpL, opF, ev, f, Fx.fo40_2, add_at]
          exact hJ.step inj free (by rw [hsl]; rfl) (by rw [hvl]; rfl) (kp 17 (by decide) (by decide))
        · have f := hJ.simple 17 117 _ (by rw [hsl]; rfl) (by rw [hvl]; rfl) (hn 17 (by simp [needs, Region.binds]))
          simp only [wpL, opF, ev, f, Fx.ag2]
          exact ⟨_, hcj.cell c2' (out B7 (by omega)), hJ.step inj free (by rw [hsl]; rfl) (by rw [hvl]; rfl) (kp 18 (by decide) (by decide))⟩
        · have f := hJ.env 9 _ (by rw [hE0]; rfl)
          simp only [wpL, opF, ev, f, Fx.fo32_1, add_at]
          exact hJ.step inj free (by rw [hsl]; rfl) (by rw [hvl]; rfl) (kp 19 (by decide) (by decide))
        · have f := hJ.simple 19 119 _ (by rw [hsl]; rfl) (by rw [hvl]; rfl) (hn 19 (by simp [needs, Region.binds]))
          simp only [wpL, opF, ev, f, Fx.ag30]
          exact ⟨_, hcj.cell (hb93.cell (j := 1) rfl) (out B9 (by omega)), hJ.step inj free (by rw [hsl]; rfl) (by rw [hvl]; rfl) (kp 20 (by decide) (by decide))⟩
        · have f := hJ.simple 20 120 _ (by rw [hsl]; rfl) (by rw [hvl]; rfl) (hn 20 (by simp [needs, Region.binds]))
          rw [hpr] at f
          simp only [wpL, opF, ev, f, Fx.es30]
          refine ⟨by omega, by omega, ?_⟩
          simp only [add_at]
          exact hJ.step inj free (by rw [hsl]; rfl) (by rw [hvl]; rfl) (kp 21 (by decide) (by decide))
        · have f := hJ.simple 21 121 _ (by rw [hsl]; rfl) (by rw [hvl]; rfl) (hn 21 (by simp [needs, Region.binds]))
          simp only [wpL, opF, ev, f, Fx.ag75]
          exact ⟨x1.row, rfl, hcj.cellsAt hcr1 (out gr (by omega)), hJ.step inj free (by rw [hsl]; rfl) (by rw [hvl]; rfl) (kp 22 (by decide) (by decide))⟩
        · have f0 := hJ.simple 12 112 _ (by rw [hsl]; rfl) (by rw [hvl]; rfl) (hn 12 (by simp [needs, Region.binds]))
          have f1 := hJ.simple 16 116 _ (by rw [hsl]; rfl) (by rw [hvl]; rfl) (hn 16 (by simp [needs, Region.binds]))
          have f2 := hJ.simple 18 118 _ (by rw [hsl]; rfl) (by rw [hvl]; rfl) (hn 18 (by simp [needs, Region.binds]))
          have f3 := hJ.simple 22 122 _ (by rw [hsl]; rfl) (by rw [hvl]; rfl) (hn 22 (by simp [needs, Region.binds]))
          have c11 : L 11 = true := hn 11 (by simp [needs, Region.binds])
          obtain ⟨F1', g1, g2, g3, -⟩ := hJ.q.2.2.2 c11
          simp only [wpL, opF, evs, ev, f0, f1, f2, f3]
          have hsj := hcj.size
          refine Inv.call Fx.en30 (rSet_ok wj qb H F2 (hJ.q.2.2.1 hLj) (fun k hk => by have := hF2l k hk; omega) (by omega) hLim x0 x1 a.n) ?_
          rintro v w5 ⟨rfl, hc5, F2', g4, g5⟩
          have hs5 := hc5.size
          refine hJ.step inj free (by rw [hsl]; rfl) (by rw [hvl]; rfl) ⟨hcj.trans (hc5.mono fun k _ h => .inr h), fun _ h => (by rw [up_self] at h; cases h), fun h => (by rw [up_self] at h; cases h), fun _ => ⟨F1', g1.chg hc5 (fun k hk h => ?_) hS3.nrb.2.1, g2, fun k hk => by have := g3 k hk; omega, fun _ => ⟨F2', g4, fun k hk => (g5 k hk).imp id (fun h => by omega), fun k hk => ?_, fun k h1 h2 h3 => ?_⟩⟩⟩
          · rcases g2 k hk with h1 | h1
            · exact hS3.d12 k h1 h
            · exact out k (by omega) (.inr h)
          · rcases g5 k hk with h | h
            · have := hF2l k h; omega
            · omega
          · have h4 := g3 k h1
            rcases g5 k h3 with h | h
            · exact out k (by omega) (.inr h)
            · omega
        · have f := hJ.simple 11 111 _ (by rw [hsl]; rfl) (by rw [hvl]; rfl) (hn 11 (by simp [needs, Region.binds]))
          have f2 := hJ.simple 23 123 _ (by rw [hsl]; rfl) (by rw [hvl]; rfl) (hn 23 (by simp [needs, Region.binds]))
          simp only [wpL, opF, ev, f, f2, bvEql]
          refine ⟨trivial, ?_⟩
          simp only [decide_true]
          exact hJ.step inj free (by rw [hsl]; rfl) (by rw [hvl]; rfl) (kp 24 (by decide) (by decide))
        · have f := hJ.simple 24 124 _ (by rw [hsl]; rfl) (by rw [hvl]; rfl) (hn 24 (by simp [needs, Region.binds]))
          simp only [wpL, opF, ev, f]
          exact hJ.step inj free (by rw [hsl]; rfl) (by rw [hvl]; rfl) (kp 25 (by decide) (by decide))
      intro K w4 hJ
      obtain ⟨hc4, -, -, hq⟩ := hJ.q
      obtain ⟨F1', q1, q2, q3, hq2⟩ := hq rfl
      obtain ⟨F2', q4, q5, q6, q7⟩ := hq2 rfl
      have k8 : K.get 8 = some (.bool true) := hJ.simple 25 8 _ (by subst hsl; rfl) (by subst hvl; rfl) rfl
      clear hJ
      try simp only [zW, zU, reduceIte, Nat.reduceEqDiff, Nat.reduceAdd, reduceCtorEq, Q9]
      refine hM _ _ _ ?_; clear hM M
      refine ok_less [(8, .bool true)] (by simp only [sub, and_true]; exact k8) ?_
      refine ok_ret ?_
      try simp only [zW, zU, reduceIte, Nat.reduceEqDiff, Nat.reduceAdd, reduceCtorEq, Q9]
      have hs4 := hc4.size
      have hS4 : StR w4 hb rb qb bz (setH H x0 a.n x1) l F1' F2' vh vr := hS3.both q1 q4 hc4 (fun k hk => (q2 k hk).imp id (fun h => ⟨h, q3 k hk⟩)) (fun k hk => (q5 k hk).imp id (fun h => ⟨h, q6 k hk⟩)) (fun k h1 h2 h3 => q7 k h2 h1 h3)
      refine ⟨(he03.chg F).trans (hc4.mono fun k _ h => by rcases h with h | h; exact hFt k (.inl h); exact hFt k (.inr (.inl h))), Ft F1' F2' bz vh vr, ⟨F1', F2', vh, vr, hS4, fun k hk => hk, fun h => ?_⟩, fun k hk => ?_⟩
      · rcases h with h | h | h | h | h
        · exact hS4.nrb.1 h
        · exact hS4.nrb.2.1 h
        · exact hS4.nrb.2.2.1 h
        · exact hS4.nrb.2.2.2.1 h
        · exact hS4.nrb.2.2.2.2 h
      · have hkl := hS4.lt k hk
        rcases hk with h | h | h | h | h
        · rcases q2 k h with h | h
          · exact .inl (hFt k (.inl h))
          · exact .inr (by omega)
        · rcases q5 k h with h | h
          · exact .inl (hFt k (.inr (.inl h)))
          · exact .inr (by omega)
        · exact .inl (hFt k (.inr (.inr (.inl h))))
        · exact .inl (hFt k (.inr (.inr (.inr (.inl h)))))
        · exact .inl (hFt k (.inr (.inr (.inr (.inr h)))))
end Go.Proofs.YtldeokfhipjbfaaGreatDoor
/- Few: plays of few acts. -/
set_option linter.unusedVariables false
set_option linter.unusedSimpArgs false
namespace Go.Proofs.YtldeokfhipjbfaaGreatDoor
open Go Go.Proofs.Vg Go.RowKit

-- -- function 58
set_option maxHeartbeats 2000000 in
set_option maxRecDepth 8000 in
theorem indexFuncA_ok (w : World) (A : Option Addr) (n c : Nat) (fv : Value) (hn : n ≤ 140737488355328) (J : Nat → World → Prop) (Q : World → Prop)
    (h0 : J 0 w) (hp : ∀ i w', i < n → J i w' → ∃ row, row.length = 11 ∧ (∃ b o, A = some ⟨b, o, none⟩ ∧ cellsAt w' ⟨b, o + i * 11, none⟩ row) ∧ Inv Tryz.prog fv [.agg row.toArray] w' (callR (fun v w'' => ∃ b, v = .bool b ∧ (b = true → Q w'') ∧ (b = false → J (i + 1) w'')) fun _ _ => False)) :
    Rets Tryz.prog 58 [.slice A n c, fv] w (fun v w' => ∃ i : Int, v = .int .i64 i ∧ ((0 ≤ i ∧ Q w') ∨ (i < 0 ∧ J n w'))) := by
  refine rets_of_ok Tryz.func58 rfl rfl ?_
  refine ok_seq (fun M hM => ok_region rfl ?_); repeat ((try subst X); (first | (first | apply zL | apply zH | apply zE); intro X hX | apply zl | apply zh | apply ze); try simp only [zU, reduceIte, Nat.reduceEqDiff, Nat.reduceAdd, reduceCtorEq, Q58])
  refine hM _ _ _ ?_; clear hM M
  refine ok_seq (fun M0 hM0 => ?_)
  refine ok_seq (fun M hM => ok_region rfl ?_); repeat ((try subst X); (first | (first | apply zL | apply zH | apply zE); intro X hX | apply zl | apply zh | apply ze); try simp only [zU, reduceIte, Nat.reduceEqDiff, Nat.reduceAdd, reduceCtorEq, Q58])
  refine hM _ _ _ ?_; clear hM M
  refine ok_block ?_
  refine ok_loop (S := Nat) (fun k => [(0, .slice A n c), (1, fv), (7, .int .i64 (n : Int)), (8, .int .i64 (k : Int))]) (fun k w' => k ≤ n ∧ J k w') (fun k => n - k) 0 ?_ ?_ ?_
  · simp [sub, Env.get, argEnv]
  · exact ⟨Nat.zero_le _, h0⟩
  rintro k w' ⟨hk, hJ⟩
  refine ok_seq (fun M hM => ok_region rfl ?_); repeat ((try subst X); (first | (first | apply zL | apply zH | apply zE); intro X hX | apply zl | apply zh | apply ze); try simp only [zU, reduceIte, Nat.reduceEqDiff, Nat.reduceAdd, reduceCtorEq, Q58])
  refine hM _ _ _ ?_; clear hM M
  refine ok_seq (fun M hM => ok_if rfl (fun hc => ok_skip ?_) (fun hc => ok_exit ?_))
  · try simp only [zW, zU, reduceIte, Nat.reduceEqDiff, Nat.reduceAdd, reduceCtorEq, Q58]
    refine hM _ _ _ ?_; clear hM M
    have hkl : k < n := by omega
    obtain ⟨row, hrl, ⟨b, o, rfl, hcell⟩, hI⟩ := hp k w' hkl hJ
    refine ok_seq (fun M1 hM1 => ok_block ?_)
    refine ok_seq (fun M hM => ok_region rfl ?_); repeat ((try subst X); (first | (first | apply zL | apply zH | apply zE); intro X hX | apply zl | apply zh | apply ze); try simp only [zU, reduceIte, Nat.reduceEqDiff, Nat.reduceAdd, reduceCtorEq, Q58])
    refine hM _ _ _ ?_; clear hM M
    refine ok_seq (fun M hM => ok_region rfl ?_)
    repeat ((try subst X); (first | (first | apply zL | apply zH | apply zE); intro X hX | apply zl | apply zh | apply ze); try simp only [zU, reduceIte, Nat.reduceEqDiff, Nat.reduceAdd, reduceCtorEq, Q58])
    refine ⟨by omega, by omega, ?_⟩
    repeat ((try subst X); (first | (first | apply zL | apply zH | apply zE); intro X hX | apply zl | apply zh | apply ze); try simp only [zU, reduceIte, Nat.reduceEqDiff, Nat.reduceAdd, reduceCtorEq, Q58])
    refine ⟨row, hrl, hcell, ?_⟩
    repeat ((try subst X); (first | (first | apply zL | apply zH | apply zE); intro X hX | apply zl | apply zh | apply ze); try simp only [zU, reduceIte, Nat.reduceEqDiff, Nat.reduceAdd, reduceCtorEq, Q58])
    refine Inv.weaken hI (fun v w2 hv => ?_)
    obtain ⟨b', rfl, hb1, hb2⟩ := hv
    repeat ((try subst X); (first | (first | apply zL | apply zH | apply zE); intro X hX | apply zl | apply zh | apply ze); try simp only [zU, reduceIte, Nat.reduceEqDiff, Nat.reduceAdd, reduceCtorEq, Q58])
    refine hM _ _ _ ?_; clear hM M
    refine ok_cond rfl (fun hc => ?_) (fun hc => ok_skip ?_)
    · refine ok_seq (fun M hM => ok_region rfl ?_); repeat ((try subst X); (first | (first | apply zL | apply zH | apply zE); intro X hX | apply zl | apply zh | apply ze); try simp only [zU, reduceIte, Nat.reduceEqDiff, Nat.reduceAdd, reduceCtorEq, Q58])
      refine hM _ _ _ ?_; clear hM M
      refine ok_ret ?_
      try simp only [zW, zU, reduceIte, Nat.reduceEqDiff, Nat.reduceAdd, reduceCtorEq, Q58]
      exact ⟨(k : Int), rfl, .inl ⟨by omega, hb1 hc⟩⟩
    · try simp only [zW, zU, reduceIte, Nat.reduceEqDiff, Nat.reduceAdd, reduceCtorEq, Q58]
      refine hM1 _ _ _ ?_; clear hM1 M1
      refine ok_region rfl ?_
      repeat ((try subst X); (first | (first | apply zL | apply zH | apply zE); intro X hX | apply zl | apply zh | apply ze); try simp only [zU, reduceIte, Nat.reduceEqDiff, Nat.reduceAdd, reduceCtorEq, Q58])
      refine ⟨by simp only [inI]; omega, ?_⟩
      repeat ((try subst X); (first | (first | apply zL | apply zH | apply zE); intro X hX | apply zl | apply zh | apply ze); try simp only [zU, reduceIte, Nat.reduceEqDiff, Nat.reduceAdd, reduceCtorEq, Q58])
      exact ⟨k + 1, by simp [sub, Env.get], ⟨by omega, hb2 hc⟩, by omega⟩
  · try simp only [zW, zU, reduceIte, Nat.reduceEqDiff, Nat.reduceAdd, reduceCtorEq, Q58]
    refine hM0 _ _ _ ?_; clear hM0 M0 hM M
    refine ok_seq (fun M hM => ok_region rfl ?_); repeat ((try subst X); (first | (first | apply zL | apply zH | apply zE); intro X hX | apply zl | apply zh | apply ze); try simp only [zU, reduceIte, Nat.reduceEqDiff, Nat.reduceAdd, reduceCtorEq, Q58])
    refine hM _ _ _ ?_; clear hM M
    refine ok_ret ?_
    try simp only [zW, zU, reduceIte, Nat.reduceEqDiff, Nat.reduceAdd, reduceCtorEq, Q58]
    have hkn : k = n := by omega
    subst hkn
    exact ⟨-1, rfl, .inr ⟨by omega, hJ⟩⟩

-- -- function 23
set_option maxHeartbeats 2000000 in
set_option maxRecDepth 8000 in
theorem containsA_ok (w : World) (A : Option Addr) (n c : Nat) (fv : Value) (hn : n ≤ 140737488355328) (J : Nat → World → Prop) (Q : World → Prop)
    (h0 : J 0 w) (hp : ∀ i w', i < n → J i w' → ∃ row, row.length = 11 ∧ (∃ b o, A = some ⟨b, o, none⟩ ∧ cellsAt w' ⟨b, o + i * 11, none⟩ row) ∧ Inv Tryz.prog fv [.agg row.toArray] w' (callR (fun v w'' => ∃ b, v = .bool b ∧ (b = true → Q w'') ∧ (b = false → J (i + 1) w'')) fun _ _ => False)) :
    Rets Tryz.prog 23 [.slice A n c, fv] w (fun v w' => ∃ b, v = .bool b ∧ (b = true → Q w') ∧ (b = false → J n w')) := by
  refine rets_of_ok Tryz.func23 rfl rfl ?_
  refine ok_seq (fun M hM => ok_region rfl ?_); repeat ((try subst X); (first | (first | apply zL | apply zH | apply zE); intro X hX | apply zl | apply zh | apply ze); try simp only [zU, reduceIte, Nat.reduceEqDiff, Nat.reduceAdd, reduceCtorEq, Q23])
  refine hM _ _ _ ?_; clear hM M
  refine ok_seq (fun M hM => ok_region rfl ?_)
  repeat ((try subst X); (first | (first | apply zL | apply zH | apply zE); intro X hX | apply zl | apply zh | apply ze); try simp only [zU, reduceIte, Nat.reduceEqDiff, Nat.reduceAdd, reduceCtorEq, Q23])
  refine Inv.call Fx.en58 (indexFuncA_ok w A n c fv hn J Q h0 hp) ?_
  rintro v w' ⟨i, rfl, hi⟩
  repeat ((try subst X); (first | (first | apply zL | apply zH | apply zE); intro X hX | apply zl | apply zh | apply ze); try simp only [zU, reduceIte, Nat.reduceEqDiff, Nat.reduceAdd, reduceCtorEq, Q23])
  refine hM _ _ _ ?_; clear hM M
  refine ok_ret ?_
  try simp only [zW, zU, reduceIte, Nat.reduceEqDiff, Nat.reduceAdd, reduceCtorEq, Q23]
  rcases hi with ⟨h1, h2⟩ | ⟨h1, h2⟩
  · exact ⟨true, by simpa using h1, fun _ => h2, fun h => by cases h⟩
  · exact ⟨false, by simpa using h1, fun h => (by cases h), fun _ => h2⟩


def ActsR (w : World) (S : Nat → Prop) (v : Value) (acts : List ActD) : Prop :=
  ∃ A c, v = .slice A acts.length c ∧ acts.length ≤ 140737488355328 ∧ ∀ (j : Nat) (a : ActD), acts[j]? = some a → ∃ b o row, A = some ⟨b, o, none⟩ ∧ S b ∧ cellsAt w ⟨b, o + j * 11, none⟩ row ∧ ActR w S row a
theorem ActsR.chg {w w' : World} {S S' T : Nat → Prop} {v : Value} {acts : List ActD} (h : ActsR w S v acts) (hc : Chg T w w') (hs : ∀ k, S k → S' k ∧ ¬ T k) : ActsR w' S' v acts := by
  obtain ⟨A, c, h1, h2, h3⟩ := h
  refine ⟨A, c, h1, h2, fun j a ha => ?_⟩
  obtain ⟨b, o, row, h4, h5, h6, h7⟩ := h3 j a ha
  exact ⟨b, o, row, h4, (hs b h5).1, hc.cellsAt h6 (hs b h5).2, h7.chg hc hs⟩

-- -- function 24
set_option maxHeartbeats 4000000 in
set_option maxRecDepth 8000 in
theorem few24_ok (w : World) (S : Nat → Prop) (r : List Value) (a : ActD) (hr : ActR w S r a) (hS : ∀ k, S k → k < w.heap.size) :
    Rets Tryz.prog 24 [.agg r.toArray] w (fun v w' => ∃ b, v = .bool b ∧ Ext w w' ∧ (b = false → a.of.length ≤ 10 ∧ cntV a.v ≤ 40)) := by
  obtain ⟨ov, vrow, hrr, hov1, hov, hvr⟩ := id hr
  have hv4 := (VRowS.row _ _ hvr).len
  obtain ⟨Ao, co, rfl, hlo, hco⟩ := hov
  rw [ints_length] at hrr hlo
  refine rets_of_ok Tryz.func24 rfl rfl ?_
  refine ok_seq (fun M hM => ok_region rfl ?_)
  repeat ((try subst X); (first | (first | apply zL | apply zH | apply zE); intro X hX | apply zl | apply zh | apply ze); try simp only [zU, reduceIte, Nat.reduceEqDiff, Nat.reduceAdd, reduceCtorEq, Q24])
  refine Runs.box (fun w1 he1 hz1 hb1 => ?_)
  generalize hB7 : w.heap.size = B7 at hz1 hb1
  simp only [Value.cells] at hb1
  repeat ((try subst X); (first | (first | apply zL | apply zH | apply zE); intro X hX | apply zl | apply zh | apply ze); try simp only [zU, reduceIte, Nat.reduceEqDiff, Nat.reduceAdd, reduceCtorEq, Q24])
  refine hM _ _ _ ?_; clear hM M
  refine ok_seq (fun M hM => ok_region rfl ?_)
  repeat ((try subst X); (first | (first | apply zL | apply zH | apply zE); intro X hX | apply zl | apply zh | apply ze); try simp only [zU, reduceIte, Nat.reduceEqDiff, Nat.reduceAdd, reduceCtorEq, Q24])
  refine Runs.alloc Fx.zi3 (fun w4 he4 hz4 hb4 => ?_)
  generalize hB3 : w1.heap.size = B3 at hz4 hb4
  simp only [Value.cells] at hb4
  repeat ((try subst X); (first | (first | apply zL | apply zH | apply zE); intro X hX | apply zl | apply zh | apply ze); try simp only [zU, reduceIte, Nat.reduceEqDiff, Nat.reduceAdd, reduceCtorEq, Q24])
  refine Runs.store hb4 Fx.zi3 rfl (by intro u hu; simp [Value.cells] at hu; subst hu; rfl) (by simp) (fun w2 hc5 hz6 hb2 => ?_)
  rw [splice_all _ _ (by simp [Value.cells])] at hb2
  simp only [Value.cells] at hb2
  repeat ((try subst X); (first | (first | apply zL | apply zH | apply zE); intro X hX | apply zl | apply zh | apply ze); try simp only [zU, reduceIte, Nat.reduceEqDiff, Nat.reduceAdd, reduceCtorEq, Q24])
  refine hM _ _ _ ?_; clear hM M
  have he12 : Ext w1 w2 := he4.chg_trans hc5 (fun k hk => by omega)
  have he02 := he1.trans he12
  have hb12 := hb1.ext he12
  have c0 : w2.cell? ⟨B7, 0, none⟩ = some (.int .i64 a.d) := hb12.cell (by simp [hrr])
  have c3 : w2.cell? ⟨B7, 3, none⟩ = some (.slice Ao a.of.length co) := hb12.cell (by simp [hrr])
  have c4 : cellsAt w2 ⟨B7, 4, none⟩ vrow := hb12.cells (o := 4) (fun j u hj => by
    have hj4 := (List.getElem?_eq_some_iff.1 hj).1
    simp only [hrr]
    rw [List.append_assoc, List.getElem?_append_right (by simp)]
    simp only [List.length_cons, List.length_nil, Nat.zero_add]
    rw [show 4 + j - 4 = j by omega, List.getElem?_append_left hj4]
    exact hj)
  have hs2 := he02.size
  have hvr2 : VRowS w2 S vrow a.v := VRowS.ext hvr he02
  have hnB3 : ¬ S B3 := fun h => by have := hS B3 h; have := he1.size; omega
  refine ok_seq (fun M hM => ok_region rfl ?_)
  repeat ((try subst X); (first | (first | apply zL | apply zH | apply zE); intro X hX | apply zl | apply zh | apply ze); try simp only [zU, reduceIte, Nat.reduceEqDiff, Nat.reduceAdd, reduceCtorEq, Q24])
  refine ⟨_, c3, ?_⟩
  repeat ((try subst X); (first | (first | apply zL | apply zH | apply zE); intro X hX | apply zl | apply zh | apply ze); try simp only [zU, reduceIte, Nat.reduceEqDiff, Nat.reduceAdd, reduceCtorEq, Q24])
  refine ⟨fun h => ?_, fun h => ?_⟩
  · have h10 : ¬ ((10 : Int) < (a.of.length : Int)) := by simpa using h
    repeat ((try subst X); (first | (first | apply zL | apply zH | apply zE); intro X hX | apply zl | apply zh | apply ze); try simp only [zU, reduceIte, Nat.reduceEqDiff, Nat.reduceAdd, reduceCtorEq, Q24])
    refine ⟨_, c0, ?_⟩
    repeat ((try subst X); (first | (first | apply zL | apply zH | apply zE); intro X hX | apply zl | apply zh | apply ze); try simp only [zU, reduceIte, Nat.reduceEqDiff, Nat.reduceAdd, reduceCtorEq, Q24])
    refine ⟨fun h3 => ?_, fun h3 => ?_⟩
    · repeat ((try subst X); (first | (first | apply zL | apply zH | apply zE); intro X hX | apply zl | apply zh | apply ze); try simp only [zU, reduceIte, Nat.reduceEqDiff, Nat.reduceAdd, reduceCtorEq, Q24])
      refine ⟨_, c3, ?_⟩
      repeat ((try subst X); (first | (first | apply zL | apply zH | apply zE); intro X hX | apply zl | apply zh | apply ze); try simp only [zU, reduceIte, Nat.reduceEqDiff, Nat.reduceAdd, reduceCtorEq, Q24])
      refine ⟨fun h4 => ?_, fun h4 => ?_⟩
      · repeat ((try subst X); (first | (first | apply zL | apply zH | apply zE); intro X hX | apply zl | apply zh | apply ze); try simp only [zU, reduceIte, Nat.reduceEqDiff, Nat.reduceAdd, reduceCtorEq, Q24])
        refine ⟨vrow, hv4, c4, ?_⟩
        repeat ((try subst X); (first | (first | apply zL | apply zH | apply zE); intro X hX | apply zl | apply zh | apply ze); try simp only [zU, reduceIte, Nat.reduceEqDiff, Nat.reduceAdd, reduceCtorEq, Q24])
        refine Inv.call Fx.en25 (few_ok _ a.v w2 S vrow B3 40 (Nat.le_refl _) hvr2 hnB3 hb2 (by decide) (by decide)) ?_
        rintro v w3 ⟨b, L', rfl, g1, g2, g3⟩
        repeat ((try subst X); (first | (first | apply zL | apply zH | apply zE); intro X hX | apply zl | apply zh | apply ze); try simp only [zU, reduceIte, Nat.reduceEqDiff, Nat.reduceAdd, reduceCtorEq, Q24])
        refine hM _ _ _ ?_; clear hM M
        refine ok_ret ?_
        try simp only [zW, zU, reduceIte, Nat.reduceEqDiff, Nat.reduceAdd, reduceCtorEq, Q24]
        exact ⟨!b, rfl, he02.chg_trans g2 (fun k hk => by omega), fun hb => ⟨by omega, by have := g3 (by simpa using hb); omega⟩⟩
      ·
        repeat ((try subst X); (first | (first | apply zL | apply zH | apply zE); intro X hX | apply zl | apply zh | apply ze); try simp only [zU, reduceIte, Nat.reduceEqDiff, Nat.reduceAdd, reduceCtorEq, Q24])
        refine hM _ _ _ ?_; clear hM M
        refine ok_ret ?_
        try simp only [zW, zU, reduceIte, Nat.reduceEqDiff, Nat.reduceAdd, reduceCtorEq, Q24]
        exact ⟨true, rfl, he02, fun hb => (by cases hb)⟩
    · repeat ((try subst X); (first | (first | apply zL | apply zH | apply zE); intro X hX | apply zl | apply zh | apply ze); try simp only [zU, reduceIte, Nat.reduceEqDiff, Nat.reduceAdd, reduceCtorEq, Q24])
      refine ⟨vrow, hv4, c4, ?_⟩
      repeat ((try subst X); (first | (first | apply zL | apply zH | apply zE); intro X hX | apply zl | apply zh | apply ze); try simp only [zU, reduceIte, Nat.reduceEqDiff, Nat.reduceAdd, reduceCtorEq, Q24])
      refine Inv.call Fx.en25 (few_ok _ a.v w2 S vrow B3 40 (Nat.le_refl _) hvr2 hnB3 hb2 (by decide) (by decide)) ?_
      rintro v w3 ⟨b, L', rfl, g1, g2, g3⟩
      repeat ((try subst X); (first | (first | apply zL | apply zH | apply zE); intro X hX | apply zl | apply zh | apply ze); try simp only [zU, reduceIte, Nat.reduceEqDiff, Nat.reduceAdd, reduceCtorEq, Q24])
      refine hM _ _ _ ?_; clear hM M
      refine ok_ret ?_
      try simp only [zW, zU, reduceIte, Nat.reduceEqDiff, Nat.reduceAdd, reduceCtorEq, Q24]
      exact ⟨!b, rfl, he02.chg_trans g2 (fun k hk => by omega), fun hb => ⟨by omega, by have := g3 (by simpa using hb); omega⟩⟩
  ·
    repeat ((try subst X); (first | (first | apply zL | apply zH | apply zE); intro X hX | apply zl | apply zh | apply ze); try simp only [zU, reduceIte, Nat.reduceEqDiff, Nat.reduceAdd, reduceCtorEq, Q24])
    refine hM _ _ _ ?_; clear hM M
    refine ok_ret ?_
    try simp only [zW, zU, reduceIte, Nat.reduceEqDiff, Nat.reduceAdd, reduceCtorEq, Q24]
    exact ⟨true, rfl, he02, fun hb => (by cases hb)⟩

-- -- function 6
set_option maxHeartbeats 4000000 in
set_option maxRecDepth 8000 in
theorem Few_ok (w : World) (S : Nat → Prop) (v : Value) (acts : List ActD) (hA : ActsR w S v acts) (hS : ∀ k, S k → k < w.heap.size) :
    Rets Tryz.prog 6 [v] w (fun v w' => ∃ b, v = .bool b ∧ Ext w w' ∧ (b = true → acts.length ≤ 30 ∧ ∀ a ∈ acts, a.of.length ≤ 10 ∧ cntV a.v ≤ 40)) := by
  obtain ⟨A, c, rfl, hlen, hcell⟩ := id hA
  refine rets_of_ok Tryz.func6 rfl rfl ?_
  refine ok_seq (fun M hM => ok_region rfl ?_); repeat ((try subst X); (first | (first | apply zL | apply zH | apply zE); intro X hX | apply zl | apply zh | apply ze); try simp only [zU, reduceIte, Nat.reduceEqDiff, Nat.reduceAdd, reduceCtorEq, Q6])
  refine hM _ _ _ ?_; clear hM M
  refine ok_seq (fun M hM => ok_region rfl ?_)
  repeat ((try subst X); (first | (first | apply zL | apply zH | apply zE); intro X hX | apply zl | apply zh | apply ze); try simp only [zU, reduceIte, Nat.reduceEqDiff, Nat.reduceAdd, reduceCtorEq, Q6])
  refine ⟨fun h => ?_, fun h => ?_⟩
  rotate_left
  · repeat ((try subst X); (first | (first | apply zL | apply zH | apply zE); intro X hX | apply zl | apply zh | apply ze); try simp only [zU, reduceIte, Nat.reduceEqDiff, Nat.reduceAdd, reduceCtorEq, Q6])
    refine hM _ _ _ ?_; clear hM M
    refine ok_ret ?_
    try simp only [zW, zU, reduceIte, Nat.reduceEqDiff, Nat.reduceAdd, reduceCtorEq, Q6]
    first | exact ⟨false, rfl, Ext.refl _, fun hb => (by cases hb)⟩ | exact ⟨false, rfl, fun hb => (by cases hb)⟩
  have h30 : (acts.length : Int) ≤ 30 := by simpa using h
  repeat ((try subst X); (first | (first | apply zL | apply zH | apply zE); intro X hX | apply zl | apply zh | apply ze); try simp only [zU, reduceIte, Nat.reduceEqDiff, Nat.reduceAdd, reduceCtorEq, Q6])
  refine Inv.call Fx.en23 (containsA_ok w A acts.length c _ hlen (fun i w' => Ext w w' ∧ ∀ (j : Nat) (a : ActD), j < i → acts[j]? = some a → a.of.length ≤ 10 ∧ cntV a.v ≤ 40) (fun w' => Ext w w') ⟨Ext.refl _, fun j a h => absurd h (Nat.not_lt_zero _)⟩ ?_) ?_
  · rintro i w' hil ⟨he, hall⟩
    have hxi : acts[i]? = some acts[i] := List.getElem?_eq_getElem hil
    obtain ⟨b, o, row, hA', hbS, hcc, hr⟩ := hcell i _ hxi
    have hr' : ActR w' S row acts[i] := hr.chg (he.chg (fun _ => False)) (fun k hk => ⟨hk, id⟩)
    refine ⟨row, hr.len, ⟨b, o, hA', he.cellsAt hcc⟩, Inv.clos (cap := []) Fx.en24 (few24_ok w' S row acts[i] hr' (fun k hk => by have := hS k hk; have := he.size; omega)) ?_⟩
    rintro v w5 ⟨b', rfl, he5, hb⟩
    refine ⟨b', rfl, fun _ => he.trans he5, fun hb' => ⟨he.trans he5, fun j a hj ha => ?_⟩⟩
    rcases Nat.lt_or_ge j i with h | h
    · exact hall j a h ha
    · have : j = i := by omega
      subst this
      rw [hxi] at ha
      cases ha
      exact hb hb'
  rintro v w2 ⟨b, rfl, hb1, hb2⟩
  repeat ((try subst X); (first | (first | apply zL | apply zH | apply zE); intro X hX | apply zl | apply zh | apply ze); try simp only [zU, reduceIte, Nat.reduceEqDiff, Nat.reduceAdd, reduceCtorEq, Q6])
  refine hM _ _ _ ?_; clear hM M
  refine ok_ret ?_
  try simp only [zW, zU, reduceIte, Nat.reduceEqDiff, Nat.reduceAdd, reduceCtorEq, Q6]
  refine ⟨!b, rfl, ?_, fun hb => ⟨by omega, fun a ha => ?_⟩⟩
  · cases b with
    | true => exact hb1 rfl
    | false => exact (hb2 rfl).1
  · obtain ⟨j, hj⟩ := List.mem_iff_getElem?.1 ha
    exact (hb2 (by simpa using hb)).2 j a (List.getElem?_eq_some_iff.1 hj).1 hj
end Go.Proofs.YtldeokfhipjbfaaGreatDoor
/- Load, with where the value lies.  -/
set_option linter.unusedVariables false
set_option linter.unusedSimpArgs false
namespace Go.Proofs.Vg
open Go Go.RowKit
theorem zero_rowS (w : World) (S : Nat → Prop) : VRowS w S zeroRow zeroVal := by
  simp only [zeroVal, zeroRow, VRowS]
  exact ⟨_, rfl, rfl, rfl, [], ⟨none, 0, rfl, by simp, fun j row hj => by simp at hj⟩, by simp only [VRowsS]⟩
end Go.Proofs.Vg
namespace Go.Proofs.YtldeokfhipjbfaaGreatDoor
open Go Go.Proofs.Vg Go.RowKit

-- -- function 13
set_option maxHeartbeats 4000000 in
set_option maxRecDepth 8000 in
theorem LoadS_ok (hb rb : Nat) (H : List Ob) (F : Nat → Prop) (hl : H.length ≤ 1073741824) (hLim : ∀ x, (argsOf H x).length ≤ 1048576) (hWf : Wf H) (mk : Nat) (u : Val) (x : Wd) (w : World)
    (hLd : rightW H x = true → ringF H [x] = false → partsF H 100000 [x] ≤ 100000 → Lds H x u) (hH : HeapW w hb rb H F) (hg : Glob w mk) :
    Rets Tryz.prog 13 [ptrOf hb, wv x] w (fun v w' => ∃ cs : List Value, v = .tuple #[.agg cs.toArray, .int .i64 (errL H x)] ∧ VRowS w' (fun k => w.heap.size ≤ k ∧ k < w'.heap.size) cs (if errL H x = 0 then u else zeroVal) ∧ Ext w w') := by
  have zero : ∀ (w1 w2 : World) (B2 : Nat) (e : Int), errL H x = e → e ≠ 0 → Ext w w1 → w.heap.size ≤ B2 → Chg (· = B2) w1 w2 → Blk w2 B2 zeroRow 36 →
      ∃ cs, cs.length = 4 ∧ cellsAt w2 ⟨B2, 0, none⟩ cs ∧ ∃ cs' : List Value, Value.tuple #[.agg cs.toArray, .int .i64 e] = .tuple #[.agg cs'.toArray, .int .i64 (errL H x)] ∧ VRowS w2 (fun k => w.heap.size ≤ k ∧ k < w2.heap.size) cs' (if errL H x = 0 then u else zeroVal) ∧ Ext w w2 := by
    intro w1 w2 B2 e he hne he1 hB hc hb
    refine ⟨zeroRow, rfl, hb.cells (o := 0) (fun j u hj => by simpa using hj), zeroRow, by rw [he], ?_, he1.chg_trans hc (fun k hk => by omega)⟩
    rw [if_neg (by rw [he]; exact hne)]
    exact zero_rowS w2 _
  refine rets_of_okC Tryz.func13 rfl rfl ?_
  refine ok_seq (fun M hM => ok_region rfl ?_)
  repeat ((try subst X); (first | (first | apply zL | apply zH | apply zE); intro X hX | apply zl | apply zh | apply ze); try simp only [zU, reduceIte, Nat.reduceEqDiff, Nat.reduceAdd, reduceCtorEq, Q13])
  refine Runs.box (fun w1 he1 hz1 hb1 => ?_)
  generalize hB1 : w.heap.size = B1 at hz1 hb1
  simp only [Value.cells] at hb1
  repeat ((try subst X); (first | (first | apply zL | apply zH | apply zE); intro X hX | apply zl | apply zh | apply ze); try simp only [zU, reduceIte, Nat.reduceEqDiff, Nat.reduceAdd, reduceCtorEq, Q13])
  refine Runs.alloc Fx.zi36 (fun w2 he2 hz2 hb2 => ?_)
  generalize hB2 : w1.heap.size = B2 at hz2 hb2
  simp only [Value.cells] at hb2
  repeat ((try subst X); (first | (first | apply zL | apply zH | apply zE); intro X hX | apply zl | apply zh | apply ze); try simp only [zU, reduceIte, Nat.reduceEqDiff, Nat.reduceAdd, reduceCtorEq, Q13])
  refine hM _ _ _ ?_; clear hM M
  have hb12 := hb1.ext he2
  have he02 := he1.trans he2
  refine ok_join [(0, ptrOf hb), (3, ptrOf B1), (4, ptrOf B2)] (fun w' => Ext w2 w' ∧ errL H x = 0 ∧ Lds H x u) ?_ ?_
  · refine ok_block ?_
    refine ok_seq (fun M hM => ok_region rfl ?_)
    repeat ((try subst X); (first | (first | apply zL | apply zH | apply zE); intro X hX | apply zl | apply zh | apply ze); try simp only [zU, reduceIte, Nat.reduceEqDiff, Nat.reduceAdd, reduceCtorEq, Q13])
    refine Runs.ptrEq Fx.un25 ?_
    repeat ((try subst X); (first | (first | apply zL | apply zH | apply zE); intro X hX | apply zl | apply zh | apply ze); try simp only [zU, reduceIte, Nat.reduceEqDiff, Nat.reduceAdd, reduceCtorEq, Q13])
    refine hM _ _ _ ?_; clear hM M
    refine ok_cond rfl (fun h => by cases h) (fun _ => ?_)
    refine ok_seq (fun M hM => ok_region rfl ?_)
    repeat ((try subst X); (first | (first | apply zL | apply zH | apply zE); intro X hX | apply zl | apply zh | apply ze); try simp only [zU, reduceIte, Nat.reduceEqDiff, Nat.reduceAdd, reduceCtorEq, Q13])
    refine ⟨x.row, rfl, hb12.cells (o := 0) (fun j u hj => by simpa using hj), ?_⟩
    repeat ((try subst X); (first | (first | apply zL | apply zH | apply zE); intro X hX | apply zl | apply zh | apply ze); try simp only [zU, reduceIte, Nat.reduceEqDiff, Nat.reduceAdd, reduceCtorEq, Q13])
    refine Inv.call Fx.en12 (right_ok w2 hb rb H F (hH.ext he02) hl x) ?_
    rintro v w3 ⟨rfl, he3⟩
    repeat ((try subst X); (first | (first | apply zL | apply zH | apply zE); intro X hX | apply zl | apply zh | apply ze); try simp only [zU, reduceIte, Nat.reduceEqDiff, Nat.reduceAdd, reduceCtorEq, Q13])
    refine hM _ _ _ ?_; clear hM M
    cases hr : rightW H x with
    | false =>
      refine ok_cond (b := true) rfl (fun _ => ?_) (fun h => by cases h)
      refine ok_seq (fun M hM => ok_region rfl ?_)
      repeat ((try subst X); (first | (first | apply zL | apply zH | apply zE); intro X hX | apply zl | apply zh | apply ze); try simp only [zU, reduceIte, Nat.reduceEqDiff, Nat.reduceAdd, reduceCtorEq, Q13])
      refine ⟨_, w3, run_build (P := Tryz.prog) w3 36 _ zeroRow.toArray (by kernel_rfl), ?_⟩
      repeat ((try subst X); (first | (first | apply zL | apply zH | apply zE); intro X hX | apply zl | apply zh | apply ze); try simp only [zU, reduceIte, Nat.reduceEqDiff, Nat.reduceAdd, reduceCtorEq, Q13])
      refine Runs.store (hb2.ext he3) Fx.zi36 rfl (by intro u hu; simp [Value.cells, zeroRow] at hu; rcases hu with rfl | rfl | rfl <;> rfl) (by simp) (fun w5 hc5 hs5 hb5 => ?_)
      rw [splice_all _ _ (by simp [Value.cells, zeroRow])] at hb5
      simp only [Value.cells] at hb5
      repeat ((try subst X); (first | (first | apply zL | apply zH | apply zE); intro X hX | apply zl | apply zh | apply ze); try simp only [zU, reduceIte, Nat.reduceEqDiff, Nat.reduceAdd, reduceCtorEq, Q13])
      refine hM _ _ _ ?_; clear hM M
      refine ok_ret ?_
      try simp only [zW, zU, reduceIte, Nat.reduceEqDiff, Nat.reduceAdd, reduceCtorEq, Q13]
      exact zero w3 w5 B2 2 (by simp [errL, hr]) (by decide) (he02.trans he3) (by omega) hc5 hb5
    | true =>
      refine ok_cond (b := false) rfl (fun h => by cases h) (fun _ => ?_)
      refine ok_seq (fun M hM => ok_region rfl ?_)
      repeat ((try subst X); (first | (first | apply zL | apply zH | apply zE); intro X hX | apply zl | apply zh | apply ze); try simp only [zU, reduceIte, Nat.reduceEqDiff, Nat.reduceAdd, reduceCtorEq, Q13])
      refine ⟨x.row, rfl, (hb12.ext he3).cells (o := 0) (fun j u hj => by simpa using hj), ?_⟩
      repeat ((try subst X); (first | (first | apply zL | apply zH | apply zE); intro X hX | apply zl | apply zh | apply ze); try simp only [zU, reduceIte, Nat.reduceEqDiff, Nat.reduceAdd, reduceCtorEq, Q13])
      refine Runs.lit (cs := x.row) Fx.un29 Fx.zi38 (by decide) (by kernel_rfl) (by decide) (fun w4 he4 hs4 hb4 => ?_)
      generalize hB4 : w3.heap.size = B4 at hs4 hb4
      repeat ((try subst X); (first | (first | apply zL | apply zH | apply zE); intro X hX | apply zl | apply zh | apply ze); try simp only [zU, reduceIte, Nat.reduceEqDiff, Nat.reduceAdd, reduceCtorEq, Q13])
      have hsl : SlW w4 (.slice (some ⟨B4, 0, none⟩) 1 1) [x] := ⟨some ⟨B4, 0, none⟩, 1, rfl, by simp, fun j row hj => by
        have hj0 : j = 0 := by have := (List.getElem?_eq_some_iff.1 hj).1; simp at this; exact this
        subst hj0
        simp at hj; subst hj
        exact ⟨B4, 0, rfl, hb4.cells (o := 0) (fun j u hj => by simpa using hj)⟩⟩
      have he04 := he02.trans (he3.trans he4)
      refine Inv.call Fx.en45 (ring_ok w4 hb rb H F (hH.ext he04) hl hWf _ [x] hsl (fun y hy => by simp at hy; subst hy; exact right_ref hr)) ?_
      rintro v w5 ⟨rfl, he5⟩
      repeat ((try subst X); (first | (first | apply zL | apply zH | apply zE); intro X hX | apply zl | apply zh | apply ze); try simp only [zU, reduceIte, Nat.reduceEqDiff, Nat.reduceAdd, reduceCtorEq, Q13])
      refine hM _ _ _ ?_; clear hM M
      cases hri : ringF H [x] with
      | true =>
        refine ok_cond (b := true) rfl (fun _ => ?_) (fun h => by cases h)
        refine ok_seq (fun M hM => ok_region rfl ?_)
        repeat ((try subst X); (first | (first | apply zL | apply zH | apply zE); intro X hX | apply zl | apply zh | apply ze); try simp only [zU, reduceIte, Nat.reduceEqDiff, Nat.reduceAdd, reduceCtorEq, Q13])
        refine ⟨_, w5, run_build (P := Tryz.prog) w5 36 _ zeroRow.toArray (by kernel_rfl), ?_⟩
        repeat ((try subst X); (first | (first | apply zL | apply zH | apply zE); intro X hX | apply zl | apply zh | apply ze); try simp only [zU, reduceIte, Nat.reduceEqDiff, Nat.reduceAdd, reduceCtorEq, Q13])
        refine Runs.store (((hb2.ext he3).ext he4).ext he5) Fx.zi36 rfl (by intro u hu; simp [Value.cells, zeroRow] at hu; rcases hu with rfl | rfl | rfl <;> rfl) (by simp) (fun w6 hc6 hs6 hb6 => ?_)
        rw [splice_all _ _ (by simp [Value.cells, zeroRow])] at hb6
        simp only [Value.cells] at hb6
        repeat ((try subst X); (first | (first | apply zL | apply zH | apply zE); intro X hX | apply zl | apply zh | apply ze); try simp only [zU, reduceIte, Nat.reduceEqDiff, Nat.reduceAdd, reduceCtorEq, Q13])
        refine hM _ _ _ ?_; clear hM M
        refine ok_ret ?_
        try simp only [zW, zU, reduceIte, Nat.reduceEqDiff, Nat.reduceAdd, reduceCtorEq, Q13]
        exact zero w5 w6 B2 13 (by simp [errL, hr, hri]) (by decide) (he04.trans he5) (by omega) hc6 hb6
      | false =>
        refine ok_cond (b := false) rfl (fun h => by cases h) (fun _ => ?_)
        refine ok_seq (fun M hM => ok_region rfl ?_)
        repeat ((try subst X); (first | (first | apply zL | apply zH | apply zE); intro X hX | apply zl | apply zh | apply ze); try simp only [zU, reduceIte, Nat.reduceEqDiff, Nat.reduceAdd, reduceCtorEq, Q13])
        refine ⟨x.row, rfl, (((hb12.ext he3).ext he4).ext he5).cells (o := 0) (fun j u hj => by simpa using hj), ?_⟩
        repeat ((try subst X); (first | (first | apply zL | apply zH | apply zE); intro X hX | apply zl | apply zh | apply ze); try simp only [zU, reduceIte, Nat.reduceEqDiff, Nat.reduceAdd, reduceCtorEq, Q13])
        have he05 := he04.trans he5
        refine Inv.call Fx.en39 (parts_ok w5 hb rb H F (hH.ext he05) hl hLim x) ?_
        rintro v w6 ⟨rfl, he6⟩
        rw [if_pos hr]
        repeat ((try subst X); (first | (first | apply zL | apply zH | apply zE); intro X hX | apply zl | apply zh | apply ze); try simp only [zU, reduceIte, Nat.reduceEqDiff, Nat.reduceAdd, reduceCtorEq, Q13])
        refine hM _ _ _ ?_; clear hM M
        refine ok_if rfl (fun hc => ?_) (fun hc => ok_skip ?_)
        · refine ok_seq (fun M hM => ok_region rfl ?_)
          repeat ((try subst X); (first | (first | apply zL | apply zH | apply zE); intro X hX | apply zl | apply zh | apply ze); try simp only [zU, reduceIte, Nat.reduceEqDiff, Nat.reduceAdd, reduceCtorEq, Q13])
          refine ⟨_, w6, run_build (P := Tryz.prog) w6 36 _ zeroRow.toArray (by kernel_rfl), ?_⟩
          repeat ((try subst X); (first | (first | apply zL | apply zH | apply zE); intro X hX | apply zl | apply zh | apply ze); try simp only [zU, reduceIte, Nat.reduceEqDiff, Nat.reduceAdd, reduceCtorEq, Q13])
          refine Runs.store ((((hb2.ext he3).ext he4).ext he5).ext he6) Fx.zi36 rfl (by intro u hu; simp [Value.cells, zeroRow] at hu; rcases hu with rfl | rfl | rfl <;> rfl) (by simp) (fun w7 hc7 hs7 hb7 => ?_)
          rw [splice_all _ _ (by simp [Value.cells, zeroRow])] at hb7
          simp only [Value.cells] at hb7
          repeat ((try subst X); (first | (first | apply zL | apply zH | apply zE); intro X hX | apply zl | apply zh | apply ze); try simp only [zU, reduceIte, Nat.reduceEqDiff, Nat.reduceAdd, reduceCtorEq, Q13])
          refine hM _ _ _ ?_; clear hM M
          refine ok_ret ?_
          try simp only [zW, zU, reduceIte, Nat.reduceEqDiff, Nat.reduceAdd, reduceCtorEq, Q13]
          have hc' : 100000 < partsF H 100000 [x] := by omega
          exact zero w6 w7 B2 6 (by simp [errL, hr, hri, hc']) (by decide) (he05.trans he6) (by omega) hc7 hb7
        · try simp only [zW, zU, reduceIte, Nat.reduceEqDiff, Nat.reduceAdd, reduceCtorEq, Q13]
          have hc' : ¬ 100000 < partsF H 100000 [x] := by omega
          exact ⟨by simp [sub, Env.get], he3.trans (he4.trans (he5.trans he6)), by simp [errL, hr, hri, hc'], hLd hr hri (by omega)⟩
  rintro w3 ⟨he3, herr, hLx⟩
  have he03 := he02.trans he3
  rw [herr]
  refine ok_seq (fun M hM => ok_region rfl ?_)
  repeat ((try subst X); (first | (first | apply zL | apply zH | apply zE); intro X hX | apply zl | apply zh | apply ze); try simp only [zU, reduceIte, Nat.reduceEqDiff, Nat.reduceAdd, reduceCtorEq, Q13])
  refine ⟨x.row, rfl, (hb12.ext he3).cells (o := 0) (fun j u hj => by simpa using hj), ?_⟩
  repeat ((try subst X); (first | (first | apply zL | apply zH | apply zE); intro X hX | apply zl | apply zh | apply ze); try simp only [zU, reduceIte, Nat.reduceEqDiff, Nat.reduceAdd, reduceCtorEq, Q13])
  refine Inv.call Fx.en46 (load_ok hb rb H F hl hLim mk _ u x w3 (Nat.le_refl _) hLx (hH.ext he03) (hg.ext he03)) ?_
  rintro v w4 ⟨cs, rfl, hcs, he4⟩
  have hr4 := (VRowS.row _ _ hcs).len
  repeat ((try subst X); (first | (first | apply zL | apply zH | apply zE); intro X hX | apply zl | apply zh | apply ze); try simp only [zU, reduceIte, Nat.reduceEqDiff, Nat.reduceAdd, reduceCtorEq, Q13])
  have hl2 := (hb2.ext he3).lt
  refine Runs.store ((hb2.ext he3).ext he4) Fx.zi36 (by simpa [Value.cells] using hr4) (by simpa [Value.cells] using (VRowS.row _ _ hcs).one) (by simp) (fun w5 hc5 hs5 hb5 => ?_)
  rw [splice_all _ _ (by simp [Value.cells, hr4])] at hb5
  simp only [Value.cells] at hb5
  repeat ((try subst X); (first | (first | apply zL | apply zH | apply zE); intro X hX | apply zl | apply zh | apply ze); try simp only [zU, reduceIte, Nat.reduceEqDiff, Nat.reduceAdd, reduceCtorEq, Q13])
  refine hM _ _ _ ?_; clear hM M
  refine ok_ret ?_
  try simp only [zW, zU, reduceIte, Nat.reduceEqDiff, Nat.reduceAdd, reduceCtorEq, Q13]
  refine ⟨cs, hr4, hb5.cells (o := 0) (fun j u hj => by simpa using hj), cs, rfl, ?_, (he03.trans he4).chg_trans hc5 (fun k hk => by omega)⟩
  have hs03 := he03.size
  have hs4 := he4.size
  exact VRowS.chg hc5 (fun k hk => ⟨⟨by omega, by omega⟩, by omega⟩) _ _ hcs
end Go.Proofs.YtldeokfhipjbfaaGreatDoor
/- The plain law of collecting, first part: heaps whose words are right; what reads. -/
set_option linter.unusedVariables false
set_option linter.unusedSimpArgs false
namespace Go.Proofs.YtldeokfhipjbfaaGreatDoor
open Go Go.Proofs.Vg Go.RowKit

structure GoodH (H : List Ob) : Prop where
  w : ∀ o ∈ H, ∀ x ∈ o.list, rightW H x = true ∧ x.k ≠ 0 ∧ x.k ≠ 9
  lim : LimH H
theorem GoodH.wf {H : List Ob} (h : GoodH H) : Wf H := fun o ho x hx => right_ref (h.w o ho x hx).1
theorem GoodH.nil : GoodH [] := ⟨fun o ho => by simp at ho, fun o ho => by simp at ho⟩
theorem GoodH.snoc {H : List Ob} (h : GoodH H) {o : Ob} (ho : ∀ x ∈ o.list, rightW H x = true ∧ x.k ≠ 0 ∧ x.k ≠ 9) (hl : o.list.length ≤ 1048576) : GoodH (H ++ [o]) := by
  refine ⟨fun o' ho' x hx => ?_, h.lim.app hl⟩
  rcases List.mem_append.1 ho' with h1 | h1
  · have := h.w o' h1 x hx
    exact ⟨rightW_app this.1, this.2⟩
  · simp at h1; subst h1
    have := ho x hx
    exact ⟨rightW_app this.1, this.2⟩
theorem mkW_good {H : List Ob} {k n : Int} {l : List Wd} (h : GoodH H) (hk : k = 4 ∨ k = 5 ∨ k = 6 ∨ k = 7) (hn : k = 7 → n = 0) (hw : ∀ x ∈ l, rightW H x = true ∧ x.k ≠ 0 ∧ x.k ≠ 9) (hl : l.length ≤ 1048576) :
    GoodH (mkW H k n l).1 ∧ rightW (mkW H k n l).1 (mkW H k n l).2 = true ∧ ((mkW H k n l).2.k ≠ 0 ∧ (mkW H k n l).2.k ≠ 9) ∧ ∃ E, (mkW H k n l).1 = H ++ E := by
  unfold mkW
  split
  · rename_i hc
    have ho := objAt_new H (.words (if k = 7 then 7 else 4) l)
    refine ⟨h.snoc hw hl, ?_, ⟨by simp only; omega, by simp only; omega⟩, _, rfl⟩
    unfold rightW
    simp only [ho]
    rcases hk with rfl | rfl | rfl | rfl
    · simp [isDataO]
    · simp [isDataO]
    · simp [isDataO]
    · simp [isArrO, hn rfl]
  · rename_i hc
    have h7 : ¬ k = 7 := fun h => hc (.inr h)
    refine ⟨h, ?_, ⟨by simp only; omega, by simp only; omega⟩, [], by simp⟩
    unfold rightW
    rcases hk with rfl | rfl | rfl | rfl
    · simp
    · simp
    · simp
    · exact absurd rfl h7
mutual
theorem storeV_good : ∀ (x : Val) (H : List Ob), knownV x = true → formedV x = true → GoodH H → cntV x ≤ 1048576 →
    GoodH (storeV H x).1 ∧ rightW (storeV H x).1 (storeV H x).2 = true ∧ ((storeV H x).2.k ≠ 0 ∧ (storeV H x).2.k ≠ 9) ∧ ∃ E, (storeV H x).1 = H ++ E
  | .mk k n t args, H, hk, hf, hG, hc => by
    simp only [knownV, Bool.and_eq_true, decide_eq_true_eq] at hk
    simp only [formedV, Bool.and_eq_true] at hf
    obtain ⟨⟨hk1, hk2⟩, hks⟩ := hk
    obtain ⟨hw, hfs⟩ := hf
    simp only [cntV] at hc
    have hcl := cntVs_len args
    unfold wellV at hw
    simp only [storeV]
    split
    · rename_i h1
      refine ⟨hG, ?_, ⟨by simp only; omega, by simp only; omega⟩, [], by simp⟩
      unfold rightW
      rcases h1 with rfl | rfl | rfl <;> simp
    · rename_i h1
      split
      · rename_i h3
        subst h3
        have hoo := objAt_new H (.text t)
        refine ⟨hG.snoc (by simp [Ob.list]) (by simp [Ob.list]), ?_, ⟨by simp only; omega, by simp only; omega⟩, _, rfl⟩
        unfold rightW
        simp [hoo, isTextO]
      · rename_i h3
        have hkk : k = 4 ∨ k = 5 ∨ k = 6 ∨ k = 7 := by omega
        have hq : k = 7 → n = 0 := by
          rcases hkk with rfl | rfl | rfl | rfl <;> simp at hw <;> simp [hw]
        obtain ⟨g1, g2, E, g3⟩ := storeVs_good args H hks hfs hG (by omega)
        have hsl := storeVs_length args H
        obtain ⟨g4, g5, g6, E2, g7⟩ := mkW_good g1 hkk hq g2 (by omega)
        exact ⟨g4, g5, g6, E ++ E2, by rw [g7, g3, List.append_assoc]⟩
theorem storeVs_good : ∀ (l : List Val) (H : List Ob), knownVs l = true → formedVs l = true → GoodH H → cntVs l ≤ 1048576 →
    GoodH (storeVs H l).1 ∧ (∀ x ∈ (storeVs H l).2, rightW (storeVs H l).1 x = true ∧ x.k ≠ 0 ∧ x.k ≠ 9) ∧ ∃ E, (storeVs H l).1 = H ++ E
  | [], H, _, _, hG, _ => by simp only [storeVs]; exact ⟨hG, by simp, [], by simp⟩
  | y :: l, H, hk, hf, hG, hc => by
    simp only [knownVs, Bool.and_eq_true] at hk
    simp only [formedVs, Bool.and_eq_true] at hf
    simp only [cntVs] at hc
    simp only [storeVs]
    obtain ⟨g1, g2, g3, E, g4⟩ := storeV_good y H hk.1 hf.1 hG (by omega)
    obtain ⟨g5, g6, E2, g7⟩ := storeVs_good l _ hk.2 hf.2 g1 (by omega)
    refine ⟨g5, fun x hx => ?_, E ++ E2, by rw [g7, g4, List.append_assoc]⟩
    rcases List.mem_cons.1 hx with rfl | hx
    · refine ⟨?_, g3⟩
      rw [g7]; exact rightW_app g2
    · exact g6 x hx
end
theorem rightW_set {H : List Ob} {t : Nat} {l l' : List Wd} (h : H[t]? = some (.words 7 l)) (x : Wd) : rightW (H.set t (.words 7 l')) x = rightW H x := by
  have htl := (List.getElem?_eq_some_iff.1 h).1
  have key : ∀ r, isTextO (objAt (H.set t (.words 7 l')) r) = isTextO (objAt H r) ∧ isDataO (objAt (H.set t (.words 7 l')) r) = isDataO (objAt H r) ∧ isArrO (objAt (H.set t (.words 7 l')) r) = isArrO (objAt H r) := by
    intro r
    unfold objAt
    split
    · by_cases ht : (r - 1).toNat = t
      · rw [ht, List.getElem?_set_self htl, h]
        simp [isTextO, isDataO, isArrO]
      · rw [List.getElem?_set_ne (fun e => ht e.symm)]
        exact ⟨rfl, rfl, rfl⟩
    · exact ⟨rfl, rfl, rfl⟩
  unfold rightW
  rw [(key x.r).1, (key x.r).2.1, (key x.r).2.2]
theorem setH_good {H : List Ob} {x y : Wd} {i : Int} (h : GoodH H) : GoodH (setH H x i y) ∧ (setH H x i y).length = H.length := by
  unfold setH
  split
  · rename_i he
    unfold setE at he
    split at he
    · rename_i hc
      split at he
      · rename_i h7
        obtain ⟨l, ho⟩ := right7 hc.1 h7
        have hargs : argsOf H x = l := by unfold argsOf; rw [ho]; rfl
        have hH : H[(x.r - 1).toNat]? = some (.words 7 l) := by
          unfold objAt at ho
          split at ho
          · exact ho
          · cases ho
        rw [hargs]
        have hlm : (Ob.words 7 l) ∈ H := List.mem_of_getElem? hH
        refine ⟨⟨fun o ho' z hz => ?_, fun o ho' => ?_⟩, by simp⟩
        · rw [rightW_set hH]
          rcases List.mem_or_eq_of_mem_set ho' with h1 | h1
          · exact h.w o h1 z hz
          · subst h1
            simp only [Ob.list] at hz
            rcases List.mem_or_eq_of_mem_set hz with h2 | h2
            · exact h.w _ hlm z h2
            · subst h2; exact ⟨hc.2.1, hc.2.2⟩
        · rcases List.mem_or_eq_of_mem_set ho' with h1 | h1
          · exact h.lim o h1
          · subst h1
            simp only [Ob.list, List.length_set]
            exact h.lim _ hlm
      · cases he
    · cases he
  · exact ⟨h, rfl⟩
theorem objAt_set {H : List Ob} {r : Int} (h : 1 ≤ r) : ∀ o, objAt H r = some o → o ∈ H := by
  intro o ho
  unfold objAt at ho
  rw [if_pos h] at ho
  exact List.mem_of_getElem? ho
theorem objAt_mem {H : List Ob} {r : Int} {o : Ob} (ho : objAt H r = some o) : o ∈ H := objAt_set (objAt_some ho).1 o ho
theorem argsOf_listO (H : List Ob) (x : Wd) : argsOf H x = listO (objAt H x.r) := by
  unfold argsOf
  cases ho : objAt H x.r with
  | none => rfl
  | some o => cases o <;> rfl
/-- No way round: the words of an object all read. -/
def Reads (H : List Ob) (r : Int) : Prop := ∃ us, LdsL H (listO (objAt H r)) us
theorem reads_word {H : List Ob} {x : Wd} (hr : rightW H x = true) (h : x.r = 0 ∨ Reads H x.r) : ∃ u, Lds H x u := by
  have hz : ∀ r : Int, r = 0 → objAt H r = none := fun r e => objAt_lt (by omega)
  by_cases h0 : x.k = 0 ∨ x.k = 9
  · refine ⟨.mk 0 0 ⟨#[]⟩ [], ?_⟩
    simp only [Lds]
    rw [if_pos h0]
    refine ⟨trivial, trivial, trivial, trivial, ?_⟩
    unfold rightW at hr
    rcases h0 with h0 | h0
    · rw [if_pos h0] at hr; simp at hr; exact hr.2
    · rw [if_neg (by omega), if_pos (by omega)] at hr; simpa using hr
  by_cases h3 : x.k = 3
  · have : ∃ t, objAt H x.r = some (.text t) := by
      unfold rightW at hr
      rw [if_neg (by omega), if_neg (by omega), if_pos h3] at hr
      simp at hr
      cases ho : objAt H x.r with
      | none => rw [ho] at hr; simp [isTextO] at hr
      | some o =>
        cases o with
        | text t => exact ⟨t, rfl⟩
        | words s l => rw [ho] at hr; simp [isTextO] at hr
    obtain ⟨t, ht⟩ := this
    refine ⟨.mk 3 0 t [], ?_⟩
    simp only [Lds]
    rw [if_neg h0, if_pos h3]
    exact ⟨trivial, trivial, trivial, ht⟩
  · have hkk : 1 ≤ x.k ∧ x.k ≤ 8 := by
      by_cases q1 : x.k = 1 ∨ x.k = 2 ∨ x.k = 8 ∨ x.k = 9
      · omega
      by_cases q2 : x.k = 4 ∨ x.k = 5 ∨ x.k = 6
      · omega
      by_cases q3 : x.k = 7
      · omega
      · exfalso
        unfold rightW at hr
        rw [if_neg (by omega), if_neg q1, if_neg h3, if_neg q2, if_neg q3] at hr
        cases hr
    have : ∃ us, LdsL H (argsOf H x) us := by
      rw [argsOf_listO]
      rcases h with h | h
      · rw [hz _ h]; exact ⟨[], by simp only [listO, LdsL]⟩
      · exact h
    obtain ⟨us, hus⟩ := this
    refine ⟨.mk x.k x.n ⟨#[]⟩ us, ?_⟩
    simp only [Lds]
    rw [if_neg h0, if_neg h3]
    exact ⟨hkk.1, hkk.2, trivial, trivial, trivial, hus⟩
def Inv2 (H : List Ob) (st : List Int) : Prop := ∀ r : Int, 1 ≤ r → st[r.toNat]? = some 2 → Reads H r
theorem visitL_reads {H : List Ob} {g : List Int → Int → Bool × List Int} (hgi : ∀ st r, 0 ≤ r → r ≤ (H.length : Int) → OkSt (H.length + 1) st → Inv2 H st → (g st r).1 = false → Inv2 H (g st r).2 ∧ OkSt (H.length + 1) (g st r).2 ∧ (r = 0 ∨ (g st r).2[r.toNat]? = some 2) ∧ ∀ i : Nat, st[i]? = some 2 → (g st r).2[i]? = some 2) :
    ∀ (l : List Wd) (st : List Int), (∀ x ∈ l, 0 ≤ x.r ∧ x.r ≤ (H.length : Int)) → OkSt (H.length + 1) st → Inv2 H st → (visitL g st l).1 = false →
      Inv2 H (visitL g st l).2 ∧ OkSt (H.length + 1) (visitL g st l).2 ∧ (∀ x ∈ l, x.r = 0 ∨ (visitL g st l).2[x.r.toNat]? = some 2) ∧ ∀ i : Nat, st[i]? = some 2 → (visitL g st l).2[i]? = some 2 := by
  intro l
  induction l with
  | nil => intro st _ h1 h2 _; simp only [visitL]; exact ⟨h2, h1, by simp, fun i h => h⟩
  | cons x l ih =>
    intro st hr h1 h2 hf
    have hx := hr x List.mem_cons_self
    simp only [visitL] at hf ⊢
    by_cases hg : (g st x.r).1 = true
    · rw [if_pos hg] at hf; cases hf
    · rw [if_neg hg] at hf ⊢
      have hg' : (g st x.r).1 = false := by simpa using hg
      obtain ⟨a1, a2, a3, a4⟩ := hgi st x.r hx.1 hx.2 h1 h2 hg'
      obtain ⟨b1, b2, b3, b4⟩ := ih _ (fun y hy => hr y (List.mem_cons_of_mem _ hy)) a2 a1 hf
      refine ⟨b1, b2, fun y hy => ?_, fun i hi => b4 i (a4 i hi)⟩
      rcases List.mem_cons.1 hy with rfl | hy
      · exact a3.imp id (b4 _)
      · exact b3 y hy
theorem LdsL_of {H : List Ob} : ∀ (l : List Wd), (∀ x ∈ l, ∃ u, Lds H x u) → ∃ us, LdsL H l us
  | [], _ => ⟨[], by simp only [LdsL]⟩
  | x :: l, h => by
    obtain ⟨u, hu⟩ := h x List.mem_cons_self
    obtain ⟨us, hus⟩ := LdsL_of l (fun y hy => h y (List.mem_cons_of_mem _ hy))
    exact ⟨u :: us, by simp only [LdsL]; exact ⟨hu, hus⟩⟩
theorem visitF_reads {H : List Ob} (hG : GoodH H) : ∀ (f : Nat) (st : List Int) (r : Int), 0 ≤ r → r ≤ (H.length : Int) → OkSt (H.length + 1) st → Inv2 H st → (visitF H f st r).1 = false →
    Inv2 H (visitF H f st r).2 ∧ OkSt (H.length + 1) (visitF H f st r).2 ∧ (r = 0 ∨ (visitF H f st r).2[r.toNat]? = some 2) ∧ ∀ i : Nat, st[i]? = some 2 → (visitF H f st r).2[i]? = some 2 := by
  intro f
  induction f with
  | zero =>
    intro st r h0 hn h1 h2 hf
    simp only [visitF] at hf ⊢
    split
    · rename_i hc; exact ⟨h2, h1, hc, fun i h => h⟩
    · rename_i hc; rw [if_neg hc] at hf; cases hf
  | succ f ih =>
    intro st r h0 hn h1 h2 hf
    simp only [visitF] at hf ⊢
    split
    · rename_i hc; exact ⟨h2, h1, hc, fun i h => h⟩
    rename_i hc
    rw [if_neg hc] at hf
    split
    · rename_i hc1; rw [if_pos hc1] at hf; cases hf
    rename_i hc1
    rw [if_neg hc1] at hf
    have hr0 : r ≠ 0 := fun e => hc (.inl e)
    have hi2 : Inv2 H (st.set r.toNat 1) := by
      intro r' hr' hs
      by_cases e : r.toNat = r'.toNat
      · rw [← e, List.getElem?_set] at hs
        split at hs
        · split at hs
          · cases hs
          · cases hs
        · exact h2 r' hr' (by rw [← e]; exact hs)
      · rw [List.getElem?_set_ne e] at hs
        exact h2 r' hr' hs
    have hmem : ∀ x ∈ listO (objAt H r), rightW H x = true ∧ x.k ≠ 0 ∧ x.k ≠ 9 := by
      intro x hx
      cases ho : objAt H r with
      | none => rw [ho] at hx; simp [listO] at hx
      | some o => rw [ho] at hx; exact hG.w o (objAt_mem ho) x hx
    split
    · rename_i hv; rw [if_pos hv] at hf; cases hf
    rename_i hv
    have hv' : (visitL (visitF H f) (st.set r.toNat 1) (listO (objAt H r))).1 = false := by simpa using hv
    obtain ⟨a1, a2, a3, a4⟩ := visitL_reads (g := visitF H f) (fun st r b1 b2 b3 b4 b5 => ih st r b1 b2 b3 b4 b5) (listO (objAt H r)) (st.set r.toNat 1) (fun x hx => right_ref (hmem x hx).1) (h1.set _ _ (by simp)) hi2 hv'
    have hlen := a2.len
    have hrl : r.toNat < (visitL (visitF H f) (st.set r.toNat 1) (listO (objAt H r))).2.length := by omega
    have hR : Reads H r := by
      refine LdsL_of _ (fun x hx => reads_word (hmem x hx).1 ?_)
      rcases a3 x hx with h | h
      · exact .inl h
      · have h4 := right_ref (hmem x hx).1
        by_cases e : x.r = 0
        · exact .inl e
        · exact .inr (a1 x.r (by omega) h)
    refine ⟨fun r' hr' hs => ?_, a2.set _ _ (by simp), .inr (List.getElem?_set_self hrl), fun i hi => ?_⟩
    · by_cases e : r.toNat = r'.toNat
      · have : r = r' := by omega
        rw [← this]; exact hR
      · simp only at hs
        rw [List.getElem?_set_ne e] at hs
        exact a1 r' hr' hs
    · simp only
      by_cases e : r.toNat = i
      · subst e; exact List.getElem?_set_self hrl
      · rw [List.getElem?_set_ne e]
        refine a4 i ?_
        rw [List.getElem?_set_ne e]; exact hi
theorem ringF_reads {H : List Ob} (hG : GoodH H) {x : Wd} (hr : rightW H x = true) (h : ringF H [x] = false) : ∃ u, Lds H x u := by
  unfold ringF at h
  have hx := right_ref hr
  obtain ⟨a1, a2, a3, -⟩ := visitL_reads (g := visitF H (H.length + 2)) (fun st r b1 b2 b3 b4 b5 => visitF_reads hG _ st r b1 b2 b3 b4 b5) [x] (List.replicate (H.length + 1) 0) (fun y hy => by simp at hy; subst hy; exact hx) ⟨by simp, fun y hy => by simp at hy; simp [hy]⟩ (fun r' hr' hs => by
    rw [List.getElem?_replicate] at hs
    split at hs
    · cases hs
    · cases hs) h
  refine reads_word hr ?_
  rcases a3 x (by simp) with h1 | h1
  · exact .inl h1
  · by_cases e : x.r = 0
    · exact .inl e
    · exact .inr (a1 x.r (by omega) h1)
end Go.Proofs.YtldeokfhipjbfaaGreatDoor
/- The plain law of collecting, second part: what reads has no way round. -/
set_option linter.unusedVariables false
set_option linter.unusedSimpArgs false
namespace Go.Proofs.YtldeokfhipjbfaaGreatDoor
open Go Go.Proofs.Vg Go.RowKit

mutual
theorem Lds_fun {H : List Ob} : ∀ (u : Val) (x : Wd) (v : Val), Lds H x u → Lds H x v → u = v
  | .mk k n t args, x, .mk k' n' t' args', h, h' => by
    simp only [Lds] at h h'
    by_cases h0 : x.k = 0 ∨ x.k = 9
    · rw [if_pos h0] at h h'
      obtain ⟨rfl, rfl, rfl, rfl, -⟩ := h
      obtain ⟨rfl, rfl, rfl, rfl, -⟩ := h'
      rfl
    rw [if_neg h0] at h h'
    by_cases h3 : x.k = 3
    · rw [if_pos h3] at h h'
      obtain ⟨rfl, rfl, rfl, e⟩ := h
      obtain ⟨rfl, rfl, rfl, e'⟩ := h'
      rw [e] at e'
      cases e'
      rfl
    · rw [if_neg h3] at h h'
      obtain ⟨-, -, rfl, rfl, rfl, e⟩ := h
      obtain ⟨-, -, rfl, rfl, rfl, e'⟩ := h'
      rw [LdsL_fun args _ args' e e']
theorem LdsL_fun {H : List Ob} : ∀ (us : List Val) (xs : List Wd) (vs : List Val), LdsL H xs us → LdsL H xs vs → us = vs
  | [], [], [], _, _ => rfl
  | u :: us, x :: xs, v :: vs, h, h' => by
    simp only [LdsL] at h h'
    rw [Lds_fun u x v h.1 h'.1, LdsL_fun us xs vs h.2 h'.2]
  | [], _ :: _, _, h, _ => by simp [LdsL] at h
  | _ :: _, [], _, h, _ => by simp [LdsL] at h
  | [], [], _ :: _, _, h => by simp [LdsL] at h
  | _ :: _, _ :: _, [], _, h => by simp [LdsL] at h
end
theorem word_us {H : List Ob} {x : Wd} {u : Val} (hr : rightW H x = true) (h : Lds H x u) : x.r = 0 ∨ ∃ us, LdsL H (listO (objAt H x.r)) us ∧ SizeOf.sizeOf us < SizeOf.sizeOf u := by
  cases u with
  | mk k n t args =>
    simp only [Lds] at h
    by_cases h0 : x.k = 0 ∨ x.k = 9
    · rw [if_pos h0] at h; exact .inl h.2.2.2.2
    rw [if_neg h0] at h
    by_cases h3 : x.k = 3
    · rw [if_pos h3] at h
      obtain ⟨rfl, rfl, rfl, e⟩ := h
      refine .inr ⟨[], by rw [e]; simp only [listO, Ob.list, LdsL], ?_⟩
      simp
      omega
    · rw [if_neg h3] at h
      obtain ⟨-, -, rfl, rfl, rfl, e⟩ := h
      rw [argsOf_listO] at e
      refine .inr ⟨args, e, ?_⟩
      simp <;> omega
def Gray (H : List Ob) (st : List Int) (B : Nat) : Prop := ∀ g : Nat, st[g]? = some 1 → ∀ us, LdsL H (listO (objAt H (g : Int))) us → B ≤ SizeOf.sizeOf us
theorem visitL_false {H : List Ob} {f : Nat} (ih : ∀ (st : List Int) (r : Int) (us : List Val), 0 ≤ r → r ≤ (H.length : Int) → OkSt (H.length + 1) st → zer st + 1 ≤ f → (r = 0 ∨ LdsL H (listO (objAt H r)) us) → Gray H st (SizeOf.sizeOf us + 1) →
      (visitF H f st r).1 = false ∧ ∀ i : Nat, (visitF H f st r).2[i]? = some 1 → st[i]? = some 1) (B : Nat) :
    ∀ (l : List Wd) (st : List Int), (∀ x ∈ l, 0 ≤ x.r ∧ x.r ≤ (H.length : Int) ∧ (x.r = 0 ∨ ∃ us, LdsL H (listO (objAt H x.r)) us ∧ SizeOf.sizeOf us < B)) → OkSt (H.length + 1) st → zer st + 1 ≤ f → Gray H st B → 0 < B →
      (visitL (visitF H f) st l).1 = false ∧ ∀ i : Nat, (visitL (visitF H f) st l).2[i]? = some 1 → st[i]? = some 1 := by
  intro l
  induction l with
  | nil => intro st _ _ _ _ _; simp only [visitL]; exact ⟨trivial, fun i h => h⟩
  | cons x l ihl =>
    intro st hx h1 h2 h3 hB
    obtain ⟨r0, r1, r2⟩ := hx x List.mem_cons_self
    have hv : (visitF H f st x.r).1 = false ∧ ∀ i : Nat, (visitF H f st x.r).2[i]? = some 1 → st[i]? = some 1 := by
      rcases r2 with r2 | ⟨us, r2, r3⟩
      · cases f with
        | zero => omega
        | succ f =>
          simp only [visitF]
          rw [if_pos (.inl r2)]
          exact ⟨rfl, fun i h => h⟩
      · exact ih st x.r us r0 r1 h1 h2 (.inr r2) (fun g hg us' hus' => by have := h3 g hg us' hus'; omega)
    have hz := visitF_inv (H := H) f st x.r h1
    simp only [visitL]
    rw [if_neg (by rw [hv.1]; simp)]
    obtain ⟨g1, g2⟩ := ihl _ (fun y hy => hx y (List.mem_cons_of_mem _ hy)) hz.1 (by omega) (fun g hg us' hus' => h3 g (hv.2 g hg) us' hus') hB
    exact ⟨g1, fun i h => hv.2 i (g2 i h)⟩
theorem visitF_false {H : List Ob} (hG : GoodH H) : ∀ (f : Nat) (st : List Int) (r : Int) (us : List Val), 0 ≤ r → r ≤ (H.length : Int) → OkSt (H.length + 1) st → zer st + 1 ≤ f → (r = 0 ∨ LdsL H (listO (objAt H r)) us) → Gray H st (SizeOf.sizeOf us + 1) →
      (visitF H f st r).1 = false ∧ ∀ i : Nat, (visitF H f st r).2[i]? = some 1 → st[i]? = some 1 := by
  intro f
  induction f with
  | zero => intro st r us _ _ _ h; omega
  | succ f ih =>
    intro st r us h0 hn h1 hf hus hgr
    simp only [visitF]
    by_cases hc : r = 0 ∨ st[r.toNat]? = some 2
    · rw [if_pos hc]; exact ⟨rfl, fun i h => h⟩
    rw [if_neg hc]
    have hr0 : r ≠ 0 := fun e => hc (.inl e)
    have hus' : LdsL H (listO (objAt H r)) us := hus.resolve_left hr0
    have hcast : ((r.toNat : Nat) : Int) = r := by omega
    have hn1 : st[r.toNat]? ≠ some 1 := fun e => by
      have := hgr r.toNat e us (by rw [hcast]; exact hus')
      omega
    rw [if_neg hn1]
    have hlt : r.toNat < st.length := by rw [h1.len]; omega
    have hz0 : st[r.toNat]? = some 0 := by
      have hm := h1.val _ (List.getElem_mem hlt)
      have he : st[r.toNat]? = some st[r.toNat] := List.getElem?_eq_getElem hlt
      rcases hm with h | h | h
      · rw [he, h]
      · exact absurd (by rw [he, h]) hn1
      · exact absurd (.inr (by rw [he, h])) hc
    have hzz := zer_set0 (v := 1) (by decide) hz0
    have hmem : ∀ x ∈ listO (objAt H r), rightW H x = true ∧ x.k ≠ 0 ∧ x.k ≠ 9 := by
      intro x hx
      cases ho : objAt H r with
      | none => rw [ho] at hx; simp [listO] at hx
      | some o => rw [ho] at hx; exact hG.w o (objAt_mem ho) x hx
    have hch : ∀ (l : List Wd) (us : List Val) (B : Nat), SizeOf.sizeOf us ≤ B → LdsL H l us → (∀ x ∈ l, rightW H x = true) → ∀ x ∈ l, 0 ≤ x.r ∧ x.r ≤ (H.length : Int) ∧ (x.r = 0 ∨ ∃ us, LdsL H (listO (objAt H x.r)) us ∧ SizeOf.sizeOf us < B) := by
      intro l
      induction l with
      | nil => intro _ _ _ _ _ x hx; simp at hx
      | cons y l ihl =>
        intro us B hB hL hrr x hx
        cases us with
        | nil => simp [LdsL] at hL
        | cons u us =>
          simp only [LdsL] at hL
          simp at hB
          rcases List.mem_cons.1 hx with rfl | hx
          · have hr := hrr x List.mem_cons_self
            have := right_ref hr
            refine ⟨this.1, this.2, ?_⟩
            rcases word_us hr hL.1 with h | ⟨us', h, h'⟩
            · exact .inl h
            · exact .inr ⟨us', h, by omega⟩
          · exact ihl us B (by omega) hL.2 (fun z hz => hrr z (List.mem_cons_of_mem _ hz)) x hx
    have hgray : Gray H (st.set r.toNat 1) (SizeOf.sizeOf us) := by
      intro g hg us' hus2
      by_cases e : r.toNat = g
      · subst e
        rw [hcast] at hus2
        rw [LdsL_fun us' _ us hus2 hus']
        exact Nat.le_refl _
      · rw [List.getElem?_set_ne e] at hg
        have := hgr g hg us' hus2
        omega
    have hpos : 0 < SizeOf.sizeOf us := by cases us <;> simp <;> omega
    obtain ⟨g1, g2⟩ := visitL_false (fun st r us a b c d e f' => ih st r us a b c d e f') (SizeOf.sizeOf us) (listO (objAt H r)) (st.set r.toNat 1) (hch _ us _ (Nat.le_refl _) hus' (fun x hx => (hmem x hx).1)) (h1.set _ _ (by simp)) (by omega) hgray hpos
    rw [if_neg (by rw [g1]; simp)]
    refine ⟨rfl, fun i hi => ?_⟩
    simp only at hi
    by_cases e : r.toNat = i
    · subst e
      rw [List.getElem?_set] at hi
      split at hi
      · split at hi
        · cases hi
        · cases hi
      · exact absurd rfl (by assumption)
    · rw [List.getElem?_set_ne e] at hi
      have := g2 i hi
      rw [List.getElem?_set_ne e] at this
      exact this
theorem ringF_of_Lds {H : List Ob} (hG : GoodH H) {x : Wd} {u : Val} (hr : rightW H x = true) (h : Lds H x u) : ringF H [x] = false := by
  unfold ringF
  have hx := right_ref hr
  have hz : zer (List.replicate (H.length + 1) (0 : Int)) = H.length + 1 := by
    unfold zer; rw [List.countP_replicate]; simp
  refine (visitL_false (fun st r us a b c d e f' => visitF_false hG _ st r us a b c d e f') (SizeOf.sizeOf u) [x] (List.replicate (H.length + 1) 0) (fun y hy => ?_) ⟨by simp, fun y hy => by simp at hy; simp [hy]⟩ (by omega) (fun g hg us hus => ?_) ?_).1
  · simp at hy; subst hy
    exact ⟨hx.1, hx.2, word_us hr h⟩
  · rw [List.getElem?_replicate] at hg
    split at hg
    · cases hg
    · cases hg
  · cases u; simp; omega
theorem ringF_iff {H : List Ob} (hG : GoodH H) {x : Wd} (hr : rightW H x = true) : ringF H [x] = false ↔ ∃ u, Lds H x u :=
  ⟨ringF_reads hG hr, fun ⟨u, hu⟩ => ringF_of_Lds hG hr hu⟩
end Go.Proofs.YtldeokfhipjbfaaGreatDoor
