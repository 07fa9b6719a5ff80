/- Part 9 of 14: G15, G16, G17. -/
import Derived.Test.YtafjfcameabbmaaM8
import Derived.Test.YtafjfcameabbmaaM3
/- The nodes of the tree of an answer, in memory. -/
set_option linter.unusedVariables false
set_option linter.unusedSimpArgs false
namespace Go.Proofs.Vg
open Go Go.RowKit
def DN.row (d : DN) (va vl vk : Value) : List Value := [.int .i64 d.call, .int .i64 d.proc, va, vl, vk]
/-- Nodes in memory: a row of one's own; each call's kids in a row of one's own; what else it leads to in S. -/
structure DM (w : World) (et : TypeId) (S : Nat → Prop) (vn : Value) (vks : List Value) (rows : List (List Value)) (nds : List DN) : Prop where
  own : w.ownsRow 0 et 5 vn nds.length rows.flatten
  lr : rows.length = nds.length
  lk : vks.length = nds.length
  row : ∀ (i : Nat) (d : DN), nds[i]? = some d → True ∧ ∃ va vl vk, vks[i]? = some vk ∧ rows[i]? = some (d.row va vl vk) ∧ VSlS w S va d.in_ ∧ VSlS w S vl d.out ∧ w.ownsRow 0 3 1 vk d.kids.length (ivs d.kids)
  apart : ∀ (i j : Nat) (u v : Value) (k : Nat), vks[i]? = some u → vks[j]? = some v → u.ownBlock = some k → v.ownBlock = some k → i = j
  top : ∀ k, vn.ownBlock = some k → ¬ S k ∧ ∀ (i : Nat) (v : Value), vks[i]? = some v → v.ownBlock ≠ some k
  sk : ∀ (i : Nat) (v : Value) (k : Nat), vks[i]? = some v → v.ownBlock = some k → ¬ S k
theorem DM.rlen {w : World} {et : TypeId} {S : Nat → Prop} {vn : Value} {vks : List Value} {rows : List (List Value)} {nds : List DN} (h : DM w et S vn vks rows nds) : ∀ r ∈ rows, r.length = 5 := by
  intro r hr
  obtain ⟨i, hi⟩ := List.mem_iff_getElem?.1 hr
  have hil := (List.getElem?_eq_some_iff.1 hi).1
  have hd : nds[i]? = some (nds[i]'(by rw [← h.lr]; exact hil)) := List.getElem?_eq_getElem _
  obtain ⟨h5, va, vl, vk, -, h1, -⟩ := h.row i _ hd
  rw [hi] at h1; cases h1
  rfl
theorem DM.chg {w w' : World} {et : TypeId} {S T : Nat → Prop} {vn : Value} {vks : List Value} {rows : List (List Value)} {nds : List DN} (h : DM w et S vn vks rows nds) (hc : Chg T w w') (hf : ∀ k, NFoot vn vks k → ¬ T k) (hs : ∀ k, S k → ¬ T k) : DM w' et S vn vks rows nds := by
  refine ⟨owns_chg' h.own hc (fun k hk => hf k (.inl hk)), h.lr, h.lk, fun i d hd => ?_, h.apart, h.top, h.sk⟩
  obtain ⟨h5, va, vl, vk, h1, h2, h3, h4, h6⟩ := h.row i d hd
  exact ⟨h5, va, vl, vk, h1, h2, h3.chg hc (fun k hk => ⟨hk, hs k hk⟩), h4.chg hc (fun k hk => ⟨hk, hs k hk⟩), owns_chg' h6 hc (fun k hk => hf k (.inr ⟨i, vk, h1, hk⟩))⟩
theorem DM.ext {w w' : World} {et : TypeId} {S : Nat → Prop} {vn : Value} {vks : List Value} {rows : List (List Value)} {nds : List DN} (h : DM w et S vn vks rows nds) (he : Ext w w') : DM w' et S vn vks rows nds := h.chg (he.chg (fun _ => False)) (fun _ _ => id) (fun _ _ => id)
/-- A node, read. -/
theorem DM.at_ {w : World} {et : TypeId} {S : Nat → Prop} {vn : Value} {vks : List Value} {rows : List (List Value)} {nds : List DN} (h : DM w et S vn vks rows nds) (hl : nds.length ≤ 1048576) {i : Nat} {d : DN} (hd : nds[i]? = some d) :
    ∃ g cap va vl vk, vn = .slice (some ⟨g, 0, none⟩) nds.length cap ∧ vks[i]? = some vk ∧ True ∧ (∀ (j : Nat) (u : Value), (d.row va vl vk)[j]? = some u → w.cell? ⟨g, i * 5 + j, none⟩ = some u) ∧ VSlS w S va d.in_ ∧ VSlS w S vl d.out ∧ w.ownsRow 0 3 1 vk d.kids.length (ivs d.kids) := by
  obtain ⟨h5, va, vl, vk, h1, h2, h3, h4, h6⟩ := h.row i d hd
  obtain ⟨g, cap, hv, -, hc⟩ := own_row h.own h.rlen h2 (by decide) (by rw [h.lr]; omega)
  exact ⟨g, cap, va, vl, vk, hv, h1, h5, fun j u hj => by have := hc j u hj; simpa [add_at] using this, h3, h4, h6⟩
theorem DM.len {w : World} {et : TypeId} {S : Nat → Prop} {vn : Value} {vks : List Value} {rows : List (List Value)} {nds : List DN} (h : DM w et S vn vks rows nds) : ∃ A c, vn = .slice A nds.length c := by
  rcases h.own.2 with ⟨h1, h2⟩ | ⟨g, cap, cur, h1, _⟩
  · exact ⟨none, 0, by rw [h1, h2]⟩
  · exact ⟨_, _, h1⟩
theorem DM.push {w w' : World} {et : TypeId} {S : Nat → Prop} {vn vn' : Value} {vks : List Value} {rows : List (List Value)} {nds : List DN} {d : DN} {va vl : Value} (h : DM w et S vn vks rows nds) (hS : ∀ k, S k → k < w.heap.size) (hc : Chg (fun k => vn.ownBlock = some k) w w')
    (hown : w'.ownsRow 0 et 5 vn' (nds.length + 1) (rows.flatten ++ d.row va vl (.slice none 0 0))) (hblk : ∀ k, vn'.ownBlock = some k → vn.ownBlock = some k ∨ w.heap.size ≤ k)
    (h5 : True) (hk : d.kids = []) (ha : VSlS w' S va d.in_) (hl : VSlS w' S vl d.out) : DM w' et S vn' (vks ++ [.slice none 0 0]) (rows ++ [d.row va vl (.slice none 0 0)]) (nds ++ [d]) := by
  have hnil : ∀ k, (Value.slice none 0 0).ownBlock = some k → False := fun k hk => by simp [Value.ownBlock] at hk
  have get : ∀ (i : Nat) (v : Value) (k : Nat), (vks ++ [Value.slice none 0 0])[i]? = some v → v.ownBlock = some k → vks[i]? = some v := fun i v k hi hk => by
    rcases Nat.lt_or_ge i vks.length with h1 | h1
    · rwa [List.getElem?_append_left h1] at hi
    · rw [List.getElem?_append_right h1] at hi
      have h2 := (List.getElem?_eq_some_iff.1 hi).1
      simp at h2
      have h3 : i - vks.length = 0 := by omega
      rw [h3] at hi
      simp at hi; subst hi
      exact (hnil k hk).elim
  have hvk : ∀ (i : Nat) (v : Value) (k : Nat), vks[i]? = some v → v.ownBlock = some k → k < w.heap.size := fun i v k hi hk => by
    have hil := (List.getElem?_eq_some_iff.1 hi).1
    obtain ⟨_, _, _, vk, h1, _, _, _, h2⟩ := h.row i (nds[i]'(by rw [← h.lk]; exact hil)) (List.getElem?_eq_getElem _)
    rw [hi] at h1; cases h1
    exact (h2.lt k hk).2
  refine ⟨by simpa using hown, by simp [h.lr], by simp [h.lk], fun i e he => ?_, fun i j u v k hi hj hu hv => h.apart i j u v k (get i u k hi hu) (get j v k hj hv) hu hv, fun k hk => ⟨fun hs => ?_, fun i v hi hv => ?_⟩, fun i v k hi hv => h.sk i v k (get i v k hi hv) hv⟩
  · rcases Nat.lt_or_ge i nds.length with h1 | h1
    · rw [List.getElem?_append_left h1] at he
      obtain ⟨g5, wa, wl, wk, g1, g2, g3, g4, g6⟩ := h.row i e he
      refine ⟨g5, wa, wl, wk, by rw [List.getElem?_append_left (by rw [h.lk]; exact h1)]; exact g1, by rw [List.getElem?_append_left (by rw [h.lr]; exact h1)]; exact g2, g3.chg hc (fun k hk => ⟨hk, fun e => (h.top k e).1 hk⟩), g4.chg hc (fun k hk => ⟨hk, fun e => (h.top k e).1 hk⟩), owns_chg' g6 hc (fun k hk e => (h.top k e).2 i wk g1 hk)⟩
    · rw [List.getElem?_append_right h1] at he
      have h2 := (List.getElem?_eq_some_iff.1 he).1
      simp at h2
      have h3 : i = nds.length := by omega
      subst h3
      simp at he; subst he
      refine ⟨h5, va, vl, .slice none 0 0, by rw [List.getElem?_append_right (by rw [h.lk]; exact Nat.le_refl _)]; simp [h.lk], by rw [List.getElem?_append_right (by rw [h.lr]; exact Nat.le_refl _)]; simp [h.lr], ha, hl, ?_⟩
      rw [hk]; exact World.ownsRow_nil _ _ _ _
  · rcases hblk k hk with h1 | h1
    · exact (h.top k h1).1 hs
    · have := hS k hs; omega
  · have hi' := get i v k hi hv
    rcases hblk k hk with h1 | h1
    · exact (h.top k h1).2 i v hi' hv
    · have := hvk i v k hi' hv; omega
theorem drow_set_kids {d : DN} (h : True) (ks : List Int) (va vl vk vk' : Value) : splice (d.row va vl vk) 4 [vk'] = ({ d with kids := ks } : DN).row va vl vk' := rfl
/-- A node's kids, one more: the row of kids has grown; its head is stored. -/
theorem DM.kid {w w1 : World} {et : TypeId} {S : Nat → Prop} {vn vk vk' : Value} {vks : List Value} {rows : List (List Value)} {nds : List DN} {i : Nat} {d : DN} {c : Int} (h : DM w et S vn vks rows nds) (hd : nds[i]? = some d) (hvk : vks[i]? = some vk) (hS : ∀ k, S k → k < w.heap.size) (hvn : ∀ k, vn.ownBlock = some k → k < w.heap.size)
    (hc1 : Chg (fun k => vk.ownBlock = some k) w w1) (hown : w1.ownsRow 0 3 1 vk' (d.kids.length + 1) (ivs d.kids ++ [.int .i64 c])) (hblk : ∀ k, vk'.ownBlock = some k → vk.ownBlock = some k ∨ w.heap.size ≤ k) :
    ∃ g cap cur, vn = .slice (some ⟨g, 0, none⟩) nds.length cap ∧ Blk w1 g cur et ∧ i * 5 + 4 + 1 ≤ cur.length ∧
      ∀ w2, Chg (· = g) w1 w2 → Blk w2 g (splice cur (i * 5 + 4) [vk']) et → ∃ rows', DM w2 et S vn (vks.set i vk') rows' (nds.set i { d with kids := d.kids ++ [c] }) := by
  obtain ⟨h5, va, vl, vk0, h1, h2, h3, h4, h6⟩ := h.row i d hd
  rw [hvk] at h1; cases h1
  have hil := (List.getElem?_eq_some_iff.1 hd).1
  have hown1 := owns_chg' h.own hc1 (fun k hk e => (h.top k hk).2 i vk hvk e)
  obtain ⟨g, cap, cur, hv, hb, hle, hn, -, hw⟩ := own_store hown1 h.rlen h2 (by decide) (off := 4) (vs := [vk']) (by simp) (by simp)
  have hvo : vn.ownBlock = some g := by rw [hv]; rfl
  have hgl := hvn g hvo
  have hvkl : ∀ (j : Nat) (v : Value) (k : Nat), vks[j]? = some v → v.ownBlock = some k → k < w.heap.size := fun j v k hi hk => by
    have hjl := (List.getElem?_eq_some_iff.1 hi).1
    obtain ⟨_, _, _, vk, g1, _, _, _, g2⟩ := h.row j (nds[j]'(by rw [← h.lk]; exact hjl)) (List.getElem?_eq_getElem _)
    rw [hi] at g1; cases g1
    exact (g2.lt k hk).2
  refine ⟨g, cap, cur, hv, hb, by simpa using hle, fun w2 hc2 hb2 => ⟨rows.set i (({ d with kids := d.kids ++ [c] } : DN).row va vl vk'), ?_⟩⟩
  have hown2 := hw w2 hb2
  rw [drow_set_kids h5 (d.kids ++ [c])] at hown2
  have hc12 : Chg (fun k => vk.ownBlock = some k ∨ k = g) w w2 := (hc1.mono fun k _ h => .inl h).trans (hc2.mono fun k _ h => .inr h)
  have hsT : ∀ k, S k → ¬ (vk.ownBlock = some k ∨ k = g) := fun k hk hh => by
    rcases hh with hh | hh
    · exact h.sk i vk k hvk hh hk
    · exact (h.top g hvo).1 (hh ▸ hk)
  have get : ∀ (j : Nat) (v : Value), (vks.set i vk')[j]? = some v → (j = i ∧ v = vk') ∨ (j ≠ i ∧ vks[j]? = some v) := fun j v hj => by
    by_cases hji : j = i
    · subst hji
      rw [List.getElem?_set_self (by rw [h.lk]; exact hil)] at hj
      cases hj; exact .inl ⟨rfl, rfl⟩
    · rw [List.getElem?_set_ne (fun e => hji e.symm)] at hj
      exact .inr ⟨hji, hj⟩
  have newne : ∀ (j : Nat) (v : Value) (k : Nat), j ≠ i → vks[j]? = some v → v.ownBlock = some k → vk'.ownBlock ≠ some k := fun j v k hji hj hk hk' => by
    rcases hblk k hk' with h7 | h7
    · exact hji (h.apart j i v vk k hj hvk hk h7)
    · have := hvkl j v k hj hk; omega
  have hkidl := (hown.lt)
  refine ⟨by rw [List.length_set]; exact hown2, by simp [h.lr], by simp [h.lk], fun j e he => ?_, fun a b u v k ha hb' hu hv' => ?_, fun k hk => ⟨(h.top k hk).1, fun j v hj hjk => ?_⟩, fun j v k hj hk hs => ?_⟩
  · by_cases hji : j = i
    · subst hji
      rw [List.getElem?_set_self hil] at he
      cases he
      refine ⟨h5, va, vl, vk', by rw [List.getElem?_set_self (by rw [h.lk]; exact hil)], by rw [List.getElem?_set_self (by rw [h.lr]; exact hil)], h3.chg hc12 (fun k hk => ⟨hk, hsT k hk⟩), h4.chg hc12 (fun k hk => ⟨hk, hsT k hk⟩), ?_⟩
      have : w1.ownsRow 0 3 1 vk' (d.kids ++ [c]).length (ivs (d.kids ++ [c])) := by simpa [ivs] using hown
      refine owns_chg' this hc2 (fun k hk e => ?_)
      rcases hblk k hk with h7 | h7
      · exact (h.top g hvo).2 j vk hvk (e ▸ h7)
      · omega
    · rw [List.getElem?_set_ne (fun e => hji e.symm)] at he
      obtain ⟨g5, wa, wl, wk, g1, g2, g3, g4, g6⟩ := h.row j e he
      refine ⟨g5, wa, wl, wk, by rw [List.getElem?_set_ne (fun e => hji e.symm)]; exact g1, by rw [List.getElem?_set_ne (fun e => hji e.symm)]; exact g2, g3.chg hc12 (fun k hk => ⟨hk, hsT k hk⟩), g4.chg hc12 (fun k hk => ⟨hk, hsT k hk⟩), owns_chg' g6 hc12 (fun k hk hh => ?_)⟩
      rcases hh with hh | hh
      · exact hji (h.apart j i wk vk k g1 hvk hk hh)
      · exact (h.top g hvo).2 j wk g1 (hh ▸ hk)
  · rcases get a u ha with ⟨rfl, rfl⟩ | ⟨ha1, ha2⟩
    · rcases get b v hb' with ⟨rfl, rfl⟩ | ⟨hb1, hb2'⟩
      · rfl
      · exact absurd hu (newne b v k hb1 hb2' hv')
    · rcases get b v hb' with ⟨rfl, rfl⟩ | ⟨hb1, hb2'⟩
      · exact absurd hv' (newne a u k ha1 ha2 hu)
      · exact h.apart a b u v k ha2 hb2' hu hv'
  · rcases get j v hj with ⟨rfl, rfl⟩ | ⟨h7, h8⟩
    · rcases hblk k hjk with h7 | h7
      · exact (h.top k hk).2 j vk hvk h7
      · have := hvn k hk; omega
    · exact (h.top k hk).2 j v h8 hjk
  · rcases get j v hj with ⟨rfl, rfl⟩ | ⟨h7, h8⟩
    · rcases hblk k hk with h7 | h7
      · exact h.sk j vk k hvk h7 hs
      · have := hS k hs; omega
    · exact h.sk j v k h8 hk hs
theorem DM.mono {w : World} {et : TypeId} {S S' : Nat → Prop} {vn : Value} {vks : List Value} {rows : List (List Value)} {nds : List DN} (h : DM w et S vn vks rows nds) (hs : ∀ k, S k → S' k) (hd : ∀ k, S' k → ¬ NFoot vn vks k) : DM w et S' vn vks rows nds := by
  refine ⟨h.own, h.lr, h.lk, fun i d hi => ?_, h.apart, fun k hk => ⟨fun hh => hd k hh (.inl hk), (h.top k hk).2⟩, fun i v k hi hk hh => hd k hh (.inr ⟨i, v, hi, hk⟩)⟩
  obtain ⟨h5, va, vl, vk, h1, h2, h3, h4, h6⟩ := h.row i d hi
  exact ⟨h5, va, vl, vk, h1, h2, h3.mono hs, h4.mono hs, h6⟩
end Go.Proofs.Vg
/- debug.Tree's closure: the tree of the calls that are out.  -/
set_option linter.unusedVariables false
set_option linter.unusedSimpArgs false
namespace Go.Proofs.Vg
open Go Go.RowKit
theorem owns_one {w : World} {base e sz n : Nat} {v : Value} {xs : List Value} (h : w.ownsRow base e sz v n xs) : v.oneCell' = true ∧ v.cells = #[v] ∧ ∃ A c, v = .slice A n c := by
  rcases h.2 with ⟨rfl, h2⟩ | ⟨g, cap, cur, rfl, _⟩
  · exact ⟨rfl, rfl, none, 0, by rw [h2]⟩
  · exact ⟨rfl, rfl, _, _, rfl⟩
theorem row_one {d : Nd} {va vl vk : Value} (ha : va.oneCell' = true) (hl : vl.oneCell' = true) (hk : vk.oneCell' = true) : ∀ u ∈ d.row va vl vk, u.oneCell' = true := by
  intro u hu
  simp only [Nd.row, ivs, List.mem_append, List.mem_cons, List.mem_map, List.not_mem_nil, or_false] at hu
  rcases hu with (rfl | rfl | rfl) | ⟨x, _, rfl⟩ | rfl | rfl | rfl | rfl <;> first | rfl | assumption
theorem sumK_app (s : Int → Nat) : ∀ (l l' : List Int), sumK s (l ++ l') = sumK s l + sumK s l'
  | [], l' => by simp [sumK]
  | k :: l, l' => by simp only [List.cons_append, sumK, sumK_app s l l']; omega
theorem sumK_take (s : Int → Nat) (l : List Int) (i : Nat) : sumK s (l.take i) ≤ sumK s l := by
  conv => rhs; rw [← List.take_append_drop i l, sumK_app]
  omega
theorem VSlS.slice {w : World} {S : Nat → Prop} {v : Value} {xs : List Val} (h : VSlS w S v xs) : ∃ A c, v = .slice A xs.length c := by
  obtain ⟨-, -, rows, ⟨A, c, h1, -⟩, h2⟩ := h
  exact ⟨A, c, by rw [h1, h2.length]⟩
/-- What the nodes lead to: not to their own rows; it lies in E. -/
theorem Chg.drew (S : Nat → Prop) (w : World) : Chg S w { w with drawn := w.drawn + 1 } := (Ext.drew w).chg S
def SD (w : World) (E : Nat → Prop) (vn : Value) (dvks : List Value) (k : Nat) : Prop := k < w.heap.size ∧ E k ∧ ¬ NFoot vn dvks k
theorem DM.keep {w w' : World} {et : TypeId} {E T : Nat → Prop} {vn : Value} {dvks : List Value} {drows : List (List Value)} {dns : List DN} (h : DM w et (SD w E vn dvks) vn dvks drows dns) (hc : Chg T w w') (hf : ∀ k, NFoot vn dvks k → ¬ T k) (hE : ∀ k, E k → ¬ NFoot vn dvks k → k < w.heap.size → ¬ T k) : DM w' et (SD w' E vn dvks) vn dvks drows dns := by
  have hs := hc.size
  exact (h.chg hc hf (fun k hk => hE k hk.2.1 hk.2.2 hk.1)).mono (fun k hk => ⟨by have := hk.1; omega, hk.2⟩) (fun k hk => hk.2.2)
theorem DM.keepE {w w' : World} {et : TypeId} {E : Nat → Prop} {vn : Value} {dvks : List Value} {drows : List (List Value)} {dns : List DN} (h : DM w et (SD w E vn dvks) vn dvks drows dns) (he : Ext w w') : DM w' et (SD w' E vn dvks) vn dvks drows dns := h.keep (he.chg (fun _ => False)) (fun _ _ => id) (fun _ _ _ _ => id)
/-- A node more. -/
theorem DM.grow {w w' : World} {et : TypeId} {E : Nat → Prop} {vn vn' va vl : Value} {dvks : List Value} {drows : List (List Value)} {dns : List DN} {d : DN} (h : DM w et (SD w E vn dvks) vn dvks drows dns) (hf : ∀ k, NFoot vn dvks k → k < w.heap.size) (hc : Chg (fun k => vn.ownBlock = some k) w w')
    (hown : w'.ownsRow 0 et 5 vn' (dns.length + 1) (drows.flatten ++ d.row va vl (.slice none 0 0))) (hblk : vn'.ownBlock = vn.ownBlock ∨ vn'.ownBlock = some w.heap.size) (hk : d.kids = []) (ha : VSlS w (SD w E vn dvks) va d.in_) (hl : VSlS w (SD w E vn dvks) vl d.out) :
    DM w' et (SD w' E vn' (dvks ++ [.slice none 0 0])) vn' (dvks ++ [.slice none 0 0]) (drows ++ [d.row va vl (.slice none 0 0)]) (dns ++ [d]) ∧ ∀ k, NFoot vn' (dvks ++ [.slice none 0 0]) k → NFoot vn dvks k ∨ (k = w.heap.size ∧ k < w'.heap.size) := by
  have hs := hc.size
  have hSf : ∀ k, SD w E vn dvks k → ¬ vn.ownBlock = some k := fun k hk e => hk.2.2 (.inl e)
  have hp := h.push (fun k hk => hk.1) hc hown (fun k hk => by
    rcases hblk with h1 | h1
    · exact .inl (h1 ▸ hk)
    · rw [h1] at hk; cases hk; exact .inr (Nat.le_refl _)) trivial hk (ha.chg hc (fun k hk => ⟨hk, hSf k hk⟩)) (hl.chg hc (fun k hk => ⟨hk, hSf k hk⟩))
  have hnew : ∀ k, NFoot vn' (dvks ++ [.slice none 0 0]) k → NFoot vn dvks k ∨ (k = w.heap.size ∧ k < w'.heap.size) := fun k hk => by
    rcases hk with hk | ⟨i, v, hi, hk⟩
    · have hlt := (hown.lt k hk).2
      rcases hblk with h1 | h1
      · exact .inl (.inl (h1 ▸ hk))
      · rw [h1] at hk; cases hk; exact .inr ⟨rfl, hlt⟩
    · rcases Nat.lt_or_ge i dvks.length with h' | h'
      · rw [List.getElem?_append_left h'] at hi
        exact .inl (.inr ⟨i, v, hi, hk⟩)
      · rw [List.getElem?_append_right h'] at hi
        have h3 := List.mem_of_getElem? hi
        simp at h3; subst h3
        simp [Value.ownBlock] at hk
  refine ⟨hp.mono (fun k hk => ⟨by have := hk.1; omega, hk.2.1, fun hh => ?_⟩) (fun k hk => hk.2.2), hnew⟩
  rcases hnew k hh with h1 | h1
  · exact hk.2.2 h1
  · have := hk.1; omega
/-- A kid more. -/
theorem DM.kidG {w w1 : World} {et : TypeId} {E : Nat → Prop} {vn vk vk' : Value} {dvks : List Value} {drows : List (List Value)} {dns : List DN} {i : Nat} {d : DN} {c : Int} (h : DM w et (SD w E vn dvks) vn dvks drows dns) (hf : ∀ k, NFoot vn dvks k → k < w.heap.size) (hd : dns[i]? = some d) (hvk : dvks[i]? = some vk)
    (hc1 : Chg (fun k => vk.ownBlock = some k) w w1) (hown : w1.ownsRow 0 3 1 vk' (d.kids.length + 1) (ivs d.kids ++ [.int .i64 c])) (hblk : vk'.ownBlock = vk.ownBlock ∨ vk'.ownBlock = some w.heap.size) :
    ∃ g cap cur, vn = .slice (some ⟨g, 0, none⟩) dns.length cap ∧ Blk w1 g cur et ∧ i * 5 + 4 + 1 ≤ cur.length ∧
      ∀ w2, Chg (· = g) w1 w2 → Blk w2 g (splice cur (i * 5 + 4) [vk']) et → ∃ drows', DM w2 et (SD w2 E vn (dvks.set i vk')) vn (dvks.set i vk') drows' (dns.set i { d with kids := d.kids ++ [c] }) ∧ (∀ k, NFoot vn (dvks.set i vk') k → NFoot vn dvks k ∨ (k = w.heap.size ∧ k < w2.heap.size)) ∧ Chg (NFoot vn dvks) w w2 := by
  have hbl : ∀ k, vk'.ownBlock = some k → vk.ownBlock = some k ∨ w.heap.size ≤ k := fun k hk => by
    rcases hblk with h1 | h1
    · exact .inl (h1 ▸ hk)
    · rw [h1] at hk; cases hk; exact .inr (Nat.le_refl _)
  obtain ⟨g, cap, cur, hv, hb, hle, hput⟩ := h.kid hd hvk (fun k hk => hk.1) (fun k hk => hf k (.inl hk)) hc1 hown hbl
  have hvo : vn.ownBlock = some g := by rw [hv]; rfl
  refine ⟨g, cap, cur, hv, hb, hle, fun w2 hc2 hb2 => ?_⟩
  obtain ⟨drows', hD⟩ := hput w2 hc2 hb2
  have hs1 := hc1.size
  have hs2 := hc2.size
  have hnew : ∀ k, NFoot vn (dvks.set i vk') k → NFoot vn dvks k ∨ (k = w.heap.size ∧ k < w2.heap.size) := fun k hk => by
    rcases hk with hk | ⟨j, v, hj, hk⟩
    · exact .inl (.inl hk)
    · by_cases hji : i = j
      · subst hji
        have hil := (List.getElem?_eq_some_iff.1 hvk).1
        rw [List.getElem?_set_self hil] at hj
        cases hj
        have hlt := (hown.lt k hk).2
        rcases hblk with h1 | h1
        · exact .inl (.inr ⟨i, vk, hvk, h1 ▸ hk⟩)
        · rw [h1] at hk; cases hk; exact .inr ⟨rfl, by omega⟩
      · rw [List.getElem?_set_ne hji] at hj
        exact .inl (.inr ⟨j, v, hj, hk⟩)
  refine ⟨drows', hD.mono (fun k hk => ⟨by have := hk.1; omega, hk.2.1, fun hh => ?_⟩) (fun k hk => hk.2.2), hnew, (hc1.mono fun k _ hk => .inr ⟨i, vk, hvk, hk⟩).trans (hc2.mono fun k _ hk => by subst hk; exact .inl hvo)⟩
  rcases hnew k hh with h1 | h1
  · exact hk.2.2 h1
  · have := hk.1; omega
/-- The nodes so far, in the cell at 'bo'. -/
structure OutOK (w : World) (bo ba : Nat) (dns : List DN) (vn : Value) (dvks : List Value) (drows : List (List Value)) : Prop where
  head : Blk w bo [vn] 22
  dm : DM w 37 (SD w (fun k => k ≠ bo) vn dvks) vn dvks drows dns
  foot : ∀ k, NFoot vn dvks k → bo < k ∧ k ≠ ba ∧ k < w.heap.size
structure CtxOK (w : World) (bc bo ba : Nat) (Sc : Nat → Prop) (vc : Value) (cvks : List Value) (crows : List (List Value)) (nds : List Nd) : Prop where
  hc : Blk w bc [vc] 73
  nm : NM w 79 Sc vc cvks crows nds
  ha : Blk w ba [.func (.func 36) #[] #[.pointer (some ⟨bc, 0, none⟩), .pointer (some ⟨bo, 0, none⟩), .pointer (some ⟨ba, 0, none⟩)]] 76
  lc : bc < bo
  la : bo < ba
  lF : ∀ k, NFoot vc cvks k → k < bo
  lS : ∀ k, Sc k → k < bo
theorem CtxOK.chg {w w' : World} {T : Nat → Prop} {bc bo ba : Nat} {Sc : Nat → Prop} {vc : Value} {cvks : List Value} {crows : List (List Value)} {nds : List Nd} (h : CtxOK w bc bo ba Sc vc cvks crows nds) (hc : Chg T w w') (ht : ∀ k, T k → bo ≤ k ∧ k ≠ ba) : CtxOK w' bc bo ba Sc vc cvks crows nds :=
  ⟨h.hc.chg hc (fun hk => by have := (ht _ hk).1; have := h.lc; omega), h.nm.chg hc (fun k hk ht' => by have := (ht _ ht').1; have := h.lF k hk; omega) (fun k hk ht' => by have := (ht _ ht').1; have := h.lS k hk; omega), h.ha.chg hc (fun hk => (ht _ hk).2 rfl), h.lc, h.la, h.lF, h.lS⟩
theorem OutOK.ext {w w' : World} {bo ba : Nat} {dns : List DN} {vn : Value} {dvks : List Value} {drows : List (List Value)} (h : OutOK w bo ba dns vn dvks drows) (he : Ext w w') : OutOK w' bo ba dns vn dvks drows := by
  have hs := he.size
  exact ⟨h.head.ext he, h.dm.keepE he, fun k hk => by have := h.foot k hk; exact ⟨this.1, this.2.1, by omega⟩⟩
end Go.Proofs.Vg
namespace Go.Proofs.Ytafjfcameabbmaa
open Go Go.Proofs.Vg Go.RowKit

-- -- function 36
set_option maxHeartbeats 4000000 in
set_option maxRecDepth 8000 in
theorem add_ok (bc bo ba : Nat) (Sc : Nat → Prop) (vc : Value) (cvks : List Value) (crows : List (List Value)) (nds : List Nd) (mm : Nat) (hw : WF mm nds) (hmm : mm ≤ 400) (hsm : ∀ d ∈ nds, SmVs d.args ∧ SmVs d.last) :
    ∀ (f : Nat) (call : Int) (w : World) (vn : Value) (dvks : List Value) (drows : List (List Value)) (dns : List DN), nds.length < call.toNat + f → 1 ≤ call → call ≤ (nds.length : Int) → dns.length + sizeF nds f call ≤ 1000 → CtxOK w bc bo ba Sc vc cvks crows nds → OutOK w bo ba dns vn dvks drows →
    Rets Try.prog 36 [.int .i64 call, .pointer (some ⟨bc, 0, none⟩), .pointer (some ⟨bo, 0, none⟩), .pointer (some ⟨ba, 0, none⟩)] w (fun r w' => r = .int .i64 (dns.length : Int) ∧ (∃ vn' dvks' drows', OutOK w' bo ba (dns ++ growF nds f call dns.length) vn' dvks' drows' ∧ ∀ k, NFoot vn' dvks' k → NFoot vn dvks k ∨ w.heap.size ≤ k) ∧ Chg (fun k => k = bo ∨ NFoot vn dvks k) w w') := by
  intro f
  induction f with
  | zero => intro call w vn dvks drows dns h1 h2 h3; omega
  | succ f ih =>
    intro call w vn dvks drows dns hfu hc1 hcl hsz hctx hout
    obtain ⟨i0, rfl⟩ : ∃ i : Nat, call = (i : Int) + 1 := ⟨(call - 1).toNat, by omega⟩
    have hi0 : i0 < nds.length := by omega
    have hn := hw.n
    have hd : nds[i0]? = some nds[i0] := List.getElem?_eq_getElem hi0
    generalize nds[i0] = d at hd
    have hat : atN nds ((i0 : Int) + 1) = some d := by
      unfold atN
      rw [if_pos (by omega), show ((i0 : Int) + 1 - 1).toNat = i0 by omega]
      exact hd
    have hgrow : growF nds (f + 1) ((i0 : Int) + 1) dns.length = ⟨(i0 : Int) + 1, d.proc, d.args, d.last, (kidsF (growF nds f) nds d.kids (dns.length + 1)).2⟩ :: (kidsF (growF nds f) nds d.kids (dns.length + 1)).1 := by
      rw [growF, hat]
    have hszd : sizeF nds (f + 1) ((i0 : Int) + 1) = 1 + sumK (fun k => if stateN nds k = 2 then sizeF nds f k else 0) d.kids := by
      rw [sizeF, hat]
    rw [hszd] at hsz
    obtain ⟨g, cap, va, vl, vk, hvc, hvk, h5, hcell, hva, hvl, hvkk⟩ := hctx.nm.at_ (by omega) hd
    obtain ⟨hsa, hsl⟩ := hsm d (List.mem_of_getElem? hd)
    obtain ⟨hko, hkc, Ak, ck, hvkeq⟩ := owns_one hvkk
    obtain ⟨hno, hnc, An, cn, hvneq⟩ := owns_one hout.dm.own
    have hkl := (hw.kids i0 d hd)
    have hbal := hctx.ha.lt
    have hlc := hctx.lc
    have hla := hctx.la
    refine rets_of_ok Try.func36 rfl rfl ?_
    refine ok_seq (fun M hM => ok_region rfl ?_); repeat ((try first | (refine z3 hX ?_; clear hX X) | (refine z2 hX ?_; clear hX X)); (first | refine zL fun X hX => ?_ | refine zH fun X hX => ?_ | refine zE fun X hX => ?_ | refine zl ?_ | refine zh ?_ | refine ze ?_); try simp only [oweC, oweP, opF, opH, ev, evs, evp, evo, Env.get, Env.set, putE, gdst, S0, S1, thenN, inBlockN, argEnv, builtinR, retE, fin, callR, reduceIte, Nat.reduceEqDiff, Nat.reduceAdd, reduceCtorEq, forall_const, Q36])
    refine hM _ _ _ ?_; clear hM M
    refine ok_seq (fun M hM => ok_region rfl ?_)
    repeat ((try first | (refine z3 hX ?_; clear hX X) | (refine z2 hX ?_; clear hX X)); (first | refine zL fun X hX => ?_ | refine zH fun X hX => ?_ | refine zE fun X hX => ?_ | refine zl ?_ | refine zh ?_ | refine ze ?_); try simp only [oweC, oweP, opF, opH, ev, evs, evp, evo, Env.get, Env.set, putE, gdst, S0, S1, thenN, inBlockN, argEnv, builtinR, retE, fin, callR, reduceIte, Nat.reduceEqDiff, Nat.reduceAdd, reduceCtorEq, forall_const, Q36])
    refine ⟨_, hctx.hc.cell (j := 0) rfl, ?_⟩
    rw [hvc]
    repeat ((try first | (refine z3 hX ?_; clear hX X) | (refine z2 hX ?_; clear hX X)); (first | refine zL fun X hX => ?_ | refine zH fun X hX => ?_ | refine zE fun X hX => ?_ | refine zl ?_ | refine zh ?_ | refine ze ?_); try simp only [oweC, oweP, opF, opH, ev, evs, evp, evo, Env.get, Env.set, putE, gdst, S0, S1, thenN, inBlockN, argEnv, builtinR, retE, fin, callR, reduceIte, Nat.reduceEqDiff, Nat.reduceAdd, reduceCtorEq, forall_const, Q36])
    refine ⟨by simp only [inI]; omega, ?_⟩
    repeat ((try first | (refine z3 hX ?_; clear hX X) | (refine z2 hX ?_; clear hX X)); (first | refine zL fun X hX => ?_ | refine zH fun X hX => ?_ | refine zE fun X hX => ?_ | refine zl ?_ | refine zh ?_ | refine ze ?_); try simp only [oweC, oweP, opF, opH, ev, evs, evp, evo, Env.get, Env.set, putE, gdst, S0, S1, thenN, inBlockN, argEnv, builtinR, retE, fin, callR, reduceIte, Nat.reduceEqDiff, Nat.reduceAdd, reduceCtorEq, forall_const, Q36])
    refine ⟨by omega, by omega, ?_⟩
    rw [show ((i0 : Int) + 1 - 1).toNat = i0 by omega]
    repeat ((try first | (refine z3 hX ?_; clear hX X) | (refine z2 hX ?_; clear hX X)); (first | refine zL fun X hX => ?_ | refine zH fun X hX => ?_ | refine zE fun X hX => ?_ | refine zl ?_ | refine zh ?_ | refine ze ?_); try simp only [oweC, oweP, opF, opH, ev, evs, evp, evo, Env.get, Env.set, putE, gdst, S0, S1, thenN, inBlockN, argEnv, builtinR, retE, fin, callR, reduceIte, Nat.reduceEqDiff, Nat.reduceAdd, reduceCtorEq, forall_const, Q36])
    refine ⟨d.row va vl vk, Nd.row_len h5 va vl vk, fun j u hj => by have := hcell j u hj; simpa [add_at] using this, ?_⟩
    repeat ((try first | (refine z3 hX ?_; clear hX X) | (refine z2 hX ?_; clear hX X)); (first | refine zL fun X hX => ?_ | refine zH fun X hX => ?_ | refine zE fun X hX => ?_ | refine zl ?_ | refine zh ?_ | refine ze ?_); try simp only [oweC, oweP, opF, opH, ev, evs, evp, evo, Env.get, Env.set, putE, gdst, S0, S1, thenN, inBlockN, argEnv, builtinR, retE, fin, callR, reduceIte, Nat.reduceEqDiff, Nat.reduceAdd, reduceCtorEq, forall_const, Q36])
    refine Runs.alloc Fx.zi79 (fun w1 he1 hz1 hb1 => ?_)
    generalize hB6 : w.heap.size = B6 at hz1 hb1
    repeat ((try first | (refine z3 hX ?_; clear hX X) | (refine z2 hX ?_; clear hX X)); (first | refine zL fun X hX => ?_ | refine zH fun X hX => ?_ | refine zE fun X hX => ?_ | refine zl ?_ | refine zh ?_ | refine ze ?_); try simp only [oweC, oweP, opF, opH, ev, evs, evp, evo, Env.get, Env.set, putE, gdst, S0, S1, thenN, inBlockN, argEnv, builtinR, retE, fin, callR, reduceIte, Nat.reduceEqDiff, Nat.reduceAdd, reduceCtorEq, forall_const, Q36])
    refine Runs.store hb1 Fx.zi79 (by simp [Value.cells, Nd.row_len h5]) (by simpa [Value.cells] using row_one hva.1 hvl.1 hko) (by simp [Value.cells]) (fun w2 hc2 hs2 hb2 => ?_)
    rw [splice_all _ _ (by simp [Value.cells, Nd.row_len h5])] at hb2
    simp only [Value.cells] at hb2
    have he2 : Ext w w2 := he1.chg_trans hc2 (fun k hk => by omega)
    have hs2' := he2.size
    have hctx2 := hctx.chg (he2.chg (fun _ => False)) (fun _ h => h.elim)
    have hout2 := hout.ext he2
    have hlB6 := hb2.lt
    repeat ((try first | (refine z3 hX ?_; clear hX X) | (refine z2 hX ?_; clear hX X)); (first | refine zL fun X hX => ?_ | refine zH fun X hX => ?_ | refine zE fun X hX => ?_ | refine zl ?_ | refine zh ?_ | refine ze ?_); try simp only [oweC, oweP, opF, opH, ev, evs, evp, evo, Env.get, Env.set, putE, gdst, S0, S1, thenN, inBlockN, argEnv, builtinR, retE, fin, callR, reduceIte, Nat.reduceEqDiff, Nat.reduceAdd, reduceCtorEq, forall_const, Q36])
    refine hM _ _ _ ?_; clear hM M
    refine ok_seq (fun M hM => ok_region rfl ?_)
    repeat ((try first | (refine z3 hX ?_; clear hX X) | (refine z2 hX ?_; clear hX X)); (first | refine zL fun X hX => ?_ | refine zH fun X hX => ?_ | refine zE fun X hX => ?_ | refine zl ?_ | refine zh ?_ | refine ze ?_); try simp only [oweC, oweP, opF, opH, ev, evs, evp, evo, Env.get, Env.set, putE, gdst, S0, S1, thenN, inBlockN, argEnv, builtinR, retE, fin, callR, reduceIte, Nat.reduceEqDiff, Nat.reduceAdd, reduceCtorEq, forall_const, Q36])
    refine ⟨_, hout2.head.cell (j := 0) rfl, ?_⟩
    rw [hvneq]
    repeat ((try first | (refine z3 hX ?_; clear hX X) | (refine z2 hX ?_; clear hX X)); (first | refine zL fun X hX => ?_ | refine zH fun X hX => ?_ | refine zE fun X hX => ?_ | refine zl ?_ | refine zh ?_ | refine ze ?_); try simp only [oweC, oweP, opF, opH, ev, evs, evp, evo, Env.get, Env.set, putE, gdst, S0, S1, thenN, inBlockN, argEnv, builtinR, retE, fin, callR, reduceIte, Nat.reduceEqDiff, Nat.reduceAdd, reduceCtorEq, forall_const, Q36])
    refine hM _ _ _ ?_; clear hM M
    -- the node
    refine ok_seq (fun M hM => ?_)
    refine (ok_drawP [0, 1, 2, 3, 4, 5, 7, 8, 6, 9, 10, 11, 12, 13] 8 [(true, false), (true, false), (true, false), (true, false), (false, true), (false, true)] (Ext _) Fx.mixed (by decide) rfl (by decide +kernel) (by decide +kernel) (Ext.drew _) ?_); simp only [pickL, List.getElem?_cons_zero, List.getElem?_cons_succ, List.take_succ_cons, List.take_zero, List.drop_succ_cons, List.drop_zero]
    repeat ((try first | (refine z3 hX ?_; clear hX X) | (refine z2 hX ?_; clear hX X)); (first | refine zL fun X hX => ?_ | refine zH fun X hX => ?_ | refine zE fun X hX => ?_ | refine zl ?_ | refine zh ?_ | refine ze ?_); try simp only [oweC, oweP, opF, opH, ev, evs, evp, evo, Env.get, Env.set, putE, gdst, S0, S1, thenN, inBlockN, argEnv, builtinR, retE, fin, callR, reduceIte, Nat.reduceEqDiff, Nat.reduceAdd, reduceCtorEq, forall_const, Q36])
    refine ⟨_, fun w' hw' => (hout2.head.ext hw').cell (j := 0) rfl, ?_⟩
    repeat ((try first | (refine z3 hX ?_; clear hX X) | (refine z2 hX ?_; clear hX X)); (first | refine zL fun X hX => ?_ | refine zH fun X hX => ?_ | refine zE fun X hX => ?_ | refine zl ?_ | refine zh ?_ | refine ze ?_); try simp only [oweC, oweP, opF, opH, ev, evs, evp, evo, Env.get, Env.set, putE, gdst, S0, S1, thenN, inBlockN, argEnv, builtinR, retE, fin, callR, reduceIte, Nat.reduceEqDiff, Nat.reduceAdd, reduceCtorEq, forall_const, Q36])
    refine ⟨.int .i64 d.proc, fun w' hw' => (hb2.ext hw').cell (j := 0) rfl, ?_⟩
    repeat ((try first | (refine z3 hX ?_; clear hX X) | (refine z2 hX ?_; clear hX X)); (first | refine zL fun X hX => ?_ | refine zH fun X hX => ?_ | refine zE fun X hX => ?_ | refine zl ?_ | refine zh ?_ | refine ze ?_); try simp only [oweC, oweP, opF, opH, ev, evs, evp, evo, Env.get, Env.set, putE, gdst, S0, S1, thenN, inBlockN, argEnv, builtinR, retE, fin, callR, reduceIte, Nat.reduceEqDiff, Nat.reduceAdd, reduceCtorEq, forall_const, Q36])
    refine ⟨va, fun w' hw' => (hb2.ext hw').cell (row_args h5 va vl vk), ?_⟩
    repeat ((try first | (refine z3 hX ?_; clear hX X) | (refine z2 hX ?_; clear hX X)); (first | refine zL fun X hX => ?_ | refine zH fun X hX => ?_ | refine zE fun X hX => ?_ | refine zl ?_ | refine zh ?_ | refine ze ?_); try simp only [oweC, oweP, opF, opH, ev, evs, evp, evo, Env.get, Env.set, putE, gdst, S0, S1, thenN, inBlockN, argEnv, builtinR, retE, fin, callR, reduceIte, Nat.reduceEqDiff, Nat.reduceAdd, reduceCtorEq, forall_const, Q36])
    refine ⟨vl, fun w' hw' => (hb2.ext hw').cell (row_last h5 va vl vk), ?_⟩
    repeat ((try first | (refine z3 hX ?_; clear hX X) | (refine z2 hX ?_; clear hX X)); (first | refine zL fun X hX => ?_ | refine zH fun X hX => ?_ | refine zE fun X hX => ?_ | refine zl ?_ | refine zh ?_ | refine ze ?_); try simp only [oweC, oweP, opF, opH, ev, evs, evp, evo, Env.get, Env.set, putE, gdst, S0, S1, thenN, inBlockN, argEnv, builtinR, retE, fin, callR, reduceIte, Nat.reduceEqDiff, Nat.reduceAdd, reduceCtorEq, forall_const, Q36])
    intro w3 he3
    repeat ((try first | (refine z3 hX ?_; clear hX X) | (refine z2 hX ?_; clear hX X)); (first | refine zL fun X hX => ?_ | refine zH fun X hX => ?_ | refine zE fun X hX => ?_ | refine zl ?_ | refine zh ?_ | refine ze ?_); try simp only [oweC, oweP, opF, opH, ev, evs, evp, evo, Env.get, Env.set, putE, gdst, S0, S1, thenN, inBlockN, argEnv, builtinR, retE, fin, callR, reduceIte, Nat.reduceEqDiff, Nat.reduceAdd, reduceCtorEq, forall_const, Q36])
    refine Inv.call Fx.en37 (copied37_ok _ d.args va w3 (Nat.le_refl _) hsa (hva.vsl.ext (he2.trans he3))) ?_
    rintro u1 w4 ⟨hu1, he4⟩
    refine ⟨he3.trans he4, ?_⟩
    repeat ((try first | (refine z3 hX ?_; clear hX X) | (refine z2 hX ?_; clear hX X)); (first | refine zL fun X hX => ?_ | refine zH fun X hX => ?_ | refine zE fun X hX => ?_ | refine zl ?_ | refine zh ?_ | refine ze ?_); try simp only [oweC, oweP, opF, opH, ev, evs, evp, evo, Env.get, Env.set, putE, gdst, S0, S1, thenN, inBlockN, argEnv, builtinR, retE, fin, callR, reduceIte, Nat.reduceEqDiff, Nat.reduceAdd, reduceCtorEq, forall_const, Q36])
    refine Inv.call Fx.en37 (copied37_ok _ d.last vl w4 (Nat.le_refl _) hsl (hvl.vsl.ext ((he2.trans he3).trans he4))) ?_
    rintro u2 w5 ⟨hu2, he5⟩
    refine ⟨(he3.trans he4).trans he5, ?_⟩
    have he25 := (he3.trans he4).trans he5
    have hs3 := he3.size
    have hs4 := he4.size
    have hs5 := he5.size
    obtain ⟨A1, c1, hu1e⟩ := hu1.slice
    obtain ⟨A2, c2, hu2e⟩ := hu2.slice
    subst hu1e
    subst hu2e
    repeat ((try first | (refine z3 hX ?_; clear hX X) | (refine z2 hX ?_; clear hX X)); (first | refine zL fun X hX => ?_ | refine zH fun X hX => ?_ | refine zE fun X hX => ?_ | refine zl ?_ | refine zh ?_ | refine ze ?_); try simp only [oweC, oweP, opF, opH, ev, evs, evp, evo, Env.get, Env.set, putE, gdst, S0, S1, thenN, inBlockN, argEnv, builtinR, retE, fin, callR, reduceIte, Nat.reduceEqDiff, Nat.reduceAdd, reduceCtorEq, forall_const, Q36])
    refine ⟨_, w5, run_build (P := Try.prog) w5 37 _ #[.int .i64 ((i0 : Int) + 1), .int .i64 d.proc, .slice A1 d.args.length c1, .slice A2 d.last.length c2, .slice none 0 0] (by kernel_rfl), ?_⟩
    refine ⟨he25, ?_⟩
    repeat ((try first | (refine z3 hX ?_; clear hX X) | (refine z2 hX ?_; clear hX X)); (first | refine zL fun X hX => ?_ | refine zH fun X hX => ?_ | refine zE fun X hX => ?_ | refine zl ?_ | refine zh ?_ | refine ze ?_); try simp only [oweC, oweP, opF, opH, ev, evs, evp, evo, Env.get, Env.set, putE, gdst, S0, S1, thenN, inBlockN, argEnv, builtinR, retE, fin, callR, reduceIte, Nat.reduceEqDiff, Nat.reduceAdd, reduceCtorEq, forall_const, Q36])
    obtain ⟨dn0, hdn0⟩ : ∃ dn : DN, dn = ⟨(i0 : Int) + 1, d.proc, d.args, d.last, []⟩ := ⟨_, rfl⟩
    have hrow0 : [Value.int .i64 ((i0 : Int) + 1), .int .i64 d.proc, .slice A1 d.args.length c1, .slice A2 d.last.length c2, .slice none 0 0] = dn0.row (.slice A1 d.args.length c1) (.slice A2 d.last.length c2) (.slice none 0 0) := by rw [hdn0]; rfl
    refine Runs.lit (cs := [.int .i64 ((i0 : Int) + 1), .int .i64 d.proc, .slice A1 d.args.length c1, .slice A2 d.last.length c2, .slice none 0 0]) Fx.un22 Fx.zi37 (by decide) (by kernel_rfl) (by decide) (fun w6 he6 hs6 hb6 => ?_)
    refine ⟨he25.trans he6, ?_⟩
    have he26 := he25.trans he6
    have hs26 := he26.size
    have hs6' := he6.size
    have hout6 := hout2.ext he26
    have hfl : ∀ k, NFoot vn dvks k → k < w.heap.size := fun k hk => (hout.foot k hk).2.2
    have hone : ∀ u ∈ [Value.int .i64 ((i0 : Int) + 1), .int .i64 d.proc, .slice A1 d.args.length c1, .slice A2 d.last.length c2, .slice none 0 0], u.oneCell' = true := by
      intro u hu
      simp only [List.mem_cons, List.not_mem_nil, or_false] at hu
      rcases hu with rfl | rfl | rfl | rfl | rfl <;> rfl
    repeat ((try first | (refine z3 hX ?_; clear hX X) | (refine z2 hX ?_; clear hX X)); (first | refine zL fun X hX => ?_ | refine zH fun X hX => ?_ | refine zE fun X hX => ?_ | refine zl ?_ | refine zh ?_ | refine ze ?_); try simp only [oweC, oweP, opF, opH, ev, evs, evp, evo, Env.get, Env.set, putE, gdst, S0, S1, thenN, inBlockN, argEnv, builtinR, retE, fin, callR, reduceIte, Nat.reduceEqDiff, Nat.reduceAdd, reduceCtorEq, forall_const, Q36])
    rw [← hvneq]
    refine Runs.append1' Fx.un22 Fx.zi37 rfl (by decide) hout6.dm.own hb6 rfl hone (by simp [maxLen]; omega) (by omega) (by omega) (fun vn2 w7 hown7 hg7 hblk7 => ?_)
    have hc7 : Chg (fun k => vn.ownBlock = some k) w6 w7 := grown_chg hg7
    have hs7 := hc7.size
    rw [hrow0] at hown7
    have hSD : ∀ k, w2.heap.size ≤ k → k < w6.heap.size → SD w6 (fun k => k ≠ bo) vn dvks k := fun k h1 h2 => ⟨h2, by have := hout2.head.lt; omega, fun hh => by have := hfl k hh; omega⟩
    obtain ⟨hdm7, hnf7⟩ := hout6.dm.grow (fun k hk => (hout6.foot k hk).2.2) hc7 hown7 hblk7 (by rw [hdn0]) (va := .slice A1 d.args.length c1) (vl := .slice A2 d.last.length c2)
      (by rw [hdn0]; exact hu1.chg ((he5.trans he6).chg (fun _ => False)) (fun k hk => ⟨hSD k (by omega) (by omega), id⟩))
      (by rw [hdn0]; exact hu2.chg (he6.chg (fun _ => False)) (fun k hk => ⟨hSD k (by omega) (by omega), id⟩))
    obtain ⟨hv2o, hv2c, -⟩ := owns_one hown7
    have hbo7 : Blk w7 bo [vn] 22 := hout6.head.chg hc7 (fun e => by have := (hout.foot bo (.inl e)).1; omega)
    repeat ((try first | (refine z3 hX ?_; clear hX X) | (refine z2 hX ?_; clear hX X)); (first | refine zL fun X hX => ?_ | refine zH fun X hX => ?_ | refine zE fun X hX => ?_ | refine zl ?_ | refine zh ?_ | refine ze ?_); try simp only [oweC, oweP, opF, opH, ev, evs, evp, evo, Env.get, Env.set, putE, gdst, S0, S1, thenN, inBlockN, argEnv, builtinR, retE, fin, callR, reduceIte, Nat.reduceEqDiff, Nat.reduceAdd, reduceCtorEq, forall_const, Q36])
    refine Runs.store hbo7 Fx.zi22 (by rw [hv2c]; rfl) (by rw [hv2c]; intro u hu; simp at hu; subst hu; exact hv2o) (by simp) (fun w8 hc8 hs8 hb8 => ?_)
    rw [splice_all _ _ (by rw [hv2c]; rfl), hv2c] at hb8
    repeat ((try first | (refine z3 hX ?_; clear hX X) | (refine z2 hX ?_; clear hX X)); (first | refine zL fun X hX => ?_ | refine zH fun X hX => ?_ | refine zE fun X hX => ?_ | refine zl ?_ | refine zh ?_ | refine ze ?_); try simp only [oweC, oweP, opF, opH, ev, evs, evp, evo, Env.get, Env.set, putE, gdst, S0, S1, thenN, inBlockN, argEnv, builtinR, retE, fin, callR, reduceIte, Nat.reduceEqDiff, Nat.reduceAdd, reduceCtorEq, forall_const, Q36])
    refine hM _ _ _ ?_; clear hM M
    have hs8' := hc8.size
    have hnf7' : ∀ k, NFoot vn2 (dvks ++ [.slice none 0 0]) k → bo < k ∧ k ≠ ba ∧ k < w7.heap.size := fun k hk => by
      rcases hnf7 k hk with h1 | h1
      · have := hout.foot k h1; exact ⟨this.1, this.2.1, by omega⟩
      · exact ⟨by omega, by omega, h1.2⟩
    have hout8 : OutOK w8 bo ba (dns ++ [dn0]) vn2 (dvks ++ [.slice none 0 0]) (drows ++ [dn0.row (.slice A1 d.args.length c1) (.slice A2 d.last.length c2) (.slice none 0 0)]) :=
      ⟨hb8, hdm7.keep hc8 (fun k hk e => by have := (hnf7' k hk).1; omega) (fun k hk _ _ e => hk e), fun k hk => by have := hnf7' k hk; exact ⟨this.1, this.2.1, by omega⟩⟩
    have hc08 : Chg (fun k => k = bo ∨ NFoot vn dvks k) w w8 := ((he2.trans he26).chg _).trans ((hc7.mono fun k _ h => .inr (.inl h)).trans (hc8.mono fun k _ h => .inl h))
    have hc68 : Chg (fun k => k = bo ∨ vn.ownBlock = some k) w6 w8 := (hc7.mono fun k _ h => .inr h).trans (hc8.mono fun k _ h => .inl h)
    have hb28 : Blk w8 B6 (d.row va vl vk) 79 := (hb2.ext he26).chg hc68 (fun hh => by
      rcases hh with hh | hh
      · omega
      · have := hfl B6 (.inl hh); omega)
    refine ok_seq (fun M0 hM0 => ?_)
    refine ok_seq (fun M hM => ok_region rfl ?_)
    repeat ((try first | (refine z3 hX ?_; clear hX X) | (refine z2 hX ?_; clear hX X)); (first | refine zL fun X hX => ?_ | refine zH fun X hX => ?_ | refine zE fun X hX => ?_ | refine zl ?_ | refine zh ?_ | refine ze ?_); try simp only [oweC, oweP, opF, opH, ev, evs, evp, evo, Env.get, Env.set, putE, gdst, S0, S1, thenN, inBlockN, argEnv, builtinR, retE, fin, callR, reduceIte, Nat.reduceEqDiff, Nat.reduceAdd, reduceCtorEq, forall_const, Q36])
    refine ⟨vk, hb28.cell (row_kids h5 va vl vk), ?_⟩
    rw [hvkeq]
    repeat ((try first | (refine z3 hX ?_; clear hX X) | (refine z2 hX ?_; clear hX X)); (first | refine zL fun X hX => ?_ | refine zH fun X hX => ?_ | refine zE fun X hX => ?_ | refine zl ?_ | refine zh ?_ | refine ze ?_); try simp only [oweC, oweP, opF, opH, ev, evs, evp, evo, Env.get, Env.set, putE, gdst, S0, S1, thenN, inBlockN, argEnv, builtinR, retE, fin, callR, reduceIte, Nat.reduceEqDiff, Nat.reduceAdd, reduceCtorEq, forall_const, Q36])
    refine hM _ _ _ ?_; clear hM M
    refine ok_block ?_
    have hseq : nds.length ≤ 400 := by omega
    refine ok_loop (S := Nat) (fun i => [(1, .pointer (some ⟨bc, 0, none⟩)), (2, .pointer (some ⟨bo, 0, none⟩)), (3, .pointer (some ⟨ba, 0, none⟩)), (7, .int .i64 (dns.length : Int)), (32, .slice Ak d.kids.length ck), (33, .int .i64 (d.kids.length : Int)), (34, .int .i64 (i : Int))])
      (fun i w' => i ≤ d.kids.length ∧ (∃ vn' dvks' drows', OutOK w' bo ba (dns ++ (⟨(i0 : Int) + 1, d.proc, d.args, d.last, (kidsF (growF nds f) nds (d.kids.take i) (dns.length + 1)).2⟩ :: (kidsF (growF nds f) nds (d.kids.take i) (dns.length + 1)).1)) vn' dvks' drows' ∧ ∀ k, NFoot vn' dvks' k → NFoot vn dvks k ∨ w.heap.size ≤ k) ∧ Chg (fun k => k = bo ∨ NFoot vn dvks k) w w') (fun i => d.kids.length - i) 0 ?_ ?_ ?_
    · simp [sub, Env.get, argEnv]
    · refine ⟨Nat.zero_le _, ⟨_, _, _, by simp only [List.take_zero, kidsF]; rw [← hdn0]; exact hout8, fun k hk => ?_⟩, hc08⟩
      rcases hnf7 k hk with h1 | h1
      · exact .inl h1
      · exact .inr (by omega)
    rintro i w9 ⟨hi, ⟨vn9, dvks9, drows9, hout9, hnf9⟩, hc9⟩
    have hs9 := hc9.size
    refine ok_seq (fun M hM => ok_region rfl ?_); repeat ((try first | (refine z3 hX ?_; clear hX X) | (refine z2 hX ?_; clear hX X)); (first | refine zL fun X hX => ?_ | refine zH fun X hX => ?_ | refine zE fun X hX => ?_ | refine zl ?_ | refine zh ?_ | refine ze ?_); try simp only [oweC, oweP, opF, opH, ev, evs, evp, evo, Env.get, Env.set, putE, gdst, S0, S1, thenN, inBlockN, argEnv, builtinR, retE, fin, callR, reduceIte, Nat.reduceEqDiff, Nat.reduceAdd, reduceCtorEq, forall_const, Q36])
    refine hM _ _ _ ?_; clear hM M
    refine ok_seq (fun M1 hM1 => ?_)
    refine ok_if rfl (fun hc => ok_skip ?_) (fun hc => ok_exit ?_)
    rotate_left
    · try simp only [wpL, wpH, wpE, oweC, oweP, opF, opH, ev, evs, evp, evo, Env.get, Env.set, putE, gdst, S0, S1, thenN, inBlockN, argEnv, builtinR, retE, fin, callR, reduceIte, Nat.reduceEqDiff, Nat.reduceAdd, reduceCtorEq, forall_const, Q36]
      refine hM0 _ _ _ ?_; clear hM0 M0 hM1 M1
      have hia : i = d.kids.length := by omega
      subst hia
      rw [List.take_of_length_le (Nat.le_refl _), ← hgrow] at hout9
      refine ok_seq (fun M hM => ok_region rfl ?_); repeat ((try first | (refine z3 hX ?_; clear hX X) | (refine z2 hX ?_; clear hX X)); (first | refine zL fun X hX => ?_ | refine zH fun X hX => ?_ | refine zE fun X hX => ?_ | refine zl ?_ | refine zh ?_ | refine ze ?_); try simp only [oweC, oweP, opF, opH, ev, evs, evp, evo, Env.get, Env.set, putE, gdst, S0, S1, thenN, inBlockN, argEnv, builtinR, retE, fin, callR, reduceIte, Nat.reduceEqDiff, Nat.reduceAdd, reduceCtorEq, forall_const, Q36])
      refine hM _ _ _ ?_; clear hM M
      refine ok_ret ?_
      try simp only [wpL, wpH, wpE, oweC, oweP, opF, opH, ev, evs, evp, evo, Env.get, Env.set, putE, gdst, S0, S1, thenN, inBlockN, argEnv, builtinR, retE, fin, callR, reduceIte, Nat.reduceEqDiff, Nat.reduceAdd, reduceCtorEq, forall_const, Q36]
      exact ⟨⟨_, _, _, hout9, hnf9⟩, hc9⟩
    try simp only [wpL, wpH, wpE, oweC, oweP, opF, opH, ev, evs, evp, evo, Env.get, Env.set, putE, gdst, S0, S1, thenN, inBlockN, argEnv, builtinR, retE, fin, callR, reduceIte, Nat.reduceEqDiff, Nat.reduceAdd, reduceCtorEq, forall_const, Q36]
    refine hM1 _ _ _ ?_; clear hM1 M1
    have hil : i < d.kids.length := by omega
    have hki : d.kids[i]? = some d.kids[i] := List.getElem?_eq_getElem hil
    have htk : d.kids.take (i + 1) = d.kids.take i ++ [d.kids[i]] := List.take_succ_eq_append_getElem hil
    generalize d.kids[i] = kid at hki htk
    have hkb := hkl.2 kid (List.mem_of_getElem? hki)
    have hT : ∀ k, (k = bo ∨ NFoot vn dvks k) → bo ≤ k ∧ k ≠ ba := fun k hk => by
      rcases hk with rfl | hk
      · exact ⟨Nat.le_refl _, by omega⟩
      · have := hout.foot k hk; exact ⟨by omega, this.2.1⟩
    have hctx9 := hctx.chg hc9 hT
    obtain ⟨g9, cap9, va9, vl9, vk9, hvc9, hvk9, -, -, -, -, hvkk9⟩ := hctx9.nm.at_ (by omega) hd
    rw [hvk] at hvk9
    cases hvk9
    rw [hvc] at hvc9
    cases hvc9
    obtain ⟨gk, capk, curk, hvg, -, hcellk, -⟩ := own_int hvkk9 hki (by omega)
    rw [hvkeq] at hvg
    cases hvg
    obtain ⟨j0, rfl⟩ : ∃ j : Nat, kid = (j : Int) + 1 := ⟨(kid - 1).toNat, by omega⟩
    have hj0 : j0 < nds.length := by omega
    have hdk : nds[j0]? = some nds[j0] := List.getElem?_eq_getElem hj0
    generalize nds[j0] = dk at hdk
    obtain ⟨g9', cap9', vak, vlk, vkk, hvc9', -, h5k, hcellj, -⟩ := hctx9.nm.at_ (by omega) hdk
    rw [hvc] at hvc9'
    cases hvc9'
    have hstk : stateN nds ((j0 : Int) + 1) = dk.state := by
      unfold stateN
      rw [if_pos (by omega), show ((j0 : Int) + 1 - 1).toNat = j0 by omega, hdk]
    have hks := kidsF_snoc (growF nds f) nds ((j0 : Int) + 1) (d.kids.take i) (dns.length + 1)
    have hlen9 := kidsF_len (growF nds f) nds (sizeF nds f) (growF_len nds f) (d.kids.take i) (dns.length + 1)
    have hsk1 := sumK_take (fun k => if stateN nds k = 2 then sizeF nds f k else 0) d.kids (i + 1)
    rw [htk, sumK_app] at hsk1
    simp only [sumK] at hsk1
    refine ok_seq (fun M1 hM1 => ok_block ?_)
    refine ok_seq (fun M hM => ok_region rfl ?_)
    repeat ((try first | (refine z3 hX ?_; clear hX X) | (refine z2 hX ?_; clear hX X)); (first | refine zL fun X hX => ?_ | refine zH fun X hX => ?_ | refine zE fun X hX => ?_ | refine zl ?_ | refine zh ?_ | refine ze ?_); try simp only [oweC, oweP, opF, opH, ev, evs, evp, evo, Env.get, Env.set, putE, gdst, S0, S1, thenN, inBlockN, argEnv, builtinR, retE, fin, callR, reduceIte, Nat.reduceEqDiff, Nat.reduceAdd, reduceCtorEq, forall_const, Q36])
    refine ⟨by omega, by omega, ?_⟩
    repeat ((try first | (refine z3 hX ?_; clear hX X) | (refine z2 hX ?_; clear hX X)); (first | refine zL fun X hX => ?_ | refine zH fun X hX => ?_ | refine zE fun X hX => ?_ | refine zl ?_ | refine zh ?_ | refine ze ?_); try simp only [oweC, oweP, opF, opH, ev, evs, evp, evo, Env.get, Env.set, putE, gdst, S0, S1, thenN, inBlockN, argEnv, builtinR, retE, fin, callR, reduceIte, Nat.reduceEqDiff, Nat.reduceAdd, reduceCtorEq, forall_const, Q36])
    refine ⟨.int .i64 ((j0 : Int) + 1), by simpa using hcellk, ?_⟩
    repeat ((try first | (refine z3 hX ?_; clear hX X) | (refine z2 hX ?_; clear hX X)); (first | refine zL fun X hX => ?_ | refine zH fun X hX => ?_ | refine zE fun X hX => ?_ | refine zl ?_ | refine zh ?_ | refine ze ?_); try simp only [oweC, oweP, opF, opH, ev, evs, evp, evo, Env.get, Env.set, putE, gdst, S0, S1, thenN, inBlockN, argEnv, builtinR, retE, fin, callR, reduceIte, Nat.reduceEqDiff, Nat.reduceAdd, reduceCtorEq, forall_const, Q36])
    refine hM _ _ _ ?_; clear hM M
    refine ok_seq (fun M hM => ok_region rfl ?_)
    repeat ((try first | (refine z3 hX ?_; clear hX X) | (refine z2 hX ?_; clear hX X)); (first | refine zL fun X hX => ?_ | refine zH fun X hX => ?_ | refine zE fun X hX => ?_ | refine zl ?_ | refine zh ?_ | refine ze ?_); try simp only [oweC, oweP, opF, opH, ev, evs, evp, evo, Env.get, Env.set, putE, gdst, S0, S1, thenN, inBlockN, argEnv, builtinR, retE, fin, callR, reduceIte, Nat.reduceEqDiff, Nat.reduceAdd, reduceCtorEq, forall_const, Q36])
    refine ⟨_, hctx9.hc.cell (j := 0) rfl, ?_⟩
    rw [hvc]
    repeat ((try first | (refine z3 hX ?_; clear hX X) | (refine z2 hX ?_; clear hX X)); (first | refine zL fun X hX => ?_ | refine zH fun X hX => ?_ | refine zE fun X hX => ?_ | refine zl ?_ | refine zh ?_ | refine ze ?_); try simp only [oweC, oweP, opF, opH, ev, evs, evp, evo, Env.get, Env.set, putE, gdst, S0, S1, thenN, inBlockN, argEnv, builtinR, retE, fin, callR, reduceIte, Nat.reduceEqDiff, Nat.reduceAdd, reduceCtorEq, forall_const, Q36])
    refine ⟨by simp only [inI]; omega, ?_⟩
    repeat ((try first | (refine z3 hX ?_; clear hX X) | (refine z2 hX ?_; clear hX X)); (first | refine zL fun X hX => ?_ | refine zH fun X hX => ?_ | refine zE fun X hX => ?_ | refine zl ?_ | refine zh ?_ | refine ze ?_); try simp only [oweC, oweP, opF, opH, ev, evs, evp, evo, Env.get, Env.set, putE, gdst, S0, S1, thenN, inBlockN, argEnv, builtinR, retE, fin, callR, reduceIte, Nat.reduceEqDiff, Nat.reduceAdd, reduceCtorEq, forall_const, Q36])
    refine ⟨by omega, by omega, ?_⟩
    rw [show ((j0 : Int) + 1 - 1).toNat = j0 by omega]
    repeat ((try first | (refine z3 hX ?_; clear hX X) | (refine z2 hX ?_; clear hX X)); (first | refine zL fun X hX => ?_ | refine zH fun X hX => ?_ | refine zE fun X hX => ?_ | refine zl ?_ | refine zh ?_ | refine ze ?_); try simp only [oweC, oweP, opF, opH, ev, evs, evp, evo, Env.get, Env.set, putE, gdst, S0, S1, thenN, inBlockN, argEnv, builtinR, retE, fin, callR, reduceIte, Nat.reduceEqDiff, Nat.reduceAdd, reduceCtorEq, forall_const, Q36])
    refine ⟨.int .i64 dk.state, by simpa [Nat.add_assoc] using hcellj 11 _ (row_state h5k vak vlk vkk), ?_⟩
    repeat ((try first | (refine z3 hX ?_; clear hX X) | (refine z2 hX ?_; clear hX X)); (first | refine zL fun X hX => ?_ | refine zH fun X hX => ?_ | refine zE fun X hX => ?_ | refine zl ?_ | refine zh ?_ | refine ze ?_); try simp only [oweC, oweP, opF, opH, ev, evs, evp, evo, Env.get, Env.set, putE, gdst, S0, S1, thenN, inBlockN, argEnv, builtinR, retE, fin, callR, reduceIte, Nat.reduceEqDiff, Nat.reduceAdd, reduceCtorEq, forall_const, Q36])
    refine hM _ _ _ ?_; clear hM M
    have nxt : ∀ (K : Env) (w' : World), (sub [(1, .pointer (some ⟨bc, 0, none⟩)), (2, .pointer (some ⟨bo, 0, none⟩)), (3, .pointer (some ⟨ba, 0, none⟩)), (7, .int .i64 (dns.length : Int)), (32, .slice (some ⟨gk, 0, none⟩) d.kids.length ck), (33, .int .i64 (d.kids.length : Int)), (34, .int .i64 (i : Int))] K) →
        (∃ vn' dvks' drows', OutOK w' bo ba (dns ++ (⟨(i0 : Int) + 1, d.proc, d.args, d.last, (kidsF (growF nds f) nds (d.kids.take (i + 1)) (dns.length + 1)).2⟩ :: (kidsF (growF nds f) nds (d.kids.take (i + 1)) (dns.length + 1)).1)) vn' dvks' drows' ∧ ∀ k, NFoot vn' dvks' k → NFoot vn dvks k ∨ w.heap.size ≤ k) → Chg (fun k => k = bo ∨ NFoot vn dvks k) w w' → M1 K [] w' := by
      intro K w' hsub h1 h2
      refine hM1 _ _ _ ?_; clear hM1 M1
      refine ok_less _ hsub ?_
      refine ok_region rfl ?_
      repeat ((try first | (refine z3 hX ?_; clear hX X) | (refine z2 hX ?_; clear hX X)); (first | refine zL fun X hX => ?_ | refine zH fun X hX => ?_ | refine zE fun X hX => ?_ | refine zl ?_ | refine zh ?_ | refine ze ?_); try simp only [oweC, oweP, opF, opH, ev, evs, evp, evo, Env.get, Env.set, putE, gdst, S0, S1, thenN, inBlockN, argEnv, builtinR, retE, fin, callR, reduceIte, Nat.reduceEqDiff, Nat.reduceAdd, reduceCtorEq, forall_const, Q36])
      refine ⟨by simp only [inI]; omega, ?_⟩
      repeat ((try first | (refine z3 hX ?_; clear hX X) | (refine z2 hX ?_; clear hX X)); (first | refine zL fun X hX => ?_ | refine zH fun X hX => ?_ | refine zE fun X hX => ?_ | refine zl ?_ | refine zh ?_ | refine ze ?_); try simp only [oweC, oweP, opF, opH, ev, evs, evp, evo, Env.get, Env.set, putE, gdst, S0, S1, thenN, inBlockN, argEnv, builtinR, retE, fin, callR, reduceIte, Nat.reduceEqDiff, Nat.reduceAdd, reduceCtorEq, forall_const, Q36])
      exact ⟨i + 1, by simp [sub, Env.get], ⟨by omega, h1, h2⟩, by omega⟩
    refine ok_if rfl (fun hc2 => ?_) (fun hc2 => ok_skip ?_)
    rotate_left
    · try simp only [wpL, wpH, wpE, oweC, oweP, opF, opH, ev, evs, evp, evo, Env.get, Env.set, putE, gdst, S0, S1, thenN, inBlockN, argEnv, builtinR, retE, fin, callR, reduceIte, Nat.reduceEqDiff, Nat.reduceAdd, reduceCtorEq, forall_const, Q36]
      refine nxt _ _ (by simp [sub, Env.get]) ?_ hc9
      rw [htk, hks, if_neg (by rw [hstk]; exact hc2)]
      exact ⟨_, _, _, hout9, hnf9⟩
    have hst2 : stateN nds ((j0 : Int) + 1) = 2 := by rw [hstk]; exact hc2
    rw [if_pos hst2] at hks hsk1
    generalize hKF : kidsF (growF nds f) nds (d.kids.take i) (dns.length + 1) = KF at *
    obtain ⟨bl, js⟩ := KF
    simp only at hout9 hks hlen9
    refine ok_seq (fun M hM => ok_region rfl ?_)
    repeat ((try first | (refine z3 hX ?_; clear hX X) | (refine z2 hX ?_; clear hX X)); (first | refine zL fun X hX => ?_ | refine zH fun X hX => ?_ | refine zE fun X hX => ?_ | refine zl ?_ | refine zh ?_ | refine ze ?_); try simp only [oweC, oweP, opF, opH, ev, evs, evp, evo, Env.get, Env.set, putE, gdst, S0, S1, thenN, inBlockN, argEnv, builtinR, retE, fin, callR, reduceIte, Nat.reduceEqDiff, Nat.reduceAdd, reduceCtorEq, forall_const, Q36])
    refine ⟨_, hctx9.ha.cell (j := 0) rfl, ?_⟩
    repeat ((try first | (refine z3 hX ?_; clear hX X) | (refine z2 hX ?_; clear hX X)); (first | refine zL fun X hX => ?_ | refine zH fun X hX => ?_ | refine zE fun X hX => ?_ | refine zl ?_ | refine zh ?_ | refine ze ?_); try simp only [oweC, oweP, opF, opH, ev, evs, evp, evo, Env.get, Env.set, putE, gdst, S0, S1, thenN, inBlockN, argEnv, builtinR, retE, fin, callR, reduceIte, Nat.reduceEqDiff, Nat.reduceAdd, reduceCtorEq, forall_const, Q36])
    have hdl : (dns ++ ((⟨(i0 : Int) + 1, d.proc, d.args, d.last, js⟩ : DN) :: bl)).length = dns.length + 1 + bl.length := by simp; omega
    refine Inv.clos (args := [.int .i64 ((j0 : Int) + 1)]) (cap := [.pointer (some ⟨bc, 0, none⟩), .pointer (some ⟨bo, 0, none⟩), .pointer (some ⟨ba, 0, none⟩)]) Fx.en36 (ih ((j0 : Int) + 1) w9 vn9 dvks9 drows9 _ (by omega) (by omega) (by omega) (by omega) hctx9 hout9) ?_
    rintro r w10 ⟨rfl, ⟨vn10, dvks10, drows10, hout10, hnf10⟩, hc10⟩
    rw [hdl] at hout10
    have hs10 := hc10.size
    rw [hdl]
    repeat ((try first | (refine z3 hX ?_; clear hX X) | (refine z2 hX ?_; clear hX X)); (first | refine zL fun X hX => ?_ | refine zH fun X hX => ?_ | refine zE fun X hX => ?_ | refine zl ?_ | refine zh ?_ | refine ze ?_); try simp only [oweC, oweP, opF, opH, ev, evs, evp, evo, Env.get, Env.set, putE, gdst, S0, S1, thenN, inBlockN, argEnv, builtinR, retE, fin, callR, reduceIte, Nat.reduceEqDiff, Nat.reduceAdd, reduceCtorEq, forall_const, Q36])
    refine hM _ _ _ ?_; clear hM M
    have hFT : ∀ k, NFoot vn9 dvks9 k → NFoot vn dvks k ∨ w.heap.size ≤ k := hnf9
    have hc010 : Chg (fun k => k = bo ∨ NFoot vn dvks k) w w10 := hc9.thn hc10 (fun k hk => by
      rcases hk with hk | hk
      · exact .inl (.inl hk)
      · rcases hnf9 k hk with h1 | h1
        · exact .inl (.inr h1)
        · exact .inr h1)
    have hs010 := hc010.size
    have hdA : (dns ++ ((⟨(i0 : Int) + 1, d.proc, d.args, d.last, js⟩ : DN) :: bl) ++ growF nds f ((j0 : Int) + 1) (dns.length + 1 + bl.length))[dns.length]? = some ⟨(i0 : Int) + 1, d.proc, d.args, d.last, js⟩ := by
      rw [List.append_assoc, List.getElem?_append_right (Nat.le_refl _), Nat.sub_self]; rfl
    have hlen10 : (dns ++ ((⟨(i0 : Int) + 1, d.proc, d.args, d.last, js⟩ : DN) :: bl) ++ growF nds f ((j0 : Int) + 1) (dns.length + 1 + bl.length)).length ≤ 1000 := by
      rw [List.length_append, hdl, growF_len]; omega
    obtain ⟨gA, capA, vaA, vlA, vkA, hvn10, hvkA, -, hcellA, -, -, hownA⟩ := hout10.dm.at_ (by omega) hdA
    have hcA := hcellA 4 vkA rfl
    have hjl : js.length ≤ 400 := by
      have h1 : js.length ≤ (d.kids.take i).length := by
        have h2 : ∀ (g : Int → Nat → List DN) (ks : List Int) (b : Nat), (kidsF g nds ks b).2.length ≤ ks.length := by
          intro g ks
          induction ks with
          | nil => intro b; simp [kidsF]
          | cons k ks ih => intro b; simp only [kidsF]; split <;> simp <;> have := ih <;> first | exact this _ | (have := ih b; omega)
        have := h2 (growF nds f) (d.kids.take i) (dns.length + 1)
        rw [hKF] at this
        exact this
      rw [List.length_take] at h1
      omega
    have hoA : ∀ k, vkA.ownBlock = some k → k ≠ bo ∧ k ≠ gA := fun k hk => ⟨by have := (hout10.foot k (.inr ⟨_, _, hvkA, hk⟩)).1; omega, fun e => (hout10.dm.top gA (by rw [hvn10]; rfl)).2 _ _ hvkA (e ▸ hk)⟩
    refine (ok_drawQ [0, 1, 2, 3, 4, 5, 6, 7, 8, 9, 10, 11, 12] 8 [(true, false), (true, false), (false, true), (false, true), (false, true)] (Chg (fun k => vkA.ownBlock = some k) _) Fx.mixed (by decide) rfl (by decide +kernel) (by decide +kernel) (by decide +kernel) (Chg.drew _ _) ?_); simp only [pickL, List.getElem?_cons_zero, List.getElem?_cons_succ, List.take_succ_cons, List.take_zero, List.drop_succ_cons, List.drop_zero]
    repeat ((try first | (refine z3 hX ?_; clear hX X) | (refine z2 hX ?_; clear hX X)); (first | refine zL fun X hX => ?_ | refine zH fun X hX => ?_ | refine zE fun X hX => ?_ | refine zl ?_ | refine zh ?_ | refine ze ?_); try simp only [oweC, oweP, opF, opH, ev, evs, evp, evo, Env.get, Env.set, putE, gdst, S0, S1, thenN, inBlockN, argEnv, builtinR, retE, fin, callR, reduceIte, Nat.reduceEqDiff, Nat.reduceAdd, reduceCtorEq, forall_const, Q36])
    refine ⟨_, fun w' hw' => (hout10.head.chg hw' (fun e => (hoA bo e).1 rfl)).cell (j := 0) rfl, ?_⟩
    repeat ((try first | (refine z3 hX ?_; clear hX X) | (refine z2 hX ?_; clear hX X)); (first | refine zL fun X hX => ?_ | refine zH fun X hX => ?_ | refine zE fun X hX => ?_ | refine zl ?_ | refine zh ?_ | refine ze ?_); try simp only [oweC, oweP, opF, opH, ev, evs, evp, evo, Env.get, Env.set, putE, gdst, S0, S1, thenN, inBlockN, argEnv, builtinR, retE, fin, callR, reduceIte, Nat.reduceEqDiff, Nat.reduceAdd, reduceCtorEq, forall_const, Q36])
    refine ⟨_, fun w' hw' => (hout10.head.chg hw' (fun e => (hoA bo e).1 rfl)).cell (j := 0) rfl, ?_⟩
    rw [hvn10]
    repeat ((try first | (refine z3 hX ?_; clear hX X) | (refine z2 hX ?_; clear hX X)); (first | refine zL fun X hX => ?_ | refine zH fun X hX => ?_ | refine zE fun X hX => ?_ | refine zl ?_ | refine zh ?_ | refine ze ?_); try simp only [oweC, oweP, opF, opH, ev, evs, evp, evo, Env.get, Env.set, putE, gdst, S0, S1, thenN, inBlockN, argEnv, builtinR, retE, fin, callR, reduceIte, Nat.reduceEqDiff, Nat.reduceAdd, reduceCtorEq, forall_const, Q36])
    refine ⟨by omega, by simp; omega, ?_⟩
    repeat ((try first | (refine z3 hX ?_; clear hX X) | (refine z2 hX ?_; clear hX X)); (first | refine zL fun X hX => ?_ | refine zH fun X hX => ?_ | refine zE fun X hX => ?_ | refine zl ?_ | refine zh ?_ | refine ze ?_); try simp only [oweC, oweP, opF, opH, ev, evs, evp, evo, Env.get, Env.set, putE, gdst, S0, S1, thenN, inBlockN, argEnv, builtinR, retE, fin, callR, reduceIte, Nat.reduceEqDiff, Nat.reduceAdd, reduceCtorEq, forall_const, Q36])
    refine ⟨vkA, fun w' hw' => hw'.cell (by simpa [Nat.add_assoc] using hcA) (fun e => (hoA gA e).2 rfl), ?_⟩
    repeat ((try first | (refine z3 hX ?_; clear hX X) | (refine z2 hX ?_; clear hX X)); (first | refine zL fun X hX => ?_ | refine zH fun X hX => ?_ | refine zE fun X hX => ?_ | refine zl ?_ | refine zh ?_ | refine ze ?_); try simp only [oweC, oweP, opF, opH, ev, evs, evp, evo, Env.get, Env.set, putE, gdst, S0, S1, thenN, inBlockN, argEnv, builtinR, retE, fin, callR, reduceIte, Nat.reduceEqDiff, Nat.reduceAdd, reduceCtorEq, forall_const, Q36])
    obtain ⟨w11, hw11⟩ : ∃ w11 : World, w11 = { w10 with drawn := w10.drawn + 1 } := ⟨_, rfl⟩
    have he11 : Ext w10 w11 := by rw [hw11]; exact Ext.drew _
    rw [← hw11]
    repeat ((try first | (refine z3 hX ?_; clear hX X) | (refine z2 hX ?_; clear hX X)); (first | refine zL fun X hX => ?_ | refine zH fun X hX => ?_ | refine zE fun X hX => ?_ | refine zl ?_ | refine zh ?_ | refine ze ?_); try simp only [oweC, oweP, opF, opH, ev, evs, evp, evo, Env.get, Env.set, putE, gdst, S0, S1, thenN, inBlockN, argEnv, builtinR, retE, fin, callR, reduceIte, Nat.reduceEqDiff, Nat.reduceAdd, reduceCtorEq, forall_const, Q36])
    refine Runs.lit (cs := [.int .i64 ((dns.length + 1 + bl.length : Nat) : Int)]) Fx.un26 Fx.zi3 (by decide) (by kernel_rfl) (by decide) (fun w12 he12 hs12 hb12 => ?_)
    have he1012 := he11.trans he12
    refine ⟨he1012.chg _, ?_⟩
    have hout12 := hout10.ext he1012
    have hs1012 := he1012.size
    obtain ⟨_, _, _, _, vkA', _, hvkA', -, -, -, -, hownA'⟩ := hout12.dm.at_ (by omega) hdA
    rw [hvkA] at hvkA'
    cases hvkA'
    repeat ((try first | (refine z3 hX ?_; clear hX X) | (refine z2 hX ?_; clear hX X)); (first | refine zL fun X hX => ?_ | refine zH fun X hX => ?_ | refine zE fun X hX => ?_ | refine zl ?_ | refine zh ?_ | refine ze ?_); try simp only [oweC, oweP, opF, opH, ev, evs, evp, evo, Env.get, Env.set, putE, gdst, S0, S1, thenN, inBlockN, argEnv, builtinR, retE, fin, callR, reduceIte, Nat.reduceEqDiff, Nat.reduceAdd, reduceCtorEq, forall_const, Q36])
    refine Runs.append1' Fx.un26 Fx.zi3 rfl (by decide) hownA' hb12 rfl (by intro u hu; simp at hu; subst hu; rfl) (by simp [maxLen]; omega) (by simp only; omega) (by omega) (fun vk' w13 hown13 hg13 hblk13 => ?_)
    have hc13 : Chg (fun k => vkA.ownBlock = some k) w12 w13 := grown_chg hg13
    refine ⟨(he1012.chg _).trans hc13, ?_⟩
    obtain ⟨gP, capP, curP, hvP, hbP, hleP, hputP⟩ := hout12.dm.kidG (c := ((dns.length + 1 + bl.length : Nat) : Int)) (fun k hk => (hout12.foot k hk).2.2) hdA hvkA hc13 hown13 hblk13
    rw [hvn10] at hvP
    cases hvP
    obtain ⟨hk'o, hk'c, -⟩ := owns_one hown13
    repeat ((try first | (refine z3 hX ?_; clear hX X) | (refine z2 hX ?_; clear hX X)); (first | refine zL fun X hX => ?_ | refine zH fun X hX => ?_ | refine zE fun X hX => ?_ | refine zl ?_ | refine zh ?_ | refine ze ?_); try simp only [oweC, oweP, opF, opH, ev, evs, evp, evo, Env.get, Env.set, putE, gdst, S0, S1, thenN, inBlockN, argEnv, builtinR, retE, fin, callR, reduceIte, Nat.reduceEqDiff, Nat.reduceAdd, reduceCtorEq, forall_const, Q36])
    refine ⟨by omega, by simp; omega, ?_⟩
    repeat ((try first | (refine z3 hX ?_; clear hX X) | (refine z2 hX ?_; clear hX X)); (first | refine zL fun X hX => ?_ | refine zH fun X hX => ?_ | refine zE fun X hX => ?_ | refine zl ?_ | refine zh ?_ | refine ze ?_); try simp only [oweC, oweP, opF, opH, ev, evs, evp, evo, Env.get, Env.set, putE, gdst, S0, S1, thenN, inBlockN, argEnv, builtinR, retE, fin, callR, reduceIte, Nat.reduceEqDiff, Nat.reduceAdd, reduceCtorEq, forall_const, Q36])
    simp only [Nat.zero_add]
    refine Runs.store hbP Fx.zi26 (by rw [hk'c]; rfl) (by rw [hk'c]; intro u hu; simp at hu; subst hu; exact hk'o) (by simpa [Nat.add_assoc] using hleP) (fun w14 hc14 hs14 hb14 => ?_)
    obtain ⟨drows14, hdm14, hnf14, hc1214⟩ := hputP w14 hc14 (by rw [hk'c] at hb14; simpa [Nat.add_assoc] using hb14)
    have hs13 := hc13.size
    have hset : (dns ++ ((⟨(i0 : Int) + 1, d.proc, d.args, d.last, js⟩ : DN) :: bl) ++ growF nds f ((j0 : Int) + 1) (dns.length + 1 + bl.length)).set dns.length ⟨(i0 : Int) + 1, d.proc, d.args, d.last, js ++ [((dns.length + 1 + bl.length : Nat) : Int)]⟩ = dns ++ ((⟨(i0 : Int) + 1, d.proc, d.args, d.last, js ++ [((dns.length + 1 + bl.length : Nat) : Int)]⟩ : DN) :: (bl ++ growF nds f ((j0 : Int) + 1) (dns.length + 1 + bl.length))) := by
      rw [List.append_assoc, List.set_append_right _ _ (Nat.le_refl _), Nat.sub_self]; rfl
    rw [hset] at hdm14
    have hgbo : gA ≠ bo := fun e => by have := (hout10.foot gA (.inl (by rw [hvn10]; rfl))).1; omega
    have hc1014 : Chg (NFoot vn10 dvks10) w10 w14 := (he1012.chg _).trans hc1214
    repeat ((try first | (refine z3 hX ?_; clear hX X) | (refine z2 hX ?_; clear hX X)); (first | refine zL fun X hX => ?_ | refine zH fun X hX => ?_ | refine zE fun X hX => ?_ | refine zl ?_ | refine zh ?_ | refine ze ?_); try simp only [oweC, oweP, opF, opH, ev, evs, evp, evo, Env.get, Env.set, putE, gdst, S0, S1, thenN, inBlockN, argEnv, builtinR, retE, fin, callR, reduceIte, Nat.reduceEqDiff, Nat.reduceAdd, reduceCtorEq, forall_const, Q36])
    refine nxt _ _ (by simp [sub, Env.get]) ?_ (hc010.thn hc1014 (fun k hk => ?_))
    · rw [htk, hks]
      refine ⟨_, _, _, ⟨hout10.head.chg hc1014 (fun hf => by have := (hout10.foot bo hf).1; omega), hdm14, fun k hk => ?_⟩, fun k hk => ?_⟩
      · rcases hnf14 k hk with h1 | h1
        · have := hout10.foot k h1; exact ⟨this.1, this.2.1, by have := hc1014.size; omega⟩
        · exact ⟨by omega, by omega, h1.2⟩
      · rcases hnf14 k hk with h1 | h1
        · rcases hnf10 k h1 with h2 | h2
          · exact hnf9 k h2
          · exact .inr (by omega)
        · exact .inr (by omega)
    · rcases hnf10 k hk with h2 | h2
      · rcases hnf9 k h2 with h3 | h3
        · exact .inl (.inr h3)
        · exact .inr h3
      · exact .inr (by omega)
end Go.Proofs.Ytafjfcameabbmaa
/- debug.Tree.  -/
set_option linter.unusedVariables false
set_option linter.unusedSimpArgs false
namespace Go.Proofs.Vg
open Go Go.RowKit
theorem EvSl.take {w : World} {S : Nat → Prop} {A : Option Addr} {n c : Nat} {es : List Ev} (h : EvSl w S (.slice A n c) es) {m : Nat} (hm : m ≤ es.length) (c' : Nat) : EvSl w S (.slice A m c') (es.take m) := by
  obtain ⟨rws, ⟨A', c0, hv, hl, hcell⟩, hrl, hrow⟩ := h
  cases hv
  refine ⟨rws.take m, ⟨A, c', by rw [List.length_take, Nat.min_eq_left (by omega)], by rw [List.length_take]; omega, fun j row hj => ?_⟩, by rw [List.length_take, List.length_take, hrl], fun i r e hr he => ?_⟩
  · rw [List.getElem?_take] at hj
    split at hj
    · exact hcell j row hj
    · cases hj
  · rw [List.getElem?_take] at hr he
    split at hr
    · rename_i h1
      rw [if_pos h1] at he
      exact hrow i r e hr he
    · cases hr
theorem NM.flt {w : World} {et : TypeId} {S : Nat → Prop} {vn : Value} {vks : List Value} {rows : List (List Value)} {nds : List Nd} (h : NM w et S vn vks rows nds) (k : Nat) (hk : NFoot vn vks k) : k < w.heap.size := by
  rcases hk with hk | ⟨i, v, hi, hk⟩
  · exact (h.own.lt k hk).2
  · have hil := (List.getElem?_eq_some_iff.1 hi).1
    obtain ⟨_, _, _, vk, h1, _, _, _, h2⟩ := h.row i (nds[i]'(by rw [← h.lk]; exact hil)) (List.getElem?_eq_getElem _)
    rw [hi] at h1; cases h1
    exact (h2.lt k hk).2
theorem DM.nil (w : World) (et : TypeId) (S : Nat → Prop) : DM w et S (.slice none 0 0) [] [] [] :=
  ⟨World.ownsRow_nil _ _ _ _, rfl, rfl, fun i d hd => by simp at hd, fun i j u v k hu => by simp at hu, fun k hk => by simp [Value.ownBlock] at hk, fun i v k hi => by simp at hi⟩
theorem NFoot.nil {k : Nat} : ¬ NFoot (.slice none 0 0) [] k := fun hf => by
  rcases hf with hf | ⟨i, v, hi, _⟩
  · simp [Value.ownBlock] at hf
  · simp at hi
/-- The tree of an answer, and the error. -/
def treeN (es : List Ev) (k : Int) : List DN × Int :=
  if 0 ≤ rightN es then ([], 2) else match momN es k with
    | none => ([], 8)
    | some j => (growF (stepsN (es.take (j + 1))) ((stepsN (es.take (j + 1))).length + 1) 1 0, 0)
theorem momN_some {es : List Ev} {k : Int} {j : Nat} (h : momN es k = some j) : j < es.length ∧ ∃ e, es[j]? = some e ∧ e.call = 1 ∧ e.port = 1 := by
  obtain ⟨h1, h2⟩ := firstP_lt h
  refine ⟨by omega, ?_⟩
  unfold momAt at h2
  cases he : es[j]? with
  | none => rw [he] at h2; cases h2
  | some e =>
    rw [he] at h2
    simp [isEx] at h2
    exact ⟨e, rfl, h2.1.1, h2.1.2⟩
/-- The calls up to an exit of the first: there is a first call. -/
theorem first_call {es : List Ev} {k : Int} {j : Nat} (hok : okTo es es.length) (h : momN es k = some j) : 1 ≤ (stepsN (es.take (j + 1))).length := by
  obtain ⟨hj, e, he, h1, h2⟩ := momN_some h
  have hf := hok.fits hj he
  obtain ⟨hl, rfl⟩ := List.getElem?_eq_some_iff.1 he
  rw [List.take_succ_eq_append_getElem hl, stepsN_snoc, stepN_len, if_neg (by omega)]
  generalize stepsN (es.take j) = nds at hf
  unfold fitsR at hf
  rw [if_neg (by omega)] at hf
  simp only [h1, Bool.and_eq_true] at hf
  obtain ⟨_, hf⟩ := hf
  cases nds with
  | nil => simp [atN] at hf
  | cons d l => simp
end Go.Proofs.Vg
namespace Go.Proofs.Ytafjfcameabbmaa
open Go Go.Proofs.Vg Go.RowKit
theorem Fx.zi76 : zinfo Try.prog 76 = some (some .nilFunc, 1, 8) := by kernel_rfl

-- -- function 17
set_option maxHeartbeats 4000000 in
set_option maxRecDepth 8000 in
theorem debugTree_ok (w : World) (S : Nat → Prop) (v : Value) (es : List Ev) (h : EvSl w S v es) (hcap : ∀ A n c, v = .slice A n c → n ≤ c) (hl : es.length ≤ 400) (hS : ∀ k, S k → k < w.heap.size) (hsm : ∀ e ∈ es, SmVs e.args) (k : Int) (hk : inI .i64 k) :
    Rets Try.prog 17 [v, .int .i64 k] w (fun r w' => Ext w w' ∧ ∃ vn dvks drows S', r = .tuple #[vn, .int .i64 (treeN es k).2] ∧ DM w' 37 S' vn dvks drows (treeN es k).1 ∧ ∀ k, S' k → k < w'.heap.size) := by
  obtain ⟨A, c, hv⟩ : ∃ A c, v = .slice A es.length c := by
    obtain ⟨rws, ⟨A, c, h1, -⟩, h2, -⟩ := id h
    exact ⟨A, c, by rw [h1, h2]⟩
  have hc := hcap _ _ _ hv
  refine rets_of_ok Try.func17 rfl rfl ?_
  refine ok_seq (fun M hM => ok_region rfl ?_); repeat ((try first | (refine z3 hX ?_; clear hX X) | (refine z2 hX ?_; clear hX X)); (first | refine zL fun X hX => ?_ | refine zH fun X hX => ?_ | refine zE fun X hX => ?_ | refine zl ?_ | refine zh ?_ | refine ze ?_); try simp only [oweC, oweP, opF, opH, ev, evs, evp, evo, Env.get, Env.set, putE, gdst, S0, S1, thenN, inBlockN, argEnv, builtinR, retE, fin, callR, reduceIte, Nat.reduceEqDiff, Nat.reduceAdd, reduceCtorEq, forall_const, Q17])
  refine hM _ _ _ ?_; clear hM M
  refine ok_join [(0, v), (1, .int .i64 k)] (fun w' => Ext w w' ∧ rightN es < 0) ?_ ?_
  · refine ok_seq (fun M hM => ok_region rfl ?_)
    repeat ((try first | (refine z3 hX ?_; clear hX X) | (refine z2 hX ?_; clear hX X)); (first | refine zL fun X hX => ?_ | refine zH fun X hX => ?_ | refine zE fun X hX => ?_ | refine zl ?_ | refine zh ?_ | refine ze ?_); try simp only [oweC, oweP, opF, opH, ev, evs, evp, evo, Env.get, Env.set, putE, gdst, S0, S1, thenN, inBlockN, argEnv, builtinR, retE, fin, callR, reduceIte, Nat.reduceEqDiff, Nat.reduceAdd, reduceCtorEq, forall_const, Q17])
    refine Inv.call Fx.en33 (right_ok w S v es h hl hS) ?_
    rintro r w1 ⟨rfl, he1⟩
    repeat ((try first | (refine z3 hX ?_; clear hX X) | (refine z2 hX ?_; clear hX X)); (first | refine zL fun X hX => ?_ | refine zH fun X hX => ?_ | refine zE fun X hX => ?_ | refine zl ?_ | refine zh ?_ | refine ze ?_); try simp only [oweC, oweP, opF, opH, ev, evs, evp, evo, Env.get, Env.set, putE, gdst, S0, S1, thenN, inBlockN, argEnv, builtinR, retE, fin, callR, reduceIte, Nat.reduceEqDiff, Nat.reduceAdd, reduceCtorEq, forall_const, Q17])
    refine hM _ _ _ ?_; clear hM M
    refine ok_if rfl (fun hr => ?_) (fun hr => ok_skip ?_)
    · refine ok_seq (fun M hM => ok_region rfl ?_); repeat ((try first | (refine z3 hX ?_; clear hX X) | (refine z2 hX ?_; clear hX X)); (first | refine zL fun X hX => ?_ | refine zH fun X hX => ?_ | refine zE fun X hX => ?_ | refine zl ?_ | refine zh ?_ | refine ze ?_); try simp only [oweC, oweP, opF, opH, ev, evs, evp, evo, Env.get, Env.set, putE, gdst, S0, S1, thenN, inBlockN, argEnv, builtinR, retE, fin, callR, reduceIte, Nat.reduceEqDiff, Nat.reduceAdd, reduceCtorEq, forall_const, Q17])
      refine hM _ _ _ ?_; clear hM M
      refine ok_ret ?_
      try simp only [wpL, wpH, wpE, oweC, oweP, opF, opH, ev, evs, evp, evo, Env.get, Env.set, putE, gdst, S0, S1, thenN, inBlockN, argEnv, builtinR, retE, fin, callR, reduceIte, Nat.reduceEqDiff, Nat.reduceAdd, reduceCtorEq, forall_const, Q17]
      have ht : treeN es k = ([], 2) := by unfold treeN; rw [if_pos hr]
      rw [ht]
      exact ⟨he1, _, _, _, fun _ => False, rfl, DM.nil _ _ _, fun _ h => h.elim⟩
    · try simp only [wpL, wpH, wpE, oweC, oweP, opF, opH, ev, evs, evp, evo, Env.get, Env.set, putE, gdst, S0, S1, thenN, inBlockN, argEnv, builtinR, retE, fin, callR, reduceIte, Nat.reduceEqDiff, Nat.reduceAdd, reduceCtorEq, forall_const, Q17]
      exact ⟨by simp [sub, Env.get, argEnv], he1, by omega⟩
  rintro w1 ⟨he1, hr⟩
  have hrt : treeN es k = match momN es k with
    | none => ([], 8)
    | some j => (growF (stepsN (es.take (j + 1))) ((stepsN (es.take (j + 1))).length + 1) 1 0, 0) := by unfold treeN; rw [if_neg (by omega)]
  have hok := okTo_of_right hr
  refine ok_seq (fun M hM => ok_region rfl ?_)
  repeat ((try first | (refine z3 hX ?_; clear hX X) | (refine z2 hX ?_; clear hX X)); (first | refine zL fun X hX => ?_ | refine zH fun X hX => ?_ | refine zE fun X hX => ?_ | refine zl ?_ | refine zh ?_ | refine ze ?_); try simp only [oweC, oweP, opF, opH, ev, evs, evp, evo, Env.get, Env.set, putE, gdst, S0, S1, thenN, inBlockN, argEnv, builtinR, retE, fin, callR, reduceIte, Nat.reduceEqDiff, Nat.reduceAdd, reduceCtorEq, forall_const, Q17])
  refine Inv.call Fx.en34 (moment_ok w1 S v es (h.ext he1) hl k hk) ?_
  rintro r w2 ⟨rfl, he2⟩
  cases hm : momN es k with
  | none =>
    rw [hm] at hrt
    simp only at hrt
    repeat ((try first | (refine z3 hX ?_; clear hX X) | (refine z2 hX ?_; clear hX X)); (first | refine zL fun X hX => ?_ | refine zH fun X hX => ?_ | refine zE fun X hX => ?_ | refine zl ?_ | refine zh ?_ | refine ze ?_); try simp only [oweC, oweP, opF, opH, ev, evs, evp, evo, Env.get, Env.set, putE, gdst, S0, S1, thenN, inBlockN, argEnv, builtinR, retE, fin, callR, reduceIte, Nat.reduceEqDiff, Nat.reduceAdd, reduceCtorEq, forall_const, Q17])
    refine hM _ _ _ ?_; clear hM M
    refine ok_seq (fun M hM => ?_)
    refine ok_seq (fun M hM => ok_region rfl ?_); repeat ((try first | (refine z3 hX ?_; clear hX X) | (refine z2 hX ?_; clear hX X)); (first | refine zL fun X hX => ?_ | refine zH fun X hX => ?_ | refine zE fun X hX => ?_ | refine zl ?_ | refine zh ?_ | refine ze ?_); try simp only [oweC, oweP, opF, opH, ev, evs, evp, evo, Env.get, Env.set, putE, gdst, S0, S1, thenN, inBlockN, argEnv, builtinR, retE, fin, callR, reduceIte, Nat.reduceEqDiff, Nat.reduceAdd, reduceCtorEq, forall_const, Q17])
    refine hM _ _ _ ?_; clear hM M
    refine ok_cond (b := true) rfl (fun _ => ?_) (fun h => by cases h)
    refine ok_seq (fun M hM => ok_region rfl ?_); repeat ((try first | (refine z3 hX ?_; clear hX X) | (refine z2 hX ?_; clear hX X)); (first | refine zL fun X hX => ?_ | refine zH fun X hX => ?_ | refine zE fun X hX => ?_ | refine zl ?_ | refine zh ?_ | refine ze ?_); try simp only [oweC, oweP, opF, opH, ev, evs, evp, evo, Env.get, Env.set, putE, gdst, S0, S1, thenN, inBlockN, argEnv, builtinR, retE, fin, callR, reduceIte, Nat.reduceEqDiff, Nat.reduceAdd, reduceCtorEq, forall_const, Q17])
    refine hM _ _ _ ?_; clear hM M
    refine ok_ret ?_
    try simp only [wpL, wpH, wpE, oweC, oweP, opF, opH, ev, evs, evp, evo, Env.get, Env.set, putE, gdst, S0, S1, thenN, inBlockN, argEnv, builtinR, retE, fin, callR, reduceIte, Nat.reduceEqDiff, Nat.reduceAdd, reduceCtorEq, forall_const, Q17]
    rw [hrt]
    exact ⟨he1.trans he2, _, _, _, fun _ => False, rfl, DM.nil _ _ _, fun _ h => h.elim⟩
  | some j =>
    rw [hm] at hrt
    simp only at hrt
    obtain ⟨hjl, -⟩ := momN_some hm
    have hfc := first_call hok hm
    have hokj := hok.take (n := j + 1) (by omega)
    have hlj : (es.take (j + 1)).length = j + 1 := by rw [List.length_take, Nat.min_eq_left (by omega)]
    obtain ⟨hwf, hki⟩ := hokj.wf (i := j + 1) (by omega)
    rw [List.take_take, Nat.min_eq_left (Nat.le_refl _)] at hwf hki
    have hrj : rightN (es.take (j + 1)) = -1 := rightN_ok (by rw [hlj]; exact hokj)
    have hsmj : ∀ e ∈ es.take (j + 1), SmVs e.args := fun e he => hsm e (List.mem_of_mem_take he)
    have hsmd := sm_steps _ hsmj
    repeat ((try first | (refine z3 hX ?_; clear hX X) | (refine z2 hX ?_; clear hX X)); (first | refine zL fun X hX => ?_ | refine zH fun X hX => ?_ | refine zE fun X hX => ?_ | refine zl ?_ | refine zh ?_ | refine ze ?_); try simp only [oweC, oweP, opF, opH, ev, evs, evp, evo, Env.get, Env.set, putE, gdst, S0, S1, thenN, inBlockN, argEnv, builtinR, retE, fin, callR, reduceIte, Nat.reduceEqDiff, Nat.reduceAdd, reduceCtorEq, forall_const, Q17])
    refine hM _ _ _ ?_; clear hM M
    refine ok_join [(0, v), (6, .int .i64 ((j : Int) + 1))] (fun w' => w' = w2) ?_ ?_
    · refine ok_seq (fun M hM => ok_region rfl ?_); repeat ((try first | (refine z3 hX ?_; clear hX X) | (refine z2 hX ?_; clear hX X)); (first | refine zL fun X hX => ?_ | refine zH fun X hX => ?_ | refine zE fun X hX => ?_ | refine zl ?_ | refine zh ?_ | refine ze ?_); try simp only [oweC, oweP, opF, opH, ev, evs, evp, evo, Env.get, Env.set, putE, gdst, S0, S1, thenN, inBlockN, argEnv, builtinR, retE, fin, callR, reduceIte, Nat.reduceEqDiff, Nat.reduceAdd, reduceCtorEq, forall_const, Q17])
      refine hM _ _ _ ?_; clear hM M
      refine ok_cond (b := false) rfl (fun h => by cases h) (fun _ => ok_skip ?_)
      try simp only [wpL, wpH, wpE, oweC, oweP, opF, opH, ev, evs, evp, evo, Env.get, Env.set, putE, gdst, S0, S1, thenN, inBlockN, argEnv, builtinR, retE, fin, callR, reduceIte, Nat.reduceEqDiff, Nat.reduceAdd, reduceCtorEq, forall_const, Q17]
      simp [sub, Env.get]
    rintro w2' rfl
    have he02 := he1.trans he2
    have hs02 := he02.size
    have hsl := fun (w' : World) => run_sliceAt (P := Try.prog) Fx.un42 Fx.zi69 A es.length c none (some (j + 1)) .i64 .i64 (by simp; omega) (by simp) w'
    simp only [Option.map_none, Option.map_some, Option.getD_none, Option.getD_some, Nat.sub_zero] at hsl
    have hj1 : (((j + 1 : Nat) : Int)) = (j : Int) + 1 := by omega
    rw [hj1] at hsl
    rw [hv]
    refine ok_seq (fun M hM => ok_region rfl ?_)
    repeat ((try first | (refine z3 hX ?_; clear hX X) | (refine z2 hX ?_; clear hX X)); (first | refine zL fun X hX => ?_ | refine zH fun X hX => ?_ | refine zE fun X hX => ?_ | refine zl ?_ | refine zh ?_ | refine ze ?_); try simp only [oweC, oweP, opF, opH, ev, evs, evp, evo, Env.get, Env.set, putE, gdst, S0, S1, thenN, inBlockN, argEnv, builtinR, retE, fin, callR, reduceIte, Nat.reduceEqDiff, Nat.reduceAdd, reduceCtorEq, forall_const, Q17])
    refine ⟨_, _, hsl _, ?_⟩
    have hA : (if c = 0 then A else A.map fun x => x.add (0 * 6)) = A := by
      split
      · rfl
      · cases A with
        | none => rfl
        | some a => simp [Addr.add]
    rw [hA]
    repeat ((try first | (refine z3 hX ?_; clear hX X) | (refine z2 hX ?_; clear hX X)); (first | refine zL fun X hX => ?_ | refine zH fun X hX => ?_ | refine zE fun X hX => ?_ | refine zl ?_ | refine zh ?_ | refine ze ?_); try simp only [oweC, oweP, opF, opH, ev, evs, evp, evo, Env.get, Env.set, putE, gdst, S0, S1, thenN, inBlockN, argEnv, builtinR, retE, fin, callR, reduceIte, Nat.reduceEqDiff, Nat.reduceAdd, reduceCtorEq, forall_const, Q17])
    refine Inv.call Fx.en35 (traceTree_ok w2' S (.slice A (j + 1) c) (es.take (j + 1)) ((hv ▸ h.ext he02).take (by omega) c) (by omega) (fun k hk => by have := hS k hk; omega) hsmj hrj) ?_
    rintro r w3 ⟨vc, cvks, crows, Sc, rfl, he3, hnm3, hSc⟩
    have hs3 := he3.size
    generalize hnds : stepsN (es.take (j + 1)) = nds at hwf hki hnm3 hsmd hfc hrt
    have hn := hwf.n
    repeat ((try first | (refine z3 hX ?_; clear hX X) | (refine z2 hX ?_; clear hX X)); (first | refine zL fun X hX => ?_ | refine zH fun X hX => ?_ | refine zE fun X hX => ?_ | refine zl ?_ | refine zh ?_ | refine ze ?_); try simp only [oweC, oweP, opF, opH, ev, evs, evp, evo, Env.get, Env.set, putE, gdst, S0, S1, thenN, inBlockN, argEnv, builtinR, retE, fin, callR, reduceIte, Nat.reduceEqDiff, Nat.reduceAdd, reduceCtorEq, forall_const, Q17])
    refine Runs.alloc Fx.zi73 (fun w4 he4 hs4 hb4 => ?_)
    generalize hbc : w3.heap.size = bc at hs4 hb4
    obtain ⟨hvo, hvc, -⟩ := owns_one hnm3.own
    repeat ((try first | (refine z3 hX ?_; clear hX X) | (refine z2 hX ?_; clear hX X)); (first | refine zL fun X hX => ?_ | refine zH fun X hX => ?_ | refine zE fun X hX => ?_ | refine zl ?_ | refine zh ?_ | refine ze ?_); try simp only [oweC, oweP, opF, opH, ev, evs, evp, evo, Env.get, Env.set, putE, gdst, S0, S1, thenN, inBlockN, argEnv, builtinR, retE, fin, callR, reduceIte, Nat.reduceEqDiff, Nat.reduceAdd, reduceCtorEq, forall_const, Q17])
    refine Runs.store hb4 Fx.zi73 (by rw [hvc]; rfl) (by rw [hvc]; intro u hu; simp at hu; subst hu; exact hvo) (by simp [Value.cells]) (fun w5 hc5 hs5 hb5 => ?_)
    rw [splice_all _ _ (by rw [hvc]; rfl), hvc] at hb5
    have he35 : Ext w3 w5 := he4.chg_trans hc5 (fun k hk => by omega)
    repeat ((try first | (refine z3 hX ?_; clear hX X) | (refine z2 hX ?_; clear hX X)); (first | refine zL fun X hX => ?_ | refine zH fun X hX => ?_ | refine zE fun X hX => ?_ | refine zl ?_ | refine zh ?_ | refine ze ?_); try simp only [oweC, oweP, opF, opH, ev, evs, evp, evo, Env.get, Env.set, putE, gdst, S0, S1, thenN, inBlockN, argEnv, builtinR, retE, fin, callR, reduceIte, Nat.reduceEqDiff, Nat.reduceAdd, reduceCtorEq, forall_const, Q17])
    refine hM _ _ _ ?_; clear hM M
    refine ok_seq (fun M hM => ok_region rfl ?_)
    repeat ((try first | (refine z3 hX ?_; clear hX X) | (refine z2 hX ?_; clear hX X)); (first | refine zL fun X hX => ?_ | refine zH fun X hX => ?_ | refine zE fun X hX => ?_ | refine zl ?_ | refine zh ?_ | refine ze ?_); try simp only [oweC, oweP, opF, opH, ev, evs, evp, evo, Env.get, Env.set, putE, gdst, S0, S1, thenN, inBlockN, argEnv, builtinR, retE, fin, callR, reduceIte, Nat.reduceEqDiff, Nat.reduceAdd, reduceCtorEq, forall_const, Q17])
    refine Runs.alloc Fx.zi22 (fun w6 he6 hs6 hb6 => ?_)
    generalize hbo : w5.heap.size = bo at hs6 hb6
    repeat ((try first | (refine z3 hX ?_; clear hX X) | (refine z2 hX ?_; clear hX X)); (first | refine zL fun X hX => ?_ | refine zH fun X hX => ?_ | refine zE fun X hX => ?_ | refine zl ?_ | refine zh ?_ | refine ze ?_); try simp only [oweC, oweP, opF, opH, ev, evs, evp, evo, Env.get, Env.set, putE, gdst, S0, S1, thenN, inBlockN, argEnv, builtinR, retE, fin, callR, reduceIte, Nat.reduceEqDiff, Nat.reduceAdd, reduceCtorEq, forall_const, Q17])
    refine hM _ _ _ ?_; clear hM M
    refine ok_seq (fun M hM => ok_region rfl ?_)
    repeat ((try first | (refine z3 hX ?_; clear hX X) | (refine z2 hX ?_; clear hX X)); (first | refine zL fun X hX => ?_ | refine zH fun X hX => ?_ | refine zE fun X hX => ?_ | refine zl ?_ | refine zh ?_ | refine ze ?_); try simp only [oweC, oweP, opF, opH, ev, evs, evp, evo, Env.get, Env.set, putE, gdst, S0, S1, thenN, inBlockN, argEnv, builtinR, retE, fin, callR, reduceIte, Nat.reduceEqDiff, Nat.reduceAdd, reduceCtorEq, forall_const, Q17])
    refine Runs.alloc Fx.zi76 (fun w7 he7 hs7 hb7 => ?_)
    generalize hba : w6.heap.size = ba at hs7 hb7
    repeat ((try first | (refine z3 hX ?_; clear hX X) | (refine z2 hX ?_; clear hX X)); (first | refine zL fun X hX => ?_ | refine zH fun X hX => ?_ | refine zE fun X hX => ?_ | refine zl ?_ | refine zh ?_ | refine ze ?_); try simp only [oweC, oweP, opF, opH, ev, evs, evp, evo, Env.get, Env.set, putE, gdst, S0, S1, thenN, inBlockN, argEnv, builtinR, retE, fin, callR, reduceIte, Nat.reduceEqDiff, Nat.reduceAdd, reduceCtorEq, forall_const, Q17])
    refine hM _ _ _ ?_; clear hM M
    refine ok_seq (fun M hM => ok_region rfl ?_)
    repeat ((try first | (refine z3 hX ?_; clear hX X) | (refine z2 hX ?_; clear hX X)); (first | refine zL fun X hX => ?_ | refine zH fun X hX => ?_ | refine zE fun X hX => ?_ | refine zl ?_ | refine zh ?_ | refine ze ?_); try simp only [oweC, oweP, opF, opH, ev, evs, evp, evo, Env.get, Env.set, putE, gdst, S0, S1, thenN, inBlockN, argEnv, builtinR, retE, fin, callR, reduceIte, Nat.reduceEqDiff, Nat.reduceAdd, reduceCtorEq, forall_const, Q17])
    refine Runs.store hb7 Fx.zi76 (by rfl) (by intro u hu; simp [Value.cells] at hu; subst hu; rfl) (by simp [Value.cells]) (fun w8 hc8 hs8 hb8 => ?_)
    rw [splice_all _ _ (by simp [Value.cells])] at hb8
    simp only [Value.cells] at hb8
    repeat ((try first | (refine z3 hX ?_; clear hX X) | (refine z2 hX ?_; clear hX X)); (first | refine zL fun X hX => ?_ | refine zH fun X hX => ?_ | refine zE fun X hX => ?_ | refine zl ?_ | refine zh ?_ | refine ze ?_); try simp only [oweC, oweP, opF, opH, ev, evs, evp, evo, Env.get, Env.set, putE, gdst, S0, S1, thenN, inBlockN, argEnv, builtinR, retE, fin, callR, reduceIte, Nat.reduceEqDiff, Nat.reduceAdd, reduceCtorEq, forall_const, Q17])
    refine hM _ _ _ ?_; clear hM M
    have he58 : Ext w5 w8 := (he6.trans he7).chg_trans hc8 (fun k hk => by omega)
    have he38 := he35.trans he58
    have hs38 := he38.size
    have hctx : CtxOK w8 bc bo ba Sc vc cvks crows nds := ⟨hb5.ext he58, hnm3.ext he38, hb8, by omega, by omega, fun k hk => by have := hnm3.flt k hk; omega, fun k hk => by have := hSc k hk; omega⟩
    have hout : OutOK w8 bo ba [] (.slice none 0 0) [] [] := ⟨(hb6.ext he7).chg hc8 (fun e => by omega), DM.nil _ _ _, fun k hk => (NFoot.nil hk).elim⟩
    have hsz := size_root hwf hki (nds.length + 1)
    refine ok_seq (fun M hM => ok_region rfl ?_)
    repeat ((try first | (refine z3 hX ?_; clear hX X) | (refine z2 hX ?_; clear hX X)); (first | refine zL fun X hX => ?_ | refine zH fun X hX => ?_ | refine zE fun X hX => ?_ | refine zl ?_ | refine zh ?_ | refine ze ?_); try simp only [oweC, oweP, opF, opH, ev, evs, evp, evo, Env.get, Env.set, putE, gdst, S0, S1, thenN, inBlockN, argEnv, builtinR, retE, fin, callR, reduceIte, Nat.reduceEqDiff, Nat.reduceAdd, reduceCtorEq, forall_const, Q17])
    refine ⟨_, hb8.cell (j := 0) rfl, ?_⟩
    repeat ((try first | (refine z3 hX ?_; clear hX X) | (refine z2 hX ?_; clear hX X)); (first | refine zL fun X hX => ?_ | refine zH fun X hX => ?_ | refine zE fun X hX => ?_ | refine zl ?_ | refine zh ?_ | refine ze ?_); try simp only [oweC, oweP, opF, opH, ev, evs, evp, evo, Env.get, Env.set, putE, gdst, S0, S1, thenN, inBlockN, argEnv, builtinR, retE, fin, callR, reduceIte, Nat.reduceEqDiff, Nat.reduceAdd, reduceCtorEq, forall_const, Q17])
    refine Inv.clos (args := [.int .i64 1]) (cap := [.pointer (some ⟨bc, 0, none⟩), .pointer (some ⟨bo, 0, none⟩), .pointer (some ⟨ba, 0, none⟩)]) Fx.en36 (add_ok bc bo ba Sc vc cvks crows nds (j + 1) hwf (by omega) hsmd (nds.length + 1) 1 w8 _ _ _ [] (by omega) (by omega) (by omega) (by simp; omega) hctx hout) ?_
    rintro r w9 ⟨rfl, ⟨vn9, dvks9, drows9, hout9, -⟩, hc9⟩
    repeat ((try first | (refine z3 hX ?_; clear hX X) | (refine z2 hX ?_; clear hX X)); (first | refine zL fun X hX => ?_ | refine zH fun X hX => ?_ | refine zE fun X hX => ?_ | refine zl ?_ | refine zh ?_ | refine ze ?_); try simp only [oweC, oweP, opF, opH, ev, evs, evp, evo, Env.get, Env.set, putE, gdst, S0, S1, thenN, inBlockN, argEnv, builtinR, retE, fin, callR, reduceIte, Nat.reduceEqDiff, Nat.reduceAdd, reduceCtorEq, forall_const, Q17])
    refine hM _ _ _ ?_; clear hM M
    refine ok_seq (fun M hM => ok_region rfl ?_)
    repeat ((try first | (refine z3 hX ?_; clear hX X) | (refine z2 hX ?_; clear hX X)); (first | refine zL fun X hX => ?_ | refine zH fun X hX => ?_ | refine zE fun X hX => ?_ | refine zl ?_ | refine zh ?_ | refine ze ?_); try simp only [oweC, oweP, opF, opH, ev, evs, evp, evo, Env.get, Env.set, putE, gdst, S0, S1, thenN, inBlockN, argEnv, builtinR, retE, fin, callR, reduceIte, Nat.reduceEqDiff, Nat.reduceAdd, reduceCtorEq, forall_const, Q17])
    refine ⟨_, hout9.head.cell (j := 0) rfl, ?_⟩
    repeat ((try first | (refine z3 hX ?_; clear hX X) | (refine z2 hX ?_; clear hX X)); (first | refine zL fun X hX => ?_ | refine zH fun X hX => ?_ | refine zE fun X hX => ?_ | refine zl ?_ | refine zh ?_ | refine ze ?_); try simp only [oweC, oweP, opF, opH, ev, evs, evp, evo, Env.get, Env.set, putE, gdst, S0, S1, thenN, inBlockN, argEnv, builtinR, retE, fin, callR, reduceIte, Nat.reduceEqDiff, Nat.reduceAdd, reduceCtorEq, forall_const, Q17])
    refine hM _ _ _ ?_; clear hM M
    refine ok_ret ?_
    try simp only [wpL, wpH, wpE, oweC, oweP, opF, opH, ev, evs, evp, evo, Env.get, Env.set, putE, gdst, S0, S1, thenN, inBlockN, argEnv, builtinR, retE, fin, callR, reduceIte, Nat.reduceEqDiff, Nat.reduceAdd, reduceCtorEq, forall_const, Q17]
    rw [hrt]
    refine ⟨((he02.trans he3).trans he38).chg_trans hc9 (fun k hk => ?_), vn9, dvks9, drows9, SD w9 (fun k => k ≠ bo) vn9 dvks9, rfl, by simpa using hout9.dm, fun k hk => hk.1⟩
    rcases hk with rfl | hk
    · omega
    · exact (NFoot.nil hk).elim
end Go.Proofs.Ytafjfcameabbmaa
