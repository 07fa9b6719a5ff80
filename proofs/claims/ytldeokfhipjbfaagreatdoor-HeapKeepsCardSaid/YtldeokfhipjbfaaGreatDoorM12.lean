/- HeapKeeps: for every value, whatever it is, the law returns true, and what came in reads as it did. No condition but the row's own: the two listed variables of the heap's package read as the program's text lays them. -/
import Derived.Test.YtldeokfhipjbfaaGreatDoorM11
import Derived.Test.YtldeokfhipjbfaaGreatDoorM3
import Derived.Test.YtldeokfhipjbfaaGreatDoorM7
import Derived.Test.YtldeokfhipjbfaaGreatDoorM2
import Derived.Test.YtldeokfhipjbfaaGreatDoorTie
import Derived.Test.YtldeokfhipjbfaaGreatDoorCards
import Derived.LaidMore
import Derived.OpenShut
import Derived.Stop.Joined
import Derived.SevenTiedAt
import Derived.Lib.LaidTab
/- The plain law of collecting, third part: what is reached is closed; the new numbers. -/
set_option linter.unusedVariables false
set_option linter.unusedSimpArgs false
namespace Go.Proofs.YtldeokfhipjbfaaGreatDoor
open Go Go.Proofs.Vg Go.RowKit

def SubQ (sn : List Bool) (q : List Int) : Prop := ∀ r : Nat, sn[r]? = some true → (r : Int) ∈ q
theorem pushF_sub : ∀ (l : List Wd) (sn : List Bool) (q : List Int), (∀ x ∈ l, 0 ≤ x.r) → SubQ sn q → SubQ (pushF sn q l).1 (pushF sn q l).2 := by
  intro l
  induction l with
  | nil => intro sn q _ h; exact h
  | cons x l ih =>
    intro sn q hl h
    have hx := hl x List.mem_cons_self
    simp only [pushF]
    split
    · refine ih _ _ (fun y hy => hl y (List.mem_cons_of_mem _ hy)) (fun r hr => ?_)
      by_cases e : x.r.toNat = r
      · subst e
        have : ((x.r.toNat : Nat) : Int) = x.r := by omega
        rw [this]; simp
      · rw [List.getElem?_set_ne e] at hr
        exact List.mem_append_left _ (h r hr)
    · exact ih _ _ (fun y hy => hl y (List.mem_cons_of_mem _ hy)) h
theorem pushF_mono : ∀ (l : List Wd) (sn : List Bool) (q : List Int) (i : Nat), sn[i]? = some true → (pushF sn q l).1[i]? = some true := by
  intro l
  induction l with
  | nil => intro sn q i h; exact h
  | cons x l ih =>
    intro sn q i h
    simp only [pushF]
    split
    · refine ih _ _ i ?_
      by_cases e : x.r.toNat = i
      · subst e
        exact List.getElem?_set_self (List.getElem?_eq_some_iff.1 h).1
      · rw [List.getElem?_set_ne e]; exact h
    · exact ih _ _ i h
theorem pushF_all : ∀ (l : List Wd) (sn : List Bool) (q : List Int), (∀ x ∈ l, 0 ≤ x.r ∧ x.r.toNat < sn.length) → ∀ x ∈ l, x.r = 0 ∨ (pushF sn q l).1[x.r.toNat]? = some true := by
  intro l
  induction l with
  | nil => intro sn q _ x hx; simp at hx
  | cons y l ih =>
    intro sn q hl x hx
    have hy := hl y List.mem_cons_self
    have hl' := fun z hz => hl z (List.mem_cons_of_mem _ hz)
    simp only [pushF]
    rcases List.mem_cons.1 hx with rfl | hx
    · split
      · exact .inr (pushF_mono _ _ _ _ (List.getElem?_set_self hy.2))
      · rename_i hc
        by_cases e : x.r = 0
        · exact .inl e
        · refine .inr (pushF_mono _ _ _ _ ?_)
          have h1 : sn[x.r.toNat]? = some sn[x.r.toNat] := List.getElem?_eq_getElem hy.2
          cases hb : sn[x.r.toNat] with
          | true => rw [h1, hb]
          | false => exact absurd ⟨e, by rw [h1, hb]⟩ hc
    · split
      · exact ih _ _ (fun z hz => by have := hl' z hz; simpa using this) x hx
      · exact ih _ _ hl' x hx
theorem bfs_closed {H : List Ob} (hW : Wf H) : ∀ (f : Nat) (sn : List Bool) (q : List Int) (i : Nat), Qok H.length sn q → SubQ sn q → unseen sn + q.length ≤ f + i → (∀ (j : Nat) (r : Int), j < i → q[j]? = some r → ∀ y ∈ listO (objAt H r), y.r = 0 ∨ y.r ∈ q) →
    ∀ r ∈ bfs H f sn q i, ∀ y ∈ listO (objAt H r), y.r = 0 ∨ y.r ∈ bfs H f sn q i := by
  intro f
  induction f with
  | zero =>
    intro sn q i h1 h2 h3 h4 r hr y hy
    simp only [bfs] at hr ⊢
    obtain ⟨j, hj⟩ := List.mem_iff_getElem?.1 hr
    have := (List.getElem?_eq_some_iff.1 hj).1
    exact h4 j r (by omega) hj y hy
  | succ f ih =>
    intro sn q i h1 h2 h3 h4
    simp only [bfs]
    split
    · rename_i hn
      intro r hr y hy
      obtain ⟨j, hj⟩ := List.mem_iff_getElem?.1 hr
      have hjl := (List.getElem?_eq_some_iff.1 hj).1
      have := List.getElem?_eq_none_iff.1 hn
      exact h4 j r (by omega) hj y hy
    · rename_i r0 hr0
      have hl := listO_mem hW r0
      obtain ⟨p1, p2, p3⟩ := pushF_inv _ sn q hl h1
      have hsub := pushF_sub (listO (objAt H r0)) sn q (fun x hx => (hl x hx).1) h2
      have hall := pushF_all (listO (objAt H r0)) sn q (fun x hx => ⟨(hl x hx).1, by have := (hl x hx); rw [h1.len]; omega⟩)
      refine ih _ _ (i + 1) p1 hsub (by omega) (fun j r hj hq y hy => ?_)
      have hil := (List.getElem?_eq_some_iff.1 hr0).1
      obtain ⟨t, ht⟩ := p2
      have hqj : q[j]? = some r := by
        rw [← ht, List.getElem?_append_left (by omega)] at hq
        exact hq
      by_cases e : j = i
      · subst e
        rw [hr0] at hqj; cases hqj
        refine (hall y hy).imp id (fun h => ?_)
        have := hsub _ h
        have h0 := (hl y hy).1
        rwa [show ((y.r.toNat : Nat) : Int) = y.r by omega] at this
      · refine (h4 j r (by omega) hqj y hy).imp id (fun h => ?_)
        rw [← ht]; exact List.mem_append_left _ h
theorem bfs_fuel {H : List Ob} (hW : Wf H) : ∀ (f f' : Nat) (sn : List Bool) (q : List Int) (i : Nat), Qok H.length sn q → unseen sn + q.length ≤ f + i → unseen sn + q.length ≤ f' + i → bfs H f sn q i = bfs H f' sn q i := by
  have none0 : ∀ (f : Nat) (sn : List Bool) (q : List Int) (i : Nat), q.length ≤ i → bfs H f sn q i = q := by
    intro f sn q i h
    cases f with
    | zero => rfl
    | succ f => simp only [bfs]; rw [List.getElem?_eq_none_iff.2 h]
  intro f
  induction f with
  | zero =>
    intro f' sn q i h1 h2 h3
    rw [none0 0 sn q i (by omega), none0 f' sn q i (by omega)]
  | succ f ih =>
    intro f' sn q i h1 h2 h3
    cases f' with
    | zero => rw [none0 0 sn q i (by omega), none0 (f + 1) sn q i (by omega)]
    | succ f' =>
      simp only [bfs]
      split
      · rfl
      · rename_i r0 hr0
        obtain ⟨p1, p2, p3⟩ := pushF_inv _ sn q (listO_mem hW r0) h1
        exact ih f' _ _ (i + 1) p1 (by omega) (by omega)
theorem subQ_rep (n : Nat) : SubQ (List.replicate n false) [] := by
  intro r hr
  rw [List.getElem?_replicate] at hr
  split at hr
  · cases hr
  · cases hr
section
variable {H : List Ob} {roots : List Wd}
theorem collQ_inv (hW : Wf H) (hr : ∀ x ∈ roots, 0 ≤ x.r ∧ x.r ≤ (H.length : Int)) : Qok H.length (pushF (List.replicate (H.length + 1) false) [] roots).1 (pushF (List.replicate (H.length + 1) false) [] roots).2 ∧ unseen (pushF (List.replicate (H.length + 1) false) [] roots).1 + (pushF (List.replicate (H.length + 1) false) [] roots).2.length = H.length + 1 := by
  have h := pushF_inv (n := H.length) roots _ [] hr (Qok.nil _)
  refine ⟨h.1, ?_⟩
  have h2 := h.2.2
  rw [unseen_rep] at h2
  simpa using h2
theorem collQ_nd (hW : Wf H) (hr : ∀ x ∈ roots, 0 ≤ x.r ∧ x.r ≤ (H.length : Int)) : (collQ H roots).Nodup ∧ ∀ r ∈ collQ H roots, 1 ≤ r ∧ r ≤ (H.length : Int) := by
  have h := collQ_inv hW hr
  have := bfs_prefix hW (H.length + 1) _ _ 0 h.1
  exact ⟨this.2.2, this.2.1⟩
theorem collQ_closed (hW : Wf H) (hr : ∀ x ∈ roots, 0 ≤ x.r ∧ x.r ≤ (H.length : Int)) : ∀ r ∈ collQ H roots, ∀ y ∈ listO (objAt H r), y.r = 0 ∨ y.r ∈ collQ H roots := by
  have h := collQ_inv hW hr
  exact bfs_closed hW (H.length + 1) _ _ 0 h.1 (pushF_sub _ _ _ (fun x hx => (hr x hx).1) (subQ_rep _)) (by omega) (fun j r hj => by omega)
theorem collQ_roots (hW : Wf H) (hr : ∀ x ∈ roots, 0 ≤ x.r ∧ x.r ≤ (H.length : Int)) : ∀ x ∈ roots, x.r = 0 ∨ x.r ∈ collQ H roots := by
  intro x hx
  have h := collQ_inv hW hr
  have hp := (bfs_prefix hW (H.length + 1) _ _ 0 h.1).1
  have hall := pushF_all roots (List.replicate (H.length + 1) false) [] (fun x hx => ⟨(hr x hx).1, by have := hr x hx; simp; omega⟩) x hx
  refine hall.imp id (fun h2 => ?_)
  have := pushF_sub roots _ [] (fun x hx => (hr x hx).1) (subQ_rep _) _ h2
  have h0 := (hr x hx).1
  rw [show ((x.r.toNat : Nat) : Int) = x.r by omega] at this
  obtain ⟨t, ht⟩ := hp
  show x.r ∈ bfs H (H.length + 1) _ _ 0
  rw [← ht]
  exact List.mem_append_left _ this
end
theorem tosF_zero {N : Nat} {Q : List Int} (hQ : ∀ r ∈ Q, 1 ≤ r) : ∀ i, i ≤ Q.length → (tosF N Q i).getD 0 0 = 0
  | 0, _ => by simp [tosF]; cases N <;> rfl
  | i + 1, hi => by
    have h1 := tosF_zero (N := N) hQ i (by omega)
    have hm : 1 ≤ Q.getD i 0 := by
      rw [List.getD_eq_getElem?_getD, List.getElem?_eq_getElem (by omega : i < Q.length)]
      exact hQ _ (List.getElem_mem _)
    simp only [tosF]
    rw [List.getD_eq_getElem?_getD, List.getElem?_set_ne (by omega), ← List.getD_eq_getElem?_getD]
    exact h1
theorem tosF_at {N : Nat} {Q : List Int} (hnd : Q.Nodup) (hQ : ∀ r ∈ Q, 1 ≤ r ∧ r < (N : Int)) : ∀ i, i ≤ Q.length → ∀ (j : Nat) (r : Int), j < i → Q[j]? = some r → (tosF N Q i).getD r.toNat 0 = (j : Int) + 1
  | 0, _, j, r, hj, _ => by omega
  | i + 1, hi, j, r, hj, hr => by
    have hil : i < Q.length := by omega
    have hi' : Q[i]? = some Q[i] := List.getElem?_eq_getElem hil
    have hg : Q.getD i 0 = Q[i] := by rw [List.getD_eq_getElem?_getD, hi']; rfl
    have hm := hQ _ (List.getElem_mem hil)
    simp only [tosF]
    rw [hg, List.getD_eq_getElem?_getD]
    by_cases e : j = i
    · subst e
      rw [hi'] at hr; cases hr
      rw [List.getElem?_set_self (by rw [tosF_length]; omega)]
      rfl
    · have hrm := hQ r (List.mem_of_getElem? hr)
      have hjl := (List.getElem?_eq_some_iff.1 hr)
      have hne : Q[i].toNat ≠ r.toNat := by
        intro h
        have h2 : Q[i] = Q[j]'hjl.1 := by rw [hjl.2]; omega
        have := (List.getElem_inj hnd).1 h2
        omega
      rw [List.getElem?_set_ne hne, ← List.getD_eq_getElem?_getD]
      exact tosF_at hnd hQ i (by omega) j r (by omega) hr
end Go.Proofs.YtldeokfhipjbfaaGreatDoor
/- The plain law of collecting, fourth part: the collected heap is the same but for the numbers. -/
set_option linter.unusedVariables false
set_option linter.unusedSimpArgs false
set_option linter.unusedSectionVars false
namespace Go.Proofs.YtldeokfhipjbfaaGreatDoor
open Go Go.Proofs.Vg Go.RowKit

section
variable {H : List Ob} {roots : List Wd}
/-- A word that leads to nothing, or to what is kept. -/
def Kept (H : List Ob) (roots : List Wd) (x : Wd) : Prop := x.r = 0 ∨ x.r ∈ collQ H roots
def mvT (H : List Ob) (roots : List Wd) (x : Wd) : Wd := mvW (collT H roots) x
theorem mv_zero (hG : GoodH H) (hr : ∀ x ∈ roots, 0 ≤ x.r ∧ x.r ≤ (H.length : Int)) {x : Wd} (h : x.r = 0) : (mvT H roots x).r = 0 := by
  have hq := collQ_nd hG.wf hr
  show (collT H roots).getD x.r.toNat 0 = 0
  rw [h]
  exact tosF_zero (fun r hr' => (hq.2 r hr').1) _ (Nat.le_refl _)
theorem mv_at (hG : GoodH H) (hr : ∀ x ∈ roots, 0 ≤ x.r ∧ x.r ≤ (H.length : Int)) {x : Wd} {j : Nat} (h : (collQ H roots)[j]? = some x.r) : (mvT H roots x).r = (j : Int) + 1 := by
  have hq := collQ_nd hG.wf hr
  exact tosF_at hq.1 (fun r hr' => by have := hq.2 r hr'; omega) _ (Nat.le_refl _) j x.r (List.getElem?_eq_some_iff.1 h).1 h
theorem mv_obj (hG : GoodH H) (hr : ∀ x ∈ roots, 0 ≤ x.r ∧ x.r ≤ (H.length : Int)) {x : Wd} (h : Kept H roots x) : (x.r = 0 ∧ (mvT H roots x).r = 0 ∧ objAt H x.r = none ∧ objAt (collH H roots) (mvT H roots x).r = none) ∨
    ∃ (j : Nat) (o : Ob), (collQ H roots)[j]? = some x.r ∧ (mvT H roots x).r = (j : Int) + 1 ∧ objAt H x.r = some o ∧ objAt (collH H roots) (mvT H roots x).r = some (moveO (collT H roots) (some o)) := by
  rcases h with h | h
  · have h2 := mv_zero hG hr h
    exact .inl ⟨h, h2, objAt_lt (by omega), objAt_lt (by omega)⟩
  · obtain ⟨j, hj⟩ := List.mem_iff_getElem?.1 h
    have hq := (collQ_nd hG.wf hr).2 _ h
    obtain ⟨i, o, h1, h2, h3, h4⟩ := objAt_in hq.1 hq.2
    have h5 := mv_at hG hr hj
    refine .inr ⟨j, o, hj, h5, h4, ?_⟩
    rw [h5]
    unfold objAt collH
    rw [if_pos (by omega), show ((j : Int) + 1 - 1).toNat = j by omega, List.getElem?_map, hj]
    simp only [Option.map_some, h4]
theorem mv_right (hG : GoodH H) (hr : ∀ x ∈ roots, 0 ≤ x.r ∧ x.r ≤ (H.length : Int)) {x : Wd} (h : Kept H roots x) : rightW (collH H roots) (mvT H roots x) = rightW H x := by
  have hk : (mvT H roots x).k = x.k := rfl
  have hn : (mvT H roots x).n = x.n := rfl
  rcases mv_obj hG hr h with ⟨h1, h2, h3, h4⟩ | ⟨j, o, h1, h2, h3, h4⟩
  · unfold rightW
    rw [hk, hn, h2, h1]
    rw [h2] at h4; rw [h1] at h3
    rw [h3, h4]
  · have hx : x.r ≠ 0 := by
      have := ((collQ_nd hG.wf hr).2 _ (List.mem_of_getElem? h1)).1
      omega
    have hm : (mvT H roots x).r ≠ 0 := by omega
    have e0 : decide ((mvT H roots x).r = 0) = decide (x.r = 0) := by simp [hx, hm]
    have e1 : isTextO (some (moveO (collT H roots) (some o))) = isTextO (some o) := by cases o <;> rfl
    have e2 : isDataO (some (moveO (collT H roots) (some o))) = isDataO (some o) := by cases o <;> rfl
    have e3 : isArrO (some (moveO (collT H roots) (some o))) = isArrO (some o) := by cases o <;> rfl
    unfold rightW
    rw [hk, hn, h4, h3, e0, e1, e2, e3]
theorem mv_args (hG : GoodH H) (hr : ∀ x ∈ roots, 0 ≤ x.r ∧ x.r ≤ (H.length : Int)) {x : Wd} (h : Kept H roots x) : argsOf (collH H roots) (mvT H roots x) = (argsOf H x).map (mvT H roots) ∧ ∀ y ∈ argsOf H x, Kept H roots y := by
  rcases mv_obj hG hr h with ⟨h1, h2, h3, h4⟩ | ⟨j, o, h1, h2, h3, h4⟩
  · unfold argsOf
    rw [h3, h4]
    exact ⟨rfl, by simp [argsO]⟩
  · refine ⟨?_, fun y hy => ?_⟩
    · unfold argsOf
      rw [h3, h4]
      cases o <;> rfl
    · rw [argsOf_listO] at hy
      exact collQ_closed hG.wf hr _ (List.mem_of_getElem? h1) y hy
theorem mv_text (hG : GoodH H) (hr : ∀ x ∈ roots, 0 ≤ x.r ∧ x.r ≤ (H.length : Int)) {x : Wd} (h : Kept H roots x) (t : ByteArray) : objAt (collH H roots) (mvT H roots x).r = some (.text t) ↔ objAt H x.r = some (.text t) := by
  rcases mv_obj hG hr h with ⟨h1, h2, h3, h4⟩ | ⟨j, o, h1, h2, h3, h4⟩
  · rw [h3, h4]
  · rw [h3, h4]
    cases o with
    | text s => simp [moveO]
    | words s l => simp [moveO]
mutual
theorem mv_lds (hG : GoodH H) (hr : ∀ x ∈ roots, 0 ≤ x.r ∧ x.r ≤ (H.length : Int)) : ∀ (u : Val) (x : Wd), Kept H roots x → (Lds (collH H roots) (mvT H roots x) u ↔ Lds H x u)
  | .mk k n t args, x, h => by
    have hk : (mvT H roots x).k = x.k := rfl
    have hn : (mvT H roots x).n = x.n := rfl
    have hz : (mvT H roots x).r = 0 ↔ x.r = 0 := by
      rcases mv_obj hG hr h with ⟨h1, h2, -, -⟩ | ⟨j, o, h1, h2, -, -⟩
      · simp [h1, h2]
      · have := ((collQ_nd hG.wf hr).2 _ (List.mem_of_getElem? h1)).1
        constructor <;> intro <;> omega
    simp only [Lds]
    rw [hk, hn]
    split
    · rw [hz]
    split
    · rw [mv_text hG hr h]
    · obtain ⟨ha, hc⟩ := mv_args hG hr h
      rw [ha, mv_ldsL hG hr args _ hc]
theorem mv_ldsL (hG : GoodH H) (hr : ∀ x ∈ roots, 0 ≤ x.r ∧ x.r ≤ (H.length : Int)) : ∀ (us : List Val) (l : List Wd), (∀ y ∈ l, Kept H roots y) → (LdsL (collH H roots) (l.map (mvT H roots)) us ↔ LdsL H l us)
  | [], [], _ => by simp only [List.map_nil, LdsL]
  | u :: us, x :: l, h => by
    simp only [List.map_cons, LdsL]
    rw [mv_lds hG hr u x (h x List.mem_cons_self), mv_ldsL hG hr us l (fun y hy => h y (List.mem_cons_of_mem _ hy))]
  | [], _ :: _, _ => by simp [LdsL]
  | _ :: _, [], _ => by simp [LdsL]
end
theorem mv_parts (hG : GoodH H) (hr : ∀ x ∈ roots, 0 ≤ x.r ∧ x.r ≤ (H.length : Int)) : ∀ (f : Nat) (l : List Wd), (∀ y ∈ l, Kept H roots y) → partsF (collH H roots) f (l.map (mvT H roots)) = partsF H f l := by
  intro f
  induction f with
  | zero =>
    intro l h
    simp only [partsF, List.getLast?_map]
    cases l.getLast? <;> rfl
  | succ f ih =>
    intro l h
    simp only [partsF, List.getLast?_map]
    cases hl : l.getLast? with
    | none => rfl
    | some x =>
      simp only [Option.map_some]
      have hx : x ∈ l := List.mem_of_getLast? hl
      obtain ⟨ha, hc⟩ := mv_args hG hr (h x hx)
      rw [ha, ← List.map_dropLast, ← List.map_append, ih]
      intro y hy
      rcases List.mem_append.1 hy with hy | hy
      · exact h y (List.dropLast_subset _ hy)
      · exact hc y hy
theorem coll_good (hG : GoodH H) (hr : ∀ x ∈ roots, 0 ≤ x.r ∧ x.r ≤ (H.length : Int)) : GoodH (collH H roots) := by
  have hq := collQ_nd hG.wf hr
  refine ⟨fun o ho x hx => ?_, fun o ho => ?_⟩
  · unfold collH at ho
    obtain ⟨r, hrm, rfl⟩ := List.mem_map.1 ho
    have h1 := hq.2 r hrm
    obtain ⟨i, o, e1, e2, e3, e4⟩ := objAt_in h1.1 h1.2
    rw [e4] at hx
    cases o with
    | text s => simp [moveO, Ob.list] at hx
    | words s l =>
      simp only [moveO, Ob.list] at hx
      obtain ⟨y, hy, rfl⟩ := List.mem_map.1 hx
      have hyk : Kept H roots y := collQ_closed hG.wf hr r hrm y (by rw [e4]; exact hy)
      have hyw := hG.w _ (objAt_mem e4) y hy
      have := mv_right hG hr hyk
      refine ⟨?_, hyw.2⟩
      show rightW (collH H roots) (mvT H roots y) = true
      rw [this]; exact hyw.1
  · unfold collH at ho
    obtain ⟨r, hrm, rfl⟩ := List.mem_map.1 ho
    have h1 := hq.2 r hrm
    obtain ⟨i, o, e1, e2, e3, e4⟩ := objAt_in h1.1 h1.2
    rw [e4]
    cases o with
    | text s => simp [moveO, Ob.list]
    | words s l =>
      simp only [moveO, Ob.list, List.length_map]
      exact hG.lim _ (objAt_mem e4)
theorem mv_err (hG : GoodH H) (hr : ∀ x ∈ roots, 0 ≤ x.r ∧ x.r ≤ (H.length : Int)) {x : Wd} (h : Kept H roots x) : errL (collH H roots) (mvT H roots x) = errL H x := by
  have h1 := mv_right hG hr h
  unfold errL
  rw [h1]
  by_cases hx : rightW H x = true
  · rw [if_pos hx, if_pos hx]
    have h2 : ringF (collH H roots) [mvT H roots x] = ringF H [x] := by
      have i1 := ringF_iff hG hx
      have i2 := ringF_iff (coll_good hG hr) (by rw [h1]; exact hx)
      have i3 : (∃ u, Lds (collH H roots) (mvT H roots x) u) ↔ ∃ u, Lds H x u := exists_congr fun u => mv_lds hG hr u x h
      have i4 := (i2.trans i3).trans i1.symm
      cases e1 : ringF (collH H roots) [mvT H roots x] with
      | false => exact (i4.1 e1).symm
      | true =>
        cases e2 : ringF H [x] with
        | true => rfl
        | false => rw [i4.2 e2] at e1; cases e1
    have h3 := mv_parts hG hr 100000 [x] (fun y hy => by simp at hy; subst hy; exact h)
    simp only [List.map_cons, List.map_nil] at h3
    rw [h2, h3]
  · rw [if_neg hx, if_neg hx]
theorem mv_inj (hG : GoodH H) (hr : ∀ x ∈ roots, 0 ≤ x.r ∧ x.r ≤ (H.length : Int)) {x y : Wd} (hx : Kept H roots x) (hy : Kept H roots y) : (mvT H roots x).r = (mvT H roots y).r ↔ x.r = y.r := by
  rcases mv_obj hG hr hx with ⟨h1, h2, -, -⟩ | ⟨j, o, h1, h2, -, -⟩
  · rcases mv_obj hG hr hy with ⟨g1, g2, -, -⟩ | ⟨i, o, g1, g2, -, -⟩
    · simp [h1, h2, g1, g2]
    · have := ((collQ_nd hG.wf hr).2 _ (List.mem_of_getElem? g1)).1
      constructor <;> intro <;> omega
  · have p1 := ((collQ_nd hG.wf hr).2 _ (List.mem_of_getElem? h1)).1
    rcases mv_obj hG hr hy with ⟨g1, g2, -, -⟩ | ⟨i, o, g1, g2, -, -⟩
    · constructor <;> intro <;> omega
    · constructor
      · intro e
        have : j = i := by omega
        subst this
        rw [h1] at g1; exact Option.some.inj g1
      · intro e
        rw [e] at h1
        have e1 := List.getElem?_eq_some_iff.1 h1
        have e2 := List.getElem?_eq_some_iff.1 g1
        have : (collQ H roots)[j]'e1.1 = (collQ H roots)[i]'e2.1 := by rw [e1.2, e2.2]
        have := (List.getElem_inj (collQ_nd hG.wf hr).1).1 this
        omega
end
end Go.Proofs.YtldeokfhipjbfaaGreatDoor
/- The plain law of collecting, last part: a second collection changes nothing. -/
set_option linter.unusedVariables false
set_option linter.unusedSimpArgs false
set_option linter.unusedSectionVars false
namespace Go.Proofs.YtldeokfhipjbfaaGreatDoor
open Go Go.Proofs.Vg Go.RowKit

section
variable {H : List Ob} {roots : List Wd}
/-- A kept number's new number. -/
def tau (H : List Ob) (roots : List Wd) (r : Int) : Int := (collT H roots).getD r.toNat 0
theorem mvT_r (x : Wd) : (mvT H roots x).r = tau H roots x.r := rfl
theorem tau_at (hG : GoodH H) (hr : ∀ x ∈ roots, 0 ≤ x.r ∧ x.r ≤ (H.length : Int)) {j : Nat} {r : Int} (h : (collQ H roots)[j]? = some r) : tau H roots r = (j : Int) + 1 := mv_at hG hr (x := ⟨0, 0, r⟩) h
theorem tau_zero (hG : GoodH H) (hr : ∀ x ∈ roots, 0 ≤ x.r ∧ x.r ≤ (H.length : Int)) : tau H roots 0 = 0 := mv_zero hG hr (x := ⟨0, 0, 0⟩) rfl
theorem tau_inj (hG : GoodH H) (hr : ∀ x ∈ roots, 0 ≤ x.r ∧ x.r ≤ (H.length : Int)) {r s : Int} (h1 : r ∈ collQ H roots) (h2 : s ∈ collQ H roots) (h : tau H roots r = tau H roots s) : r = s :=
  (mv_inj hG hr (x := ⟨0, 0, r⟩) (y := ⟨0, 0, s⟩) (.inr h1) (.inr h2)).1 h
theorem tau_pos (hG : GoodH H) (hr : ∀ x ∈ roots, 0 ≤ x.r ∧ x.r ≤ (H.length : Int)) {r : Int} (h : r ∈ collQ H roots) : 1 ≤ tau H roots r ∧ tau H roots r ≤ ((collQ H roots).length : Int) := by
  obtain ⟨j, hj⟩ := List.mem_iff_getElem?.1 h
  rw [tau_at hG hr hj]
  have := (List.getElem?_eq_some_iff.1 hj).1
  omega
/-- The marks of the old heap and of the new one agree. -/
def RelS (H : List Ob) (roots : List Wd) (sn sn' : List Bool) : Prop := ∀ r ∈ collQ H roots, sn'[(tau H roots r).toNat]? = sn[r.toNat]?
theorem push_sim (hG : GoodH H) (hr : ∀ x ∈ roots, 0 ≤ x.r ∧ x.r ≤ (H.length : Int)) : ∀ (l : List Wd) (sn sn' : List Bool) (q : List Int), (∀ x ∈ l, Kept H roots x) → RelS H roots sn sn' →
    (pushF sn' (q.map (tau H roots)) (l.map (mvT H roots))).2 = (pushF sn q l).2.map (tau H roots) ∧ RelS H roots (pushF sn q l).1 (pushF sn' (q.map (tau H roots)) (l.map (mvT H roots))).1 := by
  intro l
  induction l with
  | nil => intro sn sn' q _ h; exact ⟨rfl, h⟩
  | cons x l ih =>
    intro sn sn' q hl h
    have hx := hl x List.mem_cons_self
    have hl' := fun y hy => hl y (List.mem_cons_of_mem _ hy)
    simp only [List.map_cons, pushF]
    have hc : ((mvT H roots x).r ≠ 0 ∧ sn'[(mvT H roots x).r.toNat]? = some false) ↔ (x.r ≠ 0 ∧ sn[x.r.toNat]? = some false) := by
      rw [mvT_r]
      rcases hx with h0 | h0
      · rw [h0, tau_zero hG hr]
        simp
      · have h1 := tau_pos hG hr h0
        have h2 := (collQ_nd hG.wf hr).2 _ h0
        rw [h _ h0]
        constructor
        · rintro ⟨-, h3⟩; exact ⟨by omega, h3⟩
        · rintro ⟨-, h3⟩; exact ⟨by omega, h3⟩
    by_cases hcc : x.r ≠ 0 ∧ sn[x.r.toNat]? = some false
    · rw [if_pos hcc, if_pos (hc.2 hcc)]
      have h0 : x.r ∈ collQ H roots := hx.resolve_left hcc.1
      have hlt := (List.getElem?_eq_some_iff.1 hcc.2).1
      have hlt' : (tau H roots x.r).toNat < sn'.length := (List.getElem?_eq_some_iff.1 (hc.2 hcc).2).1
      have hR : RelS H roots (sn.set x.r.toNat true) (sn'.set (tau H roots x.r).toNat true) := by
        intro r hrm
        by_cases e : r = x.r
        · subst e
          rw [List.getElem?_set_self hlt, List.getElem?_set_self hlt']
        · have p1 := tau_pos hG hr hrm
          have p2 := tau_pos hG hr h0
          have q1 := (collQ_nd hG.wf hr).2 _ hrm
          have q2 := (collQ_nd hG.wf hr).2 _ h0
          have hne : tau H roots x.r ≠ tau H roots r := fun h' => e (tau_inj hG hr hrm h0 h'.symm)
          rw [List.getElem?_set_ne (by omega), List.getElem?_set_ne (by omega)]
          exact h r hrm
      have := ih (sn.set x.r.toNat true) (sn'.set (tau H roots x.r).toNat true) (q ++ [x.r]) hl' hR
      rw [List.map_append] at this
      exact this
    · rw [if_neg hcc, if_neg (fun h' => hcc (hc.1 h'))]
      exact ih sn sn' q hl' h
theorem bfs_sim (hG : GoodH H) (hr : ∀ x ∈ roots, 0 ≤ x.r ∧ x.r ≤ (H.length : Int)) : ∀ (f : Nat) (sn sn' : List Bool) (q : List Int) (i : Nat), Qok H.length sn q → (∀ r ∈ bfs H f sn q i, r ∈ collQ H roots) → RelS H roots sn sn' →
    bfs (collH H roots) f sn' (q.map (tau H roots)) i = (bfs H f sn q i).map (tau H roots) := by
  intro f
  induction f with
  | zero => intro sn sn' q i _ _ _; rfl
  | succ f ih =>
    intro sn sn' q i h1 h2 h3
    simp only [bfs, List.getElem?_map] at h2 ⊢
    cases hq : q[i]? with
    | none => rfl
    | some r =>
      simp only [hq, Option.map_some] at h2 ⊢
      have hlo := listO_mem hG.wf r
      obtain ⟨p1, p2, -⟩ := pushF_inv _ sn q hlo h1
      have hp := (bfs_prefix hG.wf f _ _ (i + 1) p1).1
      have hrm : r ∈ collQ H roots := by
        refine h2 r ?_
        obtain ⟨t, ht⟩ := p2.trans hp
        rw [← ht]
        exact List.mem_append_left _ (List.mem_of_getElem? hq)
      obtain ⟨ha, hc⟩ := mv_args hG hr (x := ⟨0, 0, r⟩) (.inr hrm)
      rw [argsOf_listO, argsOf_listO] at ha
      rw [argsOf_listO] at hc
      simp only at hc
      have e1 : listO (objAt (collH H roots) (tau H roots r)) = (listO (objAt H r)).map (mvT H roots) := ha
      rw [e1]
      obtain ⟨g1, g2⟩ := push_sim hG hr (listO (objAt H r)) sn sn' q hc h3
      rw [g1]
      exact ih _ _ _ (i + 1) p1 h2 g2
theorem coll_len (hG : GoodH H) (hr : ∀ x ∈ roots, 0 ≤ x.r ∧ x.r ≤ (H.length : Int)) : (collH H roots).length = (collQ H roots).length := by unfold collH; simp
theorem roots2 (hG : GoodH H) (hr : ∀ x ∈ roots, 0 ≤ x.r ∧ x.r ≤ (H.length : Int)) : ∀ x ∈ roots.map (mvT H roots), 0 ≤ x.r ∧ x.r ≤ ((collH H roots).length : Int) := by
  intro x hx
  obtain ⟨y, hy, rfl⟩ := List.mem_map.1 hx
  rw [coll_len hG hr, mvT_r]
  rcases collQ_roots hG.wf hr y hy with h | h
  · rw [h, tau_zero hG hr]; omega
  · have := tau_pos hG hr h; omega
theorem collQ_second (hG : GoodH H) (hr : ∀ x ∈ roots, 0 ≤ x.r ∧ x.r ≤ (H.length : Int)) : collQ (collH H roots) (roots.map (mvT H roots)) = (collQ H roots).map (tau H roots) := by
  have hG' := coll_good hG hr
  have hlen := coll_len hG hr
  have hinv := collQ_inv hG.wf hr
  have hinv' := collQ_inv (H := collH H roots) (roots := roots.map (mvT H roots)) hG'.wf (roots2 hG hr)
  have hnd := collQ_nd hG.wf hr
  have hR0 : RelS H roots (List.replicate (H.length + 1) false) (List.replicate ((collH H roots).length + 1) false) := by
    intro r hrm
    have p1 := tau_pos hG hr hrm
    have p2 := hnd.2 r hrm
    rw [List.getElem?_replicate, List.getElem?_replicate, if_pos (by omega), if_pos (by omega)]
  obtain ⟨g1, g2⟩ := push_sim hG hr roots (List.replicate (H.length + 1) false) (List.replicate ((collH H roots).length + 1) false) [] (collQ_roots hG.wf hr) hR0
  simp only [List.map_nil] at g1 g2
  have e0 : bfs H (H.length + 1 + (collH H roots).length) (pushF (List.replicate (H.length + 1) false) [] roots).1 (pushF (List.replicate (H.length + 1) false) [] roots).2 0 = collQ H roots :=
    bfs_fuel hG.wf _ _ _ _ 0 hinv.1 (by omega) (by omega)
  have e1 : collQ (collH H roots) (roots.map (mvT H roots)) = bfs (collH H roots) (H.length + 1 + (collH H roots).length) (pushF (List.replicate ((collH H roots).length + 1) false) [] (roots.map (mvT H roots))).1 (pushF (List.replicate ((collH H roots).length + 1) false) [] (roots.map (mvT H roots))).2 0 :=
    bfs_fuel hG'.wf _ _ _ _ 0 hinv'.1 (by omega) (by omega)
  rw [e1, g1, bfs_sim hG hr (H.length + 1 + (collH H roots).length) _ _ _ 0 hinv.1 (fun r h => by rw [e0] at h; exact h) g2, e0]
theorem collQ_second_at (hG : GoodH H) (hr : ∀ x ∈ roots, 0 ≤ x.r ∧ x.r ≤ (H.length : Int)) {j : Nat} (h : j < (collQ H roots).length) : (collQ (collH H roots) (roots.map (mvT H roots)))[j]? = some ((j : Int) + 1) := by
  rw [collQ_second hG hr, List.getElem?_map, List.getElem?_eq_getElem h, Option.map_some]
  rw [tau_at hG hr (List.getElem?_eq_getElem h)]
theorem coll_second_len (hG : GoodH H) (hr : ∀ x ∈ roots, 0 ≤ x.r ∧ x.r ≤ (H.length : Int)) : (collH (collH H roots) (roots.map (mvT H roots))).length = (collQ H roots).length := by
  rw [coll_len (coll_good hG hr) (roots2 hG hr), collQ_second hG hr, List.length_map]
theorem mv_second (hG : GoodH H) (hr : ∀ x ∈ roots, 0 ≤ x.r ∧ x.r ≤ (H.length : Int)) : (roots.map (mvT H roots)).map (mvT (collH H roots) (roots.map (mvT H roots))) = roots.map (mvT H roots) := by
  rw [List.map_map]
  refine List.map_congr_left (fun x hx => ?_)
  simp only [Function.comp]
  have hk := collQ_roots hG.wf hr x hx
  have key : tau (collH H roots) (roots.map (mvT H roots)) (mvT H roots x).r = (mvT H roots x).r := by
    rcases hk with h | h
    · rw [mvT_r, h, tau_zero hG hr, tau_zero (coll_good hG hr) (roots2 hG hr)]
    · obtain ⟨j, hj⟩ := List.mem_iff_getElem?.1 h
      have e := tau_at hG hr hj
      rw [mvT_r, e]
      exact tau_at (coll_good hG hr) (roots2 hG hr) (collQ_second_at hG hr (List.getElem?_eq_some_iff.1 hj).1)
  show (⟨x.k, x.n, _⟩ : Wd) = ⟨x.k, x.n, _⟩
  congr 1
end
end Go.Proofs.YtldeokfhipjbfaaGreatDoor
/- The plain law of the acts: the heap stays right and small. -/
set_option linter.unusedVariables false
set_option linter.unusedSimpArgs false
namespace Go.Proofs.YtldeokfhipjbfaaGreatDoor
open Go Go.Proofs.Vg Go.RowKit

theorem pickF_len (l : List Wd) (of : List Int) : (pickF l of).length ≤ of.length := by unfold pickF; split <;> simp
theorem actH_good {H : List Ob} {l : List Wd} {a : ActD} (hG : GoodH H) (hv : cntV a.v ≤ 40) (hof : a.of.length ≤ 10) :
    GoodH (actH H l a) ∧ (actH H l a).length ≤ H.length + 40 ∧ (actL H l a).length ≤ l.length + 1 := by
  unfold actH actL
  split
  · refine ⟨?_, ?_, by simp⟩
    · unfold storeS
      split
      · split
        · exact (storeV_good a.v H (by assumption) (by assumption) hG (by omega)).1
        · exact hG
      · exact hG
    · unfold storeS
      split
      · split
        · have := storeV_length a.v H
          simp only; omega
        · simp
      · simp
  · split
    · refine ⟨?_, ?_, by simp⟩
      · split
        · rename_i he
          unfold makeE at he
          split at he
          · rename_i hk
            split at he
            · cases he
            · rename_i hn
              split at he
              · cases he
              · rename_i hb
                refine (mkW_good hG hk (fun h7 => ?_) (fun x hx => ?_) (by have := pickF_len l a.of; omega)).1
                · by_cases e : a.n = 0
                  · exact e
                  · exact absurd (.inr ⟨h7, e⟩) hn
                · have hb' : badArg H x = false := by
                    cases hbx : badArg H x with
                    | false => rfl
                    | true => exact absurd (List.any_eq_true.2 ⟨x, hx, hbx⟩) hb
                  simp [badArg] at hb'
                  exact ⟨hb'.1.1, hb'.1.2, hb'.2⟩
          · cases he
        · exact hG
      · split
        · have := mkW_length H a.k a.n (pickF l a.of)
          omega
        · omega
    · refine ⟨?_, ?_, by simp⟩
      · split
        · exact hG
        · exact (setH_good hG).1
      · split
        · omega
        · rw [(setH_good hG).2]; omega
/-- The acts that store, make and set. -/
def runA (s : List Ob × List Wd) (acts : List ActD) : List Ob × List Wd := acts.foldl (fun s a => if 0 ≤ a.d ∧ a.d ≤ 2 then (actH s.1 s.2 a, actL s.1 s.2 a) else s) s
theorem runA_snoc (s : List Ob × List Wd) (acts : List ActD) (a : ActD) : runA s (acts ++ [a]) = if 0 ≤ a.d ∧ a.d ≤ 2 then (actH (runA s acts).1 (runA s acts).2 a, actL (runA s acts).1 (runA s acts).2 a) else runA s acts := by
  unfold runA; rw [List.foldl_append]; rfl
theorem runA_good : ∀ (acts : List ActD) (s : List Ob × List Wd), GoodH s.1 → (∀ a ∈ acts, a.of.length ≤ 10 ∧ cntV a.v ≤ 40) → GoodH (runA s acts).1 ∧ (runA s acts).1.length ≤ s.1.length + 40 * acts.length ∧ (runA s acts).2.length ≤ s.2.length + acts.length := by
  intro acts
  induction acts with
  | nil => intro s h _; exact ⟨h, by simp [runA], by simp [runA]⟩
  | cons a acts ih =>
    intro s h hA
    have ha := hA a List.mem_cons_self
    have hA' := fun b hb => hA b (List.mem_cons_of_mem _ hb)
    have e : runA s (a :: acts) = runA (if 0 ≤ a.d ∧ a.d ≤ 2 then (actH s.1 s.2 a, actL s.1 s.2 a) else s) acts := rfl
    rw [e]
    by_cases hd : 0 ≤ a.d ∧ a.d ≤ 2
    · rw [if_pos hd]
      obtain ⟨g1, g2, g3⟩ := actH_good (l := s.2) h ha.2 ha.1
      obtain ⟨h1, h2, h3⟩ := ih (actH s.1 s.2 a, actL s.1 s.2 a) g1 hA'
      simp only at h2 h3
      simp only [List.length_cons]
      exact ⟨h1, by omega, by omega⟩
    · rw [if_neg hd]
      obtain ⟨h1, h2, h3⟩ := ih s h hA'
      simp only [List.length_cons]
      exact ⟨h1, by omega, by omega⟩
end Go.Proofs.YtldeokfhipjbfaaGreatDoor
/- HeapKeeps: the walk. -/
set_option linter.unusedVariables false
set_option linter.unusedSimpArgs false
namespace Go.Proofs.YtldeokfhipjbfaaGreatDoor
open Go Go.Proofs.Vg Go.RowKit

theorem owns_ne {w : World} {base base' e e' sz sz' n n' : Nat} {v v' : Value} {xs xs' : List Value} (h : w.ownsRow base e sz v n xs) (h' : w.ownsRow base' e' sz' v' n' xs') (hne : e ≠ e') (k : Nat) (hk : v.ownBlock = some k) : v'.ownBlock ≠ some k := by
  intro hk'
  rcases h.2 with ⟨rfl, -⟩ | ⟨g, cap, cur, rfl, -, hg, -⟩
  · simp [Value.ownBlock] at hk
  rcases h'.2 with ⟨rfl, -⟩ | ⟨g', cap', cur', rfl, -, hg', -⟩
  · simp [Value.ownBlock] at hk'
  simp only [Value.ownBlock, Option.some.injEq] at hk hk'
  rw [hk] at hg
  rw [hk', hg] at hg'
  cases hg'
  exact hne rfl
theorem errs_flat (f : Wd → Value) : ∀ l : List Wd, l.map f = (l.map fun x => [f x]).flatten
  | [] => rfl
  | x :: l => by simp only [List.map_cons, List.flatten_cons, List.singleton_append]; rw [← errs_flat f l]
/-- What a word reads as. -/
noncomputable def uOf (H : List Ob) (x : Wd) : Val := by classical exact if h : ∃ u, Lds H x u then h.choose else zeroVal
theorem uOf_spec {H : List Ob} {x : Wd} (h : ∃ u, Lds H x u) : Lds H x (uOf H x) := by
  unfold uOf
  rw [dif_pos h]
  exact h.choose_spec
noncomputable def lvOf (H : List Ob) (x : Wd) : Val := if errL H x = 0 then uOf H x else zeroVal
theorem Fx.us32 : Tryz.prog.underlying 32 = some (.struct #[⟨"a", 29, 0, false, "", "cinnabar/cinnabarlaw36", 0⟩, ⟨"b", 30, 1, false, "", "cinnabar/cinnabarlaw36", 24⟩]) := by kernel_rfl
theorem Runs.field32 {a b : Value} {w : World} {nx : Value → World → Prop} (h : nx a w) : Runs Tryz.prog (Instr.field 32 (.agg #[a, b]) 0) w nx := by
  refine ⟨a, w, ?_, h⟩
  simp [Instr.field, run_underlying Fx.us32, part, isAgg, run_underlying Fx.un29, asAgg, Result.andThen]

-- -- function 4
set_option maxHeartbeats 16000000 in
set_option maxRecDepth 8000 in
theorem HeapKeeps_ok (w : World) (mk : Nat) (hg : Glob w mk) (S : Nat → Prop) (v0 v1 : Value) (acts : List ActD) (of : List Int) (hA : ActsR w S v0 acts) (hO : SliS w S 1 v1 (ints of)) (hS : ∀ k, S k → k < w.heap.size) :
    Rets Tryz.prog 4 [v0, v1] w (fun v w' => v = .bool true ∧ Ext w w') := by
  obtain ⟨A, c, rfl, hlen, hcell⟩ := id hA
  obtain ⟨A1, c1, rfl, hlen1, hcell1⟩ := id hO
  rw [ints_length] at hO hlen1 ⊢
  have hglt := hg.lt
  refine rets_of_ok Tryz.func4 rfl rfl ?_
  refine ok_seq (fun M hM => ok_region rfl ?_); repeat ((try subst X); (first | (first | apply zL | apply zH | apply zE); intro X hX | apply zl | apply zh | apply ze); try simp only [zU, reduceIte, Nat.reduceEqDiff, Nat.reduceAdd, reduceCtorEq, Q4])
  refine hM _ _ _ ?_; clear hM M
  refine ok_join [(0, .slice A acts.length c), (1, .slice A1 of.length c1)] (fun w1 => Ext w w1) ?_ ?_
  · refine ok_seq (fun M hM => ok_region rfl ?_)
    repeat ((try subst X); (first | (first | apply zL | apply zH | apply zE); intro X hX | apply zl | apply zh | apply ze); try simp only [zU, reduceIte, Nat.reduceEqDiff, Nat.reduceAdd, reduceCtorEq, Q4])
    refine Inv.call Fx.en5 (awake_ok w mk hg) ?_
    rintro v w1 ⟨rfl, he1⟩
    repeat ((try subst X); (first | (first | apply zL | apply zH | apply zE); intro X hX | apply zl | apply zh | apply ze); try simp only [zU, reduceIte, Nat.reduceEqDiff, Nat.reduceAdd, reduceCtorEq, Q4])
    refine hM _ _ _ ?_; clear hM M
    refine ok_cond rfl (fun h => by cases h) (fun h => ok_skip ?_)
    try simp only [zW, zU, reduceIte, Nat.reduceEqDiff, Nat.reduceAdd, reduceCtorEq, Q4]
    exact ⟨by simp [sub, Env.get], he1⟩
  rintro w1 he1
  have hA1 : ActsR w1 S (.slice A acts.length c) acts := hA.chg (he1.chg (fun _ => False)) (fun k hk => ⟨hk, id⟩)
  refine ok_join [(0, .slice A acts.length c), (1, .slice A1 of.length c1)] (fun w2 => Ext w w2 ∧ (acts.length ≤ 30 ∧ ∀ a ∈ acts, a.of.length ≤ 10 ∧ cntV a.v ≤ 40) ∧ of.length ≤ 10) ?_ ?_
  · refine ok_seq (fun M hM => ok_region rfl ?_)
    repeat ((try subst X); (first | (first | apply zL | apply zH | apply zE); intro X hX | apply zl | apply zh | apply ze); try simp only [zU, reduceIte, Nat.reduceEqDiff, Nat.reduceAdd, reduceCtorEq, Q4])
    refine Inv.call Fx.en6 (Few_ok w1 S _ acts hA1 (fun k hk => by have := hS k hk; have := he1.size; omega)) ?_
    rintro v w2 ⟨b, rfl, he2, hb⟩
    cases b with
    | false =>
      repeat ((try subst X); (first | (first | apply zL | apply zH | apply zE); intro X hX | apply zl | apply zh | apply ze); try simp only [zU, reduceIte, Nat.reduceEqDiff, Nat.reduceAdd, reduceCtorEq, Q4])
      refine hM _ _ _ ?_; clear hM M
      refine ok_cond rfl (fun _ => ?_) (fun h => by cases h)
      refine ok_seq (fun M hM => ok_region rfl ?_); repeat ((try subst X); (first | (first | apply zL | apply zH | apply zE); intro X hX | apply zl | apply zh | apply ze); try simp only [zU, reduceIte, Nat.reduceEqDiff, Nat.reduceAdd, reduceCtorEq, Q4])
      refine hM _ _ _ ?_; clear hM M
      refine ok_ret ?_
      try simp only [zW, zU, reduceIte, Nat.reduceEqDiff, Nat.reduceAdd, reduceCtorEq, Q4]
      exact he1.trans he2
    | true =>
      repeat ((try subst X); (first | (first | apply zL | apply zH | apply zE); intro X hX | apply zl | apply zh | apply ze); try simp only [zU, reduceIte, Nat.reduceEqDiff, Nat.reduceAdd, reduceCtorEq, Q4])
      refine hM _ _ _ ?_; clear hM M
      refine ok_if rfl (fun h10 => ?_) (fun h10 => ok_skip ?_)
      · refine ok_seq (fun M hM => ok_region rfl ?_); repeat ((try subst X); (first | (first | apply zL | apply zH | apply zE); intro X hX | apply zl | apply zh | apply ze); try simp only [zU, reduceIte, Nat.reduceEqDiff, Nat.reduceAdd, reduceCtorEq, Q4])
        refine hM _ _ _ ?_; clear hM M
        refine ok_ret ?_
        try simp only [zW, zU, reduceIte, Nat.reduceEqDiff, Nat.reduceAdd, reduceCtorEq, Q4]
        exact he1.trans he2
      · try simp only [zW, zU, reduceIte, Nat.reduceEqDiff, Nat.reduceAdd, reduceCtorEq, Q4]
        exact ⟨by simp [sub, Env.get], he1.trans he2, hb rfl, by omega⟩
  rintro w2 ⟨he02, ⟨hfew1, hfew2⟩, hof⟩
  have hs02 := he02.size
  refine ok_seq (fun M hM => ok_region rfl ?_)
  repeat ((try subst X); (first | (first | apply zL | apply zH | apply zE); intro X hX | apply zl | apply zh | apply ze); try simp only [zU, reduceIte, Nat.reduceEqDiff, Nat.reduceAdd, reduceCtorEq, Q4])
  refine Inv.call Fx.en7 (new_ok w2) ?_
  rintro v w3 ⟨hb, rb, rfl, hp3, he3, hhb, hrb⟩
  repeat ((try subst X); (first | (first | apply zL | apply zH | apply zE); intro X hX | apply zl | apply zh | apply ze); try simp only [zU, reduceIte, Nat.reduceEqDiff, Nat.reduceAdd, reduceCtorEq, Q4])
  refine Inv.call Fx.en8 (rnew_ok w3) ?_
  rintro v w4 ⟨qb, rfl, hq4, he4, hqb⟩
  repeat ((try subst X); (first | (first | apply zL | apply zH | apply zE); intro X hX | apply zl | apply zh | apply ze); try simp only [zU, reduceIte, Nat.reduceEqDiff, Nat.reduceAdd, reduceCtorEq, Q4])
  refine hM _ _ _ ?_; clear hM M
  refine ok_seq (fun M hM => ok_region rfl ?_)
  repeat ((try subst X); (first | (first | apply zL | apply zH | apply zE); intro X hX | apply zl | apply zh | apply ze); try simp only [zU, reduceIte, Nat.reduceEqDiff, Nat.reduceAdd, reduceCtorEq, Q4])
  refine Runs.alloc Fx.zi32 (fun w5 he5 hs5 hb5 => ?_)
  generalize hbz : w4.heap.size = bz at hs5 hb5
  simp only [Value.cells] at hb5
  repeat ((try subst X); (first | (first | apply zL | apply zH | apply zE); intro X hX | apply zl | apply zh | apply ze); try simp only [zU, reduceIte, Nat.reduceEqDiff, Nat.reduceAdd, reduceCtorEq, Q4])
  refine hM _ _ _ ?_; clear hM M
  have hs3 := he3.size
  have hs4 := he4.size
  have hrbl := HeapW.lt hp3
  have hhbl : hb < w3.heap.size := by
    obtain ⟨vs, ps, gs, h1, h2, -⟩ := id hp3
    exact (h2 hb (.inl rfl)).2
  have hqbl : qb < w4.heap.size := by
    obtain ⟨vL, vws, rows, h1, h2⟩ := id hq4
    exact (h2 qb (.inl rfl)).2
  have hne : rb ≠ hb := by
    obtain ⟨vs, ps, gs, h1, h2, h3⟩ := id hp3
    exact fun e => h3 e
  have hS5 : St w5 hb rb qb bz [] [] (fun k => k = hb ∨ k = qb ∨ k = bz) := by
    refine ⟨(· = hb), (· = qb), .slice none 0 0, .slice none 0 0, ⟨(hp3.ext he4).ext he5, hq4.ext he5, hb5, World.ownsRow_nil _ _ _ _, World.ownsRow_nil _ _ _ _, fun k hk => by omega, fun k hk => by omega, fun k hk => by omega, ⟨by omega, fun k hk => by simp [Value.ownBlock]⟩, ⟨by omega, fun k hk => by simp [Value.ownBlock]⟩, by simp [Value.ownBlock], fun k hk => by simp [Value.ownBlock] at hk, ⟨by omega, by omega, by omega, by simp [Value.ownBlock], by simp [Value.ownBlock]⟩⟩, fun k hk => ?_, by omega⟩
    rcases hk with h | h | h | h | h
    · exact .inl h
    · exact .inr (.inl h)
    · exact .inr (.inr h)
    · simp [Value.ownBlock] at h
    · simp [Value.ownBlock] at h
  have he25 : Ext w2 w5 := (he3.trans he4).trans he5
  refine ok_seq (fun M0 hM0 => ?_)
  refine ok_seq (fun M hM => ok_region rfl ?_); repeat ((try subst X); (first | (first | apply zL | apply zH | apply zE); intro X hX | apply zl | apply zh | apply ze); try simp only [zU, reduceIte, Nat.reduceEqDiff, Nat.reduceAdd, reduceCtorEq, Q4])
  refine hM _ _ _ ?_; clear hM M
  refine ok_block ?_
  refine ok_loop (S := Nat) (fun i => [(1, .slice A1 of.length c1), (5, ptrOf hb), (6, ptrOf qb), (7, ptrOf bz), (41, .slice A acts.length c), (42, .int .i64 (acts.length : Int)), (43, .int .i64 (i : Int))])
    (fun i w' => Ext w2 w' ∧ i ≤ acts.length ∧ ∃ F, St w' hb rb qb bz (runA ([], []) (acts.take i)).1 (runA ([], []) (acts.take i)).2 F ∧ ∀ k, F k → w2.heap.size ≤ k ∧ k < w'.heap.size) (fun i => acts.length - i) 0 ?_ ?_ ?_
  · simp [sub, Env.get]
  · exact ⟨he25, Nat.zero_le _, _, hS5, fun k hk => by omega⟩
  rintro i w6 ⟨he6, hi, F, hSt, hFk⟩
  refine ok_seq (fun M hM => ok_region rfl ?_); repeat ((try subst X); (first | (first | apply zL | apply zH | apply zE); intro X hX | apply zl | apply zh | apply ze); try simp only [zU, reduceIte, Nat.reduceEqDiff, Nat.reduceAdd, reduceCtorEq, Q4])
  refine hM _ _ _ ?_; clear hM M
  refine ok_seq (fun M1 hM1 => ?_)
  refine ok_if rfl (fun hc => ok_skip ?_) (fun hc => ok_exit ?_)
  rotate_left
  · try simp only [zW, zU, reduceIte, Nat.reduceEqDiff, Nat.reduceAdd, reduceCtorEq, Q4]
    refine hM0 _ _ _ ?_; clear hM0 M0 hM1 M1
    have hia : i = acts.length := by omega
    subst hia
    rw [List.take_of_length_le (Nat.le_refl _)] at hSt
    have hrun := runA_good acts ([], []) GoodH.nil (fun a ha => hfew2 a ha)
    simp only [List.length_nil, Nat.zero_add] at hrun
    generalize hrn : runA ([], []) acts = hl at hSt hrun
    obtain ⟨H, l⟩ := hl
    simp only at hSt hrun
    clear hrn
    obtain ⟨hGood, hHl, hll⟩ := hrun
    obtain ⟨F1, F2, vh, vr, hS6, hFt, hFrb⟩ := hSt
    have he06 := he02.trans he6
    have hs06 := he06.size
    have hs26 := he6.size
    have hF1k : ∀ k, F1 k → w2.heap.size ≤ k ∧ k < w6.heap.size := fun k hk => hFk k (hFt k (.inl hk))
    have hO6 : SlI w6 (.slice A1 of.length c1) of := SliS.sli (SliS.chg hO (he06.chg (fun _ => False)) (fun k hk => ⟨hk, id⟩))
    have hp6 := hS6.hp
    have hg6 := hg.ext he06
    have hHl' : H.length ≤ 1200 := by omega
    refine ok_seq (fun M hM => ok_region rfl ?_); repeat ((try subst X); (first | (first | apply zL | apply zH | apply zE); intro X hX | apply zl | apply zh | apply ze); try simp only [zU, reduceIte, Nat.reduceEqDiff, Nat.reduceAdd, reduceCtorEq, Q4])
    refine hM _ _ _ ?_; clear hM M
    refine ok_seq (fun M0 hM0 => ?_)
    refine ok_seq (fun M hM => ok_region rfl ?_)
    repeat ((try subst X); (first | (first | apply zL | apply zH | apply zE); intro X hX | apply zl | apply zh | apply ze); try simp only [zU, reduceIte, Nat.reduceEqDiff, Nat.reduceAdd, reduceCtorEq, Q4])
    refine ⟨[vh, vr], rfl, hS6.z.cells (o := 0) (fun j u hj => by simpa using hj), ?_⟩
    repeat ((try subst X); (first | (first | apply zL | apply zH | apply zE); intro X hX | apply zl | apply zh | apply ze); try simp only [zU, reduceIte, Nat.reduceEqDiff, Nat.reduceAdd, reduceCtorEq, Q4])
    refine Inv.call Fx.en11 (pick_ok w6 vh vr _ l of (hS6.slh (by omega)) (hS6.slr (by omega)) hO6 (by omega) (by omega)) ?_
    rintro v w7 ⟨he7, ph, pr, rfl, hph, hpr, hd1, hd2⟩
    have hws10 : (pickF l of).length ≤ 10 := by have := pickF_len l of; omega
    generalize hwse : pickF l of = ws at hph hpr hws10
    have hwh : SlW w7 ph ws := Sli.of_own hph rfl (fun r hr => (words_rows _ r hr).1) (by simp) (by omega)
    obtain ⟨Ah, ch, rfl, -, hch⟩ := id hwh
    rw [wd_len] at hwh hph hd1 ⊢
    have hs7 := he7.size
    repeat ((try subst X); (first | (first | apply zL | apply zH | apply zE); intro X hX | apply zl | apply zh | apply ze); try simp only [zU, reduceIte, Nat.reduceEqDiff, Nat.reduceAdd, reduceCtorEq, Q4])
    refine Runs.field32 ?_
    repeat ((try subst X); (first | (first | apply zL | apply zH | apply zE); intro X hX | apply zl | apply zh | apply ze); try simp only [zU, reduceIte, Nat.reduceEqDiff, Nat.reduceAdd, reduceCtorEq, Q4])
    refine hM _ _ _ ?_; clear hM M
    refine ok_block ?_
    refine ok_loop (S := Nat × Value) (fun s => [(5, ptrOf hb), (10, s.2), (63, .slice Ah ws.length ch), (64, .int .i64 (ws.length : Int)), (65, .int .i64 (s.1 : Int))])
      (fun s w8 => Ext w7 w8 ∧ s.1 ≤ ws.length ∧ w8.ownsRow 0 38 3 s.2 ((ws.take s.1).filter (rightW H)).length (oflat ((ws.take s.1).filter (rightW H))) ∧ ∀ k, s.2.ownBlock = some k → w7.heap.size ≤ k) (fun s => ws.length - s.1) (0, .slice none 0 0) ?_ ?_ ?_
    · simp [sub, Env.get]
    · exact ⟨Ext.refl _, Nat.zero_le _, World.ownsRow_nil _ _ _ _, fun k hk => by simp [Value.ownBlock] at hk⟩
    rintro ⟨i, va⟩ w8 ⟨he8, hi, hva, hvak⟩
    simp only at hi hva hvak ⊢
    have hs8 := he8.size
    refine ok_seq (fun M hM => ok_region rfl ?_); repeat ((try subst X); (first | (first | apply zL | apply zH | apply zE); intro X hX | apply zl | apply zh | apply ze); try simp only [zU, reduceIte, Nat.reduceEqDiff, Nat.reduceAdd, reduceCtorEq, Q4])
    refine hM _ _ _ ?_; clear hM M
    refine ok_seq (fun M1 hM1 => ?_)
    refine ok_if rfl (fun hc => ok_skip ?_) (fun hc => ok_exit ?_)
    rotate_left
    · try simp only [zW, zU, reduceIte, Nat.reduceEqDiff, Nat.reduceAdd, reduceCtorEq, Q4]
      refine hM0 _ _ _ ?_; clear hM0 M0 hM1 M1
      have hiw : i = ws.length := by omega
      subst hiw
      rw [List.take_of_length_le (Nat.le_refl _)] at hva
      have hrsl : (ws.filter (rightW H)).length ≤ 10 := by have := List.length_filter_le (rightW H) ws; omega
      have hrsr : ∀ x ∈ ws.filter (rightW H), rightW H x = true := fun x hx => (List.mem_filter.1 hx).2
      generalize hrse : ws.filter (rightW H) = rs at hva hrsl hrsr
      have hvs : SlW w8 va rs := Sli.of_own hva rfl (fun r hr => (words_rows _ r hr).1) (by simp) (by omega)
      obtain ⟨Av, cv, rfl, -, hcv⟩ := id hvs
      rw [wd_len] at hvs hva hvak ⊢
      have hp8 := hp6.ext (he7.trans he8)
      have hg8 := hg6.ext (he7.trans he8)
      refine ok_seq (fun M hM => ok_region rfl ?_); repeat ((try subst X); (first | (first | apply zL | apply zH | apply zE); intro X hX | apply zl | apply zh | apply ze); try simp only [zU, reduceIte, Nat.reduceEqDiff, Nat.reduceAdd, reduceCtorEq, Q4])
      refine hM _ _ _ ?_; clear hM M
      refine ok_seq (fun M hM => ok_region rfl ?_); repeat ((try subst X); (first | (first | apply zL | apply zH | apply zE); intro X hX | apply zl | apply zh | apply ze); try simp only [zU, reduceIte, Nat.reduceEqDiff, Nat.reduceAdd, reduceCtorEq, Q4])
      refine hM _ _ _ ?_; clear hM M
      refine ok_seq (fun M0 hM0 => ?_)
      refine ok_seq (fun M hM => ok_region rfl ?_); repeat ((try subst X); (first | (first | apply zL | apply zH | apply zE); intro X hX | apply zl | apply zh | apply ze); try simp only [zU, reduceIte, Nat.reduceEqDiff, Nat.reduceAdd, reduceCtorEq, Q4])
      refine hM _ _ _ ?_; clear hM M
      refine ok_block ?_
      refine ok_loop (S := Nat × Value × Value) (fun s => [(5, ptrOf hb), (10, .slice Av rs.length cv), (13, s.2.1), (14, s.2.2), (77, .slice Av rs.length cv), (78, .int .i64 (rs.length : Int)), (79, .int .i64 (s.1 : Int))])
        (fun s w9 => Ext w8 w9 ∧ s.1 ≤ rs.length ∧ (∃ rows, w9.ownsRow 0 36 4 s.2.1 s.1 rows.flatten ∧ VRowsS w9 (fun k => w8.heap.size ≤ k ∧ k < w9.heap.size ∧ s.2.1.ownBlock ≠ some k ∧ s.2.2.ownBlock ≠ some k) rows ((rs.take s.1).map (lvOf H))) ∧
          w9.ownsRow 0 47 1 s.2.2 s.1 ((rs.take s.1).map fun x => .int .i64 (errL H x)) ∧ (∀ k, s.2.1.ownBlock = some k → w8.heap.size ≤ k) ∧ ∀ k, s.2.2.ownBlock = some k → w8.heap.size ≤ k) (fun s => rs.length - s.1) (0, .slice none 0 0, .slice none 0 0) ?_ ?_ ?_
      · simp [sub, Env.get]
      · exact ⟨Ext.refl _, Nat.zero_le _, ⟨[], World.ownsRow_nil _ _ _ _, by simp only [List.take_zero, List.map_nil, VRowsS]⟩, World.ownsRow_nil _ _ _ _, fun k hk => by simp [Value.ownBlock] at hk, fun k hk => by simp [Value.ownBlock] at hk⟩
      rintro ⟨i, v13, v14⟩ w9 ⟨he9, hi, ⟨rows, h13, hrows⟩, h14, h13k, h14k⟩
      simp only at hi h13 hrows h14 h13k h14k ⊢
      have hs9 := he9.size
      refine ok_seq (fun M hM => ok_region rfl ?_); repeat ((try subst X); (first | (first | apply zL | apply zH | apply zE); intro X hX | apply zl | apply zh | apply ze); try simp only [zU, reduceIte, Nat.reduceEqDiff, Nat.reduceAdd, reduceCtorEq, Q4])
      refine hM _ _ _ ?_; clear hM M
      refine ok_seq (fun M1 hM1 => ?_)
      refine ok_if rfl (fun hc => ok_skip ?_) (fun hc => ok_exit ?_)
      rotate_left
      · try simp only [zW, zU, reduceIte, Nat.reduceEqDiff, Nat.reduceAdd, reduceCtorEq, Q4]
        refine hM0 _ _ _ ?_; clear hM0 M0 hM1 M1
        have hir : i = rs.length := by omega
        subst hir
        rw [List.take_of_length_le (Nat.le_refl _)] at hrows h14
        have hva9 := owns_chg' hva (he9.chg (fun _ => False)) (fun _ _ => id)
        have hvs9 : SlW w9 (.slice Av rs.length cv) rs := Sli.of_own hva9 rfl (fun r hr => (words_rows _ r hr).1) (by simp) (by omega)
        have hp9 := hp8.ext he9
        have hg9 := hg8.ext he9
        have hany : rs.any (fun x => !rightW H x) = false := by
          rw [List.any_eq_false]
          intro x hx
          rw [hrsr x hx]; simp
        have hrr : ∀ x ∈ rs, 0 ≤ x.r ∧ x.r ≤ (H.length : Int) := fun x hx => right_ref (hrsr x hx)
        have hcl := coll_len hGood hrr
        have hQl : (collQ H rs).length ≤ 1201 := by
          have hi1 := collQ_inv hGood.wf hrr
          have hi2 := bfs_length hGood.wf (H.length + 1) _ _ 0 hi1.1
          have : (collQ H rs).length ≤ H.length + 1 := by unfold collQ bfsQ; omega
          omega
        refine ok_seq (fun M hM => ok_region rfl ?_)
        repeat ((try subst X); (first | (first | apply zL | apply zH | apply zE); intro X hX | apply zl | apply zh | apply ze); try simp only [zU, reduceIte, Nat.reduceEqDiff, Nat.reduceAdd, reduceCtorEq, Q4])
        refine Inv.call Fx.en14 (Reached_ok w9 hb rb H F1 hp9 (by omega) hGood.wf _ rs hvs9 (by omega)) ?_
        rintro v w10 ⟨-, h2⟩
        obtain ⟨rfl, he10⟩ := h2 hany
        clear h2
        have hs10 := he10.size
        repeat ((try subst X); (first | (first | apply zL | apply zH | apply zE); intro X hX | apply zl | apply zh | apply ze); try simp only [zU, reduceIte, Nat.reduceEqDiff, Nat.reduceAdd, reduceCtorEq, Q4])
        refine hM _ _ _ ?_; clear hM M
        have hva10 := owns_chg' hva9 (he10.chg (fun _ => False)) (fun _ _ => id)
        refine ok_seq (fun M hM => ok_region rfl ?_)
        repeat ((try subst X); (first | (first | apply zL | apply zH | apply zE); intro X hX | apply zl | apply zh | apply ze); try simp only [zU, reduceIte, Nat.reduceEqDiff, Nat.reduceAdd, reduceCtorEq, Q4])
        refine Inv.call Fx.en15 (collect_ok w10 hb rb H F1 (hp9.ext he10) (fun k hk => by have := hF1k k hk; omega) (by omega) hGood.wf _ rs (fun W' hc => Sli.of_own (owns_chg' hva10 hc (fun k hk h => by have := hF1k k h; have := hvak k hk; omega)) rfl (fun r hr => (words_rows _ r hr).1) (by simp) (by omega)) (by omega)) ?_
        rintro v w11 ⟨-, h2⟩
        obtain ⟨A', c', rfl, hc11, F1', hp11, hF1', g, hWL, hgne⟩ := h2 hany
        clear h2
        have hs11 := hc11.size
        repeat ((try subst X); (first | (first | apply zL | apply zH | apply zE); intro X hX | apply zl | apply zh | apply ze); try simp only [zU, reduceIte, Nat.reduceEqDiff, Nat.reduceAdd, reduceCtorEq, Q4])
        refine hM _ _ _ ?_; clear hM M
        refine ok_join [(5, ptrOf hb), (10, .slice Av rs.length cv), (13, v13), (14, v14), (19, .int .i64 ((collQ H rs).length : Int)), (21, .slice A' rs.length c')] (fun w' => w' = w11) ?_ ?_
        · refine ok_seq (fun M hM => ok_region rfl ?_)
          repeat ((try subst X); (first | (first | apply zL | apply zH | apply zE); intro X hX | apply zl | apply zh | apply ze); try simp only [zU, reduceIte, Nat.reduceEqDiff, Nat.reduceAdd, reduceCtorEq, Q4])
          refine Inv.call Fx.en16 (objects_ok w11 hb rb _ F1' hp11 (by rw [hcl]; omega)) ?_
          rintro v w12 ⟨rfl, rfl⟩
          rw [hcl]
          repeat ((try subst X); (first | (first | apply zL | apply zH | apply zE); intro X hX | apply zl | apply zh | apply ze); try simp only [zU, reduceIte, Nat.reduceEqDiff, Nat.reduceAdd, reduceCtorEq, Q4])
          refine hM _ _ _ ?_; clear hM M
          refine ok_cond rfl (fun h => by cases h) (fun h => ok_skip ?_)
          try simp only [zW, zU, reduceIte, Nat.reduceEqDiff, Nat.reduceAdd, reduceCtorEq, Q4]
          simp [sub, Env.get]
        rintro w' rfl
        have hG2 := coll_good hGood hrr
        have he911 : Chg F1 w9 w' := (he10.chg F1).trans hc11
        have h13l : ∀ k, v13.ownBlock = some k → ¬ F1 k := fun k hk h => by have := hF1k k h; have := h13k k hk; omega
        have h14l : ∀ k, v14.ownBlock = some k → ¬ F1 k := fun k hk h => by have := hF1k k h; have := h14k k hk; omega
        have h13c := owns_chg' h13 he911 h13l
        have h14c := owns_chg' h14 he911 h14l
        have hvac := owns_chg' hva9 he911 (fun k hk h => by have := hF1k k h; have := hvak k hk; omega)
        have hrowsc := VRowsS.chg (S' := fun _ => True) he911 (fun k hk => ⟨trivial, fun h => by have := hF1k k h; omega⟩) _ _ hrows
        have hg11 := hg9.chg he911 (fun h => by have := hF1k _ h; omega) (fun h => by have := hF1k _ h; omega) (fun h => by have := hF1k _ h; omega)
        have hmvl : SlW w' (.slice A' rs.length c') (rs.map (mvT H rs)) := hWL.sli
        obtain ⟨A2, c2, e2, -, hcm⟩ := id hmvl
        rw [wd_len, List.length_map] at e2
        cases e2
        have hrows4 := VRowsS.len4 _ _ hrowsc
        have hrl := VRowsS.length hrowsc
        rw [List.length_map] at hrl
        have hs13 : Sli w' 4 v13 rows := Sli.of_own h13c rfl hrows4 hrl (by omega)
        have hs14 : Sli w' 1 v14 (rs.map fun x => [Value.int .i64 (errL H x)]) := Sli.of_own h14c (errs_flat (fun x => .int .i64 (errL H x)) rs) (by simp) (by simp) (by omega)
        have hsa : SlW w' (.slice Av rs.length cv) rs := Sli.of_own hvac rfl (fun r hr => (words_rows _ r hr).1) (by simp) (by omega)
        obtain ⟨A0, c0, e0, -, hcv2⟩ := id hsa
        rw [wd_len] at e0
        cases e0
        have hkept : ∀ x ∈ rs, Kept H rs x := fun x hx => collQ_roots hGood.wf hrr x hx
        obtain ⟨A13, c13, rfl, -, hc13⟩ := id hs13
        obtain ⟨A14, c14, rfl, -, hc14⟩ := id hs14
        rw [hrl] at *
        rw [List.length_map] at *
        refine ok_seq (fun M0 hM0 => ?_)
        refine ok_seq (fun M hM => ok_region rfl ?_); repeat ((try subst X); (first | (first | apply zL | apply zH | apply zE); intro X hX | apply zl | apply zh | apply ze); try simp only [zU, reduceIte, Nat.reduceEqDiff, Nat.reduceAdd, reduceCtorEq, Q4])
        refine hM _ _ _ ?_; clear hM M
        refine ok_block ?_
        refine ok_loop (S := Nat) (fun i => [(5, ptrOf hb), (10, .slice Av rs.length cv), (13, .slice A13 rs.length c13), (14, .slice A14 rs.length c14), (19, .int .i64 ((collQ H rs).length : Int)), (21, .slice A' rs.length c'), (129, .slice A' rs.length c'), (130, .int .i64 (rs.length : Int)), (131, .int .i64 (i : Int))])
          (fun i w12 => Ext w' w12 ∧ i ≤ rs.length) (fun i => rs.length - i) 0 ?_ ?_ ?_
        · simp [sub, Env.get]
        · exact ⟨Ext.refl _, Nat.zero_le _⟩
        rintro i w12 ⟨he12, hi⟩
        refine ok_seq (fun M hM => ok_region rfl ?_); repeat ((try subst X); (first | (first | apply zL | apply zH | apply zE); intro X hX | apply zl | apply zh | apply ze); try simp only [zU, reduceIte, Nat.reduceEqDiff, Nat.reduceAdd, reduceCtorEq, Q4])
        refine hM _ _ _ ?_; clear hM M
        refine ok_seq (fun M1 hM1 => ?_)
        refine ok_if rfl (fun hc => ok_skip ?_) (fun hc => ok_exit ?_)
        rotate_left
        · try simp only [zW, zU, reduceIte, Nat.reduceEqDiff, Nat.reduceAdd, reduceCtorEq, Q4]
          refine hM0 _ _ _ ?_; clear hM0 M0 hM1 M1
          have hany2 : (rs.map (mvT H rs)).any (fun x => !rightW (collH H rs) x) = false := by
            rw [List.any_eq_false]
            intro x hx
            obtain ⟨y, hy, rfl⟩ := List.mem_map.1 hx
            rw [mv_right hGood hrr (hkept y hy), hrsr y hy]; simp
          have hF1l : ∀ k, F1' k → k < w12.heap.size := fun k hk => by
            have := he12.size
            rcases hF1' k hk with h | h
            · have := hF1k k h; omega
            · omega
          have hWL12 := hWL.ext he12
          refine ok_seq (fun M hM => ok_region rfl ?_)
          repeat ((try subst X); (first | (first | apply zL | apply zH | apply zE); intro X hX | apply zl | apply zh | apply ze); try simp only [zU, reduceIte, Nat.reduceEqDiff, Nat.reduceAdd, reduceCtorEq, Q4])
          refine Inv.call Fx.en15 (collect_ok w12 hb rb (collH H rs) F1' (hp11.ext he12) hF1l (by omega) hG2.wf _ (rs.map (mvT H rs)) (fun W' hc => (by
            by_cases hne : rs = []
            · subst hne
              exact ⟨A', c', by simp, by simp, fun j row hj => by simp at hj⟩
            · exact (WL.chg hWL12 hc (hgne (by simpa using hne)).2).sli)) (by simp; omega)) ?_
          rintro v w13 ⟨-, h2⟩
          obtain ⟨A3, c3, rfl, hc13', F3, hp13, hF3, g3, hWL3, hg3⟩ := h2 hany2
          clear h2
          rw [List.length_map] at *
          have hsec : (rs.map (mvT H rs)).map (mvW (collT (collH H rs) (rs.map (mvT H rs)))) = rs.map (mvT H rs) := mv_second hGood hrr
          rw [hsec] at hWL3 hg3
          have hu3 : SlW w13 (.slice A3 rs.length c3) (rs.map (mvT H rs)) := hWL3.sli
          have hv3 : SlW w13 (.slice A' rs.length c') (rs.map (mvT H rs)) := by
            by_cases hne : rs = []
            · subst hne
              exact ⟨A', c', by simp, by simp, fun j row hj => by simp at hj⟩
            · exact (WL.chg hWL12 hc13' (hgne (by simpa using hne)).2).sli
          repeat ((try subst X); (first | (first | apply zL | apply zH | apply zE); intro X hX | apply zl | apply zh | apply ze); try simp only [zU, reduceIte, Nat.reduceEqDiff, Nat.reduceAdd, reduceCtorEq, Q4])
          refine hM _ _ _ ?_; clear hM M
          refine ok_seq (fun M hM => ok_region rfl ?_)
          repeat ((try subst X); (first | (first | apply zL | apply zH | apply zE); intro X hX | apply zl | apply zh | apply ze); try simp only [zU, reduceIte, Nat.reduceEqDiff, Nat.reduceAdd, reduceCtorEq, Q4])
          refine Inv.call Fx.en18 (eqWs_ok w13 _ _ (rs.map (mvT H rs)) hu3 hv3) ?_
          rintro v w14 ⟨rfl, he14⟩
          repeat ((try subst X); (first | (first | apply zL | apply zH | apply zE); intro X hX | apply zl | apply zh | apply ze); try simp only [zU, reduceIte, Nat.reduceEqDiff, Nat.reduceAdd, reduceCtorEq, Q4])
          refine Inv.call Fx.en16 (objects_ok w14 hb rb _ F3 (hp13.ext he14) (by rw [coll_second_len hGood hrr]; omega)) ?_
          rintro v w15 ⟨rfl, rfl⟩
          rw [coll_second_len hGood hrr]
          repeat ((try subst X); (first | (first | apply zL | apply zH | apply zE); intro X hX | apply zl | apply zh | apply ze); try simp only [zU, reduceIte, Nat.reduceEqDiff, Nat.reduceAdd, reduceCtorEq, Q4])
          refine hM _ _ _ ?_; clear hM M
          refine ok_ret ?_
          try simp only [zW, zU, reduceIte, Nat.reduceEqDiff, Nat.reduceAdd, reduceCtorEq, Q4]
          have hw08 : Ext w w9 := ((he06.trans he7).trans he8).trans he9
          have hs08 := hw08.size
          have hw11 : Ext w w' := hw08.chg_trans he911 (fun k hk => by have := hF1k k hk; omega)
          exact ((hw11.trans he12).chg_trans hc13' (fun k hk => by
            rcases hF1' k hk with h | h
            · have := hF1k k h; omega
            · omega)).trans he14
        · try simp only [zW, zU, reduceIte, Nat.reduceEqDiff, Nat.reduceAdd, reduceCtorEq, Q4]
          refine hM1 _ _ _ ?_; clear hM1 M1
          have hil : i < rs.length := by omega
          have hxi : rs[i]? = some rs[i] := List.getElem?_eq_getElem hil
          have hki := hkept rs[i] (List.getElem_mem hil)
          obtain ⟨b, o, hA', hcr⟩ := hcm i (mvT H rs rs[i]).row (by simp [hxi])
          subst hA'
          obtain ⟨r13, hr13, hv13⟩ := VRowsS.get hrowsc i (lvOf H rs[i]) (by simp [hxi])
          obtain ⟨b13, o13, hA13, hcc13⟩ := hc13 i r13 hr13
          subst hA13
          obtain ⟨b14, o14, hA14, hcc14⟩ := hc14 i [.int .i64 (errL H rs[i])] (by simp [hxi])
          subst hA14
          obtain ⟨b0, o0, hA0, hcc0⟩ := hcv2 i rs[i].row (by simp [hxi])
          subst hA0
          have hr134 := (VRowS.row _ _ hv13).len
          have hw12 := he12.size
          refine ok_seq (fun M1 hM1 => ok_block ?_)
          refine ok_seq (fun M hM => ok_region rfl ?_)
          repeat ((try subst X); (first | (first | apply zL | apply zH | apply zE); intro X hX | apply zl | apply zh | apply ze); try simp only [zU, reduceIte, Nat.reduceEqDiff, Nat.reduceAdd, reduceCtorEq, Q4])
          refine ⟨by omega, by omega, ?_⟩
          repeat ((try subst X); (first | (first | apply zL | apply zH | apply zE); intro X hX | apply zl | apply zh | apply ze); try simp only [zU, reduceIte, Nat.reduceEqDiff, Nat.reduceAdd, reduceCtorEq, Q4])
          refine ⟨(mvT H rs rs[i]).row, rfl, he12.cellsAt hcr, ?_⟩
          repeat ((try subst X); (first | (first | apply zL | apply zH | apply zE); intro X hX | apply zl | apply zh | apply ze); try simp only [zU, reduceIte, Nat.reduceEqDiff, Nat.reduceAdd, reduceCtorEq, Q4])
          refine Runs.alloc Fx.zi38 (fun w13 he13 hs13' hb13 => ?_)
          generalize hB24 : w12.heap.size = B24 at hs13' hb13
          repeat ((try subst X); (first | (first | apply zL | apply zH | apply zE); intro X hX | apply zl | apply zh | apply ze); try simp only [zU, reduceIte, Nat.reduceEqDiff, Nat.reduceAdd, reduceCtorEq, Q4])
          refine Runs.store hb13 Fx.zi38 rfl (by intro u hu; simp [Value.cells, Wd.row] at hu; rcases hu with rfl | rfl | rfl <;> rfl) (by simp [Value.cells]) (fun w14 hc14' hs14' hb14 => ?_)
          rw [splice_all _ _ (by simp [Value.cells])] at hb14
          simp only [Value.cells] at hb14
          have he14 : Ext w12 w14 := he13.chg_trans hc14' (fun k hk => by omega)
          repeat ((try subst X); (first | (first | apply zL | apply zH | apply zE); intro X hX | apply zl | apply zh | apply ze); try simp only [zU, reduceIte, Nat.reduceEqDiff, Nat.reduceAdd, reduceCtorEq, Q4])
          refine hM _ _ _ ?_; clear hM M
          have hw14 := he12.trans he14
          refine ok_seq (fun M hM => ok_region rfl ?_)
          repeat ((try subst X); (first | (first | apply zL | apply zH | apply zE); intro X hX | apply zl | apply zh | apply ze); try simp only [zU, reduceIte, Nat.reduceEqDiff, Nat.reduceAdd, reduceCtorEq, Q4])
          refine ⟨(mvT H rs rs[i]).row, rfl, hb14.cells (o := 0) (fun j u hj => by simpa using hj), ?_⟩
          repeat ((try subst X); (first | (first | apply zL | apply zH | apply zE); intro X hX | apply zl | apply zh | apply ze); try simp only [zU, reduceIte, Nat.reduceEqDiff, Nat.reduceAdd, reduceCtorEq, Q4])
          refine Inv.call Fx.en13 (LoadS_ok hb rb (collH H rs) F1' (by omega) hG2.lim.args hG2.wf mk (uOf H rs[i]) (mvT H rs rs[i]) w14 (fun h1 h2 _ => (mv_lds hGood hrr _ _ hki).2 (uOf_spec (by
            obtain ⟨u, hu⟩ := ringF_reads hG2 h1 h2
            exact ⟨u, (mv_lds hGood hrr _ _ hki).1 hu⟩))) (hp11.ext hw14) (hg11.ext hw14)) ?_
          rintro v w15 ⟨cs, rfl, hcs, he15⟩
          rw [mv_err hGood hrr hki] at hcs ⊢
          rw [show (if errL H rs[i] = 0 then uOf H rs[i] else zeroVal) = lvOf H rs[i] from rfl] at hcs
          have hcs4 := (VRowS.row _ _ hcs).len
          have hone := (VRowS.row _ _ hcs).one
          repeat ((try subst X); (first | (first | apply zL | apply zH | apply zE); intro X hX | apply zl | apply zh | apply ze); try simp only [zU, reduceIte, Nat.reduceEqDiff, Nat.reduceAdd, reduceCtorEq, Q4])
          refine Runs.alloc Fx.zi36 (fun w16 he16 hs16 hb16 => ?_)
          generalize hB25 : w15.heap.size = B25 at hs16 hb16
          repeat ((try subst X); (first | (first | apply zL | apply zH | apply zE); intro X hX | apply zl | apply zh | apply ze); try simp only [zU, reduceIte, Nat.reduceEqDiff, Nat.reduceAdd, reduceCtorEq, Q4])
          refine Runs.store hb16 Fx.zi36 (by simpa [Value.cells] using hcs4) (by simpa [Value.cells] using hone) (by simp [Value.cells]) (fun w17 hc17 hs17 hb17 => ?_)
          rw [splice_all _ _ (by simp [Value.cells, hcs4])] at hb17
          simp only [Value.cells] at hb17
          have he17 : Ext w15 w17 := he16.chg_trans hc17 (fun k hk => by omega)
          repeat ((try subst X); (first | (first | apply zL | apply zH | apply zE); intro X hX | apply zl | apply zh | apply ze); try simp only [zU, reduceIte, Nat.reduceEqDiff, Nat.reduceAdd, reduceCtorEq, Q4])
          refine hM _ _ _ ?_; clear hM M
          have hw17 : Ext w12 w17 := (he14.trans he15).trans he17
          have hx17 := he12.trans hw17
          have hb24 := (hb14.ext he15).ext he17
          have hcsr : VRow w17 cs (lvOf H rs[i]) := VRow.ext he17 _ _ (VRowS.row _ _ hcs)
          have h13r : VRow w17 r13 (lvOf H rs[i]) := VRow.ext hx17 _ _ (VRowS.row _ _ hv13)
          have k24 := hb24.cell (j := 0) (u := .int .i64 rs[i].k) rfl
          have n24 := hb24.cell (j := 1) (u := .int .i64 rs[i].n) rfl
          refine ok_join [(5, ptrOf hb), (10, .slice (some ⟨b0, o0, none⟩) rs.length cv), (13, .slice (some ⟨b13, o13, none⟩) rs.length c13), (14, .slice (some ⟨b14, o14, none⟩) rs.length c14), (19, .int .i64 ((collQ H rs).length : Int)), (21, .slice (some ⟨b, o, none⟩) rs.length c'), (129, .slice (some ⟨b, o, none⟩) rs.length c'), (130, .int .i64 (rs.length : Int)), (131, .int .i64 (i : Int)), (23, .int .i64 (i : Int)), (24, ptrOf B24)] (fun w18 => Ext w17 w18) ?_ ?_
          · refine ok_seq (fun M hM => ?_)
            refine (ok_draw 35 [] (Ext _) Fx.mixed (by decide) rfl (by decide +kernel) (by decide +kernel) (Ext.drew _) ?_)
            repeat ((try subst X); (first | (first | apply zL | apply zH | apply zE); intro X hX | apply zl | apply zh | apply ze); try simp only [zU, reduceIte, Nat.reduceEqDiff, Nat.reduceAdd, reduceCtorEq, Q4])
            refine ⟨cs, hcs4, fun w' h => (hb17.ext h).cells (o := 0) (fun j u hj => by simpa using hj), ?_⟩
            repeat ((try subst X); (first | (first | apply zL | apply zH | apply zE); intro X hX | apply zl | apply zh | apply ze); try simp only [zU, reduceIte, Nat.reduceEqDiff, Nat.reduceAdd, reduceCtorEq, Q4])
            refine ⟨by omega, by omega, ?_⟩
            repeat ((try subst X); (first | (first | apply zL | apply zH | apply zE); intro X hX | apply zl | apply zh | apply ze); try simp only [zU, reduceIte, Nat.reduceEqDiff, Nat.reduceAdd, reduceCtorEq, Q4])
            refine ⟨r13, hr134, fun w' h => (hx17.trans h).cellsAt hcc13, ?_⟩
            repeat ((try subst X); (first | (first | apply zL | apply zH | apply zE); intro X hX | apply zl | apply zh | apply ze); try simp only [zU, reduceIte, Nat.reduceEqDiff, Nat.reduceAdd, reduceCtorEq, Q4])
            refine ⟨.bool (eqV (lvOf H rs[i]) (lvOf H rs[i])), fun w5 h5 => Inv.call Fx.en17 (equal_ok _ (lvOf H rs[i]) (lvOf H rs[i]) w5 cs r13 (Nat.le_refl _) (VRow.ext h5 _ _ hcsr) (VRow.ext h5 _ _ h13r)) (fun v w6 ⟨h1, h2⟩ => ⟨h1, h5.trans h2⟩), ?_⟩
            rw [eqV_refl _ _ (Nat.le_refl _)]
            repeat ((try subst X); (first | (first | apply zL | apply zH | apply zE); intro X hX | apply zl | apply zh | apply ze); try simp only [zU, reduceIte, Nat.reduceEqDiff, Nat.reduceAdd, reduceCtorEq, Q4])
            refine ⟨by omega, by omega, ?_⟩
            repeat ((try subst X); (first | (first | apply zL | apply zH | apply zE); intro X hX | apply zl | apply zh | apply ze); try simp only [zU, reduceIte, Nat.reduceEqDiff, Nat.reduceAdd, reduceCtorEq, Q4])
            refine ⟨.int .i64 (errL H rs[i]), fun w' h => (hx17.trans h).cell (by simpa [add_at] using hcc14 0 _ rfl), ?_⟩
            repeat ((try subst X); (first | (first | apply zL | apply zH | apply zE); intro X hX | apply zl | apply zh | apply ze); try simp only [zU, reduceIte, Nat.reduceEqDiff, Nat.reduceAdd, reduceCtorEq, Q4])
            refine ⟨.int .i64 rs[i].k, fun w' h => (hb24.ext h).cell (j := 0) rfl, ?_⟩
            repeat ((try subst X); (first | (first | apply zL | apply zH | apply zE); intro X hX | apply zl | apply zh | apply ze); try simp only [zU, reduceIte, Nat.reduceEqDiff, Nat.reduceAdd, reduceCtorEq, Q4])
            refine ⟨by omega, by omega, ?_⟩
            repeat ((try subst X); (first | (first | apply zL | apply zH | apply zE); intro X hX | apply zl | apply zh | apply ze); try simp only [zU, reduceIte, Nat.reduceEqDiff, Nat.reduceAdd, reduceCtorEq, Q4])
            refine ⟨.int .i64 rs[i].k, fun w' h => (hx17.trans h).cell (by simpa [add_at] using hcc0 0 _ rfl), ?_⟩
            repeat ((try subst X); (first | (first | apply zL | apply zH | apply zE); intro X hX | apply zl | apply zh | apply ze); try simp only [zU, reduceIte, Nat.reduceEqDiff, Nat.reduceAdd, reduceCtorEq, Q4])
            refine ⟨.int .i64 rs[i].n, fun w' h => (hb24.ext h).cell (j := 1) rfl, ?_⟩
            repeat ((try subst X); (first | (first | apply zL | apply zH | apply zE); intro X hX | apply zl | apply zh | apply ze); try simp only [zU, reduceIte, Nat.reduceEqDiff, Nat.reduceAdd, reduceCtorEq, Q4])
            refine ⟨by omega, by omega, ?_⟩
            repeat ((try subst X); (first | (first | apply zL | apply zH | apply zE); intro X hX | apply zl | apply zh | apply ze); try simp only [zU, reduceIte, Nat.reduceEqDiff, Nat.reduceAdd, reduceCtorEq, Q4])
            refine ⟨.int .i64 rs[i].n, fun w' h => (hx17.trans h).cell (by simpa [add_at] using hcc0 1 _ rfl), ?_⟩
            repeat ((try subst X); (first | (first | apply zL | apply zH | apply zE); intro X hX | apply zl | apply zh | apply ze); try simp only [zU, reduceIte, Nat.reduceEqDiff, Nat.reduceAdd, reduceCtorEq, Q4])
            intro w18 he18
            repeat ((try subst X); (first | (first | apply zL | apply zH | apply zE); intro X hX | apply zl | apply zh | apply ze); try simp only [zU, reduceIte, Nat.reduceEqDiff, Nat.reduceAdd, reduceCtorEq, Q4])
            refine hM _ _ _ ?_; clear hM M
            refine ok_cond rfl (fun h => by cases h) (fun h => ok_skip ?_)
            try simp only [zW, zU, reduceIte, Nat.reduceEqDiff, Nat.reduceAdd, reduceCtorEq, Q4]
            exact ⟨by simp [sub, Env.get], he18⟩
          intro w18 he18
          have hx18 := hx17.trans he18
          have hb24' := hb24.ext he18
          refine ok_seq (fun M hM => ok_region rfl ?_); repeat ((try subst X); (first | (first | apply zL | apply zH | apply zE); intro X hX | apply zl | apply zh | apply ze); try simp only [zU, reduceIte, Nat.reduceEqDiff, Nat.reduceAdd, reduceCtorEq, Q4])
          refine hM _ _ _ ?_; clear hM M
          refine ok_block ?_
          refine ok_loop (S := Nat) (fun j => [(5, ptrOf hb), (10, .slice (some ⟨b0, o0, none⟩) rs.length cv), (13, .slice (some ⟨b13, o13, none⟩) rs.length c13), (14, .slice (some ⟨b14, o14, none⟩) rs.length c14), (19, .int .i64 ((collQ H rs).length : Int)), (21, .slice (some ⟨b, o, none⟩) rs.length c'), (129, .slice (some ⟨b, o, none⟩) rs.length c'), (130, .int .i64 (rs.length : Int)), (131, .int .i64 (i : Int)), (23, .int .i64 (i : Int)), (24, ptrOf B24), (177, .slice (some ⟨b, o, none⟩) rs.length c'), (178, .int .i64 (rs.length : Int)), (179, .int .i64 (j : Int))])
            (fun j w19 => Ext w18 w19 ∧ j ≤ rs.length) (fun j => rs.length - j) 0 ?_ ?_ ?_
          · simp [sub, Env.get]
          · exact ⟨Ext.refl _, Nat.zero_le _⟩
          rintro j w19 ⟨he19, hj⟩
          refine ok_seq (fun M hM => ok_region rfl ?_); repeat ((try subst X); (first | (first | apply zL | apply zH | apply zE); intro X hX | apply zl | apply zh | apply ze); try simp only [zU, reduceIte, Nat.reduceEqDiff, Nat.reduceAdd, reduceCtorEq, Q4])
          refine hM _ _ _ ?_; clear hM M
          refine ok_seq (fun M2 hM2 => ?_)
          refine ok_if rfl (fun hc => ok_skip ?_) (fun hc => ok_exit ?_)
          rotate_left
          · try simp only [zW, zU, reduceIte, Nat.reduceEqDiff, Nat.reduceAdd, reduceCtorEq, Q4]
            refine hM1 _ _ _ ?_; clear hM1 M1 hM2 M2
            refine ok_region rfl ?_
            repeat ((try subst X); (first | (first | apply zL | apply zH | apply zE); intro X hX | apply zl | apply zh | apply ze); try simp only [zU, reduceIte, Nat.reduceEqDiff, Nat.reduceAdd, reduceCtorEq, Q4])
            refine ⟨by simp only [inI]; omega, ?_⟩
            repeat ((try subst X); (first | (first | apply zL | apply zH | apply zE); intro X hX | apply zl | apply zh | apply ze); try simp only [zU, reduceIte, Nat.reduceEqDiff, Nat.reduceAdd, reduceCtorEq, Q4])
            exact ⟨i + 1, by simp [sub, Env.get], ⟨hx18.trans he19, by omega⟩, by omega⟩
          · try simp only [zW, zU, reduceIte, Nat.reduceEqDiff, Nat.reduceAdd, reduceCtorEq, Q4]
            refine hM2 _ _ _ ?_; clear hM2 M2
            have hjl : j < rs.length := by omega
            have hxj : rs[j]? = some rs[j] := List.getElem?_eq_getElem hjl
            have hkj := hkept rs[j] (List.getElem_mem hjl)
            obtain ⟨bj, oj, ej, hcrj⟩ := hcm j (mvT H rs rs[j]).row (by simp [hxj])
            cases ej
            obtain ⟨bk, ok', ek, hcck⟩ := hcv2 j rs[j].row (by simp [hxj])
            cases ek
            have hx19 := hx18.trans he19
            refine ok_seq (fun M2 hM2 => ok_block ?_)
            refine ok_seq (fun M hM => ok_region rfl ?_); repeat ((try subst X); (first | (first | apply zL | apply zH | apply zE); intro X hX | apply zl | apply zh | apply ze); try simp only [zU, reduceIte, Nat.reduceEqDiff, Nat.reduceAdd, reduceCtorEq, Q4])
            refine hM _ _ _ ?_; clear hM M
            refine ok_seq (fun M hM => ?_)
            refine (ok_draw 20 [] (Ext _) Fx.mixed (by decide) rfl (by decide +kernel) (by decide +kernel) (Ext.drew _) ?_)
            repeat ((try subst X); (first | (first | apply zL | apply zH | apply zE); intro X hX | apply zl | apply zh | apply ze); try simp only [zU, reduceIte, Nat.reduceEqDiff, Nat.reduceAdd, reduceCtorEq, Q4])
            refine ⟨by omega, by omega, ?_⟩
            repeat ((try subst X); (first | (first | apply zL | apply zH | apply zE); intro X hX | apply zl | apply zh | apply ze); try simp only [zU, reduceIte, Nat.reduceEqDiff, Nat.reduceAdd, reduceCtorEq, Q4])
            refine ⟨.int .i64 (mvT H rs rs[j]).r, fun w' h => (hx19.trans h).cell (by simpa [add_at] using hcrj 2 _ rfl), ?_⟩
            repeat ((try subst X); (first | (first | apply zL | apply zH | apply zE); intro X hX | apply zl | apply zh | apply ze); try simp only [zU, reduceIte, Nat.reduceEqDiff, Nat.reduceAdd, reduceCtorEq, Q4])
            refine ⟨.int .i64 (mvT H rs rs[i]).r, fun w' h => (hb24'.ext (he19.trans h)).cell (j := 2) rfl, ?_⟩
            repeat ((try subst X); (first | (first | apply zL | apply zH | apply zE); intro X hX | apply zl | apply zh | apply ze); try simp only [zU, reduceIte, Nat.reduceEqDiff, Nat.reduceAdd, reduceCtorEq, Q4])
            refine ⟨by omega, by omega, ?_⟩
            repeat ((try subst X); (first | (first | apply zL | apply zH | apply zE); intro X hX | apply zl | apply zh | apply ze); try simp only [zU, reduceIte, Nat.reduceEqDiff, Nat.reduceAdd, reduceCtorEq, Q4])
            refine ⟨.int .i64 rs[j].r, fun w' h => (hx19.trans h).cell (by simpa [add_at] using hcck 2 _ rfl), ?_⟩
            repeat ((try subst X); (first | (first | apply zL | apply zH | apply zE); intro X hX | apply zl | apply zh | apply ze); try simp only [zU, reduceIte, Nat.reduceEqDiff, Nat.reduceAdd, reduceCtorEq, Q4])
            refine ⟨by omega, by omega, ?_⟩
            repeat ((try subst X); (first | (first | apply zL | apply zH | apply zE); intro X hX | apply zl | apply zh | apply ze); try simp only [zU, reduceIte, Nat.reduceEqDiff, Nat.reduceAdd, reduceCtorEq, Q4])
            refine ⟨.int .i64 rs[i].r, fun w' h => (hx19.trans h).cell (by simpa [add_at] using hcc0 2 _ rfl), ?_⟩
            repeat ((try subst X); (first | (first | apply zL | apply zH | apply zE); intro X hX | apply zl | apply zh | apply ze); try simp only [zU, reduceIte, Nat.reduceEqDiff, Nat.reduceAdd, reduceCtorEq, Q4])
            have hinj : decide ((mvT H rs rs[j]).r = (mvT H rs rs[i]).r) = decide (rs[j].r = rs[i].r) := by
              have := mv_inj hGood hrr hkj hki
              simp [this]
            try rw [hinj]
            intro w20 he20
            repeat ((try subst X); (first | (first | apply zL | apply zH | apply zE); intro X hX | apply zl | apply zh | apply ze); try simp only [zU, reduceIte, Nat.reduceEqDiff, Nat.reduceAdd, reduceCtorEq, Q4])
            refine hM _ _ _ ?_; clear hM M
            refine ok_cond rfl (fun h => by simp at h) (fun h => ok_skip ?_)
            try simp only [zW, zU, reduceIte, Nat.reduceEqDiff, Nat.reduceAdd, reduceCtorEq, Q4]
            refine hM2 _ _ _ ?_; clear hM2 M2
            refine ok_region rfl ?_
            repeat ((try subst X); (first | (first | apply zL | apply zH | apply zE); intro X hX | apply zl | apply zh | apply ze); try simp only [zU, reduceIte, Nat.reduceEqDiff, Nat.reduceAdd, reduceCtorEq, Q4])
            refine ⟨by simp only [inI]; omega, ?_⟩
            repeat ((try subst X); (first | (first | apply zL | apply zH | apply zE); intro X hX | apply zl | apply zh | apply ze); try simp only [zU, reduceIte, Nat.reduceEqDiff, Nat.reduceAdd, reduceCtorEq, Q4])
            exact ⟨j + 1, by simp [sub, Env.get], ⟨he19.trans he20, by omega⟩, by omega⟩
      · try simp only [zW, zU, reduceIte, Nat.reduceEqDiff, Nat.reduceAdd, reduceCtorEq, Q4]
        refine hM1 _ _ _ ?_; clear hM1 M1
        have hil : i < rs.length := by omega
        have hxi : rs[i]? = some rs[i] := List.getElem?_eq_getElem hil
        obtain ⟨b, o, rfl, hcr⟩ := hcv i rs[i].row (by simp [hxi])
        have htk : rs.take (i + 1) = rs.take i ++ [rs[i]] := List.take_succ_eq_append_getElem hil
        have hri := hrsr _ (List.getElem_mem hil)
        refine ok_seq (fun M1 hM1 => ok_block ?_)
        refine ok_seq (fun M hM => ok_region rfl ?_)
        repeat ((try subst X); (first | (first | apply zL | apply zH | apply zE); intro X hX | apply zl | apply zh | apply ze); try simp only [zU, reduceIte, Nat.reduceEqDiff, Nat.reduceAdd, reduceCtorEq, Q4])
        refine ⟨by omega, by omega, ?_⟩
        repeat ((try subst X); (first | (first | apply zL | apply zH | apply zE); intro X hX | apply zl | apply zh | apply ze); try simp only [zU, reduceIte, Nat.reduceEqDiff, Nat.reduceAdd, reduceCtorEq, Q4])
        refine ⟨rs[i].row, rfl, he9.cellsAt hcr, ?_⟩
        repeat ((try subst X); (first | (first | apply zL | apply zH | apply zE); intro X hX | apply zl | apply zh | apply ze); try simp only [zU, reduceIte, Nat.reduceEqDiff, Nat.reduceAdd, reduceCtorEq, Q4])
        refine Runs.alloc Fx.zi38 (fun w10 he10 hs10 hb10 => ?_)
        generalize hB16 : w9.heap.size = B16 at hs10 hb10
        repeat ((try subst X); (first | (first | apply zL | apply zH | apply zE); intro X hX | apply zl | apply zh | apply ze); try simp only [zU, reduceIte, Nat.reduceEqDiff, Nat.reduceAdd, reduceCtorEq, Q4])
        refine Runs.store hb10 Fx.zi38 rfl (by intro u hu; simp [Value.cells, Wd.row] at hu; rcases hu with rfl | rfl | rfl <;> rfl) (by simp [Value.cells]) (fun w11 hc11 hs11 hb11 => ?_)
        rw [splice_all _ _ (by simp [Value.cells])] at hb11
        simp only [Value.cells] at hb11
        have he11 : Ext w9 w11 := he10.chg_trans hc11 (fun k hk => by omega)
        repeat ((try subst X); (first | (first | apply zL | apply zH | apply zE); intro X hX | apply zl | apply zh | apply ze); try simp only [zU, reduceIte, Nat.reduceEqDiff, Nat.reduceAdd, reduceCtorEq, Q4])
        refine hM _ _ _ ?_; clear hM M
        refine ok_seq (fun M hM => ok_region rfl ?_)
        repeat ((try subst X); (first | (first | apply zL | apply zH | apply zE); intro X hX | apply zl | apply zh | apply ze); try simp only [zU, reduceIte, Nat.reduceEqDiff, Nat.reduceAdd, reduceCtorEq, Q4])
        refine ⟨rs[i].row, rfl, hb11.cells (o := 0) (fun j u hj => by simpa using hj), ?_⟩
        repeat ((try subst X); (first | (first | apply zL | apply zH | apply zE); intro X hX | apply zl | apply zh | apply ze); try simp only [zU, reduceIte, Nat.reduceEqDiff, Nat.reduceAdd, reduceCtorEq, Q4])
        refine Inv.call Fx.en13 (LoadS_ok hb rb H F1 (by omega) hGood.lim.args hGood.wf mk (uOf H rs[i]) rs[i] w11 (fun _ h2 _ => uOf_spec (ringF_reads hGood hri h2)) (hp8.ext (he9.trans he11)) (hg8.ext (he9.trans he11))) ?_
        rintro v w12 ⟨cs, rfl, hcs, he12⟩
        rw [show (if errL H rs[i] = 0 then uOf H rs[i] else zeroVal) = lvOf H rs[i] from rfl] at hcs
        have hcs4 := (VRowS.row _ _ hcs).len
        obtain ⟨ca, cb, cc, cd, rfl⟩ : ∃ a b c d, cs = [a, b, c, d] := by
          match cs, hcs4 with
          | [a, b, c, d], _ => exact ⟨a, b, c, d, rfl⟩
        have hone := (VRowS.row _ _ hcs).one
        repeat ((try subst X); (first | (first | apply zL | apply zH | apply zE); intro X hX | apply zl | apply zh | apply ze); try simp only [zU, reduceIte, Nat.reduceEqDiff, Nat.reduceAdd, reduceCtorEq, Q4])
        refine Runs.alloc Fx.zi36 (fun w13 he13 hs13 hb13 => ?_)
        generalize hB17 : w12.heap.size = B17 at hs13 hb13
        repeat ((try subst X); (first | (first | apply zL | apply zH | apply zE); intro X hX | apply zl | apply zh | apply ze); try simp only [zU, reduceIte, Nat.reduceEqDiff, Nat.reduceAdd, reduceCtorEq, Q4])
        refine Runs.store hb13 Fx.zi36 rfl (by simpa [Value.cells] using hone) (by simp [Value.cells]) (fun w14 hc14 hs14 hb14 => ?_)
        rw [splice_all _ _ (by simp [Value.cells])] at hb14
        simp only [Value.cells] at hb14
        have he14 : Ext w12 w14 := he13.chg_trans hc14 (fun k hk => by omega)
        repeat ((try subst X); (first | (first | apply zL | apply zH | apply zE); intro X hX | apply zl | apply zh | apply ze); try simp only [zU, reduceIte, Nat.reduceEqDiff, Nat.reduceAdd, reduceCtorEq, Q4])
        refine hM _ _ _ ?_; clear hM M
        refine ok_region rfl ?_
        repeat ((try subst X); (first | (first | apply zL | apply zH | apply zE); intro X hX | apply zl | apply zh | apply ze); try simp only [zU, reduceIte, Nat.reduceEqDiff, Nat.reduceAdd, reduceCtorEq, Q4])
        refine ⟨[ca, cb, cc, cd], rfl, hb14.cells (o := 0) (fun j u hj => by simpa using hj), ?_⟩
        repeat ((try subst X); (first | (first | apply zL | apply zH | apply zE); intro X hX | apply zl | apply zh | apply ze); try simp only [zU, reduceIte, Nat.reduceEqDiff, Nat.reduceAdd, reduceCtorEq, Q4])
        have he914 : Ext w9 w14 := (he11.trans he12).trans he14
        have hs914 := he914.size
        have hs11' := he11.size
        have hs12' := he12.size
        have hs14' := he14.size
        have hv13l : ∀ k, v13.ownBlock = some k → k < w9.heap.size := fun k hk => (h13.lt k hk).2
        have hv14l : ∀ k, v14.ownBlock = some k → k < w9.heap.size := fun k hk => (h14.lt k hk).2
        refine Runs.lit (cs := [ca, cb, cc, cd]) Fx.un34 Fx.zi36 (by decide) (by kernel_rfl) (by decide) (fun w15 he15 hs15 hb15 => ?_)
        repeat ((try subst X); (first | (first | apply zL | apply zH | apply zE); intro X hX | apply zl | apply zh | apply ze); try simp only [zU, reduceIte, Nat.reduceEqDiff, Nat.reduceAdd, reduceCtorEq, Q4])
        have h13' := owns_chg' h13 ((he914.trans he15).chg (fun _ => False)) (fun _ _ => id)
        have h14' := owns_chg' h14 ((he914.trans he15).chg (fun _ => False)) (fun _ _ => id)
        refine Runs.append1' Fx.un34 Fx.zi36 rfl (by decide) h13' hb15 rfl hone (by simp [maxLen]; omega) (by omega) (by omega) (fun v13' w16 hown16 hg16 hblk16 => ?_)
        have hc16 := grown_chg hg16
        have hs16 := hc16.size
        have h14'' := owns_chg' h14' hc16 (fun k hk e => owns_ne h13' h14' (by decide) k e hk)
        repeat ((try subst X); (first | (first | apply zL | apply zH | apply zE); intro X hX | apply zl | apply zh | apply ze); try simp only [zU, reduceIte, Nat.reduceEqDiff, Nat.reduceAdd, reduceCtorEq, Q4])
        refine Runs.lit (cs := [.int .i64 (errL H rs[i])]) Fx.un46 Fx.zi47 (by decide) (by kernel_rfl) (by decide) (fun w17 he17 hs17 hb17 => ?_)
        repeat ((try subst X); (first | (first | apply zL | apply zH | apply zE); intro X hX | apply zl | apply zh | apply ze); try simp only [zU, reduceIte, Nat.reduceEqDiff, Nat.reduceAdd, reduceCtorEq, Q4])
        have h14a := owns_chg' h14'' (he17.chg (fun _ => False)) (fun _ _ => id)
        have h13a := owns_chg' hown16 (he17.chg (fun _ => False)) (fun _ _ => id)
        refine Runs.append1' Fx.un46 Fx.zi47 rfl (by decide) h14a hb17 rfl (by intro u hu; simp at hu; subst hu; rfl) (by simp [maxLen]; omega) (by omega) (by omega) (fun v14' w18 hown18 hg18 hblk18 => ?_)
        have hc18 := grown_chg hg18
        have hs18 := hc18.size
        have h13b := owns_chg' h13a hc18 (fun k hk e => owns_ne h13a h14a (by decide) k hk e)
        repeat ((try subst X); (first | (first | apply zL | apply zH | apply zE); intro X hX | apply zl | apply zh | apply ze); try simp only [zU, reduceIte, Nat.reduceEqDiff, Nat.reduceAdd, reduceCtorEq, Q4])
        refine hM1 _ _ _ ?_; clear hM1 M1
        refine ok_region rfl ?_
        repeat ((try subst X); (first | (first | apply zL | apply zH | apply zE); intro X hX | apply zl | apply zh | apply ze); try simp only [zU, reduceIte, Nat.reduceEqDiff, Nat.reduceAdd, reduceCtorEq, Q4])
        refine ⟨by simp only [inI]; omega, ?_⟩
        repeat ((try subst X); (first | (first | apply zL | apply zH | apply zE); intro X hX | apply zl | apply zh | apply ze); try simp only [zU, reduceIte, Nat.reduceEqDiff, Nat.reduceAdd, reduceCtorEq, Q4])
        have hc15 : Chg (fun k => v13.ownBlock = some k ∨ v14.ownBlock = some k) w15 w18 := ((hc16.mono fun k _ h => .inl h).trans (he17.chg _)).trans (hc18.mono fun k _ h => .inr h)
        have hc9 : Chg (fun k => v13.ownBlock = some k ∨ v14.ownBlock = some k) w9 w18 := ((he914.trans he15).chg _).trans hc15
        have hc12 : Chg (fun k => v13.ownBlock = some k ∨ v14.ownBlock = some k) w12 w18 := ((he14.trans he15).chg _).trans hc15
        have n13 : ∀ k, k < w12.heap.size → v13.ownBlock ≠ some k → v13'.ownBlock ≠ some k := fun k hk hn e => by
          rcases hblk16 with h | h
          · rw [h] at e; exact hn e
          · rw [h] at e; cases e; omega
        have n14 : ∀ k, k < w12.heap.size → v14.ownBlock ≠ some k → v14'.ownBlock ≠ some k := fun k hk hn e => by
          rcases hblk18 with h | h
          · rw [h] at e; exact hn e
          · rw [h] at e; cases e; omega
        have hrows' := VRowsS.chg (S' := fun k => w8.heap.size ≤ k ∧ k < w18.heap.size ∧ v13'.ownBlock ≠ some k ∧ v14'.ownBlock ≠ some k) hc9 (fun k hk => ⟨⟨hk.1, by omega, n13 k (by omega) hk.2.2.1, n14 k (by omega) hk.2.2.2⟩, fun e => by rcases e with e | e; exact hk.2.2.1 e; exact hk.2.2.2 e⟩) _ _ hrows
        have hcs' := VRowS.chg (S' := fun k => w8.heap.size ≤ k ∧ k < w18.heap.size ∧ v13'.ownBlock ≠ some k ∧ v14'.ownBlock ≠ some k) hc12 (fun k hk => ⟨⟨by omega, by omega, n13 k hk.2 (fun e => by have := hv13l k e; omega), n14 k hk.2 (fun e => by have := hv14l k e; omega)⟩, fun e => by rcases e with e | e; (have := hv13l k e; omega); (have := hv14l k e; omega)⟩) _ _ hcs
        refine ⟨(i + 1, v13', v14'), by simp [sub, Env.get], ⟨?_, by omega, ⟨rows ++ [[ca, cb, cc, cd]], ?_, ?_⟩, ?_, fun k hk => ?_, fun k hk => ?_⟩, by omega⟩
        · exact he9.chg_trans hc9 (fun k hk => by rcases hk with h | h; exact h13k k h; exact h14k k h)
        · simpa using h13b
        · rw [htk, List.map_append]
          exact VRowsS.snoc _ _ hrows' hcs'
        · rw [htk, List.map_append]
          simpa using hown18
        · rcases hblk16 with h | h
          · rw [h] at hk; exact h13k k hk
          · rw [h] at hk; cases hk; omega
        · rcases hblk18 with h | h
          · rw [h] at hk; exact h14k k hk
          · rw [h] at hk; cases hk; omega
    · try simp only [zW, zU, reduceIte, Nat.reduceEqDiff, Nat.reduceAdd, reduceCtorEq, Q4]
      refine hM1 _ _ _ ?_; clear hM1 M1
      have hil : i < ws.length := by omega
      have hxi : ws[i]? = some ws[i] := List.getElem?_eq_getElem hil
      obtain ⟨b, o, rfl, hcr⟩ := hch i ws[i].row (by simp [hxi])
      have htk : ws.take (i + 1) = ws.take i ++ [ws[i]] := List.take_succ_eq_append_getElem hil
      have hfl : ((ws.take i).filter (rightW H)).length ≤ 10 := by have := List.length_filter_le (rightW H) (ws.take i); have := List.length_take_le' i ws; omega
      refine ok_seq (fun M1 hM1 => ok_block ?_)
      refine ok_seq (fun M hM => ok_region rfl ?_)
      repeat ((try subst X); (first | (first | apply zL | apply zH | apply zE); intro X hX | apply zl | apply zh | apply ze); try simp only [zU, reduceIte, Nat.reduceEqDiff, Nat.reduceAdd, reduceCtorEq, Q4])
      refine ⟨by omega, by omega, ?_⟩
      repeat ((try subst X); (first | (first | apply zL | apply zH | apply zE); intro X hX | apply zl | apply zh | apply ze); try simp only [zU, reduceIte, Nat.reduceEqDiff, Nat.reduceAdd, reduceCtorEq, Q4])
      refine ⟨ws[i].row, rfl, he8.cellsAt hcr, ?_⟩
      repeat ((try subst X); (first | (first | apply zL | apply zH | apply zE); intro X hX | apply zl | apply zh | apply ze); try simp only [zU, reduceIte, Nat.reduceEqDiff, Nat.reduceAdd, reduceCtorEq, Q4])
      refine Runs.alloc Fx.zi38 (fun w9 he9 hs9 hb9 => ?_)
      generalize hB12 : w8.heap.size = B12 at hs9 hb9
      repeat ((try subst X); (first | (first | apply zL | apply zH | apply zE); intro X hX | apply zl | apply zh | apply ze); try simp only [zU, reduceIte, Nat.reduceEqDiff, Nat.reduceAdd, reduceCtorEq, Q4])
      refine Runs.store hb9 Fx.zi38 rfl (by intro u hu; simp [Value.cells, Wd.row] at hu; rcases hu with rfl | rfl | rfl <;> rfl) (by simp [Value.cells]) (fun w10 hc10 hs10 hb10 => ?_)
      rw [splice_all _ _ (by simp [Value.cells])] at hb10
      simp only [Value.cells] at hb10
      have he10 : Ext w8 w10 := he9.chg_trans hc10 (fun k hk => by omega)
      repeat ((try subst X); (first | (first | apply zL | apply zH | apply zE); intro X hX | apply zl | apply zh | apply ze); try simp only [zU, reduceIte, Nat.reduceEqDiff, Nat.reduceAdd, reduceCtorEq, Q4])
      refine hM _ _ _ ?_; clear hM M
      refine ok_seq (fun M hM => ok_region rfl ?_)
      repeat ((try subst X); (first | (first | apply zL | apply zH | apply zE); intro X hX | apply zl | apply zh | apply ze); try simp only [zU, reduceIte, Nat.reduceEqDiff, Nat.reduceAdd, reduceCtorEq, Q4])
      refine ⟨ws[i].row, rfl, hb10.cells (o := 0) (fun j u hj => by simpa using hj), ?_⟩
      repeat ((try subst X); (first | (first | apply zL | apply zH | apply zE); intro X hX | apply zl | apply zh | apply ze); try simp only [zU, reduceIte, Nat.reduceEqDiff, Nat.reduceAdd, reduceCtorEq, Q4])
      refine Inv.call Fx.en12 (right_ok w10 hb rb H F1 (hp6.ext (he7.trans (he8.trans he10))) (by omega) ws[i]) ?_
      rintro v w11 ⟨rfl, he11⟩
      repeat ((try subst X); (first | (first | apply zL | apply zH | apply zE); intro X hX | apply zl | apply zh | apply ze); try simp only [zU, reduceIte, Nat.reduceEqDiff, Nat.reduceAdd, reduceCtorEq, Q4])
      refine hM _ _ _ ?_; clear hM M
      have hb11 := hb10.ext he11
      have he711 := he8.trans (he10.trans he11)
      have hs711 := he711.size
      have hva11 := owns_chg' hva ((he10.trans he11).chg (fun _ => False)) (fun _ _ => id)
      cases hrt : rightW H ws[i] with
      | false =>
        refine ok_cond (b := false) rfl (fun h => by cases h) (fun _ => ok_skip ?_)
        try simp only [zW, zU, reduceIte, Nat.reduceEqDiff, Nat.reduceAdd, reduceCtorEq, Q4]
        refine hM1 _ _ _ ?_; clear hM1 M1
        refine ok_region rfl ?_
        repeat ((try subst X); (first | (first | apply zL | apply zH | apply zE); intro X hX | apply zl | apply zh | apply ze); try simp only [zU, reduceIte, Nat.reduceEqDiff, Nat.reduceAdd, reduceCtorEq, Q4])
        refine ⟨by simp only [inI]; omega, ?_⟩
        repeat ((try subst X); (first | (first | apply zL | apply zH | apply zE); intro X hX | apply zl | apply zh | apply ze); try simp only [zU, reduceIte, Nat.reduceEqDiff, Nat.reduceAdd, reduceCtorEq, Q4])
        have e : (ws.take (i + 1)).filter (rightW H) = (ws.take i).filter (rightW H) := by rw [htk, List.filter_append]; simp [hrt]
        exact ⟨(i + 1, va), by simp [sub, Env.get], ⟨he711, by omega, by rw [e]; exact hva11, hvak⟩, by omega⟩
      | true =>
        refine ok_cond (b := true) rfl (fun _ => ?_) (fun h => by cases h)
        refine ok_region rfl ?_
        repeat ((try subst X); (first | (first | apply zL | apply zH | apply zE); intro X hX | apply zl | apply zh | apply ze); try simp only [zU, reduceIte, Nat.reduceEqDiff, Nat.reduceAdd, reduceCtorEq, Q4])
        refine ⟨ws[i].row, rfl, hb11.cells (o := 0) (fun j u hj => by simpa using hj), ?_⟩
        repeat ((try subst X); (first | (first | apply zL | apply zH | apply zE); intro X hX | apply zl | apply zh | apply ze); try simp only [zU, reduceIte, Nat.reduceEqDiff, Nat.reduceAdd, reduceCtorEq, Q4])
        refine Runs.lit (cs := ws[i].row) Fx.un29 Fx.zi38 (by decide) (by kernel_rfl) (by decide) (fun w12 he12 hs12 hb12 => ?_)
        repeat ((try subst X); (first | (first | apply zL | apply zH | apply zE); intro X hX | apply zl | apply zh | apply ze); try simp only [zU, reduceIte, Nat.reduceEqDiff, Nat.reduceAdd, reduceCtorEq, Q4])
        have hva12 := owns_chg' hva11 (he12.chg (fun _ => False)) (fun _ _ => id)
        refine Runs.append1' Fx.un29 Fx.zi38 rfl (by decide) hva12 hb12 rfl (by intro u hu; simp [Wd.row] at hu; rcases hu with rfl | rfl | rfl <;> rfl) (by simp [maxLen]; omega) (by omega) (by omega) (fun v' w13 hown13 hg13 hblk => ?_)
        have hc13 := grown_chg hg13
        repeat ((try subst X); (first | (first | apply zL | apply zH | apply zE); intro X hX | apply zl | apply zh | apply ze); try simp only [zU, reduceIte, Nat.reduceEqDiff, Nat.reduceAdd, reduceCtorEq, Q4])
        refine hM1 _ _ _ ?_; clear hM1 M1
        refine ok_region rfl ?_
        repeat ((try subst X); (first | (first | apply zL | apply zH | apply zE); intro X hX | apply zl | apply zh | apply ze); try simp only [zU, reduceIte, Nat.reduceEqDiff, Nat.reduceAdd, reduceCtorEq, Q4])
        refine ⟨by simp only [inI]; omega, ?_⟩
        repeat ((try subst X); (first | (first | apply zL | apply zH | apply zE); intro X hX | apply zl | apply zh | apply ze); try simp only [zU, reduceIte, Nat.reduceEqDiff, Nat.reduceAdd, reduceCtorEq, Q4])
        have e : (ws.take (i + 1)).filter (rightW H) = (ws.take i).filter (rightW H) ++ [ws[i]] := by rw [htk, List.filter_append]; simp [hrt]
        have e2 : oflat ((ws.take (i + 1)).filter (rightW H)) = oflat ((ws.take i).filter (rightW H)) ++ ws[i].row := by rw [e]; simp [oflat]
        refine ⟨(i + 1, v'), by simp [sub, Env.get], ⟨(he711.trans he12).chg_trans hc13 (fun k hk => hvak k hk), by omega, by rw [e2, e, List.length_append]; exact hown13, fun k hk => ?_⟩, by omega⟩
        rcases hblk with h | h
        · rw [h] at hk; exact hvak k hk
        · rw [h] at hk; cases hk; omega
  · try simp only [zW, zU, reduceIte, Nat.reduceEqDiff, Nat.reduceAdd, reduceCtorEq, Q4]
    refine hM1 _ _ _ ?_; clear hM1 M1
    have hil : i < acts.length := by omega
    have hxi : acts[i]? = some acts[i] := List.getElem?_eq_getElem hil
    obtain ⟨b, o, row, rfl, hbS, hcr, hrow⟩ := hcell i _ hxi
    have hr11 := hrow.len
    have he06 := he02.trans he6
    have hs06 := he06.size
    have hs26 := he6.size
    refine ok_seq (fun M1 hM1 => ok_block ?_)
    refine ok_seq (fun M hM => ok_region rfl ?_)
    repeat ((try subst X); (first | (first | apply zL | apply zH | apply zE); intro X hX | apply zl | apply zh | apply ze); try simp only [zU, reduceIte, Nat.reduceEqDiff, Nat.reduceAdd, reduceCtorEq, Q4])
    refine ⟨by omega, by omega, ?_⟩
    repeat ((try subst X); (first | (first | apply zL | apply zH | apply zE); intro X hX | apply zl | apply zh | apply ze); try simp only [zU, reduceIte, Nat.reduceEqDiff, Nat.reduceAdd, reduceCtorEq, Q4])
    refine ⟨row, hr11, he06.cellsAt hcr, ?_⟩
    repeat ((try subst X); (first | (first | apply zL | apply zH | apply zE); intro X hX | apply zl | apply zh | apply ze); try simp only [zU, reduceIte, Nat.reduceEqDiff, Nat.reduceAdd, reduceCtorEq, Q4])
    refine Runs.alloc Fx.zi40 (fun w7 he7 hs7 hb7 => ?_)
    generalize hB9 : w6.heap.size = B9 at hs7 hb7
    repeat ((try subst X); (first | (first | apply zL | apply zH | apply zE); intro X hX | apply zl | apply zh | apply ze); try simp only [zU, reduceIte, Nat.reduceEqDiff, Nat.reduceAdd, reduceCtorEq, Q4])
    refine Runs.store hb7 Fx.zi40 (by simpa [Value.cells] using hr11) (by simpa [Value.cells] using hrow.one) (by simp [Value.cells]) (fun w8 hc8 hs8 hb8 => ?_)
    rw [splice_all _ _ (by simp [Value.cells, hr11])] at hb8
    simp only [Value.cells] at hb8
    have he68 : Ext w6 w8 := he7.chg_trans hc8 (fun k hk => by omega)
    repeat ((try subst X); (first | (first | apply zL | apply zH | apply zE); intro X hX | apply zl | apply zh | apply ze); try simp only [zU, reduceIte, Nat.reduceEqDiff, Nat.reduceAdd, reduceCtorEq, Q4])
    refine hM _ _ _ ?_; clear hM M
    have hb98 : ∀ (j : Nat) (u : Value), row[j]? = some u → w8.cell? ⟨B9, j, none⟩ = some u := fun j u hj => hb8.cell hj
    have hd0 : w8.cell? ⟨B9, 0, none⟩ = some (.int .i64 acts[i].d) := by
      obtain ⟨ov, vrow, hrr, -⟩ := id hrow
      exact hb8.cell (by simp [hrr])
    have hs68 := he68.size
    have nxt : ∀ (w9 : World) (F9 : Nat → Prop), Ext w2 w9 → St w9 hb rb qb bz (runA ([], []) (acts.take (i + 1))).1 (runA ([], []) (acts.take (i + 1))).2 F9 → (∀ k, F9 k → w2.heap.size ≤ k ∧ k < w9.heap.size) → True := fun _ _ _ _ _ => trivial
    have htk : acts.take (i + 1) = acts.take i ++ [acts[i]] := List.take_succ_eq_append_getElem hil
    have hSt8 : St w8 hb rb qb bz (runA ([], []) (acts.take i)).1 (runA ([], []) (acts.take i)).2 F := by
      obtain ⟨F1, F2, vh, vr, h1, h2, h3⟩ := hSt
      exact ⟨F1, F2, vh, vr, h1.ext he68, h2, h3⟩
    have hrun := runA_good (acts.take i) ([], []) GoodH.nil (fun a ha => hfew2 a (List.mem_of_mem_take ha))
    have htl : (acts.take i).length ≤ 30 := by rw [List.length_take]; omega
    simp only [List.length_nil, Nat.zero_add] at hrun
    by_cases hd : 0 ≤ acts[i].d ∧ acts[i].d ≤ 2
    · have hsn : runA ([], []) (acts.take (i + 1)) = (actH (runA ([], []) (acts.take i)).1 (runA ([], []) (acts.take i)).2 acts[i], actL (runA ([], []) (acts.take i)).1 (runA ([], []) (acts.take i)).2 acts[i]) := by rw [htk, runA_snoc, if_pos hd]
      refine ok_seq (fun M hM => ok_region rfl ?_)
      repeat ((try subst X); (first | (first | apply zL | apply zH | apply zE); intro X hX | apply zl | apply zh | apply ze); try simp only [zU, reduceIte, Nat.reduceEqDiff, Nat.reduceAdd, reduceCtorEq, Q4])
      refine ⟨_, hd0, ?_⟩
      repeat ((try subst X); (first | (first | apply zL | apply zH | apply zE); intro X hX | apply zl | apply zh | apply ze); try simp only [zU, reduceIte, Nat.reduceEqDiff, Nat.reduceAdd, reduceCtorEq, Q4])
      simp only [hd.1, decide_true]
      repeat ((try subst X); (first | (first | apply zL | apply zH | apply zE); intro X hX | apply zl | apply zh | apply ze); try simp only [zU, reduceIte, Nat.reduceEqDiff, Nat.reduceAdd, reduceCtorEq, Q4])
      refine ⟨fun _ => ?_, fun h => (by cases h)⟩
      repeat ((try subst X); (first | (first | apply zL | apply zH | apply zE); intro X hX | apply zl | apply zh | apply ze); try simp only [zU, reduceIte, Nat.reduceEqDiff, Nat.reduceAdd, reduceCtorEq, Q4])
      refine ⟨_, hd0, ?_⟩
      repeat ((try subst X); (first | (first | apply zL | apply zH | apply zE); intro X hX | apply zl | apply zh | apply ze); try simp only [zU, reduceIte, Nat.reduceEqDiff, Nat.reduceAdd, reduceCtorEq, Q4])
      simp only [hd.2, decide_true]
      repeat ((try subst X); (first | (first | apply zL | apply zH | apply zE); intro X hX | apply zl | apply zh | apply ze); try simp only [zU, reduceIte, Nat.reduceEqDiff, Nat.reduceAdd, reduceCtorEq, Q4])
      refine hM _ _ _ ?_; clear hM M
      refine ok_cond rfl (fun _ => ?_) (fun h => by cases h)
      refine ok_region rfl ?_
      repeat ((try subst X); (first | (first | apply zL | apply zH | apply zE); intro X hX | apply zl | apply zh | apply ze); try simp only [zU, reduceIte, Nat.reduceEqDiff, Nat.reduceAdd, reduceCtorEq, Q4])
      refine ⟨row, hr11, hb8.cells (o := 0) (fun j u hj => by simpa using hj), ?_⟩
      repeat ((try subst X); (first | (first | apply zL | apply zH | apply zE); intro X hX | apply zl | apply zh | apply ze); try simp only [zU, reduceIte, Nat.reduceEqDiff, Nat.reduceAdd, reduceCtorEq, Q4])
      have hrow8 : ActR w8 S row acts[i] := hrow.chg ((he06.trans he68).chg (fun _ => False)) (fun k hk => ⟨hk, id⟩)
      have hai := hfew2 acts[i] (List.getElem_mem hil)
      refine Inv.call Fx.en9 (act_ok w8 hb rb qb bz _ _ F hSt8 mk (hg.ext (he06.trans he68)) ⟨fun h => by have := hFk _ h; omega, fun h => by have := hFk _ h; omega, fun h => by have := hFk _ h; omega⟩ S row acts[i] hrow8 (fun k hk => ⟨fun h => by have := hFk _ h; have := hS k hk; omega, by have := hS k hk; omega⟩) (fun k hk => by have := hFk k hk; omega) (by omega) (by omega) (by omega) (by omega) hrun.1.lim.args) ?_
      rintro v w9 ⟨rfl, hc9, F9, hSt9, hF9⟩
      have hs9 := hc9.size
      repeat ((try subst X); (first | (first | apply zL | apply zH | apply zE); intro X hX | apply zl | apply zh | apply ze); try simp only [zU, reduceIte, Nat.reduceEqDiff, Nat.reduceAdd, reduceCtorEq, Q4])
      refine hM1 _ _ _ ?_; clear hM1 M1
      refine ok_region rfl ?_
      repeat ((try subst X); (first | (first | apply zL | apply zH | apply zE); intro X hX | apply zl | apply zh | apply ze); try simp only [zU, reduceIte, Nat.reduceEqDiff, Nat.reduceAdd, reduceCtorEq, Q4])
      refine ⟨by simp only [inI]; omega, ?_⟩
      repeat ((try subst X); (first | (first | apply zL | apply zH | apply zE); intro X hX | apply zl | apply zh | apply ze); try simp only [zU, reduceIte, Nat.reduceEqDiff, Nat.reduceAdd, reduceCtorEq, Q4])
      refine ⟨i + 1, by simp [sub, Env.get], ⟨(he6.trans he68).chg_trans hc9 (fun k hk => (hFk k hk).1), by omega, F9, by rw [hsn]; exact hSt9, fun k hk => ?_⟩, by omega⟩
      rcases hF9 k hk with h | h
      · have := hFk k h; omega
      · omega
    · have hsn : runA ([], []) (acts.take (i + 1)) = runA ([], []) (acts.take i) := by rw [htk, runA_snoc, if_neg hd]
      refine ok_join [(1, .slice A1 of.length c1), (5, ptrOf hb), (6, ptrOf qb), (7, ptrOf bz), (41, .slice (some ⟨b, o, none⟩) acts.length c), (42, .int .i64 (acts.length : Int)), (43, .int .i64 (i : Int)), (54, .bool false)] (fun w' => w' = w8) ?_ ?_
      · refine ok_region rfl ?_
        repeat ((try subst X); (first | (first | apply zL | apply zH | apply zE); intro X hX | apply zl | apply zh | apply ze); try simp only [zU, reduceIte, Nat.reduceEqDiff, Nat.reduceAdd, reduceCtorEq, Q4])
        refine ⟨_, hd0, ?_⟩
        repeat ((try subst X); (first | (first | apply zL | apply zH | apply zE); intro X hX | apply zl | apply zh | apply ze); try simp only [zU, reduceIte, Nat.reduceEqDiff, Nat.reduceAdd, reduceCtorEq, Q4])
        by_cases h0 : 0 ≤ acts[i].d
        · simp only [h0, decide_true]
          repeat ((try subst X); (first | (first | apply zL | apply zH | apply zE); intro X hX | apply zl | apply zh | apply ze); try simp only [zU, reduceIte, Nat.reduceEqDiff, Nat.reduceAdd, reduceCtorEq, Q4])
          refine ⟨fun _ => ?_, fun h => (by cases h)⟩
          repeat ((try subst X); (first | (first | apply zL | apply zH | apply zE); intro X hX | apply zl | apply zh | apply ze); try simp only [zU, reduceIte, Nat.reduceEqDiff, Nat.reduceAdd, reduceCtorEq, Q4])
          refine ⟨_, hd0, ?_⟩
          repeat ((try subst X); (first | (first | apply zL | apply zH | apply zE); intro X hX | apply zl | apply zh | apply ze); try simp only [zU, reduceIte, Nat.reduceEqDiff, Nat.reduceAdd, reduceCtorEq, Q4])
          have h2 : ¬ acts[i].d ≤ 2 := fun h => hd ⟨h0, h⟩
          simp [sub, Env.get, h2]
        · simp only [h0, decide_false]
          repeat ((try subst X); (first | (first | apply zL | apply zH | apply zE); intro X hX | apply zl | apply zh | apply ze); try simp only [zU, reduceIte, Nat.reduceEqDiff, Nat.reduceAdd, reduceCtorEq, Q4])
          refine ⟨fun h => (by cases h), fun _ => ?_⟩
          repeat ((try subst X); (first | (first | apply zL | apply zH | apply zE); intro X hX | apply zl | apply zh | apply ze); try simp only [zU, reduceIte, Nat.reduceEqDiff, Nat.reduceAdd, reduceCtorEq, Q4])
          simp [sub, Env.get]
      rintro w' rfl
      refine ok_cond rfl (fun h => by cases h) (fun _ => ok_skip ?_)
      try simp only [zW, zU, reduceIte, Nat.reduceEqDiff, Nat.reduceAdd, reduceCtorEq, Q4]
      refine hM1 _ _ _ ?_; clear hM1 M1
      refine ok_region rfl ?_
      repeat ((try subst X); (first | (first | apply zL | apply zH | apply zE); intro X hX | apply zl | apply zh | apply ze); try simp only [zU, reduceIte, Nat.reduceEqDiff, Nat.reduceAdd, reduceCtorEq, Q4])
      refine ⟨by simp only [inI]; omega, ?_⟩
      repeat ((try subst X); (first | (first | apply zL | apply zH | apply zE); intro X hX | apply zl | apply zh | apply ze); try simp only [zU, reduceIte, Nat.reduceEqDiff, Nat.reduceAdd, reduceCtorEq, Q4])
      exact ⟨i + 1, by simp [sub, Env.get], ⟨he6.trans he68, by omega, F, by rw [hsn]; exact hSt8, fun k hk => by have := hFk k hk; omega⟩, by omega⟩
end Go.Proofs.YtldeokfhipjbfaaGreatDoor
/- What the laws of chapter 36 are handed: values, words, the package's variables. -/
set_option linter.unusedVariables false
set_option linter.unusedSimpArgs false
namespace Go.Proofs.YtldeokfhipjbfaaGreatDoor
open Go Go.Proofs.Vg Go.RowKit Go.Deep Go.ChangeShapes Go.WideShapes Go.ChangeAt Go.WideElems

theorem ce24 : Tryz.prog.cellsOf 36 = 4 := by kernel_rfl
theorem ce3 : Tryz.prog.cellsOf 3 = 1 := by kernel_rfl
theorem ce2 : Tryz.prog.cellsOf 2 = 1 := by kernel_rfl
theorem ce9 : Tryz.prog.cellsOf 9 = 1 := by kernel_rfl
theorem ce22 : Tryz.prog.cellsOf 34 = 1 := by kernel_rfl
theorem by24 : 0 < Tryz.prog.bytesOf 36 := by decide +kernel
theorem vf0 : fld Tryz.prog 36 0 = some (3, 0) := by kernel_rfl
theorem vf1 : fld Tryz.prog 36 1 = some (2, 1) := by kernel_rfl
theorem vf2 : fld Tryz.prog 36 2 = some (9, 2) := by kernel_rfl
theorem vf3 : fld Tryz.prog 36 3 = some (34, 3) := by kernel_rfl
theorem own36 : ownKnob Tryz.prog.godebug = none := by kernel_rfl
theorem laid36 : laidOutB Tryz.prog = true := by kernel_rfl
theorem rr24 : Tryz.prog.readableRec 36 = true := by kernel_rfl

section
variable {H : Type} {enc : TypeId × Value → H} {w : World} {base : Nat} {spare : Nat → Bool} {held : Bool}
theorem rd_vall : ∀ (m : Nat) (fuel : Nat) (cs : List Value) (x : DataW H × List MemPlace), SizeOf.sizeOf x.1 ≤ m → DataW.trod enc Tryz.prog w base spare held fuel 36 cs = some x → Small Tryz.prog 36 x.1 → cs.length = 4 → ∃ v, VRow w cs v := by
  intro m
  induction m with
  | zero =>
    intro fuel cs x hm
    have : 0 < SizeOf.sizeOf x.1 := by cases x.1 <;> simp <;> omega
    omega
  | succ m ih =>
    intro fuel cs x hm h hs hl
    match cs, hl with
    | [r0, r1, r2, r3], _ =>
      obtain ⟨n0, y0, k0, _, _⟩ := rd_fld' vf0 h hs
      obtain ⟨n1, y1, k1, _, _⟩ := rd_fld' vf1 h hs
      obtain ⟨n2, y2, k2, _, _⟩ := rd_fld' vf2 h hs
      obtain ⟨n3, y3, k3, s3, z3⟩ := rd_fld' vf3 h hs
      rw [ce3] at k0
      rw [ce2] at k1
      rw [ce9] at k2
      rw [ce22] at k3
      obtain ⟨k, e0, _⟩ := DataW.trod_int Fx.un3 k0
      obtain ⟨n, e1, _⟩ := DataW.trod_int Fx.un2 k1
      obtain ⟨t, e2, _⟩ := DataW.trod_string Fx.un9 k2
      obtain ⟨v, rows, e3, hsl, h1, h2, hr⟩ := rd_slice' Fx.un34 ce24 (by decide) by24 k3 s3
      simp at e0 e1 e2 e3
      subst e0 e1 e2 e3
      have : ∃ args, VRows w rows args := by
        clear hsl
        induction rows with
        | nil => exact ⟨[], by simp only [VRows]⟩
        | cons r rows ihr =>
          obtain ⟨args, ha⟩ := ihr (fun i row hi => hr (i + 1) row (by simpa using hi))
          obtain ⟨hl0, f, y, hy, hsy, hzy⟩ := hr 0 r rfl
          obtain ⟨a, ha0⟩ := ih f r y (by omega) hy hsy hl0
          exact ⟨a :: args, by simp only [VRows]; exact ⟨ha0, ha⟩⟩
      obtain ⟨args, ha⟩ := this
      exact ⟨.mk k n t args, by simp only [VRow]; exact ⟨_, rfl, h1, h2, rows, hsl, ha⟩⟩
end

theorem gKinds : Tryz.prog.globalNamed "cinnabar/heap.kinds" = some 1 := by kernel_rfl
theorem gRanks : Tryz.prog.globalNamed "cinnabar/heap.ranks" = some 0 := by kernel_rfl
theorem tKinds : (Tryz.prog.globals[1]?).map (·.type) = some 137 := by kernel_rfl
theorem tRanks : (Tryz.prog.globals[0]?).map (·.type) = some 132 := by kernel_rfl
theorem Fx.un132 : Tryz.prog.underlying 132 = some (.array 10 3) := by kernel_rfl
theorem ce87 : Tryz.prog.cellsOf 132 = 10 := by kernel_rfl
def laid2 {H : Type} : List (String × DataW H) := [("cinnabar/heap.kinds", Rows.laid_cinnabar_heap_kinds), ("cinnabar/heap.ranks", Rows.laid_cinnabar_heap_ranks)]

theorem mem_ins {H : Type} {y : Lit × DataW H} : ∀ (l : List (Lit × DataW H)), y ∈ l.foldr DataW.insert [] ↔ y ∈ l
  | [] => by simp
  | x :: l => by simp only [List.foldr_cons, ChangeMaps.mem_insert_iff, mem_ins l, List.mem_cons]
theorem key_int {v : Value} {n : Int} (h : keyOf Tryz.prog 3 v = some (.int .i64 n)) : v = .int .i64 n := by
  unfold keyOf at h
  rw [Fx.un3] at h
  simp only [mapKey, Fx.un3] at h
  cases v <;> simp at h
  obtain ⟨⟨h1, _⟩, h2⟩ := h
  subst h1; subst h2; rfl
theorem of_laid {W : World} (h : laidMetH Tryz.prog laid2 W) : ∃ mk, Glob W mk := by
  rw [MakeChecks.laidMetH_plain _ _ _ (by kernel_rfl)] at h
  obtain ⟨ps, ⟨g0, t0, cs0, f0, p0, q0, hg0, ht0, hv0, hd0, ⟨g1, t1, cs1, f1, p1, q1, hg1, ht1, hv1, hd1, _, _⟩, _⟩, _, _⟩ := h
  obtain rfl := Option.some.inj (gKinds.symm.trans hg0)
  obtain rfl := Option.some.inj (gRanks.symm.trans hg1)
  obtain rfl := Option.some.inj (tKinds.symm.trans ht0)
  obtain rfl := Option.some.inj (tRanks.symm.trans ht1)
  rcases WideElems.open_map Fx.un137 hd0 with ⟨_, hx⟩ | ⟨bm, es, clock, m, rfl, hcs, hb, _, F, hx⟩
  · simp [Rows.laid_cinnabar_heap_kinds] at hx
  simp only [Prod.mk.injEq] at hx
  have hcell : W.cell? ⟨1, 0, none⟩ = some (.map (some bm)) := by
    have := World.var?_cell hg0 hv0 0
    rw [Array.eq_one_of_toList hcs] at this
    simpa using this
  have hR := Lib.cells_of_tab (k := .i64) (zs := [0, 1, 2, 3, 4, 5, 6, 7, 8, 0]) Fx.un132 Fx.un3 ce3 ce87 hd1
  have hel : ∀ v z, elemAt (fun (_ : TypeId × Value) => ()) Tryz.prog W 0 (fun _ => true) false m 3 v = some z → ∃ a, v = .int .i64 a ∧ z = (.lit (.int .i64 a), []) := fun v z hz => by
    obtain ⟨a, h1, h2, _⟩ := WideElems.elemAt_int Fx.un3 hz
    exact ⟨a, h1, h2⟩
  generalize elemAt (fun (_ : TypeId × Value) => ()) Tryz.prog W 0 (fun _ => true) false m 3 = R at F hx hel
  have hL : ([(.int .i64 1, .lit (.int .i64 1)), (.int .i64 2, .lit (.int .i64 2)), (.int .i64 3, .lit (.int .i64 3)), (.int .i64 4, .lit (.int .i64 4)), (.int .i64 5, .lit (.int .i64 5)), (.int .i64 6, .lit (.int .i64 6)), (.int .i64 7, .lit (.int .i64 7)), (.int .i64 8, .lit (.int .i64 8))] : List (Lit × DataW Unit)) = (es.toList.map (rg Tryz.prog 3 R)).foldr DataW.insert [] := by
    have h0 := hx.1
    unfold Rows.laid_cinnabar_heap_kinds at h0
    exact DataW.map.inj h0
  have hmem : ∀ y, y ∈ ([(.int .i64 1, .lit (.int .i64 1)), (.int .i64 2, .lit (.int .i64 2)), (.int .i64 3, .lit (.int .i64 3)), (.int .i64 4, .lit (.int .i64 4)), (.int .i64 5, .lit (.int .i64 5)), (.int .i64 6, .lit (.int .i64 6)), (.int .i64 7, .lit (.int .i64 7)), (.int .i64 8, .lit (.int .i64 8))] : List (Lit × DataW Unit)) ↔ ∃ e ∈ es.toList, rg Tryz.prog 3 R e = y := fun y => by
    rw [hL, mem_ins, List.mem_map]
  have hent : ∀ e ∈ es.toList, ∃ n v, e.key = .int .i64 n ∧ e.val = .int .i64 v ∧ rg Tryz.prog 3 R e = (.int .i64 n, .lit (.int .i64 v)) := fun e he => by
    obtain ⟨y, hy⟩ := F.reads e he
    obtain ⟨z, hz, h2⟩ := WideElems.rd_val hy
    obtain ⟨a, h3, h4⟩ := hel _ _ hz
    have h1 := rd_key hy
    have hrg := rg_of hy
    have hy1 : y ∈ ([(.int .i64 1, .lit (.int .i64 1)), (.int .i64 2, .lit (.int .i64 2)), (.int .i64 3, .lit (.int .i64 3)), (.int .i64 4, .lit (.int .i64 4)), (.int .i64 5, .lit (.int .i64 5)), (.int .i64 6, .lit (.int .i64 6)), (.int .i64 7, .lit (.int .i64 7)), (.int .i64 8, .lit (.int .i64 8))] : List (Lit × DataW Unit)) := (hmem y).2 ⟨e, he, hrg⟩
    obtain ⟨y1, y2⟩ := y
    have hk : ∃ n, y1 = .int .i64 n := by
      simp only [List.mem_cons, Prod.mk.injEq, List.not_mem_nil, or_false] at hy1
      rcases hy1 with ⟨h, _⟩ | ⟨h, _⟩ | ⟨h, _⟩ | ⟨h, _⟩ | ⟨h, _⟩ | ⟨h, _⟩ | ⟨h, _⟩ | ⟨h, _⟩ <;> exact ⟨_, h⟩
    obtain ⟨n, rfl⟩ := hk
    refine ⟨n, a, key_int h1, h3, ?_⟩
    have h2' : y2 = z.1 := h2
    rw [hrg, h2', h4]
  refine ⟨bm, hcell, ⟨es, clock, hb, fun e he => ?_, fun n v hn => ?_⟩, fun j u hj => ?_⟩
  · obtain ⟨n, v, h1, h2, h3⟩ := hent e he
    have h4 := (hmem _).2 ⟨e, he, h3⟩
    refine ⟨n, h1, ?_⟩
    rw [h2]
    simp only [List.mem_cons, Prod.mk.injEq, Lit.int.injEq, DataW.lit.injEq, List.not_mem_nil, or_false, true_and] at h4
    rcases h4 with ⟨rfl, rfl⟩ | ⟨rfl, rfl⟩ | ⟨rfl, rfl⟩ | ⟨rfl, rfl⟩ | ⟨rfl, rfl⟩ | ⟨rfl, rfl⟩ | ⟨rfl, rfl⟩ | ⟨rfl, rfl⟩ <;> rfl
  · unfold kindF at hn
    split at hn
    · rename_i h1
      have h2 : ((.int .i64 n, .lit (.int .i64 n)) : Lit × DataW Unit) ∈ ([(.int .i64 1, .lit (.int .i64 1)), (.int .i64 2, .lit (.int .i64 2)), (.int .i64 3, .lit (.int .i64 3)), (.int .i64 4, .lit (.int .i64 4)), (.int .i64 5, .lit (.int .i64 5)), (.int .i64 6, .lit (.int .i64 6)), (.int .i64 7, .lit (.int .i64 7)), (.int .i64 8, .lit (.int .i64 8))] : List (Lit × DataW Unit)) := by
        have : n = 1 ∨ n = 2 ∨ n = 3 ∨ n = 4 ∨ n = 5 ∨ n = 6 ∨ n = 7 ∨ n = 8 := by omega
        rcases this with rfl | rfl | rfl | rfl | rfl | rfl | rfl | rfl <;> simp
      obtain ⟨e, he, h3⟩ := (hmem _).1 h2
      obtain ⟨n', v', h4, h5, h6⟩ := hent e he
      rw [h6] at h3
      simp only [Prod.mk.injEq, Lit.int.injEq, true_and] at h3
      exact ⟨e, he, by rw [h4, h3.1]⟩
    · cases hn
  · have h1 : cs1 = rankL.toArray := by
      have h2 : cs1.toList = rankL := by rw [hR]; rfl
      rw [← h2]
    subst h1
    have := World.var?_cell hg1 hv1 j
    rw [add_at, Nat.zero_add, this]
    simpa using hj
end Go.Proofs.YtldeokfhipjbfaaGreatDoor
/- Reading of the acts. -/
set_option linter.unusedVariables false
set_option linter.unusedSimpArgs false
namespace Go.Proofs.YtldeokfhipjbfaaGreatDoor
open Go Go.Proofs.Vg Go.RowKit Go.Deep Go.ChangeShapes Go.WideShapes Go.ChangeAt Go.WideElems
theorem ce40 : Tryz.prog.cellsOf 40 = 11 := by kernel_rfl
theorem ce33 : Tryz.prog.cellsOf 33 = 1 := by kernel_rfl
theorem ce38 : Tryz.prog.cellsOf 38 = 3 := by kernel_rfl
theorem by40 : 0 < Tryz.prog.bytesOf 40 := by decide +kernel
theorem by3 : 0 < Tryz.prog.bytesOf 3 := by decide +kernel
theorem af0 : fld Tryz.prog 40 0 = some (3, 0) := by kernel_rfl
theorem af1 : fld Tryz.prog 40 1 = some (3, 1) := by kernel_rfl
theorem af2 : fld Tryz.prog 40 2 = some (2, 2) := by kernel_rfl
theorem af3 : fld Tryz.prog 40 3 = some (33, 3) := by kernel_rfl
theorem af4 : fld Tryz.prog 40 4 = some (36, 4) := by kernel_rfl
theorem af5 : fld Tryz.prog 40 5 = some (38, 8) := by kernel_rfl
theorem wf0 : fld Tryz.prog 38 0 = some (3, 0) := by kernel_rfl
theorem wf1 : fld Tryz.prog 38 1 = some (2, 1) := by kernel_rfl
theorem wf2 : fld Tryz.prog 38 2 = some (3, 2) := by kernel_rfl
theorem rr22 : Tryz.prog.readableRec 22 = true := by kernel_rfl
theorem rr33 : Tryz.prog.readableRec 33 = true := by kernel_rfl
theorem SlI.toS {w : World} {v : Value} {xs : List Int} (h : SlI w v xs) : SliS w (fun k => k < w.heap.size) 1 v (ints xs) := by
  obtain ⟨A, c, h1, h2, h3⟩ := h
  refine ⟨A, c, h1, h2, fun j row hj => ?_⟩
  obtain ⟨b, o, h4, h5⟩ := h3 j row hj
  refine ⟨b, o, h4, ?_, h5⟩
  have hjl := (List.getElem?_eq_some_iff.1 hj).1
  simp only [ints, List.getElem?_map] at hj
  obtain ⟨n, -, rfl⟩ := Option.map_eq_some_iff.1 hj
  have := World.block_lt_of_cell? w _ (h5 0 _ rfl)
  simpa [add_at] using this
section
variable {H : Type} {enc : TypeId × Value → H} {w : World} {base : Nat} {spare : Nat → Bool} {held : Bool}
theorem rd_act {fuel : Nat} {cs : List Value} {x : DataW H × List MemPlace} (h : DataW.trod enc Tryz.prog w base spare held fuel 40 cs = some x) (hs : Small Tryz.prog 40 x.1) (hl : cs.length = 11) : ∃ a, ActR w (fun k => k < w.heap.size) cs a := by
  match cs, hl with
  | [r0, r1, r2, r3, r4, r5, r6, r7, r8, r9, r10], _ =>
    obtain ⟨n0, y0, k0, _, _⟩ := rd_fld' af0 h hs
    obtain ⟨n1, y1, k1, _, _⟩ := rd_fld' af1 h hs
    obtain ⟨n2, y2, k2, _, _⟩ := rd_fld' af2 h hs
    obtain ⟨n3, y3, k3, s3, _⟩ := rd_fld' af3 h hs
    obtain ⟨n4, y4, k4, s4, _⟩ := rd_fld' af4 h hs
    obtain ⟨n5, y5, k5, s5, _⟩ := rd_fld' af5 h hs
    rw [ce3] at k0 k1
    rw [ce2] at k2
    rw [ce33] at k3
    rw [ce24] at k4
    rw [ce38] at k5
    obtain ⟨d, e0, _⟩ := DataW.trod_int Fx.un3 k0
    obtain ⟨k, e1, _⟩ := DataW.trod_int Fx.un3 k1
    obtain ⟨n, e2, _⟩ := DataW.trod_int Fx.un2 k2
    obtain ⟨v3, of, e3, sl, q1, q2⟩ := rd_ints Fx.un33 Fx.un3 ce3 by3 k3 s3
    simp at e0 e1 e2 e3
    subst e0 e1 e2 e3
    obtain ⟨v, hv⟩ := rd_vall _ _ [r4, r5, r6, r7] _ (Nat.le_refl _) (by simpa using k4) s4 rfl
    have k5' : DataW.trod enc Tryz.prog w base spare held n5 38 [r8, r9, r10] = some y5 := by simpa using k5
    obtain ⟨m0, z0, j0, _, _⟩ := rd_fld' wf0 k5' s5
    obtain ⟨m1, z1, j1, _, _⟩ := rd_fld' wf1 k5' s5
    obtain ⟨m2, z2', j2, _, _⟩ := rd_fld' wf2 k5' s5
    rw [ce3] at j0 j2
    rw [ce2] at j1
    obtain ⟨a, e8, _⟩ := DataW.trod_int Fx.un3 j0
    obtain ⟨b, e9, _⟩ := DataW.trod_int Fx.un2 j1
    obtain ⟨c, e10, _⟩ := DataW.trod_int Fx.un3 j2
    simp at e8 e9 e10
    subst e8 e9 e10
    exact ⟨⟨d, k, n, of, v, ⟨a, b, c⟩⟩, _, [r4, r5, r6, r7], rfl, q1, SlI.toS sl, VRow.toS _ _ hv⟩
theorem rd_acts {fuel : Nat} {cs : List Value} {x : DataW H × List MemPlace} (h : DataW.trod enc Tryz.prog w base spare held fuel 22 cs = some x) (hs : Small Tryz.prog 22 x.1) : ∃ v acts, cs = [v] ∧ ActsR w (fun k => k < w.heap.size) v acts := by
  obtain ⟨v, rows, e3, hsl, h1, h2, hr⟩ := rd_slice' Fx.un22 ce40 (by decide) by40 h hs
  have key : ∀ rows : List (List Value), (∀ (i : Nat) (row : List Value), rows[i]? = some row → ∃ a, ActR w (fun k => k < w.heap.size) row a) → ∃ acts : List ActD, acts.length = rows.length ∧ ∀ (i : Nat) (row : List Value) (a : ActD), rows[i]? = some row → acts[i]? = some a → ActR w (fun k => k < w.heap.size) row a := by
    intro rows
    induction rows with
    | nil => intro _; exact ⟨[], rfl, fun i row a h => by simp at h⟩
    | cons r rows ih =>
      intro hh
      obtain ⟨a, ha⟩ := hh 0 r rfl
      obtain ⟨acts, h1, h2⟩ := ih (fun i row hi => hh (i + 1) row (by simpa using hi))
      refine ⟨a :: acts, by simp [h1], fun i row b hi hb => ?_⟩
      cases i with
      | zero => simp at hi hb; subst hi; subst hb; exact ha
      | succ i => exact h2 i row b (by simpa using hi) (by simpa using hb)
  obtain ⟨acts, g1, g2⟩ := key rows (fun i row hi => by
    obtain ⟨hl0, f, y, hy, hsy, _⟩ := hr i row hi
    exact rd_act hy hsy hl0)
  obtain ⟨A, c, rfl, hlen, hcell⟩ := hsl
  refine ⟨_, acts, e3, A, c, by rw [g1], by omega, fun j a ha => ?_⟩
  have hjl : j < rows.length := by have := (List.getElem?_eq_some_iff.1 ha).1; omega
  have hrow : rows[j]? = some rows[j] := List.getElem?_eq_getElem hjl
  obtain ⟨b, o, h4, h5⟩ := hcell j _ hrow
  have hA := g2 j _ a hrow ha
  refine ⟨b, o, rows[j], h4, ?_, h5, hA⟩
  have h11 := hA.len
  have := World.block_lt_of_cell? w _ (h5 0 (rows[j][0]'(by omega)) (List.getElem?_eq_getElem _))
  simpa [add_at] using this
end
end Go.Proofs.YtldeokfhipjbfaaGreatDoor
/- HeapKeeps: for every value, whatever it is, the law returns true, and what came in reads as it did. No condition but the row's own: the two listed variables of the heap's package read as the program's text lays them. -/
set_option linter.unusedVariables false
set_option linter.unusedSimpArgs false
namespace Go.Proofs.YtldeokfhipjbfaaGreatDoor
open Go Go.Proofs.Vg Go.RowKit Go.Deep Go.ChangeShapes Go.WideShapes Go.ChangeAt

/-- The door's own heap meets the condition. -/
theorem door_met (os : Os) (args : Array Value) : laidMetH Tryz.prog laid2 ((World.doorLaid Tryz.prog 400 os).forCall (fun _ _ => 0) ⟨#[], args, []⟩).memory :=
  laidMetH_of_parts3 (fuel := 8) (laidMet_of_run' 8 (by kernel_rfl) (by kernel_rfl)) (by kernel_rfl) (by kernel_rfl)

set_option maxRecDepth 100000 in
theorem heapKeeps_lifted (os : Os) (started : os.Started) (H : Type) (enc : TypeId × Value → H) :
    ReturnsInHanded {} Tryz.checked os 4 .any (fun w args => (Rows.heapKeepsSpec.pre enc Tryz.prog Tryz.f4 [] false w args ∧ laidMetH Tryz.prog laid2 w) ∧ sizedMet enc Tryz.prog Tryz.f4 (OpenSpec.ofChange Rows.heapKeepsSpec) false w args)
      (Rows.heapKeepsSpec.post enc Tryz.prog Tryz.f4 false true false false) := by
  refine returnsInHanded_of_change_and (C := Tryz.checked) (X := fun w _ => laidMetH Tryz.prog laid2 w) (fun _ _ _ hh h => h.of_heap hh) own36 started (by kernel_rfl) Tryz.func4
    (ChangeSpec.witness_shaped (enc := enc) (C := Tryz.checked) (os := os) (X := fun w _ => laidMetH Tryz.prog laid2 w) false (World.doorLaid Tryz.prog 400 os) #[.slice none 0 0, .slice none 0 0] 8 rfl (World.shaped_of_RefB (by kernel_rfl) (by kernel_rfl)) (by kernel_rfl) (by kernel_rfl) (by kernel_rfl) (door_met os _)) ?_
  intro W base args ds gs before hval0 hW _ hsz0 hL _
  have hval : ∀ (j : Nat) t v, Tryz.f4.params[j]? = some t → args[j]? = some v → Value.okWide Tryz.prog W .any base t v := hval0
  have hW' := hW
  obtain ⟨p, q, hA0, hV, rfl, hfz, hnd⟩ := hW
  have hA : DataW.TrodAll enc Tryz.prog W 0 (fun _ => true) true Tryz.f4.params.toList args.toList ds p := hA0
  have hsz : (DataW.weightsEach Tryz.prog (Tryz.f4.params.toList ++ []) (ds ++ gs)).all (· ≤ reachBytes) = true := hsz0
  rw [Tryz.params4] at hA hval hsz
  obtain ⟨v0, v1, d0, d1, p0, p1, rfl, rfl, rfl, h0, h1⟩ := trodAll_two hA
  obtain ⟨rfl, rfl⟩ := trodVars_none hV
  obtain ⟨mk, hG⟩ := of_laid hL
  clear hA0 hval0 hsz0
  simp only [List.append_nil] at hW'
  have h0' := h0
  have h1' := h1
  obtain ⟨n0, g0⟩ := h0
  obtain ⟨n1, g1⟩ := h1
  obtain ⟨u0, acts, e0, hA0⟩ := rd_acts g0 (small_of_all hsz (j := 0) rfl rfl)
  obtain ⟨u1, of, e1, sl, _, _⟩ := rd_ints Fx.un33 Fx.un3 ce3 by3 g1 (small_of_all hsz (j := 1) rfl rfl)
  obtain ⟨a0, l0, c0, rfl⟩ := okWide_slice Fx.un22 (hval 0 22 v0 rfl rfl)
  obtain ⟨a1, l1, c1, rfl⟩ := okWide_slice Fx.un33 (hval 1 33 v1 rfl rfl)
  obtain rfl : Value.slice a0 l0 c0 = u0 := by simpa [Value.cells] using e0
  obtain rfl : Value.slice a1 l1 c1 = u1 := by simpa [Value.cells] using e1
  have hlt := hW'.lt
  refine Calls.mono (HeapKeeps_ok W mk hG _ _ _ acts of hA0 (SlI.toS sl) (fun k hk => hk)) fun e W' he => ?_
  cases e <;> simp only [callR] at he
  obtain ⟨rfl, hx⟩ := he
  exact ⟨_, rfl, post_ext rfl hW' hx (fun _ _ _ => trodAll_mk1 (shut_bool (by kernel_rfl) _))
    (fun sp hsp => trodAll_mk2 (Trod_ext laid36 rr22 (by decide +kernel) h0' hx (fun x hx => hlt x (List.mem_append_left _ hx)) (fun x hx => hsp x (List.mem_append_left _ hx)))
      (Trod_ext laid36 rr33 (by decide +kernel) h1' hx (fun x hx => hlt x (List.mem_append_right _ hx)) (fun x hx => hsp x (List.mem_append_right _ hx)))) rfl⟩

theorem heapKeeps_holds0 : Rows.HeapKeepsSaid :=
  OpenClaim.holds_of_wide 4 Tryz.f4 rfl rfl rfl rfl rfl rfl rfl ⟨rfl, rfl, rfl, rfl, rfl⟩ rfl rfl rfl rfl rfl (by kernel_rfl) Tryz.func4 (by kernel_rfl)
    (of_decide_eq_true (by kernel_rfl)) (by unfold Func.isWrapper; first | (rw [if_pos (by decide +kernel)]; kernel_rfl) | (rw [if_neg (by decide +kernel)]; exact ⟨rfl, rfl⟩))
    (fun os started H enc _ => heapKeeps_lifted os started H enc)

theorem heapKeeps_holds : Rows.HeapKeepsCardSaid :=
  Claim7.holds_tied_plain_at .later [] [.mapped, .data] true (true, "e02bab49af59349f6e08261c09bc89bc785096cf90b8782bb9742aeb95cefeaf") false
    heapKeeps_holds0 (fun _ h => by cases h) (by kernel_rfl) (fun _ h => by cases h) heapKeeps_row_tie rfl ⟨rfl, rfl⟩ (by kernel_rfl) rfl
    (fun f fn hf hfn => by
      obtain rfl : f = 4 := Option.some.inj ((show Tryz.prog.funcNamed "cinnabar/cinnabarlaw36.HeapKeeps" = some 4 by kernel_rfl).symm.trans hf) |>.symm
      obtain rfl : fn = Tryz.f4 := (Option.some.inj (Tryz.func4.symm.trans hfn)).symm
      exact ⟨by kernel_rfl, fun j t ht => by
        rw [Tryz.params4] at ht
        have hm : t ∈ [22, 33] := by simpa using Array.mem_of_getElem? ht
        have hall : ([22, 33].all fun u => !Tryz.prog.wantsStandIn u) = true := by kernel_rfl
        exact (show Tryz.prog.wantsStandIn t = false by simpa using List.all_eq_true.1 hall t hm)⟩)
    (by kernel_rfl)
#print axioms heapKeeps_holds
end Go.Proofs.YtldeokfhipjbfaaGreatDoor
