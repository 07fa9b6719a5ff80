/- Part 6 of 12: N8, N9, N10, N11. -/
import Derived.Test.YtcpjojaklpgnkaaGreatM5
import Derived.Test.YtcpjojaklpgnkaaGreatM4
/- Chapter 31: slices.ContainsFunc. -/
set_option linter.unusedVariables false
set_option linter.unusedSimpArgs false
namespace Go.Proofs.YtcpjojaklpgnkaaGreat
open Go Go.Proofs.Vg Go.RowKit
-- -- function 108
set_option maxHeartbeats 2000000 in
set_option maxRecDepth 8000 in
theorem idx108 (w : World) (S : Nat → Prop) (v fv : Value) (rows : List (List D)) (J : Nat → World → Prop) (Jt : World → Prop) (hz : ∀ r ∈ rows, r.length = 9) (h0 : J 0 w) (hrd : ∀ i W, J i W → Rd W S [v] [.sl 128 rows])
    (hstep : ∀ i W r row, rows[i]? = some row → J i W → Rd W S r row → r.length = 9 → Vg.Inv Tryz.prog fv [.agg r.toArray] W (callR (fun b W' => ∃ bb, b = .bool bb ∧ (bb = false → J (i + 1) W') ∧ (bb = true → Jt W')) (fun _ _ => False))) :
    Rets Tryz.prog 108 [v, fv] w (fun r W' => (∃ n : Nat, r = .int .i64 (n : Int) ∧ Jt W') ∨ (r = .int .i64 (-1) ∧ J rows.length W')) := by
  obtain ⟨A, c, rfl, hl, -, -⟩ := (hrd 0 w h0).hd
  refine rets_of_ok Tryz.func108 rfl rfl ?_
  refine ok_seq (fun M hM => ok_region rfl ?_); repeat ((try subst X); (first | (first | apply zL | apply zH | apply zE); intro X hX | apply zh | apply zl | apply ze); try simp only [zU, reduceIte, Nat.reduceEqDiff, Nat.reduceAdd, reduceCtorEq, Q108])
  refine hM _ _ _ ?_; clear hM M
  refine ok_seq (fun M0 hM0 => ?_)
  refine ok_seq (fun M hM => ok_region rfl ?_); repeat ((try subst X); (first | (first | apply zL | apply zH | apply zE); intro X hX | apply zh | apply zl | apply ze); try simp only [zU, reduceIte, Nat.reduceEqDiff, Nat.reduceAdd, reduceCtorEq, Q108])
  refine hM _ _ _ ?_; clear hM M
  refine ok_for [(0, .slice A rows.length c), (1, fv)] (fun i W => J i W) rfl (by simp [sub, Env.get]) rfl (by simp [sub, Env.get]) hl h0 ?_ ?_
  · intro i W hi hJ
    have hx : rows[i]? = some rows[i] := List.getElem?_eq_getElem hi
    obtain ⟨k, o, r, hA, -, hkl, hcell, hr⟩ := (hrd i W hJ).row hx
    subst hA
    have hrl : r.length = 9 := by rw [hr.len]; exact hz _ (List.getElem_mem hi)
    rw [hz _ (List.getElem_mem hi)] at hcell
    refine ok_seq (fun M hM => ok_region rfl ?_); repeat ((try subst X); (first | (first | apply zL | apply zH | apply zE); intro X hX | apply zh | apply zl | apply ze); try simp only [zU, reduceIte, Nat.reduceEqDiff, Nat.reduceAdd, reduceCtorEq, Q108])
    refine hM _ _ _ ?_; clear hM M
    refine ok_seq (fun M hM => ok_region rfl ?_)
    repeat ((try subst X); (first | (first | apply zL | apply zH | apply zE); intro X hX | apply zh | apply zl | apply ze); try simp only [zU, reduceIte, Nat.reduceEqDiff, Nat.reduceAdd, reduceCtorEq, Q108])
    refine ⟨by omega, by omega, ?_⟩
    repeat ((try subst X); (first | (first | apply zL | apply zH | apply zE); intro X hX | apply zh | apply zl | apply ze); try simp only [zU, reduceIte, Nat.reduceEqDiff, Nat.reduceAdd, reduceCtorEq, Q108])
    refine ⟨r, hrl, by simpa [add_at] using hcell, ?_⟩
    repeat ((try subst X); (first | (first | apply zL | apply zH | apply zE); intro X hX | apply zh | apply zl | apply ze); try simp only [zU, reduceIte, Nat.reduceEqDiff, Nat.reduceAdd, reduceCtorEq, Q108])
    have hs := hstep i W _ _ hx hJ hr hrl
    refine Inv.mono' hs ?_ (fun _ _ h => h.elim)
    rintro _ W' ⟨bb, rfl, h1, h2⟩
    repeat ((try subst X); (first | (first | apply zL | apply zH | apply zE); intro X hX | apply zh | apply zl | apply ze); try simp only [zU, reduceIte, Nat.reduceEqDiff, Nat.reduceAdd, reduceCtorEq, Q108])
    refine hM _ _ _ ?_; clear hM M
    cases bb with
    | true =>
      refine ok_cond rfl (fun _ => ?_) (fun h => by cases h)
      refine ok_seq (fun M hM => ok_region rfl ?_); repeat ((try subst X); (first | (first | apply zL | apply zH | apply zE); intro X hX | apply zh | apply zl | apply ze); try simp only [zU, reduceIte, Nat.reduceEqDiff, Nat.reduceAdd, reduceCtorEq, Q108])
      refine hM _ _ _ ?_; clear hM M
      refine ok_ret ?_
      try simp only [zW, zU, reduceIte, Nat.reduceEqDiff, Nat.reduceAdd, reduceCtorEq, Q108]
      exact .inl ⟨i, rfl, h2 rfl⟩
    | false =>
      refine ok_cond rfl (fun h => by cases h) (fun _ => ok_skip ?_)
      try simp only [zW, zU, reduceIte, Nat.reduceEqDiff, Nat.reduceAdd, reduceCtorEq, Q108]
      exact ⟨by simp [sub, Env.get], h1 rfl⟩
  · intro W hJ
    refine hM0 _ _ _ ?_; clear hM0 M0
    refine ok_seq (fun M hM => ok_region rfl ?_); repeat ((try subst X); (first | (first | apply zL | apply zH | apply zE); intro X hX | apply zh | apply zl | apply ze); try simp only [zU, reduceIte, Nat.reduceEqDiff, Nat.reduceAdd, reduceCtorEq, Q108])
    refine hM _ _ _ ?_; clear hM M
    refine ok_ret ?_
    try simp only [zW, zU, reduceIte, Nat.reduceEqDiff, Nat.reduceAdd, reduceCtorEq, Q108]
    exact .inr hJ
-- -- function 63
theorem contains63 (w : World) (S : Nat → Prop) (v fv : Value) (rows : List (List D)) (J : Nat → World → Prop) (Jt : World → Prop) (hz : ∀ r ∈ rows, r.length = 9) (h0 : J 0 w) (hrd : ∀ i W, J i W → Rd W S [v] [.sl 128 rows])
    (hstep : ∀ i W r row, rows[i]? = some row → J i W → Rd W S r row → r.length = 9 → Vg.Inv Tryz.prog fv [.agg r.toArray] W (callR (fun b W' => ∃ bb, b = .bool bb ∧ (bb = false → J (i + 1) W') ∧ (bb = true → Jt W')) (fun _ _ => False))) :
    Rets Tryz.prog 63 [v, fv] w (fun r W' => (r = .bool true ∧ Jt W') ∨ (r = .bool false ∧ J rows.length W')) := by
  refine rets_of_ok Tryz.func63 rfl rfl ?_
  refine ok_seq (fun M hM => ok_region rfl ?_); repeat ((try subst X); (first | (first | apply zL | apply zH | apply zE); intro X hX | apply zh | apply zl | apply ze); try simp only [zU, reduceIte, Nat.reduceEqDiff, Nat.reduceAdd, reduceCtorEq, Q63])
  refine hM _ _ _ ?_; clear hM M
  refine ok_seq (fun M hM => ok_region rfl ?_)
  repeat ((try subst X); (first | (first | apply zL | apply zH | apply zE); intro X hX | apply zh | apply zl | apply ze); try simp only [zU, reduceIte, Nat.reduceEqDiff, Nat.reduceAdd, reduceCtorEq, Q63])
  refine Inv.call Fx.en108 (idx108 w S v fv rows J Jt hz h0 hrd hstep) ?_
  rintro _ W' (⟨n, rfl, hJ⟩ | ⟨rfl, hJ⟩)
  · repeat ((try subst X); (first | (first | apply zL | apply zH | apply zE); intro X hX | apply zh | apply zl | apply ze); try simp only [zU, reduceIte, Nat.reduceEqDiff, Nat.reduceAdd, reduceCtorEq, Q63])
    refine hM _ _ _ ?_; clear hM M
    refine ok_ret ?_
    try simp only [zW, zU, reduceIte, Nat.reduceEqDiff, Nat.reduceAdd, reduceCtorEq, Q63]
    exact .inl ⟨by simp, hJ⟩
  · repeat ((try subst X); (first | (first | apply zL | apply zH | apply zE); intro X hX | apply zh | apply zl | apply ze); try simp only [zU, reduceIte, Nat.reduceEqDiff, Nat.reduceAdd, reduceCtorEq, Q63])
    refine hM _ _ _ ?_; clear hM M
    refine ok_ret ?_
    try simp only [zW, zU, reduceIte, Nat.reduceEqDiff, Nat.reduceAdd, reduceCtorEq, Q63]
    exact .inr ⟨by simp, hJ⟩
-- -- function 107
set_option maxHeartbeats 2000000 in
set_option maxRecDepth 8000 in
theorem idx107 (w : World) (S : Nat → Prop) (v fv : Value) (rows : List (List D)) (J : Nat → World → Prop) (Jt : World → Prop) (hz : ∀ r ∈ rows, r.length = 1) (h0 : J 0 w) (hrd : ∀ i W, J i W → Rd W S [v] [.sl 24 rows])
    (hstep : ∀ i W r row, rows[i]? = some row → J i W → Rd W S r row → r.length = 1 → Vg.Inv Tryz.prog fv [r.headD undef] W (callR (fun b W' => ∃ bb, b = .bool bb ∧ (bb = false → J (i + 1) W') ∧ (bb = true → Jt W')) (fun _ _ => False))) :
    Rets Tryz.prog 107 [v, fv] w (fun r W' => (∃ n : Nat, r = .int .i64 (n : Int) ∧ Jt W') ∨ (r = .int .i64 (-1) ∧ J rows.length W')) := by
  obtain ⟨A, c, rfl, hl, -, -⟩ := (hrd 0 w h0).hd
  refine rets_of_ok Tryz.func107 rfl rfl ?_
  refine ok_seq (fun M hM => ok_region rfl ?_); repeat ((try subst X); (first | (first | apply zL | apply zH | apply zE); intro X hX | apply zh | apply zl | apply ze); try simp only [zU, reduceIte, Nat.reduceEqDiff, Nat.reduceAdd, reduceCtorEq, Q107])
  refine hM _ _ _ ?_; clear hM M
  refine ok_seq (fun M0 hM0 => ?_)
  refine ok_seq (fun M hM => ok_region rfl ?_); repeat ((try subst X); (first | (first | apply zL | apply zH | apply zE); intro X hX | apply zh | apply zl | apply ze); try simp only [zU, reduceIte, Nat.reduceEqDiff, Nat.reduceAdd, reduceCtorEq, Q107])
  refine hM _ _ _ ?_; clear hM M
  refine ok_for [(0, .slice A rows.length c), (1, fv)] (fun i W => J i W) rfl (by simp [sub, Env.get]) rfl (by simp [sub, Env.get]) hl h0 ?_ ?_
  · intro i W hi hJ
    have hx : rows[i]? = some rows[i] := List.getElem?_eq_getElem hi
    obtain ⟨k, o, r, hA, -, hkl, hcell, hr⟩ := (hrd i W hJ).row hx
    subst hA
    have hrl : r.length = 1 := by rw [hr.len]; exact hz _ (List.getElem_mem hi)
    rw [hz _ (List.getElem_mem hi)] at hcell
    refine ok_seq (fun M hM => ok_region rfl ?_); repeat ((try subst X); (first | (first | apply zL | apply zH | apply zE); intro X hX | apply zh | apply zl | apply ze); try simp only [zU, reduceIte, Nat.reduceEqDiff, Nat.reduceAdd, reduceCtorEq, Q107])
    refine hM _ _ _ ?_; clear hM M
    refine ok_seq (fun M hM => ok_region rfl ?_)
    repeat ((try subst X); (first | (first | apply zL | apply zH | apply zE); intro X hX | apply zh | apply zl | apply ze); try simp only [zU, reduceIte, Nat.reduceEqDiff, Nat.reduceAdd, reduceCtorEq, Q107])
    refine ⟨by omega, by omega, ?_⟩
    repeat ((try subst X); (first | (first | apply zL | apply zH | apply zE); intro X hX | apply zh | apply zl | apply ze); try simp only [zU, reduceIte, Nat.reduceEqDiff, Nat.reduceAdd, reduceCtorEq, Q107])
    obtain ⟨x, rfl⟩ := List.length_eq_one_iff.1 hrl
    refine ⟨x, by have := hcell 0 x rfl; simpa [add_at] using this, ?_⟩
    repeat ((try subst X); (first | (first | apply zL | apply zH | apply zE); intro X hX | apply zh | apply zl | apply ze); try simp only [zU, reduceIte, Nat.reduceEqDiff, Nat.reduceAdd, reduceCtorEq, Q107])
    have hs := hstep i W _ _ hx hJ hr hrl
    refine Inv.mono' hs ?_ (fun _ _ h => h.elim)
    rintro _ W' ⟨bb, rfl, h1, h2⟩
    repeat ((try subst X); (first | (first | apply zL | apply zH | apply zE); intro X hX | apply zh | apply zl | apply ze); try simp only [zU, reduceIte, Nat.reduceEqDiff, Nat.reduceAdd, reduceCtorEq, Q107])
    refine hM _ _ _ ?_; clear hM M
    cases bb with
    | true =>
      refine ok_cond rfl (fun _ => ?_) (fun h => by cases h)
      refine ok_seq (fun M hM => ok_region rfl ?_); repeat ((try subst X); (first | (first | apply zL | apply zH | apply zE); intro X hX | apply zh | apply zl | apply ze); try simp only [zU, reduceIte, Nat.reduceEqDiff, Nat.reduceAdd, reduceCtorEq, Q107])
      refine hM _ _ _ ?_; clear hM M
      refine ok_ret ?_
      try simp only [zW, zU, reduceIte, Nat.reduceEqDiff, Nat.reduceAdd, reduceCtorEq, Q107]
      exact .inl ⟨i, rfl, h2 rfl⟩
    | false =>
      refine ok_cond rfl (fun h => by cases h) (fun _ => ok_skip ?_)
      try simp only [zW, zU, reduceIte, Nat.reduceEqDiff, Nat.reduceAdd, reduceCtorEq, Q107]
      exact ⟨by simp [sub, Env.get], h1 rfl⟩
  · intro W hJ
    refine hM0 _ _ _ ?_; clear hM0 M0
    refine ok_seq (fun M hM => ok_region rfl ?_); repeat ((try subst X); (first | (first | apply zL | apply zH | apply zE); intro X hX | apply zh | apply zl | apply ze); try simp only [zU, reduceIte, Nat.reduceEqDiff, Nat.reduceAdd, reduceCtorEq, Q107])
    refine hM _ _ _ ?_; clear hM M
    refine ok_ret ?_
    try simp only [zW, zU, reduceIte, Nat.reduceEqDiff, Nat.reduceAdd, reduceCtorEq, Q107]
    exact .inr hJ
-- -- function 61
theorem contains61 (w : World) (S : Nat → Prop) (v fv : Value) (rows : List (List D)) (J : Nat → World → Prop) (Jt : World → Prop) (hz : ∀ r ∈ rows, r.length = 1) (h0 : J 0 w) (hrd : ∀ i W, J i W → Rd W S [v] [.sl 24 rows])
    (hstep : ∀ i W r row, rows[i]? = some row → J i W → Rd W S r row → r.length = 1 → Vg.Inv Tryz.prog fv [r.headD undef] W (callR (fun b W' => ∃ bb, b = .bool bb ∧ (bb = false → J (i + 1) W') ∧ (bb = true → Jt W')) (fun _ _ => False))) :
    Rets Tryz.prog 61 [v, fv] w (fun r W' => (r = .bool true ∧ Jt W') ∨ (r = .bool false ∧ J rows.length W')) := by
  refine rets_of_ok Tryz.func61 rfl rfl ?_
  refine ok_seq (fun M hM => ok_region rfl ?_); repeat ((try subst X); (first | (first | apply zL | apply zH | apply zE); intro X hX | apply zh | apply zl | apply ze); try simp only [zU, reduceIte, Nat.reduceEqDiff, Nat.reduceAdd, reduceCtorEq, Q61])
  refine hM _ _ _ ?_; clear hM M
  refine ok_seq (fun M hM => ok_region rfl ?_)
  repeat ((try subst X); (first | (first | apply zL | apply zH | apply zE); intro X hX | apply zh | apply zl | apply ze); try simp only [zU, reduceIte, Nat.reduceEqDiff, Nat.reduceAdd, reduceCtorEq, Q61])
  refine Inv.call Fx.en107 (idx107 w S v fv rows J Jt hz h0 hrd hstep) ?_
  rintro _ W' (⟨n, rfl, hJ⟩ | ⟨rfl, hJ⟩)
  · repeat ((try subst X); (first | (first | apply zL | apply zH | apply zE); intro X hX | apply zh | apply zl | apply ze); try simp only [zU, reduceIte, Nat.reduceEqDiff, Nat.reduceAdd, reduceCtorEq, Q61])
    refine hM _ _ _ ?_; clear hM M
    refine ok_ret ?_
    try simp only [zW, zU, reduceIte, Nat.reduceEqDiff, Nat.reduceAdd, reduceCtorEq, Q61]
    exact .inl ⟨by simp, hJ⟩
  · repeat ((try subst X); (first | (first | apply zL | apply zH | apply zE); intro X hX | apply zh | apply zl | apply ze); try simp only [zU, reduceIte, Nat.reduceEqDiff, Nat.reduceAdd, reduceCtorEq, Q61])
    refine hM _ _ _ ?_; clear hM M
    refine ok_ret ?_
    try simp only [zW, zU, reduceIte, Nat.reduceEqDiff, Nat.reduceAdd, reduceCtorEq, Q61]
    exact .inr ⟨by simp, hJ⟩
-- -- function 97
set_option maxHeartbeats 2000000 in
set_option maxRecDepth 8000 in
theorem idx97 (w : World) (S : Nat → Prop) (v fv : Value) (rows : List (List D)) (J : Nat → World → Prop) (Jt : World → Prop) (hz : ∀ r ∈ rows, r.length = 4) (h0 : J 0 w) (hrd : ∀ i W, J i W → Rd W S [v] [.sl 64 rows])
    (hstep : ∀ i W r row, rows[i]? = some row → J i W → Rd W S r row → r.length = 4 → Vg.Inv Tryz.prog fv [.agg r.toArray] W (callR (fun b W' => ∃ bb, b = .bool bb ∧ (bb = false → J (i + 1) W') ∧ (bb = true → Jt W')) (fun _ _ => False))) :
    Rets Tryz.prog 97 [v, fv] w (fun r W' => (∃ n : Nat, r = .int .i64 (n : Int) ∧ Jt W') ∨ (r = .int .i64 (-1) ∧ J rows.length W')) := by
  obtain ⟨A, c, rfl, hl, -, -⟩ := (hrd 0 w h0).hd
  refine rets_of_ok Tryz.func97 rfl rfl ?_
  refine ok_seq (fun M hM => ok_region rfl ?_); repeat ((try subst X); (first | (first | apply zL | apply zH | apply zE); intro X hX | apply zh | apply zl | apply ze); try simp only [zU, reduceIte, Nat.reduceEqDiff, Nat.reduceAdd, reduceCtorEq, Q97])
  refine hM _ _ _ ?_; clear hM M
  refine ok_seq (fun M0 hM0 => ?_)
  refine ok_seq (fun M hM => ok_region rfl ?_); repeat ((try subst X); (first | (first | apply zL | apply zH | apply zE); intro X hX | apply zh | apply zl | apply ze); try simp only [zU, reduceIte, Nat.reduceEqDiff, Nat.reduceAdd, reduceCtorEq, Q97])
  refine hM _ _ _ ?_; clear hM M
  refine ok_for [(0, .slice A rows.length c), (1, fv)] (fun i W => J i W) rfl (by simp [sub, Env.get]) rfl (by simp [sub, Env.get]) hl h0 ?_ ?_
  · intro i W hi hJ
    have hx : rows[i]? = some rows[i] := List.getElem?_eq_getElem hi
    obtain ⟨k, o, r, hA, -, hkl, hcell, hr⟩ := (hrd i W hJ).row hx
    subst hA
    have hrl : r.length = 4 := by rw [hr.len]; exact hz _ (List.getElem_mem hi)
    rw [hz _ (List.getElem_mem hi)] at hcell
    refine ok_seq (fun M hM => ok_region rfl ?_); repeat ((try subst X); (first | (first | apply zL | apply zH | apply zE); intro X hX | apply zh | apply zl | apply ze); try simp only [zU, reduceIte, Nat.reduceEqDiff, Nat.reduceAdd, reduceCtorEq, Q97])
    refine hM _ _ _ ?_; clear hM M
    refine ok_seq (fun M hM => ok_region rfl ?_)
    repeat ((try subst X); (first | (first | apply zL | apply zH | apply zE); intro X hX | apply zh | apply zl | apply ze); try simp only [zU, reduceIte, Nat.reduceEqDiff, Nat.reduceAdd, reduceCtorEq, Q97])
    refine ⟨by omega, by omega, ?_⟩
    repeat ((try subst X); (first | (first | apply zL | apply zH | apply zE); intro X hX | apply zh | apply zl | apply ze); try simp only [zU, reduceIte, Nat.reduceEqDiff, Nat.reduceAdd, reduceCtorEq, Q97])
    refine ⟨r, hrl, by simpa [add_at] using hcell, ?_⟩
    repeat ((try subst X); (first | (first | apply zL | apply zH | apply zE); intro X hX | apply zh | apply zl | apply ze); try simp only [zU, reduceIte, Nat.reduceEqDiff, Nat.reduceAdd, reduceCtorEq, Q97])
    have hs := hstep i W _ _ hx hJ hr hrl
    refine Inv.mono' hs ?_ (fun _ _ h => h.elim)
    rintro _ W' ⟨bb, rfl, h1, h2⟩
    repeat ((try subst X); (first | (first | apply zL | apply zH | apply zE); intro X hX | apply zh | apply zl | apply ze); try simp only [zU, reduceIte, Nat.reduceEqDiff, Nat.reduceAdd, reduceCtorEq, Q97])
    refine hM _ _ _ ?_; clear hM M
    cases bb with
    | true =>
      refine ok_cond rfl (fun _ => ?_) (fun h => by cases h)
      refine ok_seq (fun M hM => ok_region rfl ?_); repeat ((try subst X); (first | (first | apply zL | apply zH | apply zE); intro X hX | apply zh | apply zl | apply ze); try simp only [zU, reduceIte, Nat.reduceEqDiff, Nat.reduceAdd, reduceCtorEq, Q97])
      refine hM _ _ _ ?_; clear hM M
      refine ok_ret ?_
      try simp only [zW, zU, reduceIte, Nat.reduceEqDiff, Nat.reduceAdd, reduceCtorEq, Q97]
      exact .inl ⟨i, rfl, h2 rfl⟩
    | false =>
      refine ok_cond rfl (fun h => by cases h) (fun _ => ok_skip ?_)
      try simp only [zW, zU, reduceIte, Nat.reduceEqDiff, Nat.reduceAdd, reduceCtorEq, Q97]
      exact ⟨by simp [sub, Env.get], h1 rfl⟩
  · intro W hJ
    refine hM0 _ _ _ ?_; clear hM0 M0
    refine ok_seq (fun M hM => ok_region rfl ?_); repeat ((try subst X); (first | (first | apply zL | apply zH | apply zE); intro X hX | apply zh | apply zl | apply ze); try simp only [zU, reduceIte, Nat.reduceEqDiff, Nat.reduceAdd, reduceCtorEq, Q97])
    refine hM _ _ _ ?_; clear hM M
    refine ok_ret ?_
    try simp only [zW, zU, reduceIte, Nat.reduceEqDiff, Nat.reduceAdd, reduceCtorEq, Q97]
    exact .inr hJ
-- -- function 47
theorem contains47 (w : World) (S : Nat → Prop) (v fv : Value) (rows : List (List D)) (J : Nat → World → Prop) (Jt : World → Prop) (hz : ∀ r ∈ rows, r.length = 4) (h0 : J 0 w) (hrd : ∀ i W, J i W → Rd W S [v] [.sl 64 rows])
    (hstep : ∀ i W r row, rows[i]? = some row → J i W → Rd W S r row → r.length = 4 → Vg.Inv Tryz.prog fv [.agg r.toArray] W (callR (fun b W' => ∃ bb, b = .bool bb ∧ (bb = false → J (i + 1) W') ∧ (bb = true → Jt W')) (fun _ _ => False))) :
    Rets Tryz.prog 47 [v, fv] w (fun r W' => (r = .bool true ∧ Jt W') ∨ (r = .bool false ∧ J rows.length W')) := by
  refine rets_of_ok Tryz.func47 rfl rfl ?_
  refine ok_seq (fun M hM => ok_region rfl ?_); repeat ((try subst X); (first | (first | apply zL | apply zH | apply zE); intro X hX | apply zh | apply zl | apply ze); try simp only [zU, reduceIte, Nat.reduceEqDiff, Nat.reduceAdd, reduceCtorEq, Q47])
  refine hM _ _ _ ?_; clear hM M
  refine ok_seq (fun M hM => ok_region rfl ?_)
  repeat ((try subst X); (first | (first | apply zL | apply zH | apply zE); intro X hX | apply zh | apply zl | apply ze); try simp only [zU, reduceIte, Nat.reduceEqDiff, Nat.reduceAdd, reduceCtorEq, Q47])
  refine Inv.call Fx.en97 (idx97 w S v fv rows J Jt hz h0 hrd hstep) ?_
  rintro _ W' (⟨n, rfl, hJ⟩ | ⟨rfl, hJ⟩)
  · repeat ((try subst X); (first | (first | apply zL | apply zH | apply zE); intro X hX | apply zh | apply zl | apply ze); try simp only [zU, reduceIte, Nat.reduceEqDiff, Nat.reduceAdd, reduceCtorEq, Q47])
    refine hM _ _ _ ?_; clear hM M
    refine ok_ret ?_
    try simp only [zW, zU, reduceIte, Nat.reduceEqDiff, Nat.reduceAdd, reduceCtorEq, Q47]
    exact .inl ⟨by simp, hJ⟩
  · repeat ((try subst X); (first | (first | apply zL | apply zH | apply zE); intro X hX | apply zh | apply zl | apply ze); try simp only [zU, reduceIte, Nat.reduceEqDiff, Nat.reduceAdd, reduceCtorEq, Q47])
    refine hM _ _ _ ?_; clear hM M
    refine ok_ret ?_
    try simp only [zW, zU, reduceIte, Nat.reduceEqDiff, Nat.reduceAdd, reduceCtorEq, Q47]
    exact .inr ⟨by simp, hJ⟩
-- -- function 59
set_option maxHeartbeats 2000000 in
set_option maxRecDepth 8000 in
theorem idx59 (w : World) (S : Nat → Prop) (v fv : Value) (rows : List (List D)) (J : Nat → World → Prop) (Jt : World → Prop) (hz : ∀ r ∈ rows, r.length = 17) (h0 : J 0 w) (hrd : ∀ i W, J i W → Rd W S [v] [.sl 256 rows])
    (hstep : ∀ i W r row, rows[i]? = some row → J i W → Rd W S r row → r.length = 17 → Vg.Inv Tryz.prog fv [.agg r.toArray] W (callR (fun b W' => ∃ bb, b = .bool bb ∧ (bb = false → J (i + 1) W') ∧ (bb = true → Jt W')) (fun _ _ => False))) :
    Rets Tryz.prog 59 [v, fv] w (fun r W' => (∃ n : Nat, r = .int .i64 (n : Int) ∧ Jt W') ∨ (r = .int .i64 (-1) ∧ J rows.length W')) := by
  obtain ⟨A, c, rfl, hl, -, -⟩ := (hrd 0 w h0).hd
  refine rets_of_ok Tryz.func59 rfl rfl ?_
  refine ok_seq (fun M hM => ok_region rfl ?_); repeat ((try subst X); (first | (first | apply zL | apply zH | apply zE); intro X hX | apply zh | apply zl | apply ze); try simp only [zU, reduceIte, Nat.reduceEqDiff, Nat.reduceAdd, reduceCtorEq, Q59])
  refine hM _ _ _ ?_; clear hM M
  refine ok_seq (fun M0 hM0 => ?_)
  refine ok_seq (fun M hM => ok_region rfl ?_); repeat ((try subst X); (first | (first | apply zL | apply zH | apply zE); intro X hX | apply zh | apply zl | apply ze); try simp only [zU, reduceIte, Nat.reduceEqDiff, Nat.reduceAdd, reduceCtorEq, Q59])
  refine hM _ _ _ ?_; clear hM M
  refine ok_for [(0, .slice A rows.length c), (1, fv)] (fun i W => J i W) rfl (by simp [sub, Env.get]) rfl (by simp [sub, Env.get]) hl h0 ?_ ?_
  · intro i W hi hJ
    have hx : rows[i]? = some rows[i] := List.getElem?_eq_getElem hi
    obtain ⟨k, o, r, hA, -, hkl, hcell, hr⟩ := (hrd i W hJ).row hx
    subst hA
    have hrl : r.length = 17 := by rw [hr.len]; exact hz _ (List.getElem_mem hi)
    rw [hz _ (List.getElem_mem hi)] at hcell
    refine ok_seq (fun M hM => ok_region rfl ?_); repeat ((try subst X); (first | (first | apply zL | apply zH | apply zE); intro X hX | apply zh | apply zl | apply ze); try simp only [zU, reduceIte, Nat.reduceEqDiff, Nat.reduceAdd, reduceCtorEq, Q59])
    refine hM _ _ _ ?_; clear hM M
    refine ok_seq (fun M hM => ok_region rfl ?_)
    repeat ((try subst X); (first | (first | apply zL | apply zH | apply zE); intro X hX | apply zh | apply zl | apply ze); try simp only [zU, reduceIte, Nat.reduceEqDiff, Nat.reduceAdd, reduceCtorEq, Q59])
    refine ⟨by omega, by omega, ?_⟩
    repeat ((try subst X); (first | (first | apply zL | apply zH | apply zE); intro X hX | apply zh | apply zl | apply ze); try simp only [zU, reduceIte, Nat.reduceEqDiff, Nat.reduceAdd, reduceCtorEq, Q59])
    refine ⟨r, hrl, by simpa [add_at] using hcell, ?_⟩
    repeat ((try subst X); (first | (first | apply zL | apply zH | apply zE); intro X hX | apply zh | apply zl | apply ze); try simp only [zU, reduceIte, Nat.reduceEqDiff, Nat.reduceAdd, reduceCtorEq, Q59])
    have hs := hstep i W _ _ hx hJ hr hrl
    refine Inv.mono' hs ?_ (fun _ _ h => h.elim)
    rintro _ W' ⟨bb, rfl, h1, h2⟩
    repeat ((try subst X); (first | (first | apply zL | apply zH | apply zE); intro X hX | apply zh | apply zl | apply ze); try simp only [zU, reduceIte, Nat.reduceEqDiff, Nat.reduceAdd, reduceCtorEq, Q59])
    refine hM _ _ _ ?_; clear hM M
    cases bb with
    | true =>
      refine ok_cond rfl (fun _ => ?_) (fun h => by cases h)
      refine ok_seq (fun M hM => ok_region rfl ?_); repeat ((try subst X); (first | (first | apply zL | apply zH | apply zE); intro X hX | apply zh | apply zl | apply ze); try simp only [zU, reduceIte, Nat.reduceEqDiff, Nat.reduceAdd, reduceCtorEq, Q59])
      refine hM _ _ _ ?_; clear hM M
      refine ok_ret ?_
      try simp only [zW, zU, reduceIte, Nat.reduceEqDiff, Nat.reduceAdd, reduceCtorEq, Q59]
      exact .inl ⟨i, rfl, h2 rfl⟩
    | false =>
      refine ok_cond rfl (fun h => by cases h) (fun _ => ok_skip ?_)
      try simp only [zW, zU, reduceIte, Nat.reduceEqDiff, Nat.reduceAdd, reduceCtorEq, Q59]
      exact ⟨by simp [sub, Env.get], h1 rfl⟩
  · intro W hJ
    refine hM0 _ _ _ ?_; clear hM0 M0
    refine ok_seq (fun M hM => ok_region rfl ?_); repeat ((try subst X); (first | (first | apply zL | apply zH | apply zE); intro X hX | apply zh | apply zl | apply ze); try simp only [zU, reduceIte, Nat.reduceEqDiff, Nat.reduceAdd, reduceCtorEq, Q59])
    refine hM _ _ _ ?_; clear hM M
    refine ok_ret ?_
    try simp only [zW, zU, reduceIte, Nat.reduceEqDiff, Nat.reduceAdd, reduceCtorEq, Q59]
    exact .inr hJ
-- -- function 22
theorem contains22 (w : World) (S : Nat → Prop) (v fv : Value) (rows : List (List D)) (J : Nat → World → Prop) (Jt : World → Prop) (hz : ∀ r ∈ rows, r.length = 17) (h0 : J 0 w) (hrd : ∀ i W, J i W → Rd W S [v] [.sl 256 rows])
    (hstep : ∀ i W r row, rows[i]? = some row → J i W → Rd W S r row → r.length = 17 → Vg.Inv Tryz.prog fv [.agg r.toArray] W (callR (fun b W' => ∃ bb, b = .bool bb ∧ (bb = false → J (i + 1) W') ∧ (bb = true → Jt W')) (fun _ _ => False))) :
    Rets Tryz.prog 22 [v, fv] w (fun r W' => (r = .bool true ∧ Jt W') ∨ (r = .bool false ∧ J rows.length W')) := by
  refine rets_of_ok Tryz.func22 rfl rfl ?_
  refine ok_seq (fun M hM => ok_region rfl ?_); repeat ((try subst X); (first | (first | apply zL | apply zH | apply zE); intro X hX | apply zh | apply zl | apply ze); try simp only [zU, reduceIte, Nat.reduceEqDiff, Nat.reduceAdd, reduceCtorEq, Q22])
  refine hM _ _ _ ?_; clear hM M
  refine ok_seq (fun M hM => ok_region rfl ?_)
  repeat ((try subst X); (first | (first | apply zL | apply zH | apply zE); intro X hX | apply zh | apply zl | apply ze); try simp only [zU, reduceIte, Nat.reduceEqDiff, Nat.reduceAdd, reduceCtorEq, Q22])
  refine Inv.call Fx.en59 (idx59 w S v fv rows J Jt hz h0 hrd hstep) ?_
  rintro _ W' (⟨n, rfl, hJ⟩ | ⟨rfl, hJ⟩)
  · repeat ((try subst X); (first | (first | apply zL | apply zH | apply zE); intro X hX | apply zh | apply zl | apply ze); try simp only [zU, reduceIte, Nat.reduceEqDiff, Nat.reduceAdd, reduceCtorEq, Q22])
    refine hM _ _ _ ?_; clear hM M
    refine ok_ret ?_
    try simp only [zW, zU, reduceIte, Nat.reduceEqDiff, Nat.reduceAdd, reduceCtorEq, Q22]
    exact .inl ⟨by simp, hJ⟩
  · repeat ((try subst X); (first | (first | apply zL | apply zH | apply zE); intro X hX | apply zh | apply zl | apply ze); try simp only [zU, reduceIte, Nat.reduceEqDiff, Nat.reduceAdd, reduceCtorEq, Q22])
    refine hM _ _ _ ?_; clear hM M
    refine ok_ret ?_
    try simp only [zW, zU, reduceIte, Nat.reduceEqDiff, Nat.reduceAdd, reduceCtorEq, Q22]
    exact .inr ⟨by simp, hJ⟩
-- -- function 156
set_option maxHeartbeats 2000000 in
set_option maxRecDepth 8000 in
theorem idx156 (w : World) (S : Nat → Prop) (v fv : Value) (rows : List (List D)) (J : Nat → World → Prop) (Jt : World → Prop) (hz : ∀ r ∈ rows, r.length = 3) (h0 : J 0 w) (hrd : ∀ i W, J i W → Rd W S [v] [.sl 48 rows])
    (hstep : ∀ i W r row, rows[i]? = some row → J i W → Rd W S r row → r.length = 3 → Vg.Inv Tryz.prog fv [.agg r.toArray] W (callR (fun b W' => ∃ bb, b = .bool bb ∧ (bb = false → J (i + 1) W') ∧ (bb = true → Jt W')) (fun _ _ => False))) :
    Rets Tryz.prog 156 [v, fv] w (fun r W' => (∃ n : Nat, r = .int .i64 (n : Int) ∧ Jt W') ∨ (r = .int .i64 (-1) ∧ J rows.length W')) := by
  obtain ⟨A, c, rfl, hl, -, -⟩ := (hrd 0 w h0).hd
  refine rets_of_ok Tryz.func156 rfl rfl ?_
  refine ok_seq (fun M hM => ok_region rfl ?_); repeat ((try subst X); (first | (first | apply zL | apply zH | apply zE); intro X hX | apply zh | apply zl | apply ze); try simp only [zU, reduceIte, Nat.reduceEqDiff, Nat.reduceAdd, reduceCtorEq, Q156])
  refine hM _ _ _ ?_; clear hM M
  refine ok_seq (fun M0 hM0 => ?_)
  refine ok_seq (fun M hM => ok_region rfl ?_); repeat ((try subst X); (first | (first | apply zL | apply zH | apply zE); intro X hX | apply zh | apply zl | apply ze); try simp only [zU, reduceIte, Nat.reduceEqDiff, Nat.reduceAdd, reduceCtorEq, Q156])
  refine hM _ _ _ ?_; clear hM M
  refine ok_for [(0, .slice A rows.length c), (1, fv)] (fun i W => J i W) rfl (by simp [sub, Env.get]) rfl (by simp [sub, Env.get]) hl h0 ?_ ?_
  · intro i W hi hJ
    have hx : rows[i]? = some rows[i] := List.getElem?_eq_getElem hi
    obtain ⟨k, o, r, hA, -, hkl, hcell, hr⟩ := (hrd i W hJ).row hx
    subst hA
    have hrl : r.length = 3 := by rw [hr.len]; exact hz _ (List.getElem_mem hi)
    rw [hz _ (List.getElem_mem hi)] at hcell
    refine ok_seq (fun M hM => ok_region rfl ?_); repeat ((try subst X); (first | (first | apply zL | apply zH | apply zE); intro X hX | apply zh | apply zl | apply ze); try simp only [zU, reduceIte, Nat.reduceEqDiff, Nat.reduceAdd, reduceCtorEq, Q156])
    refine hM _ _ _ ?_; clear hM M
    refine ok_seq (fun M hM => ok_region rfl ?_)
    repeat ((try subst X); (first | (first | apply zL | apply zH | apply zE); intro X hX | apply zh | apply zl | apply ze); try simp only [zU, reduceIte, Nat.reduceEqDiff, Nat.reduceAdd, reduceCtorEq, Q156])
    refine ⟨by omega, by omega, ?_⟩
    repeat ((try subst X); (first | (first | apply zL | apply zH | apply zE); intro X hX | apply zh | apply zl | apply ze); try simp only [zU, reduceIte, Nat.reduceEqDiff, Nat.reduceAdd, reduceCtorEq, Q156])
    refine ⟨r, hrl, by simpa [add_at] using hcell, ?_⟩
    repeat ((try subst X); (first | (first | apply zL | apply zH | apply zE); intro X hX | apply zh | apply zl | apply ze); try simp only [zU, reduceIte, Nat.reduceEqDiff, Nat.reduceAdd, reduceCtorEq, Q156])
    have hs := hstep i W _ _ hx hJ hr hrl
    refine Inv.mono' hs ?_ (fun _ _ h => h.elim)
    rintro _ W' ⟨bb, rfl, h1, h2⟩
    repeat ((try subst X); (first | (first | apply zL | apply zH | apply zE); intro X hX | apply zh | apply zl | apply ze); try simp only [zU, reduceIte, Nat.reduceEqDiff, Nat.reduceAdd, reduceCtorEq, Q156])
    refine hM _ _ _ ?_; clear hM M
    cases bb with
    | true =>
      refine ok_cond rfl (fun _ => ?_) (fun h => by cases h)
      refine ok_seq (fun M hM => ok_region rfl ?_); repeat ((try subst X); (first | (first | apply zL | apply zH | apply zE); intro X hX | apply zh | apply zl | apply ze); try simp only [zU, reduceIte, Nat.reduceEqDiff, Nat.reduceAdd, reduceCtorEq, Q156])
      refine hM _ _ _ ?_; clear hM M
      refine ok_ret ?_
      try simp only [zW, zU, reduceIte, Nat.reduceEqDiff, Nat.reduceAdd, reduceCtorEq, Q156]
      exact .inl ⟨i, rfl, h2 rfl⟩
    | false =>
      refine ok_cond rfl (fun h => by cases h) (fun _ => ok_skip ?_)
      try simp only [zW, zU, reduceIte, Nat.reduceEqDiff, Nat.reduceAdd, reduceCtorEq, Q156]
      exact ⟨by simp [sub, Env.get], h1 rfl⟩
  · intro W hJ
    refine hM0 _ _ _ ?_; clear hM0 M0
    refine ok_seq (fun M hM => ok_region rfl ?_); repeat ((try subst X); (first | (first | apply zL | apply zH | apply zE); intro X hX | apply zh | apply zl | apply ze); try simp only [zU, reduceIte, Nat.reduceEqDiff, Nat.reduceAdd, reduceCtorEq, Q156])
    refine hM _ _ _ ?_; clear hM M
    refine ok_ret ?_
    try simp only [zW, zU, reduceIte, Nat.reduceEqDiff, Nat.reduceAdd, reduceCtorEq, Q156]
    exact .inr hJ
-- -- function 98
theorem contains98 (w : World) (S : Nat → Prop) (v fv : Value) (rows : List (List D)) (J : Nat → World → Prop) (Jt : World → Prop) (hz : ∀ r ∈ rows, r.length = 3) (h0 : J 0 w) (hrd : ∀ i W, J i W → Rd W S [v] [.sl 48 rows])
    (hstep : ∀ i W r row, rows[i]? = some row → J i W → Rd W S r row → r.length = 3 → Vg.Inv Tryz.prog fv [.agg r.toArray] W (callR (fun b W' => ∃ bb, b = .bool bb ∧ (bb = false → J (i + 1) W') ∧ (bb = true → Jt W')) (fun _ _ => False))) :
    Rets Tryz.prog 98 [v, fv] w (fun r W' => (r = .bool true ∧ Jt W') ∨ (r = .bool false ∧ J rows.length W')) := by
  refine rets_of_ok Tryz.func98 rfl rfl ?_
  refine ok_seq (fun M hM => ok_region rfl ?_); repeat ((try subst X); (first | (first | apply zL | apply zH | apply zE); intro X hX | apply zh | apply zl | apply ze); try simp only [zU, reduceIte, Nat.reduceEqDiff, Nat.reduceAdd, reduceCtorEq, Q98])
  refine hM _ _ _ ?_; clear hM M
  refine ok_seq (fun M hM => ok_region rfl ?_)
  repeat ((try subst X); (first | (first | apply zL | apply zH | apply zE); intro X hX | apply zh | apply zl | apply ze); try simp only [zU, reduceIte, Nat.reduceEqDiff, Nat.reduceAdd, reduceCtorEq, Q98])
  refine Inv.call Fx.en156 (idx156 w S v fv rows J Jt hz h0 hrd hstep) ?_
  rintro _ W' (⟨n, rfl, hJ⟩ | ⟨rfl, hJ⟩)
  · repeat ((try subst X); (first | (first | apply zL | apply zH | apply zE); intro X hX | apply zh | apply zl | apply ze); try simp only [zU, reduceIte, Nat.reduceEqDiff, Nat.reduceAdd, reduceCtorEq, Q98])
    refine hM _ _ _ ?_; clear hM M
    refine ok_ret ?_
    try simp only [zW, zU, reduceIte, Nat.reduceEqDiff, Nat.reduceAdd, reduceCtorEq, Q98]
    exact .inl ⟨by simp, hJ⟩
  · repeat ((try subst X); (first | (first | apply zL | apply zH | apply zE); intro X hX | apply zh | apply zl | apply ze); try simp only [zU, reduceIte, Nat.reduceEqDiff, Nat.reduceAdd, reduceCtorEq, Q98])
    refine hM _ _ _ ?_; clear hM M
    refine ok_ret ?_
    try simp only [zW, zU, reduceIte, Nat.reduceEqDiff, Nat.reduceAdd, reduceCtorEq, Q98]
    exact .inr ⟨by simp, hJ⟩
end Go.Proofs.YtcpjojaklpgnkaaGreat
/- Chapter 31: the reference's own, Occurs, CopyGoal, Find.  -/
set_option linter.unusedVariables false
set_option linter.unusedSimpArgs false
namespace Go.Proofs.YtcpjojaklpgnkaaGreat
open Go Go.Proofs.Vg Go.RowKit
theorem get_sub {i : Nat} {v : Value} {K : Env} {L : Env} (h : sub ((i, v) :: L) K) : K.get i = some v := h.1
-- -- function 54
set_option maxHeartbeats 2000000 in
set_option maxRecDepth 8000 in
theorem rown_ok (w : World) (S : Nat → Prop) (cs : List Value) (g : G) (v : Int) (h : Rd w S cs (encG g)) : Rets Tryz.prog 54 [.agg cs.toArray, .int .i64 v] w (fun r w' => r = .bool (ownG g v) ∧ Ext w w') := by
  obtain ⟨Aa, ca, Ak, ck, Ac, cc, rfl, ha, -, -⟩ := rdG h
  obtain ⟨_, _, hA, hal, hae⟩ := ha.ints
  injection hA with hA1 _ hA2
  subst hA1 hA2
  refine rets_of_ok Tryz.func54 rfl rfl ?_
  refine ok_seq (fun M hM => ok_region rfl ?_)
  repeat ((try subst X); (first | (first | apply zL | apply zH | apply zE); intro X hX | apply zh | apply zl | apply ze); try simp only [zU, reduceIte, Nat.reduceEqDiff, Nat.reduceAdd, reduceCtorEq, Q54])
  refine Runs.box (fun w1 he1 hs1 hb1 => ?_)
  rw [agg_cells] at hb1
  repeat ((try subst X); (first | (first | apply zL | apply zH | apply zE); intro X hX | apply zh | apply zl | apply ze); try simp only [zU, reduceIte, Nat.reduceEqDiff, Nat.reduceAdd, reduceCtorEq, Q54])
  refine hM _ _ _ ?_; clear hM M
  refine ok_seq (fun M0 hM0 => ok_seq (fun M hM => ok_region rfl ?_))
  repeat ((try subst X); (first | (first | apply zL | apply zH | apply zE); intro X hX | apply zh | apply zl | apply ze); try simp only [zU, reduceIte, Nat.reduceEqDiff, Nat.reduceAdd, reduceCtorEq, Q54])
  refine ⟨_, Blk.cell (by assumption) rfl, ?_⟩
  repeat ((try subst X); (first | (first | apply zL | apply zH | apply zE); intro X hX | apply zh | apply zl | apply ze); try simp only [zU, reduceIte, Nat.reduceEqDiff, Nat.reduceAdd, reduceCtorEq, Q54])
  refine hM _ _ _ ?_; clear hM M
  refine ok_if rfl (fun he => ?_) (fun he => ok_skip ?_)
  · refine ok_seq (fun M hM => ok_region rfl ?_); repeat ((try subst X); (first | (first | apply zL | apply zH | apply zE); intro X hX | apply zh | apply zl | apply ze); try simp only [zU, reduceIte, Nat.reduceEqDiff, Nat.reduceAdd, reduceCtorEq, Q54])
    refine hM _ _ _ ?_; clear hM M
    refine ok_ret ?_
    try simp only [zW, zU, reduceIte, Nat.reduceEqDiff, Nat.reduceAdd, reduceCtorEq, Q54]
    exact ⟨by simp [ownG, he], he1⟩
  · refine hM0 _ _ _ ?_; clear hM0 M0
    refine ok_seq (fun M0 hM0 => ?_)
    refine ok_seq (fun M hM => ok_region rfl ?_); repeat ((try subst X); (first | (first | apply zL | apply zH | apply zE); intro X hX | apply zh | apply zl | apply ze); try simp only [zU, reduceIte, Nat.reduceEqDiff, Nat.reduceAdd, reduceCtorEq, Q54])
    refine hM _ _ _ ?_; clear hM M
    refine ok_while g.args.length [(1, .int .i64 v), (2, .pointer (some ⟨w.heap.size, 0, none⟩))] (fun i W => W = w1 ∧ ∀ (j : Nat) (x : Int), j < i → g.args[j]? = some x → x ≠ v) (fun i W => W = w1 ∧ ∀ (j : Nat) (x : Int), j < i → g.args[j]? = some x → x ≠ v) rfl rfl (by simp [sub, Env.get]) hal ⟨rfl, fun j x h => by omega⟩ ?_ ?_
    · rintro i W hi ⟨rfl, hno⟩
      refine ok_region rfl ?_
      repeat ((try subst X); (first | (first | apply zL | apply zH | apply zE); intro X hX | apply zh | apply zl | apply ze); try simp only [zU, reduceIte, Nat.reduceEqDiff, Nat.reduceAdd, reduceCtorEq, Q54])
      refine ⟨_, Blk.cell (by assumption) rfl, ?_⟩
      repeat ((try subst X); (first | (first | apply zL | apply zH | apply zE); intro X hX | apply zh | apply zl | apply ze); try simp only [zU, reduceIte, Nat.reduceEqDiff, Nat.reduceAdd, reduceCtorEq, Q54])
      refine ⟨by simp [sub, Env.get], wh (fun hlt => hno) (fun hge => ?_)⟩
      refine hM0 _ _ _ ?_; clear hM0 M0
      refine ok_seq (fun M hM => ok_region rfl ?_); repeat ((try subst X); (first | (first | apply zL | apply zH | apply zE); intro X hX | apply zh | apply zl | apply ze); try simp only [zU, reduceIte, Nat.reduceEqDiff, Nat.reduceAdd, reduceCtorEq, Q54])
      refine hM _ _ _ ?_; clear hM M
      refine ok_ret ?_
      try simp only [zW, zU, reduceIte, Nat.reduceEqDiff, Nat.reduceAdd, reduceCtorEq, Q54]
      refine ⟨?_, he1⟩
      obtain rfl : i = g.args.length := by omega
      have : ¬ v ∈ g.args := fun hm => by
        obtain ⟨j, hj⟩ := List.mem_iff_getElem?.1 hm
        exact hno j v (List.getElem?_eq_some_iff.1 hj).1 hj rfl
      simp [ownG, he, this]
    · rintro i W hi ⟨rfl, hno⟩
      have hx : g.args[i]? = some g.args[i] := List.getElem?_eq_getElem hi
      obtain ⟨k, o, hA, -, hcell⟩ := hae i _ hx
      subst hA
      refine ok_seq (fun M hM => ok_region rfl ?_)
      repeat ((try subst X); (first | (first | apply zL | apply zH | apply zE); intro X hX | apply zh | apply zl | apply ze); try simp only [zU, reduceIte, Nat.reduceEqDiff, Nat.reduceAdd, reduceCtorEq, Q54])
      refine ⟨_, Blk.cell (by assumption) rfl, ?_⟩
      repeat ((try subst X); (first | (first | apply zL | apply zH | apply zE); intro X hX | apply zh | apply zl | apply ze); try simp only [zU, reduceIte, Nat.reduceEqDiff, Nat.reduceAdd, reduceCtorEq, Q54])
      refine ⟨by omega, by omega, ?_⟩
      repeat ((try subst X); (first | (first | apply zL | apply zH | apply zE); intro X hX | apply zh | apply zl | apply ze); try simp only [zU, reduceIte, Nat.reduceEqDiff, Nat.reduceAdd, reduceCtorEq, Q54])
      refine ⟨_, he1.cell (by simpa [add_at] using hcell), ?_⟩
      repeat ((try subst X); (first | (first | apply zL | apply zH | apply zE); intro X hX | apply zh | apply zl | apply ze); try simp only [zU, reduceIte, Nat.reduceEqDiff, Nat.reduceAdd, reduceCtorEq, Q54])
      refine hM _ _ _ ?_; clear hM M
      refine ok_if rfl (fun he2 => ?_) (fun he2 => ok_skip ?_)
      · refine ok_seq (fun M hM => ok_region rfl ?_); repeat ((try subst X); (first | (first | apply zL | apply zH | apply zE); intro X hX | apply zh | apply zl | apply ze); try simp only [zU, reduceIte, Nat.reduceEqDiff, Nat.reduceAdd, reduceCtorEq, Q54])
        refine hM _ _ _ ?_; clear hM M
        refine ok_ret ?_
        try simp only [zW, zU, reduceIte, Nat.reduceEqDiff, Nat.reduceAdd, reduceCtorEq, Q54]
        refine ⟨?_, he1⟩
        have : v ∈ g.args := he2 ▸ List.getElem_mem hi
        simp [ownG, this]
      · try simp only [zW, zU, reduceIte, Nat.reduceEqDiff, Nat.reduceAdd, reduceCtorEq, Q54]
        refine ⟨by simp [sub, Env.get], fun j x hj hjx => ?_⟩
        rcases Nat.lt_or_ge j i with h1 | h1
        · exact hno j x h1 hjx
        · obtain rfl : j = i := by omega
          rw [hx] at hjx; cases hjx
          exact he2
theorem preGs_any (p : G × Int → Bool) (q : G → Bool) (hp : ∀ k d, p (k, d) = q k) : ∀ (l : List G) (d : Int), (preGs l d).any p = l.any fun k => (preG k 1).any p := by
  have same : ∀ (g : G) (d d' : Int), (preG g d).any p = (preG g d').any p := by
    intro g
    induction g using G.ind with
    | h g ih =>
      intro d d'
      rw [preG_eq, preG_eq]
      simp only [List.any_cons, hp]
      congr 1
      have : ∀ (l : List G), (∀ k ∈ l, ∀ d d', (preG k d).any p = (preG k d').any p) → ∀ d d', (preGs l d).any p = (preGs l d').any p := by
        intro l
        induction l with
        | nil => intro _ d d'; rfl
        | cons x xs ih2 =>
          intro h d d'
          simp only [preGs, List.any_append]
          rw [h x List.mem_cons_self d d', ih2 (fun k hk => h k (List.mem_cons_of_mem _ hk)) d d']
      exact this g.kids ih _ _
  intro l
  induction l with
  | nil => intro d; rfl
  | cons x xs ih =>
    intro d
    simp only [preGs, List.any_append, List.any_cons]
    rw [ih d, same x d 1]
theorem occG_eq (g : G) (v : Int) : occG g v = (ownG g v || g.kids.any fun k => occG k v) := by
  unfold occG
  rw [preG_eq]
  simp only [List.any_cons]
  rw [preGs_any _ (fun k => ownG k v) (fun _ _ => rfl)]
-- -- function 19
set_option maxHeartbeats 2000000 in
set_option maxRecDepth 8000 in
theorem roccurs_ok (g : G) (v : Int) : ∀ (w : World) (S : Nat → Prop) (cs : List Value), Rd w S cs (encG g) → Rets Tryz.prog 19 [.agg cs.toArray, .int .i64 v] w (fun r w' => r = .bool (occG g v) ∧ Ext w w') := by
  induction g using G.ind with
  | h g ih =>
  intro w S cs h
  have h0 := h
  obtain ⟨Aa, ca, Ak, ck, Ac, cc, rfl, -, hk, -⟩ := rdG h
  obtain ⟨_, _, -, hkl, -, -⟩ := hk.hd
  simp only [List.length_map] at hkl
  refine rets_of_ok Tryz.func19 rfl rfl ?_
  refine ok_seq (fun M hM => ok_region rfl ?_)
  repeat ((try subst X); (first | (first | apply zL | apply zH | apply zE); intro X hX | apply zh | apply zl | apply ze); try simp only [zU, reduceIte, Nat.reduceEqDiff, Nat.reduceAdd, reduceCtorEq, Q19])
  refine Runs.box (fun w1 he1 hs1 hb1 => ?_)
  rw [agg_cells] at hb1
  repeat ((try subst X); (first | (first | apply zL | apply zH | apply zE); intro X hX | apply zh | apply zl | apply ze); try simp only [zU, reduceIte, Nat.reduceEqDiff, Nat.reduceAdd, reduceCtorEq, Q19])
  refine hM _ _ _ ?_; clear hM M
  refine ok_seq (fun M0 hM0 => ok_seq (fun M hM => ok_region rfl ?_))
  repeat ((try subst X); (first | (first | apply zL | apply zH | apply zE); intro X hX | apply zh | apply zl | apply ze); try simp only [zU, reduceIte, Nat.reduceEqDiff, Nat.reduceAdd, reduceCtorEq, Q19])
  refine ⟨_, rfl, Blk.all (by assumption), ?_⟩
  repeat ((try subst X); (first | (first | apply zL | apply zH | apply zE); intro X hX | apply zh | apply zl | apply ze); try simp only [zU, reduceIte, Nat.reduceEqDiff, Nat.reduceAdd, reduceCtorEq, Q19])
  refine Inv.call Fx.en54 (rown_ok w1 S _ g v (h0.ext he1)) ?_
  rintro _ w2 ⟨rfl, he2⟩
  repeat ((try subst X); (first | (first | apply zL | apply zH | apply zE); intro X hX | apply zh | apply zl | apply ze); try simp only [zU, reduceIte, Nat.reduceEqDiff, Nat.reduceAdd, reduceCtorEq, Q19])
  refine hM _ _ _ ?_; clear hM M
  replace hb1 := hb1.ext he2
  have he02 := he1.trans he2
  cases ho : ownG g v with
  | true =>
    refine ok_cond rfl (fun _ => ?_) (fun h => by cases h)
    refine ok_seq (fun M hM => ok_region rfl ?_); repeat ((try subst X); (first | (first | apply zL | apply zH | apply zE); intro X hX | apply zh | apply zl | apply ze); try simp only [zU, reduceIte, Nat.reduceEqDiff, Nat.reduceAdd, reduceCtorEq, Q19])
    refine hM _ _ _ ?_; clear hM M
    refine ok_ret ?_
    try simp only [zW, zU, reduceIte, Nat.reduceEqDiff, Nat.reduceAdd, reduceCtorEq, Q19]
    exact ⟨by rw [occG_eq, ho]; rfl, he02⟩
  | false =>
    refine ok_cond rfl (fun h => by cases h) (fun _ => ok_skip ?_)
    refine hM0 _ _ _ ?_; clear hM0 M0
    refine ok_seq (fun M0 hM0 => ?_)
    refine ok_seq (fun M hM => ok_region rfl ?_); repeat ((try subst X); (first | (first | apply zL | apply zH | apply zE); intro X hX | apply zh | apply zl | apply ze); try simp only [zU, reduceIte, Nat.reduceEqDiff, Nat.reduceAdd, reduceCtorEq, Q19])
    refine hM _ _ _ ?_; clear hM M
    refine ok_while g.kids.length [(1, .int .i64 v), (2, .pointer (some ⟨w.heap.size, 0, none⟩))] (fun i W => Ext w2 W ∧ occG g v = (g.kids.drop i).any fun k => occG k v) (fun i W => Ext w2 W ∧ occG g v = (g.kids.drop i).any fun k => occG k v) rfl rfl (by simp [sub, Env.get]) hkl ⟨Ext.refl _, by rw [occG_eq, ho]; simp⟩ ?_ ?_
    · rintro i W hi ⟨he, hno⟩
      replace hb1 := hb1.ext he
      refine ok_region rfl ?_
      repeat ((try subst X); (first | (first | apply zL | apply zH | apply zE); intro X hX | apply zh | apply zl | apply ze); try simp only [zU, reduceIte, Nat.reduceEqDiff, Nat.reduceAdd, reduceCtorEq, Q19])
      refine ⟨_, Blk.cell (by assumption) rfl, ?_⟩
      repeat ((try subst X); (first | (first | apply zL | apply zH | apply zE); intro X hX | apply zh | apply zl | apply ze); try simp only [zU, reduceIte, Nat.reduceEqDiff, Nat.reduceAdd, reduceCtorEq, Q19])
      refine ⟨by simp [sub, Env.get], wh (fun hlt => ⟨he, hno⟩) (fun hge => ?_)⟩
      refine hM0 _ _ _ ?_; clear hM0 M0
      refine ok_seq (fun M hM => ok_region rfl ?_); repeat ((try subst X); (first | (first | apply zL | apply zH | apply zE); intro X hX | apply zh | apply zl | apply ze); try simp only [zU, reduceIte, Nat.reduceEqDiff, Nat.reduceAdd, reduceCtorEq, Q19])
      refine hM _ _ _ ?_; clear hM M
      refine ok_ret ?_
      try simp only [zW, zU, reduceIte, Nat.reduceEqDiff, Nat.reduceAdd, reduceCtorEq, Q19]
      obtain rfl : i = g.kids.length := by omega
      exact ⟨by rw [hno]; simp, he02.trans he⟩
    · rintro i W hi ⟨he, hno⟩
      replace hb1 := hb1.ext he
      have hdr : g.kids.drop i = g.kids[i] :: g.kids.drop (i + 1) := List.drop_eq_getElem_cons hi
      obtain ⟨k, o, r, hA, -, hkl', hcell, hr⟩ := (hk.ext (he02.trans he)).row (j := i) (row := encG g.kids[i]) (by simp [hi])
      subst hA
      rw [encG_len] at hcell
      have hrl : r.length = 9 := by rw [hr.len, encG_len]
      refine ok_seq (fun M hM => ok_region rfl ?_)
      repeat ((try subst X); (first | (first | apply zL | apply zH | apply zE); intro X hX | apply zh | apply zl | apply ze); try simp only [zU, reduceIte, Nat.reduceEqDiff, Nat.reduceAdd, reduceCtorEq, Q19])
      refine ⟨_, Blk.cell (by assumption) rfl, ?_⟩
      repeat ((try subst X); (first | (first | apply zL | apply zH | apply zE); intro X hX | apply zh | apply zl | apply ze); try simp only [zU, reduceIte, Nat.reduceEqDiff, Nat.reduceAdd, reduceCtorEq, Q19])
      refine ⟨by omega, by omega, ?_⟩
      repeat ((try subst X); (first | (first | apply zL | apply zH | apply zE); intro X hX | apply zh | apply zl | apply ze); try simp only [zU, reduceIte, Nat.reduceEqDiff, Nat.reduceAdd, reduceCtorEq, Q19])
      refine ⟨r, hrl, by simpa [add_at] using hcell, ?_⟩
      repeat ((try subst X); (first | (first | apply zL | apply zH | apply zE); intro X hX | apply zh | apply zl | apply ze); try simp only [zU, reduceIte, Nat.reduceEqDiff, Nat.reduceAdd, reduceCtorEq, Q19])
      refine Inv.call Fx.en19 (ih _ (List.getElem_mem hi) W _ r hr) ?_
      rintro _ w3 ⟨rfl, he3⟩
      repeat ((try subst X); (first | (first | apply zL | apply zH | apply zE); intro X hX | apply zh | apply zl | apply ze); try simp only [zU, reduceIte, Nat.reduceEqDiff, Nat.reduceAdd, reduceCtorEq, Q19])
      refine hM _ _ _ ?_; clear hM M
      cases hq : occG g.kids[i] v with
      | true =>
        refine ok_cond rfl (fun _ => ?_) (fun h => by cases h)
        refine ok_seq (fun M hM => ok_region rfl ?_); repeat ((try subst X); (first | (first | apply zL | apply zH | apply zE); intro X hX | apply zh | apply zl | apply ze); try simp only [zU, reduceIte, Nat.reduceEqDiff, Nat.reduceAdd, reduceCtorEq, Q19])
        refine hM _ _ _ ?_; clear hM M
        refine ok_ret ?_
        try simp only [zW, zU, reduceIte, Nat.reduceEqDiff, Nat.reduceAdd, reduceCtorEq, Q19]
        exact ⟨by rw [hno, hdr]; simp only [List.any_cons, hq, Bool.true_or], (he02.trans he).trans he3⟩
      | false =>
        refine ok_cond rfl (fun h => by cases h) (fun _ => ok_skip ?_)
        try simp only [zW, zU, reduceIte, Nat.reduceEqDiff, Nat.reduceAdd, reduceCtorEq, Q19]
        exact ⟨by simp [sub, Env.get], he.trans he3, by rw [hno, hdr]; simp only [List.any_cons, hq, Bool.false_or]⟩
end Go.Proofs.YtcpjojaklpgnkaaGreat
/- Chapter 31: the reference's CopyGoal, Find.  -/
set_option linter.unusedVariables false
set_option linter.unusedSimpArgs false
namespace Go.Proofs.YtcpjojaklpgnkaaGreat
open Go Go.Proofs.Vg Go.RowKit
theorem own_at {b n c k : Nat} (h : (Value.slice (some ⟨b, 0, none⟩) n c).ownBlock = some k) : k = b := by
  have : b = k := by simpa [Value.ownBlock] using h
  exact this.symm
theorem ints_wid (l : List Int) : ∀ r ∈ l.map (fun n => [iD n]), r.length = 1 := by
  intro r hr; obtain ⟨x, -, rfl⟩ := List.mem_map.1 hr; rfl
theorem encC_wid (l : List (Int × ByteArray)) : ∀ r ∈ l.map encC, r.length = 2 := by
  intro r hr; obtain ⟨x, -, rfl⟩ := List.mem_map.1 hr; rfl
-- -- function 51
set_option maxHeartbeats 8000000 in
set_option maxRecDepth 8000 in
theorem copyGoal_ok (g : G) : ∀ (w : World) (S : Nat → Prop) (cs : List Value), Rd w S cs (encG g) →
    Rets Tryz.prog 51 [.agg cs.toArray] w (fun v w' => Ext w w' ∧ ∃ cs', v = .agg cs'.toArray ∧ Rd w' (fun k => S k ∨ w.heap.size ≤ k) cs' (encG g)) := by
  induction g using G.ind with
  | h g ih =>
  intro w S cs h
  replace h := h.mono (S' := fun k => S k ∧ k < w.heap.size) (fun k h1 h2 => ⟨h1, h2⟩)
  obtain ⟨Aa, ca, Ak, ck, Ac, cc, rfl, ha, hk, hc⟩ := rdG h
  obtain ⟨_, _, -, hkl, hkb, hkc⟩ := hk.hd
  obtain ⟨_, _, -, hcl, hcb, hcc⟩ := hc.hd
  obtain ⟨_, _, -, hal, hab, hac⟩ := ha.hd
  simp only [List.length_map] at hkl hkb hkc hcl hcb hcc hal hab hac
  refine rets_of_okC Tryz.func51 rfl rfl ?_
  refine ok_seq (fun M hM => ok_region rfl ?_)
  repeat ((try subst X); (first | (first | apply zL | apply zH | apply zE); intro X hX | apply zh | apply zl | apply ze); try simp only [zU, reduceIte, Nat.reduceEqDiff, Nat.reduceAdd, reduceCtorEq, Q51])
  refine Runs.box (fun w1 he1 hs1 hb1 => ?_)
  rw [agg_cells] at hb1
  repeat ((try subst X); (first | (first | apply zL | apply zH | apply zE); intro X hX | apply zh | apply zl | apply ze); try simp only [zU, reduceIte, Nat.reduceEqDiff, Nat.reduceAdd, reduceCtorEq, Q51])
  refine Runs.alloc Fx.zi37 (fun w2 he2 hs2 hb2 => ?_)
  simp only [Value.cells] at hb2
  generalize hB1 : w.heap.size = B1 at *
  generalize hB2 : w1.heap.size = B2 at *
  repeat ((try subst X); (first | (first | apply zL | apply zH | apply zE); intro X hX | apply zh | apply zl | apply ze); try simp only [zU, reduceIte, Nat.reduceEqDiff, Nat.reduceAdd, reduceCtorEq, Q51])
  refine hM _ _ _ ?_; clear hM M
  replace hb1 := hb1.ext he2
  have he02 := he1.trans he2
  refine ok_seq (fun M hM => ok_region rfl ?_)
  repeat ((try subst X); (first | (first | apply zL | apply zH | apply zE); intro X hX | apply zh | apply zl | apply ze); try simp only [zU, reduceIte, Nat.reduceEqDiff, Nat.reduceAdd, reduceCtorEq, Q51])
  refine ⟨_, rfl, Blk.all (by assumption), ?_⟩
  repeat ((try subst X); (first | (first | apply zL | apply zH | apply zE); intro X hX | apply zh | apply zl | apply ze); try simp only [zU, reduceIte, Nat.reduceEqDiff, Nat.reduceAdd, reduceCtorEq, Q51])
  refine Runs.alloc Fx.zi37 (fun w3a he3a hs3a hb3a => ?_)
  simp only [Value.cells] at hb3a
  generalize hB3 : w2.heap.size = B3 at *
  repeat ((try subst X); (first | (first | apply zL | apply zH | apply zE); intro X hX | apply zh | apply zl | apply ze); try simp only [zU, reduceIte, Nat.reduceEqDiff, Nat.reduceAdd, reduceCtorEq, Q51])
  refine Runs.store hb3a Fx.zi37 rfl (by simp [Value.cells, Value.oneCell']) (by simp) (fun w3 hc3 hs3 hb3 => ?_)
  simp only [splice, Value.cells, List.length_cons, List.length_nil, Nat.reduceAdd, Nat.zero_add, List.take_zero, List.drop_succ_cons, List.drop_zero, List.append_nil, List.nil_append, List.drop_nil] at hb3
  have he3 : Ext w2 w3 := he3a.chg_trans hc3 (by omega)
  repeat ((try subst X); (first | (first | apply zL | apply zH | apply zE); intro X hX | apply zh | apply zl | apply ze); try simp only [zU, reduceIte, Nat.reduceEqDiff, Nat.reduceAdd, reduceCtorEq, Q51])
  refine hM _ _ _ ?_; clear hM M
  replace hb1 := hb1.ext he3
  replace hb2 := hb2.ext he3
  have he03 := he02.trans he3
  obtain ⟨F, hF1, hF2, hF3, hF4⟩ : ∃ F : Nat → Prop, (∀ k, F k → k ≠ B1 ∧ k ≠ B2 ∧ k ≠ B3) ∧ (∀ k, B3 < k → F k) ∧ (∀ k, S k ∧ k < B1 → F k) ∧ (∀ k, F k → S k ∨ B1 ≤ k) :=
    ⟨fun k => (S k ∧ k < B1) ∨ B3 < k, fun k h => by omega, fun k h => .inr h, fun k h => .inl h, fun k h => by rcases h with h | h; exact .inl h.1; exact .inr (by omega)⟩
  have hz3 : w3.heap.size = B3 + 1 := by omega
  refine ok_seq (fun M hM => ok_region rfl ?_)
  repeat ((try subst X); (first | (first | apply zL | apply zH | apply zE); intro X hX | apply zh | apply zl | apply ze); try simp only [zU, reduceIte, Nat.reduceEqDiff, Nat.reduceAdd, reduceCtorEq, Q51])
  refine Runs.lit00 Fx.un29 Fx.zi3 (fun w4 he4 hs4 hb4 => ?_)
  repeat ((try subst X); (first | (first | apply zL | apply zH | apply zE); intro X hX | apply zh | apply zl | apply ze); try simp only [zU, reduceIte, Nat.reduceEqDiff, Nat.reduceAdd, reduceCtorEq, Q51])
  refine ⟨_, (hb1.ext he4).cell rfl, ?_⟩
  repeat ((try subst X); (first | (first | apply zL | apply zH | apply zE); intro X hX | apply zh | apply zl | apply ze); try simp only [zU, reduceIte, Nat.reduceEqDiff, Nat.reduceAdd, reduceCtorEq, Q51])
  have he04 := he03.trans he4
  refine Runs.appD (S := fun k => S k ∧ k < B1) Fx.un29 Fx.zi3 rfl (by decide) (Own.fresh (base := B3 + 1) (by decide) hb4 (by omega)) ((ha.ext he04).mono fun k hk _ => ⟨hk, fun e => by have := hk.2; have := own_at e; omega⟩) (ints_wid _) (by simpa using hab) (by omega) (fun va w5 hva hc5 hblk5 => ?_)
  have hva' : Own w5 (fun k => S k ∧ k < B1) (B3 + 1) 3 1 va (g.args.map fun n => [iD n]) := by simpa using hva
  clear hva
  obtain ⟨A5, c5, rfl, -⟩ := hva'.len
  simp only [List.length_map] at hva'
  have he05 : Ext w w5 := he04.chg_trans hc5 (by intro k hk; have := own_at hk; omega)
  have hc35 : Chg (fun k => B3 < k) w3 w5 := (he4.chg _).trans (hc5.mono fun k _ hk => by have := own_at hk; omega)
  have hz5 := hc35.size
  replace hb1 := hb1.chg hc35 (by omega)
  replace hb2 := hb2.chg hc35 (by omega)
  replace hb3 := hb3.chg hc35 (by omega)
  repeat ((try subst X); (first | (first | apply zL | apply zH | apply zE); intro X hX | apply zh | apply zl | apply ze); try simp only [zU, reduceIte, Nat.reduceEqDiff, Nat.reduceAdd, reduceCtorEq, Q51])
  refine Runs.store hb3 Fx.zi29 rfl cell1s (by simp) (fun w6 hc6 hs6 hb6 => ?_)
  simp only [splice, Value.cells, List.length_singleton, Nat.reduceAdd, List.take_succ_cons, List.take_zero, List.drop_succ_cons, List.drop_zero, List.cons_append, List.nil_append, List.drop_nil, List.length_map] at hb6
  repeat ((try subst X); (first | (first | apply zL | apply zH | apply zE); intro X hX | apply zh | apply zl | apply ze); try simp only [zU, reduceIte, Nat.reduceEqDiff, Nat.reduceAdd, reduceCtorEq, Q51])
  refine hM _ _ _ ?_; clear hM M
  refine ok_seq (fun M hM => ok_region rfl ?_)
  repeat ((try subst X); (first | (first | apply zL | apply zH | apply zE); intro X hX | apply zh | apply zl | apply ze); try simp only [zU, reduceIte, Nat.reduceEqDiff, Nat.reduceAdd, reduceCtorEq, Q51])
  refine Runs.store hb6 Fx.zi34 rfl cell1s (by simp) (fun w7 hc7 hs7 hb7 => ?_)
  simp only [splice, Value.cells, List.length_singleton, Nat.reduceAdd, List.take_succ_cons, List.take_zero, List.drop_succ_cons, List.drop_zero, List.cons_append, List.nil_append, List.drop_nil] at hb7
  repeat ((try subst X); (first | (first | apply zL | apply zH | apply zE); intro X hX | apply zh | apply zl | apply ze); try simp only [zU, reduceIte, Nat.reduceEqDiff, Nat.reduceAdd, reduceCtorEq, Q51])
  refine Runs.store hb7 Fx.zi35 rfl cell1s (by simp) (fun w8 hc8 hs8 hb8 => ?_)
  simp only [splice, Value.cells, List.length_singleton, Nat.reduceAdd, List.take_succ_cons, List.take_zero, List.drop_succ_cons, List.drop_zero, List.cons_append, List.nil_append, List.drop_nil] at hb8
  repeat ((try subst X); (first | (first | apply zL | apply zH | apply zE); intro X hX | apply zh | apply zl | apply ze); try simp only [zU, reduceIte, Nat.reduceEqDiff, Nat.reduceAdd, reduceCtorEq, Q51])
  refine hM _ _ _ ?_; clear hM M
  have hc58 : Chg (fun x => x = B3) w5 w8 := (hc6.trans hc7).trans hc8
  have he08 : Ext w w8 := he05.chg_trans hc58 (by intro k hk; omega)
  replace hb1 := hb1.chg hc58 (by omega)
  replace hb2 := hb2.chg hc58 (by omega)
  have hva8 : Rd w8 (fun k => F k ∧ k < w8.heap.size) [.slice A5 g.args.length c5] [isD g.args] := by
    refine ((hva'.chg hc58 (fun k hk e => by have := (hva'.lt hk).1; omega) (fun k hk _ e => by have := hk.2; omega)).rd (by simpa using hal) (by simpa using hab) (S' := fun k => F k ∧ k < w8.heap.size) (fun k hl hk => ?_))
    rcases hk with hk | hk
    · exact ⟨hF3 k hk.1, hl⟩
    · have := (hva'.lt hk).1; exact ⟨hF2 k (by omega), hl⟩
  have hk8 := hk.ext he08
  have hc8' := hc.ext he08
  have hZB : B3 < w8.heap.size := by have := hc58.size; omega
  generalize hZ : w8.heap.size = Z at *
  generalize hva : Value.slice A5 g.args.length c5 = va at *
  clear hb6 hb7 hb3 hc6 hc7 hc8 hs6 hs7 hs8 hc5 hblk5 hc35 hc58 hva'
  refine ok_join [(1, .pointer (some ⟨B1, 0, none⟩)), (2, .pointer (some ⟨B2, 0, none⟩)), (3, .pointer (some ⟨B3, 0, none⟩))] (fun W => Ext w W ∧ Z ≤ W.heap.size ∧ Blk W B1 [.int .i64 g.kind, .int .i64 g.left, .int .i64 g.num, .string g.text, .int .i64 g.form, .slice Aa g.args.length ca, .slice Ak g.kids.length ck, .slice Ac g.cases.length cc, .int .i64 g.pos] 37 ∧ Blk W B2 [.int .i64 0, .int .i64 0, .int .i64 0, .string ByteArray.empty, .int .i64 0, .slice none 0 0, .slice none 0 0, .slice none 0 0, .int .i64 0] 37 ∧
     ∃ v, Blk W B3 [.int .i64 g.kind, .int .i64 g.left, .int .i64 g.num, .string g.text, .int .i64 g.form, va, v, .slice none 0 0, .int .i64 g.pos] 37 ∧ Own W F Z 37 9 v (g.kids.map encG) ∧ Rd W (fun k => F k ∧ k < Z) [va] [isD g.args]) ?_ ?_
  · refine ok_seq (fun M hM => ok_region rfl ?_); repeat ((try subst X); (first | (first | apply zL | apply zH | apply zE); intro X hX | apply zh | apply zl | apply ze); try simp only [zU, reduceIte, Nat.reduceEqDiff, Nat.reduceAdd, reduceCtorEq, Q51])
    refine hM _ _ _ ?_; clear hM M
    refine ok_while g.kids.length [(1, .pointer (some ⟨B1, 0, none⟩)), (2, .pointer (some ⟨B2, 0, none⟩)), (3, .pointer (some ⟨B3, 0, none⟩))] (fun i W => Ext w W ∧ Z ≤ W.heap.size ∧ Blk W B1 [.int .i64 g.kind, .int .i64 g.left, .int .i64 g.num, .string g.text, .int .i64 g.form, .slice Aa g.args.length ca, .slice Ak g.kids.length ck, .slice Ac g.cases.length cc, .int .i64 g.pos] 37 ∧ Blk W B2 [.int .i64 0, .int .i64 0, .int .i64 0, .string ByteArray.empty, .int .i64 0, .slice none 0 0, .slice none 0 0, .slice none 0 0, .int .i64 0] 37 ∧ ∃ v, Blk W B3 [.int .i64 g.kind, .int .i64 g.left, .int .i64 g.num, .string g.text, .int .i64 g.form, va, v, .slice none 0 0, .int .i64 g.pos] 37 ∧ Own W F Z 37 9 v ((g.kids.take i).map encG) ∧ Rd W (fun k => F k ∧ k < Z) [va] [isD g.args]) (fun i W => Ext w W ∧ Z ≤ W.heap.size ∧ Blk W B1 [.int .i64 g.kind, .int .i64 g.left, .int .i64 g.num, .string g.text, .int .i64 g.form, .slice Aa g.args.length ca, .slice Ak g.kids.length ck, .slice Ac g.cases.length cc, .int .i64 g.pos] 37 ∧ Blk W B2 [.int .i64 0, .int .i64 0, .int .i64 0, .string ByteArray.empty, .int .i64 0, .slice none 0 0, .slice none 0 0, .slice none 0 0, .int .i64 0] 37 ∧ ∃ v, Blk W B3 [.int .i64 g.kind, .int .i64 g.left, .int .i64 g.num, .string g.text, .int .i64 g.form, va, v, .slice none 0 0, .int .i64 g.pos] 37 ∧ Own W F Z 37 9 v ((g.kids.take i).map encG) ∧ Rd W (fun k => F k ∧ k < Z) [va] [isD g.args]) rfl rfl (by simp [sub, Env.get]) hkl ⟨he08, by omega, hb1, hb2, _, hb8, by simpa using Own.nil (by decide), hva8⟩ ?_ ?_
    · rintro i W hi ⟨he, hZW, qb1, qb2, v, qb3, qown, qva⟩
      refine ok_region rfl ?_
      repeat ((try subst X); (first | (first | apply zL | apply zH | apply zE); intro X hX | apply zh | apply zl | apply ze); try simp only [zU, reduceIte, Nat.reduceEqDiff, Nat.reduceAdd, reduceCtorEq, Q51])
      refine ⟨_, qb1.cell rfl, ?_⟩
      repeat ((try subst X); (first | (first | apply zL | apply zH | apply zE); intro X hX | apply zh | apply zl | apply ze); try simp only [zU, reduceIte, Nat.reduceEqDiff, Nat.reduceAdd, reduceCtorEq, Q51])
      refine ⟨by simp [sub, Env.get], wh (fun hlt => ⟨he, hZW, qb1, qb2, v, qb3, qown, qva⟩) (fun hge => ?_)⟩
      obtain rfl : i = g.kids.length := by omega
      rw [List.take_length] at qown
      exact ⟨by simp [sub, Env.get], he, hZW, qb1, qb2, v, qb3, qown, qva⟩
    · rintro i W hi ⟨he, hZW, qb1, qb2, v, qb3, qown, qva⟩
      have hkW := hk.ext he
      obtain ⟨k1, o1, r1, hA1, -, hkl1, hcell1, hr1⟩ := hkW.row (j := i) (row := encG g.kids[i]) (by simp [hi])
      subst hA1
      rw [encG_len] at hcell1
      have hrl1 : r1.length = 9 := by rw [hr1.len, encG_len]
      refine (ok_drawR [0, 2, 5, 10] [0, 1, 2, 3, 4, 5, 6, 10, 7, 8, 9, 11] 8 [(true, false), (true, false), (false, false), (false, true)] (Ext _) Fx.mixed (by decide) rfl rfl rfl (by decide +kernel) (by decide +kernel) (Ext.drew _) ?_); simp only [pickL, List.getElem?_cons_zero, List.getElem?_cons_succ, List.take_succ_cons, List.take_zero, List.drop_succ_cons, List.drop_zero]
      repeat ((try subst X); (first | (first | apply zL | apply zH | apply zE); intro X hX | apply zh | apply zl | apply ze); try simp only [zU, reduceIte, Nat.reduceEqDiff, Nat.reduceAdd, reduceCtorEq, Q51])
      refine ⟨_, fun w' h => (qb3.ext h).cell rfl, ?_⟩
      repeat ((try subst X); (first | (first | apply zL | apply zH | apply zE); intro X hX | apply zh | apply zl | apply ze); try simp only [zU, reduceIte, Nat.reduceEqDiff, Nat.reduceAdd, reduceCtorEq, Q51])
      refine ⟨_, fun w' h => (qb1.ext h).cell rfl, ?_⟩
      repeat ((try subst X); (first | (first | apply zL | apply zH | apply zE); intro X hX | apply zh | apply zl | apply ze); try simp only [zU, reduceIte, Nat.reduceEqDiff, Nat.reduceAdd, reduceCtorEq, Q51])
      refine ⟨by omega, by omega, ?_⟩
      repeat ((try subst X); (first | (first | apply zL | apply zH | apply zE); intro X hX | apply zh | apply zl | apply ze); try simp only [zU, reduceIte, Nat.reduceEqDiff, Nat.reduceAdd, reduceCtorEq, Q51])
      refine ⟨r1, hrl1, fun w' h => h.cellsAt (by simpa [add_at] using hcell1), ?_⟩
      repeat ((try subst X); (first | (first | apply zL | apply zH | apply zE); intro X hX | apply zh | apply zl | apply ze); try simp only [zU, reduceIte, Nat.reduceEqDiff, Nat.reduceAdd, reduceCtorEq, Q51])
      intro w6 he6
      repeat ((try subst X); (first | (first | apply zL | apply zH | apply zE); intro X hX | apply zh | apply zl | apply ze); try simp only [zU, reduceIte, Nat.reduceEqDiff, Nat.reduceAdd, reduceCtorEq, Q51])
      refine Inv.call Fx.en51 (ih _ (List.getElem_mem hi) w6 (fun k => S k ∧ k < B1) r1 (hr1.ext he6)) ?_
      rintro _ w7 ⟨he7, cs7, rfl, hr7⟩
      repeat ((try subst X); (first | (first | apply zL | apply zH | apply zE); intro X hX | apply zh | apply zl | apply ze); try simp only [zU, reduceIte, Nat.reduceEqDiff, Nat.reduceAdd, reduceCtorEq, Q51])
      refine ⟨he6.trans he7, ?_⟩
      repeat ((try subst X); (first | (first | apply zL | apply zH | apply zE); intro X hX | apply zh | apply zl | apply ze); try simp only [zU, reduceIte, Nat.reduceEqDiff, Nat.reduceAdd, reduceCtorEq, Q51])
      refine Runs.lit1 Fx.un34 Fx.zi37 rfl rfl (by rw [hr7.len, encG_len]) (by decide) (by decide) (fun w8 he8 hs8 hb8 => ?_)
      repeat ((try subst X); (first | (first | apply zL | apply zH | apply zE); intro X hX | apply zh | apply zl | apply ze); try simp only [zU, reduceIte, Nat.reduceEqDiff, Nat.reduceAdd, reduceCtorEq, Q51])
      have he58 := (he6.trans he7).trans he8
      have hz6 := he6.size
      have hz58 := he58.size
      refine ⟨he58, ?_⟩
      repeat ((try subst X); (first | (first | apply zL | apply zH | apply zE); intro X hX | apply zh | apply zl | apply ze); try simp only [zU, reduceIte, Nat.reduceEqDiff, Nat.reduceAdd, reduceCtorEq, Q51])
      have hlen : ((g.kids.take i).map encG).length = i := by simp; omega
      refine Runs.pushD Fx.un34 Fx.zi37 rfl (by decide) (qown.ext he58) hb8 ((hr7.ext he8).mono fun k hk _ => ⟨by rcases hk with hk | hk; exact hF3 k hk; exact hF2 k (by omega), fun e => ?_⟩) (encG_len _) (by rw [hlen]; omega) (by omega) (fun v9 w9 hown9 hc9 hblk9 => ?_)
      · have := qown.lt e
        rcases hk with hk | hk
        · have := hk.2; omega
        · omega
      obtain ⟨A9, c9, rfl, -⟩ := hown9.len
      repeat ((try subst X); (first | (first | apply zL | apply zH | apply zE); intro X hX | apply zh | apply zl | apply ze); try simp only [zU, reduceIte, Nat.reduceEqDiff, Nat.reduceAdd, reduceCtorEq, Q51])
      have hob : ∀ k, v.ownBlock = some k → Z ≤ k := fun k h => (qown.lt h).1
      replace qb3 := (qb3.ext he58).chg hc9 (fun e => by have := hob _ e; omega)
      refine Runs.store qb3 Fx.zi34 rfl cell1s (by simp) (fun w10 hc10 hs10 hb10 => ?_)
      simp only [splice, Value.cells, List.length_singleton, Nat.reduceAdd, List.take_succ_cons, List.take_zero, List.drop_succ_cons, List.drop_zero, List.cons_append, List.nil_append, List.drop_nil] at hb10
      repeat ((try subst X); (first | (first | apply zL | apply zH | apply zE); intro X hX | apply zh | apply zl | apply ze); try simp only [zU, reduceIte, Nat.reduceEqDiff, Nat.reduceAdd, reduceCtorEq, Q51])
      have hc510 : Chg (fun x => x = B3 ∨ Z ≤ x) W w10 := (he58.chg _).trans ((hc9.mono fun k _ hk => .inr (hob k hk)).trans (hc10.mono fun k _ hk => .inl hk))
      refine ⟨by simp [sub, Env.get], he.chg_trans hc510 (by intro k hk; omega), by have := hc510.size; omega, qb1.chg hc510 (by omega), qb2.chg hc510 (by omega), _, hb10, ?_, qva.chg hc510 (fun k hk _ => by have := (hF1 k hk.1).2.2; have := hk.2; omega)⟩
      rw [List.take_succ_eq_append_getElem hi, List.map_append]
      refine hown9.chg hc10 (fun k hk e => ?_) (fun k hk _ e => (hF1 k hk).2.2 e)
      have := (hown9.lt hk).1; omega
  rintro W1 ⟨he, hZW, hb1, hb2, vk0, hb3, hown, hva1⟩
  obtain ⟨A9, c9, hvk0, -⟩ := hown.len
  obtain ⟨vk, hvk⟩ : ∃ vk, vk = vk0 := ⟨_, rfl⟩
  rw [← hvk] at hb3 hown
  have hobk : ∀ k, vk.ownBlock = some k → Z ≤ k ∧ k < W1.heap.size := fun k h => hown.lt h
  generalize hZ2 : W1.heap.size = Z2 at *
  have hkR : Rd W1 (fun k => F k ∧ k < Z2) [vk] [.sl 128 (g.kids.map encG)] := hown.rd (by simpa using hkl) (by simpa using hkb) (fun k hl hk => by
    rcases hk with hk | hk
    · exact ⟨hk.1, by omega⟩
    · have := hobk k hk; exact ⟨hF2 k (by omega), by omega⟩)
  replace hva1 : Rd W1 (fun k => F k ∧ k < Z2) [va] [isD g.args] := hva1.mono fun k hk _ => ⟨hk.1, by have := hk.2; omega⟩
  refine ok_join [(1, .pointer (some ⟨B1, 0, none⟩)), (2, .pointer (some ⟨B2, 0, none⟩)), (3, .pointer (some ⟨B3, 0, none⟩))] (fun W => (fun i W => Ext w W ∧ Z2 ≤ W.heap.size ∧ Blk W B1 [.int .i64 g.kind, .int .i64 g.left, .int .i64 g.num, .string g.text, .int .i64 g.form, .slice Aa g.args.length ca, .slice Ak g.kids.length ck, .slice Ac g.cases.length cc, .int .i64 g.pos] 37 ∧ Blk W B2 [.int .i64 0, .int .i64 0, .int .i64 0, .string ByteArray.empty, .int .i64 0, .slice none 0 0, .slice none 0 0, .slice none 0 0, .int .i64 0] 37 ∧ ∃ v, Blk W B3 [.int .i64 g.kind, .int .i64 g.left, .int .i64 g.num, .string g.text, .int .i64 g.form, va, vk, v, .int .i64 g.pos] 37 ∧ Own W F Z2 105 1 v ((g.cases.take i).map fun r => [D.sl 24 (r.map encC)]) ∧ Rd W (fun k => F k ∧ k < Z2) [va] [isD g.args] ∧ Rd W (fun k => F k ∧ k < Z2) [vk] [.sl 128 (g.kids.map encG)]) g.cases.length W) ?_ ?_
  · refine ok_seq (fun M hM => ok_region rfl ?_); repeat ((try subst X); (first | (first | apply zL | apply zH | apply zE); intro X hX | apply zh | apply zl | apply ze); try simp only [zU, reduceIte, Nat.reduceEqDiff, Nat.reduceAdd, reduceCtorEq, Q51])
    refine hM _ _ _ ?_; clear hM M
    refine ok_while g.cases.length [(1, .pointer (some ⟨B1, 0, none⟩)), (2, .pointer (some ⟨B2, 0, none⟩)), (3, .pointer (some ⟨B3, 0, none⟩))] (fun i W => Ext w W ∧ Z2 ≤ W.heap.size ∧ Blk W B1 [.int .i64 g.kind, .int .i64 g.left, .int .i64 g.num, .string g.text, .int .i64 g.form, .slice Aa g.args.length ca, .slice Ak g.kids.length ck, .slice Ac g.cases.length cc, .int .i64 g.pos] 37 ∧ Blk W B2 [.int .i64 0, .int .i64 0, .int .i64 0, .string ByteArray.empty, .int .i64 0, .slice none 0 0, .slice none 0 0, .slice none 0 0, .int .i64 0] 37 ∧ ∃ v, Blk W B3 [.int .i64 g.kind, .int .i64 g.left, .int .i64 g.num, .string g.text, .int .i64 g.form, va, vk, v, .int .i64 g.pos] 37 ∧ Own W F Z2 105 1 v ((g.cases.take i).map fun r => [D.sl 24 (r.map encC)]) ∧ Rd W (fun k => F k ∧ k < Z2) [va] [isD g.args] ∧ Rd W (fun k => F k ∧ k < Z2) [vk] [.sl 128 (g.kids.map encG)]) (fun i W => Ext w W ∧ Z2 ≤ W.heap.size ∧ Blk W B1 [.int .i64 g.kind, .int .i64 g.left, .int .i64 g.num, .string g.text, .int .i64 g.form, .slice Aa g.args.length ca, .slice Ak g.kids.length ck, .slice Ac g.cases.length cc, .int .i64 g.pos] 37 ∧ Blk W B2 [.int .i64 0, .int .i64 0, .int .i64 0, .string ByteArray.empty, .int .i64 0, .slice none 0 0, .slice none 0 0, .slice none 0 0, .int .i64 0] 37 ∧ ∃ v, Blk W B3 [.int .i64 g.kind, .int .i64 g.left, .int .i64 g.num, .string g.text, .int .i64 g.form, va, vk, v, .int .i64 g.pos] 37 ∧ Own W F Z2 105 1 v ((g.cases.take i).map fun r => [D.sl 24 (r.map encC)]) ∧ Rd W (fun k => F k ∧ k < Z2) [va] [isD g.args] ∧ Rd W (fun k => F k ∧ k < Z2) [vk] [.sl 128 (g.kids.map encG)]) rfl rfl (by simp [sub, Env.get]) hcl ⟨he, by omega, hb1, hb2, _, hb3, by simpa using Own.nil (by decide), hva1, hkR⟩ ?_ ?_
    · rintro i W hi ⟨he, hZW, qb1, qb2, v, qb3, qown, qva, qvk⟩
      refine ok_region rfl ?_
      repeat ((try subst X); (first | (first | apply zL | apply zH | apply zE); intro X hX | apply zh | apply zl | apply ze); try simp only [zU, reduceIte, Nat.reduceEqDiff, Nat.reduceAdd, reduceCtorEq, Q51])
      refine ⟨_, qb1.cell rfl, ?_⟩
      repeat ((try subst X); (first | (first | apply zL | apply zH | apply zE); intro X hX | apply zh | apply zl | apply ze); try simp only [zU, reduceIte, Nat.reduceEqDiff, Nat.reduceAdd, reduceCtorEq, Q51])
      refine ⟨by simp [sub, Env.get], wh (fun hlt => ⟨he, hZW, qb1, qb2, v, qb3, qown, qva, qvk⟩) (fun hge => ?_)⟩
      obtain rfl : i = g.cases.length := by omega
      exact ⟨by simp [sub, Env.get], he, hZW, qb1, qb2, v, qb3, qown, qva, qvk⟩
    · rintro i W hi ⟨he, hZW, qb1, qb2, v, qb3, qown, qva, qvk⟩
      have hcW := hc.ext he
      obtain ⟨k1, o1, r1, hA1, -, hkl1, hcell1, hr1⟩ := hcW.row (j := i) (row := [D.sl 24 (g.cases[i].map encC)]) (by simp [hi])
      subst hA1
      have hrl1 : r1.length = 1 := by rw [hr1.len]; rfl
      obtain ⟨x, rfl⟩ := List.length_eq_one_iff.1 hrl1
      have hx := hcell1 0 x rfl
      obtain ⟨Ax, cx, rfl, hxl, hxb, hxc⟩ := hr1.hd
      simp only [List.length_map] at hxl hxb hxc hr1 hx
      refine (ok_drawR [0, 3, 6, 11] [0, 1, 3, 4, 5, 6, 7, 11, 2, 8, 9, 10, 12] 8 [(true, false), (true, false), (true, false), (false, false), (false, true)] (Ext _) Fx.mixed (by decide) rfl rfl rfl (by decide +kernel) (by decide +kernel) (Ext.drew _) ?_); simp only [pickL, List.getElem?_cons_zero, List.getElem?_cons_succ, List.take_succ_cons, List.take_zero, List.drop_succ_cons, List.drop_zero]
      repeat ((try subst X); (first | (first | apply zL | apply zH | apply zE); intro X hX | apply zh | apply zl | apply ze); try simp only [zU, reduceIte, Nat.reduceEqDiff, Nat.reduceAdd, reduceCtorEq, Q51])
      refine ⟨_, fun w' h => (qb3.ext h).cell rfl, ?_⟩
      repeat ((try subst X); (first | (first | apply zL | apply zH | apply zE); intro X hX | apply zh | apply zl | apply ze); try simp only [zU, reduceIte, Nat.reduceEqDiff, Nat.reduceAdd, reduceCtorEq, Q51])
      refine ⟨_, fun w' h => (qb1.ext h).cell rfl, ?_⟩
      repeat ((try subst X); (first | (first | apply zL | apply zH | apply zE); intro X hX | apply zh | apply zl | apply ze); try simp only [zU, reduceIte, Nat.reduceEqDiff, Nat.reduceAdd, reduceCtorEq, Q51])
      refine ⟨by omega, by omega, ?_⟩
      repeat ((try subst X); (first | (first | apply zL | apply zH | apply zE); intro X hX | apply zh | apply zl | apply ze); try simp only [zU, reduceIte, Nat.reduceEqDiff, Nat.reduceAdd, reduceCtorEq, Q51])
      refine ⟨_, fun w' h => h.cell (by simpa [add_at] using hx), ?_⟩
      repeat ((try subst X); (first | (first | apply zL | apply zH | apply zE); intro X hX | apply zh | apply zl | apply ze); try simp only [zU, reduceIte, Nat.reduceEqDiff, Nat.reduceAdd, reduceCtorEq, Q51])
      intro w6 he6
      have hz6 := he6.size
      repeat ((try subst X); (first | (first | apply zL | apply zH | apply zE); intro X hX | apply zh | apply zl | apply ze); try simp only [zU, reduceIte, Nat.reduceEqDiff, Nat.reduceAdd, reduceCtorEq, Q51])
      refine Runs.lit00 Fx.un105 Fx.zi108 (fun w7 he7 hs7 hb7 => ?_)
      repeat ((try subst X); (first | (first | apply zL | apply zH | apply zE); intro X hX | apply zh | apply zl | apply ze); try simp only [zU, reduceIte, Nat.reduceEqDiff, Nat.reduceAdd, reduceCtorEq, Q51])
      refine ⟨he6.trans he7, ?_⟩
      repeat ((try subst X); (first | (first | apply zL | apply zH | apply zE); intro X hX | apply zh | apply zl | apply ze); try simp only [zU, reduceIte, Nat.reduceEqDiff, Nat.reduceAdd, reduceCtorEq, Q51])
      have he67 := he6.trans he7
      refine Runs.appD (S := fun k => S k ∧ k < B1) Fx.un105 Fx.zi108 rfl (by decide) (Own.fresh (base := w6.heap.size) (by decide) hb7 (Nat.le_refl _)) ((hr1.ext he67).mono fun k hk _ => ⟨hk, fun e => by have := hk.2; have := own_at e; omega⟩) (encC_wid _) (by simpa using hxb) (by omega) (fun vl w8 hvl hc8 hblk8 => ?_)
      rw [List.nil_append] at hvl
      obtain ⟨A8, c8, rfl, -⟩ := hvl.len
      simp only [List.length_map] at hvl
      have he68 : Ext W w8 := he67.chg_trans hc8 (by intro k hk; have := own_at hk; omega)
      repeat ((try subst X); (first | (first | apply zL | apply zH | apply zE); intro X hX | apply zh | apply zl | apply ze); try simp only [zU, reduceIte, Nat.reduceEqDiff, Nat.reduceAdd, reduceCtorEq, Q51])
      refine ⟨he68, ?_⟩
      repeat ((try subst X); (first | (first | apply zL | apply zH | apply zE); intro X hX | apply zh | apply zl | apply ze); try simp only [zU, reduceIte, Nat.reduceEqDiff, Nat.reduceAdd, reduceCtorEq, Q51])
      refine Runs.lit1 (cs := [.slice A8 g.cases[i].length c8]) Fx.un35 Fx.zi105 rfl (by rw [List.length_map]; rfl) rfl (by decide) (by decide) (fun w9 he9 hs9 hb9 => ?_)
      repeat ((try subst X); (first | (first | apply zL | apply zH | apply zE); intro X hX | apply zh | apply zl | apply ze); try simp only [zU, reduceIte, Nat.reduceEqDiff, Nat.reduceAdd, reduceCtorEq, Q51])
      have he69 := he68.trans he9
      have hz69 := he69.size
      have hz68 := he68.size
      have hz7 := he67.size
      refine ⟨he69, ?_⟩
      repeat ((try subst X); (first | (first | apply zL | apply zH | apply zE); intro X hX | apply zh | apply zl | apply ze); try simp only [zU, reduceIte, Nat.reduceEqDiff, Nat.reduceAdd, reduceCtorEq, Q51])
      have hvb := fun k h => (hvl.lt (k := k) h)
      have hlen : ((g.cases.take i).map fun r => [D.sl 24 (r.map encC)]).length = i := by simp; omega
      have hvR : Rd w9 (fun k => F k ∧ v.ownBlock ≠ some k) [.slice A8 g.cases[i].length c8] [.sl 24 (g.cases[i].map encC)] := by
        have := (hvl.ext he9).rd (b := 24) (by simpa using hxl) (by simpa using hxb) (S' := fun k => F k ∧ v.ownBlock ≠ some k) (fun k hl hk => by
          rcases hk with hk | hk
          · refine ⟨hF3 k hk.1, fun e => ?_⟩
            have h1 := (qown.lt e).1; have := hk.1.2; omega
          · refine ⟨hF2 k (by have := (hvb k hk).1; omega), fun e => ?_⟩
            have h1 := (qown.lt e).2; have h2 := (hvb k hk).1; omega)
        exact this
      refine Runs.pushD Fx.un35 Fx.zi105 rfl (by decide) (qown.ext he69) hb9 hvR rfl (by rw [hlen]; omega) (by omega) (fun v9 w9' hown9 hc9 hblk9 => ?_)
      obtain ⟨A9, c9, rfl, -⟩ := hown9.len
      repeat ((try subst X); (first | (first | apply zL | apply zH | apply zE); intro X hX | apply zh | apply zl | apply ze); try simp only [zU, reduceIte, Nat.reduceEqDiff, Nat.reduceAdd, reduceCtorEq, Q51])
      have hob : ∀ k, v.ownBlock = some k → Z2 ≤ k := fun k h => (qown.lt h).1
      replace qb3 := (qb3.ext he69).chg hc9 (fun e => by have := hob _ e; omega)
      refine Runs.store qb3 Fx.zi35 rfl cell1s (by simp) (fun w10 hc10 hs10 hb10 => ?_)
      simp only [splice, Value.cells, List.length_singleton, Nat.reduceAdd, List.take_succ_cons, List.take_zero, List.drop_succ_cons, List.drop_zero, List.cons_append, List.nil_append, List.drop_nil] at hb10
      repeat ((try subst X); (first | (first | apply zL | apply zH | apply zE); intro X hX | apply zh | apply zl | apply ze); try simp only [zU, reduceIte, Nat.reduceEqDiff, Nat.reduceAdd, reduceCtorEq, Q51])
      have hc510 : Chg (fun x => x = B3 ∨ Z2 ≤ x) W w10 := (he69.chg _).trans ((hc9.mono fun k _ hk => .inr (hob k hk)).trans (hc10.mono fun k _ hk => .inl hk))
      refine ⟨by simp [sub, Env.get], he.chg_trans hc510 (by intro k hk; omega), by have := hc510.size; omega, qb1.chg hc510 (by omega), qb2.chg hc510 (by omega), _, hb10, ?_, qva.chg hc510 (fun k hk _ => by have := (hF1 k hk.1).2.2; have := hk.2; omega), qvk.chg hc510 (fun k hk _ => by have := (hF1 k hk.1).2.2; have := hk.2; omega)⟩
      rw [List.take_succ_eq_append_getElem hi, List.map_append]
      refine hown9.chg hc10 (fun k hk e => ?_) (fun k hk _ e => (hF1 k hk).2.2 e)
      have := (hown9.lt hk).1; omega
  rintro W2 ⟨he, hZW, hb1, hb2, vc, hb3, hownc, hva2, hvk2⟩
  rw [List.take_length] at hownc
  obtain ⟨A9, c9, rfl, -⟩ := hownc.len
  rw [hvk0] at hvk
  refine ok_seq (fun M hM => ok_region rfl ?_)
  repeat ((try subst X); (first | (first | apply zL | apply zH | apply zE); intro X hX | apply zh | apply zl | apply ze); try simp only [zU, reduceIte, Nat.reduceEqDiff, Nat.reduceAdd, reduceCtorEq, Q51])
  refine ⟨_, rfl, Blk.all (by assumption), ?_⟩
  repeat ((try subst X); (first | (first | apply zL | apply zH | apply zE); intro X hX | apply zh | apply zl | apply ze); try simp only [zU, reduceIte, Nat.reduceEqDiff, Nat.reduceAdd, reduceCtorEq, Q51])
  refine Runs.store hb2 Fx.zi37 rfl (by rw [← hva, hvk]; simp [Value.cells, Value.oneCell']) (by simp) (fun w5 hc5 hs5 hb5 => ?_)
  simp only [splice, Value.cells, List.length_cons, List.length_nil, Nat.reduceAdd, Nat.zero_add, List.take_zero, List.drop_succ_cons, List.drop_zero, List.append_nil, List.nil_append, List.drop_nil] at hb5
  repeat ((try subst X); (first | (first | apply zL | apply zH | apply zE); intro X hX | apply zh | apply zl | apply ze); try simp only [zU, reduceIte, Nat.reduceEqDiff, Nat.reduceAdd, reduceCtorEq, Q51])
  refine hM _ _ _ ?_; clear hM M
  refine ok_ret ?_
  try simp only [zW, zU, reduceIte, Nat.reduceEqDiff, Nat.reduceAdd, reduceCtorEq, Q51]
  refine ⟨_, rfl, hb5.all, he.chg_trans hc5 (by intro k hk; omega), _, rfl, ?_⟩
  refine Rd.mono (S := F) (rdG_mk ((hva2.mono fun k hk _ => hk.1).chg hc5 (fun k hk _ e => (hF1 k hk).2.1 e)) ((hvk2.mono fun k hk _ => hk.1).chg hc5 (fun k hk _ e => (hF1 k hk).2.1 e)) ((hownc.chg hc5 (fun k hk e => ?_) (fun k hk _ e => (hF1 k hk).2.1 e)).rd (by simpa using hcl) (by simpa using hcb) (fun k _ hk => ?_))) (fun k hk _ => hF4 k hk)
  · have := (hownc.lt hk).1; omega
  · rcases hk with ⟨hk, _⟩ | hk
    · exact hk
    · exact hF2 k (by have := (hownc.lt hk).1; omega)
-- -- function 17
set_option maxHeartbeats 4000000 in
set_option maxRecDepth 8000 in
theorem rfind_ok (w : World) (S : Nat → Prop) (cs : List Value) (g : G) (vp : Value) (path : List Int) (h : Rd w S cs (encG g)) (hp : Rd w S [vp] [isD path]) :
    Rets Tryz.prog 17 [.agg cs.toArray, vp] w (fun v w' => Ext w w' ∧ ∃ cs', v = .tuple #[.agg cs'.toArray, .bool (findG g path).isSome] ∧ Rd w' (fun k => S k ∨ w.heap.size ≤ k) cs' (encG ((findG g path).getD zeroG))) := by
  obtain ⟨Ap, cp, rfl, hpl, hpc⟩ := hp.ints
  have hcl : cs.length = 9 := by rw [h.len, encG_len]
  refine rets_of_okC Tryz.func17 rfl rfl ?_
  refine ok_seq (fun M hM => ok_region rfl ?_)
  repeat ((try subst X); (first | (first | apply zL | apply zH | apply zE); intro X hX | apply zh | apply zl | apply ze); try simp only [zU, reduceIte, Nat.reduceEqDiff, Nat.reduceAdd, reduceCtorEq, Q17])
  refine Runs.box (fun w1 he1 hs1 hb1 => ?_)
  rw [agg_cells] at hb1
  repeat ((try subst X); (first | (first | apply zL | apply zH | apply zE); intro X hX | apply zh | apply zl | apply ze); try simp only [zU, reduceIte, Nat.reduceEqDiff, Nat.reduceAdd, reduceCtorEq, Q17])
  refine Runs.alloc Fx.zi37 (fun w2 he2 hs2 hb2 => ?_)
  simp only [Value.cells] at hb2
  generalize hB1 : w.heap.size = B1 at *
  generalize hB2 : w1.heap.size = B2 at *
  repeat ((try subst X); (first | (first | apply zL | apply zH | apply zE); intro X hX | apply zh | apply zl | apply ze); try simp only [zU, reduceIte, Nat.reduceEqDiff, Nat.reduceAdd, reduceCtorEq, Q17])
  refine hM _ _ _ ?_; clear hM M
  have he02 := he1.trans he2
  refine ok_seq (fun M0 hM0 => ?_)
  refine ok_seq (fun M hM => ok_region rfl ?_); repeat ((try subst X); (first | (first | apply zL | apply zH | apply zE); intro X hX | apply zh | apply zl | apply ze); try simp only [zU, reduceIte, Nat.reduceEqDiff, Nat.reduceAdd, reduceCtorEq, Q17])
  refine hM _ _ _ ?_; clear hM M
  refine ok_while path.length [(1, .slice Ap path.length cp), (2, .pointer (some ⟨B1, 0, none⟩)), (4, .pointer (some ⟨B2, 0, none⟩))] (fun i W => Ext w W ∧ B2 < W.heap.size ∧ ∃ gi ci, findG g path = findG gi (path.drop i) ∧ Blk W B1 ci 37 ∧ Blk W B2 [.int .i64 0, .int .i64 0, .int .i64 0, .string ByteArray.empty, .int .i64 0, .slice none 0 0, .slice none 0 0, .slice none 0 0, .int .i64 0] 37 ∧ Rd W (fun k => S k ∧ k < B1) ci (encG gi)) (fun i W => Ext w W ∧ B2 < W.heap.size ∧ ∃ gi ci, findG g path = findG gi (path.drop i) ∧ Blk W B1 ci 37 ∧ Blk W B2 [.int .i64 0, .int .i64 0, .int .i64 0, .string ByteArray.empty, .int .i64 0, .slice none 0 0, .slice none 0 0, .slice none 0 0, .int .i64 0] 37 ∧ Rd W (fun k => S k ∧ k < B1) ci (encG gi)) rfl rfl (by simp [sub, Env.get]) hpl ⟨he02, by omega, g, cs, rfl, hb1.ext he2, hb2, (h.mono (S' := fun k => S k ∧ k < B1) (fun k h1 h2 => ⟨h1, hB1 ▸ h2⟩)).ext he02⟩ ?_ ?_
  · rintro i W hi ⟨he, hB, gi, ci, hf, hb1, hb2, hg⟩
    refine ok_region rfl ?_
    repeat ((try subst X); (first | (first | apply zL | apply zH | apply zE); intro X hX | apply zh | apply zl | apply ze); try simp only [zU, reduceIte, Nat.reduceEqDiff, Nat.reduceAdd, reduceCtorEq, Q17])
    refine ⟨by simp [sub, Env.get], wh (fun hlt => ⟨he, hB, gi, ci, hf, hb1, hb2, hg⟩) (fun hge => ?_)⟩
    obtain rfl : i = path.length := by omega
    refine hM0 _ _ _ ?_; clear hM0 M0
    rw [List.drop_length] at hf
    have hl : ci.length = 9 := by rw [hg.len, encG_len]
    refine ok_seq (fun M hM => ok_region rfl ?_)
    repeat ((try subst X); (first | (first | apply zL | apply zH | apply zE); intro X hX | apply zh | apply zl | apply ze); try simp only [zU, reduceIte, Nat.reduceEqDiff, Nat.reduceAdd, reduceCtorEq, Q17])
    refine ⟨ci, hl, hb1.all, ?_⟩
    repeat ((try subst X); (first | (first | apply zL | apply zH | apply zE); intro X hX | apply zh | apply zl | apply ze); try simp only [zU, reduceIte, Nat.reduceEqDiff, Nat.reduceAdd, reduceCtorEq, Q17])
    refine Inv.call Fx.en51 (copyGoal_ok gi W _ ci hg) ?_
    rintro _ w4 ⟨he4, cs4, rfl, hr4⟩
    have hl4 : cs4.length = 9 := by rw [hr4.len, encG_len]
    repeat ((try subst X); (first | (first | apply zL | apply zH | apply zE); intro X hX | apply zh | apply zl | apply ze); try simp only [zU, reduceIte, Nat.reduceEqDiff, Nat.reduceAdd, reduceCtorEq, Q17])
    refine Runs.store (hb2.ext he4) Fx.zi37 (by simpa [Value.cells] using hl4) (fun u hu => (hr4.one u (by simpa [Value.cells] using hu)).1) (by simp [Value.cells, hl4]) (fun w5 hc5 hs5 hb5 => ?_)
    rw [agg_cells, splice_all _ _ (by simpa using hl4)] at hb5
    repeat ((try subst X); (first | (first | apply zL | apply zH | apply zE); intro X hX | apply zh | apply zl | apply ze); try simp only [zU, reduceIte, Nat.reduceEqDiff, Nat.reduceAdd, reduceCtorEq, Q17])
    refine hM _ _ _ ?_; clear hM M
    refine ok_ret ?_
    try simp only [zW, zU, reduceIte, Nat.reduceEqDiff, Nat.reduceAdd, reduceCtorEq, Q17]
    refine ⟨cs4, hl4, hb5.all, (he.trans he4).chg_trans hc5 (by omega), cs4, ?_, ?_⟩
    · rw [hf]; rfl
    · rw [hf]
      refine (hr4.mono fun k hk _ => ?_).chg (S := fun k => S k ∧ k < B1 ∨ W.heap.size ≤ k) hc5 (fun k hk _ => by rcases hk with hk | hk; have := hk.2; omega; omega) |>.mono (fun k hk _ => by rcases hk with hk | hk; exact .inl hk.1; exact .inr (by have := he.size; omega))
      exact hk
  · rintro i W hi ⟨he, hB, gi, ci, hf, hb1, hb2, hg⟩
    have hx : path[i]? = some path[i] := List.getElem?_eq_getElem hi
    have hdr : path.drop i = path[i] :: path.drop (i + 1) := List.drop_eq_getElem_cons hi
    obtain ⟨k, o, hA, -, hcell⟩ := hpc i _ hx
    subst hA
    generalize hn : path[i] = n at *
    obtain ⟨Aa, ca, Ak, ck, Ac, cc, rfl, -, hk, -⟩ := rdG hg
    refine ok_seq (fun M hM => ?_)
    refine ok_join [(1, .slice (some ⟨k, o, none⟩) path.length cp), (2, .pointer (some ⟨B1, 0, none⟩)), (4, .pointer (some ⟨B2, 0, none⟩)), (6, .int .i64 (i : Int)), (27, .bool (decide (n < 0 ∨ (gi.kids.length : Int) ≤ n)))] (fun w' => Ext W w') ?_ ?_
    · refine (ok_drawR [2] [0, 1, 2, 3, 4, 5, 6, 7, 8, 9, 10, 11, 12, 13, 14] 15 [] (Ext _) Fx.mixed (by decide) rfl rfl rfl (by decide +kernel) (by decide +kernel) (Ext.drew _) ?_); simp only [pickL, List.getElem?_cons_zero, List.getElem?_cons_succ, List.take_succ_cons, List.take_zero, List.drop_succ_cons, List.drop_zero]
      repeat ((try subst X); (first | (first | apply zL | apply zH | apply zE); intro X hX | apply zh | apply zl | apply ze); try simp only [zU, reduceIte, Nat.reduceEqDiff, Nat.reduceAdd, reduceCtorEq, Q17])
      refine ⟨by omega, by omega, ?_⟩
      repeat ((try subst X); (first | (first | apply zL | apply zH | apply zE); intro X hX | apply zh | apply zl | apply ze); try simp only [zU, reduceIte, Nat.reduceEqDiff, Nat.reduceAdd, reduceCtorEq, Q17])
      refine ⟨.int .i64 n, fun w' h => (he.trans h).cell (by simpa [add_at] using hcell), ?_⟩
      repeat ((try subst X); (first | (first | apply zL | apply zH | apply zE); intro X hX | apply zh | apply zl | apply ze); try simp only [zU, reduceIte, Nat.reduceEqDiff, Nat.reduceAdd, reduceCtorEq, Q17])
      by_cases hneg : n < 0
      · simp only [hneg, decide_true, true_or]
        repeat ((try subst X); (first | (first | apply zL | apply zH | apply zE); intro X hX | apply zh | apply zl | apply ze); try simp only [zU, reduceIte, Nat.reduceEqDiff, Nat.reduceAdd, reduceCtorEq, Q17])
        refine ⟨fun h => (by cases h), fun _ => ?_⟩
        repeat ((try subst X); (first | (first | apply zL | apply zH | apply zE); intro X hX | apply zh | apply zl | apply ze); try simp only [zU, reduceIte, Nat.reduceEqDiff, Nat.reduceAdd, reduceCtorEq, Q17])
        intro w6 he6
        repeat ((try subst X); (first | (first | apply zL | apply zH | apply zE); intro X hX | apply zh | apply zl | apply ze); try simp only [zU, reduceIte, Nat.reduceEqDiff, Nat.reduceAdd, reduceCtorEq, Q17])
        simp [sub, Env.get, he6]
        exact .inl hneg
      · simp only [hneg, decide_false, false_or]
        repeat ((try subst X); (first | (first | apply zL | apply zH | apply zE); intro X hX | apply zh | apply zl | apply ze); try simp only [zU, reduceIte, Nat.reduceEqDiff, Nat.reduceAdd, reduceCtorEq, Q17])
        refine ⟨fun _ => ?_, fun h => (by cases h)⟩
        repeat ((try subst X); (first | (first | apply zL | apply zH | apply zE); intro X hX | apply zh | apply zl | apply ze); try simp only [zU, reduceIte, Nat.reduceEqDiff, Nat.reduceAdd, reduceCtorEq, Q17])
        refine ⟨by omega, by omega, ?_⟩
        repeat ((try subst X); (first | (first | apply zL | apply zH | apply zE); intro X hX | apply zh | apply zl | apply ze); try simp only [zU, reduceIte, Nat.reduceEqDiff, Nat.reduceAdd, reduceCtorEq, Q17])
        refine ⟨.int .i64 n, fun w' h => (he.trans h).cell (by simpa [add_at] using hcell), ?_⟩
        repeat ((try subst X); (first | (first | apply zL | apply zH | apply zE); intro X hX | apply zh | apply zl | apply ze); try simp only [zU, reduceIte, Nat.reduceEqDiff, Nat.reduceAdd, reduceCtorEq, Q17])
        refine ⟨_, fun w' h => (hb1.ext h).cell rfl, ?_⟩
        repeat ((try subst X); (first | (first | apply zL | apply zH | apply zE); intro X hX | apply zh | apply zl | apply ze); try simp only [zU, reduceIte, Nat.reduceEqDiff, Nat.reduceAdd, reduceCtorEq, Q17])
        intro w6 he6
        repeat ((try subst X); (first | (first | apply zL | apply zH | apply zE); intro X hX | apply zh | apply zl | apply ze); try simp only [zU, reduceIte, Nat.reduceEqDiff, Nat.reduceAdd, reduceCtorEq, Q17])
        simp [sub, Env.get, he6]
        exact fun h => absurd h hneg
    rintro W6 he6
    replace he := he.trans he6
    replace hb1 := hb1.ext he6
    replace hb2 := hb2.ext he6
    have hz6 := he6.size
    replace hk := hk.ext he6
    by_cases hbad : n < 0 ∨ (gi.kids.length : Int) ≤ n
    · have hnone : findG g path = none := by rw [hf, hdr]; exact findG_bad hbad
      refine ok_cond (b := true) (by simp [ev, Env.get, hbad]) (fun _ => ?_) (fun h => by cases h)
      refine ok_seq (fun M2 hM2 => ok_region rfl ?_)
      repeat ((try subst X); (first | (first | apply zL | apply zH | apply zE); intro X hX | apply zh | apply zl | apply ze); try simp only [zU, reduceIte, Nat.reduceEqDiff, Nat.reduceAdd, reduceCtorEq, Q17])
      refine Runs.build (parts := []) st37 rfl ?_
      repeat ((try subst X); (first | (first | apply zL | apply zH | apply zE); intro X hX | apply zh | apply zl | apply ze); try simp only [zU, reduceIte, Nat.reduceEqDiff, Nat.reduceAdd, reduceCtorEq, Q17])
      refine Runs.store hb2 Fx.zi37 rfl (by simp [Value.cells, Value.oneCell']) (by simp) (fun w5 hc5 hs5 hb5 => ?_)
      simp only [splice, Value.cells, List.length_cons, List.length_nil, Nat.reduceAdd, Nat.zero_add, List.take_zero, List.drop_succ_cons, List.drop_zero, List.append_nil, List.nil_append, List.drop_nil] at hb5
      repeat ((try subst X); (first | (first | apply zL | apply zH | apply zE); intro X hX | apply zh | apply zl | apply ze); try simp only [zU, reduceIte, Nat.reduceEqDiff, Nat.reduceAdd, reduceCtorEq, Q17])
      refine hM2 _ _ _ ?_; clear hM2 M2
      refine ok_ret ?_
      try simp only [zW, zU, reduceIte, Nat.reduceEqDiff, Nat.reduceAdd, reduceCtorEq, Q17]
      rw [hnone]
      exact ⟨_, rfl, hb5.all, he.chg_trans hc5 (by omega), _, rfl, rd_zeroG _ _⟩
    · refine ok_cond (b := false) (by simp [ev, Env.get, hbad]) (fun h => by cases h) (fun _ => ok_skip ?_)
      refine hM _ _ _ ?_; clear hM M
      have hkid : gi.kids[n.toNat]? = some (gi.kids[n.toNat]'(by omega)) := List.getElem?_eq_getElem _
      generalize gi.kids[n.toNat]'(by omega) = kd at hkid
      obtain ⟨k', o', r, hA', hSk, hkl, hcell', hr⟩ := hk.row (j := n.toNat) (row := encG kd) (by simp [hkid])
      subst hA'
      rw [encG_len] at hcell'
      have hrl : r.length = 9 := by rw [hr.len, encG_len]
      refine (ok_drawR [0, 4, 6] [0, 1, 2, 3, 4, 5, 6, 7, 8] 8 [(false, true)] (Ext _) Fx.mixed (by decide) rfl rfl rfl (by decide +kernel) (by decide +kernel) (Ext.drew _) ?_); simp only [pickL, List.getElem?_cons_zero, List.getElem?_cons_succ, List.take_succ_cons, List.take_zero, List.drop_succ_cons, List.drop_zero]
      repeat ((try subst X); (first | (first | apply zL | apply zH | apply zE); intro X hX | apply zh | apply zl | apply ze); try simp only [zU, reduceIte, Nat.reduceEqDiff, Nat.reduceAdd, reduceCtorEq, Q17])
      refine ⟨_, fun w' h => (hb1.ext h).cell rfl, ?_⟩
      repeat ((try subst X); (first | (first | apply zL | apply zH | apply zE); intro X hX | apply zh | apply zl | apply ze); try simp only [zU, reduceIte, Nat.reduceEqDiff, Nat.reduceAdd, reduceCtorEq, Q17])
      refine ⟨by omega, by omega, ?_⟩
      repeat ((try subst X); (first | (first | apply zL | apply zH | apply zE); intro X hX | apply zh | apply zl | apply ze); try simp only [zU, reduceIte, Nat.reduceEqDiff, Nat.reduceAdd, reduceCtorEq, Q17])
      refine ⟨.int .i64 n, fun w' h => (he.trans h).cell (by simpa [add_at] using hcell), ?_⟩
      repeat ((try subst X); (first | (first | apply zL | apply zH | apply zE); intro X hX | apply zh | apply zl | apply ze); try simp only [zU, reduceIte, Nat.reduceEqDiff, Nat.reduceAdd, reduceCtorEq, Q17])
      refine ⟨by omega, by omega, ?_⟩
      repeat ((try subst X); (first | (first | apply zL | apply zH | apply zE); intro X hX | apply zh | apply zl | apply ze); try simp only [zU, reduceIte, Nat.reduceEqDiff, Nat.reduceAdd, reduceCtorEq, Q17])
      refine ⟨r, hrl, fun w' h => h.cellsAt (by simpa [add_at] using hcell'), ?_⟩
      repeat ((try subst X); (first | (first | apply zL | apply zH | apply zE); intro X hX | apply zh | apply zl | apply ze); try simp only [zU, reduceIte, Nat.reduceEqDiff, Nat.reduceAdd, reduceCtorEq, Q17])
      intro w7 he7
      repeat ((try subst X); (first | (first | apply zL | apply zH | apply zE); intro X hX | apply zh | apply zl | apply ze); try simp only [zU, reduceIte, Nat.reduceEqDiff, Nat.reduceAdd, reduceCtorEq, Q17])
      refine Runs.store (hb1.ext he7) Fx.zi37 (by simpa [Value.cells] using hrl) (fun u hu => (hr.one u (by simpa [Value.cells] using hu)).1) (by simp [Value.cells, hrl]) (fun w5 hc5 hs5 hb5 => ?_)
      rw [agg_cells, splice_all _ _ (by simpa using hrl)] at hb5
      repeat ((try subst X); (first | (first | apply zL | apply zH | apply zE); intro X hX | apply zh | apply zl | apply ze); try simp only [zU, reduceIte, Nat.reduceEqDiff, Nat.reduceAdd, reduceCtorEq, Q17])
      refine ⟨by simp [sub, Env.get], (he.trans he7).chg_trans hc5 (by omega), by have := hc5.size; have := he7.size; omega, kd, r, ?_, hb5, (hb2.ext he7).chg hc5 (by omega), (hr.ext he7).chg hc5 (fun k hk _ => by have := hk.2; omega)⟩
      rw [hf, hdr]; exact findG_step (by omega) (by omega) hkid
end Go.Proofs.YtcpjojaklpgnkaaGreat
/- Chapter 31: which variables are bound.  -/
set_option linter.unusedVariables false
set_option linter.unusedSimpArgs false
namespace Go.Proofs.Vg
def bndI (insts : List In) (from_ : Int) : Bool := decide (from_ < 0) || decide ((insts.length : Int) ≤ from_) || (match insts[from_.toNat]? with | some i => decide (i.kind ≠ 0) | none => false)
def givenAt (p : Pr) (insts : List In) (v : Int) (i : Nat) : Bool := decide (p.heads[i]? = some v) && (match p.modes[i]? with | some m => bndI insts m.1 | none => false)
/-- Is a variable a head that is bound at the beginning? -/
def givenP (p : Pr) (insts : List In) (v : Int) : Bool := (List.range p.heads.length).any (givenAt p insts v)
def aheadG (ks : List G) (n : Nat) (v : Int) : Bool := (ks.take n).any fun k => occG k v
def wayG (g : G) (n : Int) (v : Int) : Bool := if g.kind = 0 ∨ g.kind = 2 then aheadG g.kids n.toNat v else if g.kind = 3 then decide (n = 1) && (match g.kids[0]? with | some k => occG k v | none => false) else if g.kind = 6 then decide (g.left = v) else false
def boundW : G → List Int → Nat → Int → Bool
  | g, [], i, v => aheadG g.kids i v
  | g, n :: r, i, v => wayG g n v || (match g.kids[n.toNat]? with | some k => boundW k r i v | none => false)
/-- Is a variable bound in front of a kid? -/
def boundP (p : Pr) (insts : List In) (path : List Int) (i v : Int) : Bool := match findG p.body path with
  | none => false
  | some g => if g.kind ≠ 0 ∨ i < 0 ∨ (g.kids.length : Int) < i then false else givenP p insts v || boundW p.body path i.toNat v
end Go.Proofs.Vg
namespace Go.Proofs.YtcpjojaklpgnkaaGreat
open Go Go.Proofs.Vg Go.RowKit
theorem rdP {w : World} {S : Nat → Prop} {cs : List Value} {p : Pr} (h : Rd w S cs (encP p)) : ∃ Av cv Ah ch Am cm Aa ca Ak ck Ac cc, cs = [.string p.name, .int .i64 p.number, .slice Av p.vars.length cv, .slice Ah p.heads.length ch, .slice Am p.modes.length cm, .int .i64 p.det,
      .int .i64 p.body.kind, .int .i64 p.body.left, .int .i64 p.body.num, .string p.body.text, .int .i64 p.body.form, .slice Aa p.body.args.length ca, .slice Ak p.body.kids.length ck, .slice Ac p.body.cases.length cc, .int .i64 p.body.pos, .string p.builtin, .int .i64 p.pos] ∧
    Rd w S [.slice Av p.vars.length cv] [.sl 64 (p.vars.map encV)] ∧ Rd w S [.slice Ah p.heads.length ch] [isD p.heads] ∧ Rd w S [.slice Am p.modes.length cm] [.sl 16 (p.modes.map encM)] ∧
    Rd w S [.int .i64 p.body.kind, .int .i64 p.body.left, .int .i64 p.body.num, .string p.body.text, .int .i64 p.body.form, .slice Aa p.body.args.length ca, .slice Ak p.body.kids.length ck, .slice Ac p.body.cases.length cc, .int .i64 p.body.pos] (encG p.body) := by
  match cs, h.len with
  | [a, b, c, d, e, f, g1, g2, g3, g4, g5, g6, g7, g8, g9, y, z], _ =>
    obtain ⟨e1, h1⟩ := h.atc
    obtain ⟨e2, h2⟩ := h1.atc
    obtain ⟨h3, h4⟩ := h2.slc
    obtain ⟨h5, h6⟩ := h4.slc
    obtain ⟨h7, h8⟩ := h6.slc
    obtain ⟨e3, h9⟩ := h8.atc
    have hb : Rd w S [g1, g2, g3, g4, g5, g6, g7, g8, g9] (encG p.body) := by
      have h10 : Rd w S [g1, g2, g3, g4, g5, g6, g7, g8, g9, y, z] (encG p.body ++ [sD p.builtin, iD p.pos]) := by rw [encG_eq]; exact h9
      have := h10.split.1
      rw [encG_len] at this
      exact this
    have ht : Rd w S [y, z] [sD p.builtin, iD p.pos] := by
      have h10 : Rd w S [g1, g2, g3, g4, g5, g6, g7, g8, g9, y, z] (encG p.body ++ [sD p.builtin, iD p.pos]) := by rw [encG_eq]; exact h9
      have := h10.split.2
      rw [encG_len] at this
      exact this
    obtain ⟨e4, h11⟩ := ht.atc
    obtain ⟨e5, -⟩ := h11.atc
    obtain ⟨Aa, ca, Ak, ck, Ac, cc, hbe, -, -, -⟩ := rdG hb
    simp only [List.cons.injEq, and_true] at hbe
    obtain ⟨b1, b2, b3, b4, b5, b6, b7, b8, b9⟩ := hbe
    subst e1 e2 e3 e4 e5 b1 b2 b3 b4 b5 b6 b7 b8 b9
    obtain ⟨A1, c1, rfl, -⟩ := h3.hd
    obtain ⟨A2, c2, rfl, -⟩ := h5.hd
    obtain ⟨A3, c3, rfl, -⟩ := h7.hd
    simp only [List.length_map] at h3 h5 h7
    exact ⟨A1, c1, A2, c2, A3, c3, Aa, ca, Ak, ck, Ac, cc, by simp, h3, h5, h7, hb⟩
theorem encM_wid (l : List Md) : ∀ r ∈ l.map encM, r.length = 2 := by
  intro r hr; obtain ⟨x, -, rfl⟩ := List.mem_map.1 hr; rfl
theorem encI_wid (l : List In) : ∀ r ∈ l.map encI, r.length = 4 := by
  intro r hr; obtain ⟨x, -, rfl⟩ := List.mem_map.1 hr; rfl
theorem modeAt {w : World} {S : Nat → Prop} {A : Option Addr} {n c : Nat} {l : List Md} (h : Rd w S [.slice A n c] [.sl 16 (l.map encM)]) {i : Nat} {m : Md} (hi : l[i]? = some m) : ∃ k o, A = some ⟨k, o, none⟩ ∧ w.cell? ⟨k, o + i * 2, none⟩ = some (.int .i64 m.1) := by
  obtain ⟨k, o, r, h1, -, -, h4, h5⟩ := h.row (j := i) (row := encM m) (by simp [hi])
  obtain ⟨v, h6, h7⟩ := h5.get 0 _ rfl
  have := h7.at_inv; subst this
  refine ⟨k, o, h1, ?_⟩
  have := h4 0 _ h6
  simpa [add_at] using this
theorem instAt {w : World} {S : Nat → Prop} {A : Option Addr} {n c : Nat} {l : List In} (h : Rd w S [.slice A n c] [.sl 64 (l.map encI)]) {i : Nat} {m : In} (hi : l[i]? = some m) : ∃ k o, A = some ⟨k, o, none⟩ ∧ w.cell? ⟨k, o + i * 4, none⟩ = some (.int .i64 m.kind) := by
  obtain ⟨k, o, r, h1, -, -, h4, h5⟩ := h.row (j := i) (row := encI m) (by simp [hi])
  obtain ⟨v, h6, h7⟩ := h5.get 0 _ rfl
  have := h7.at_inv; subst this
  refine ⟨k, o, h1, ?_⟩
  have := h4 0 _ h6
  simpa [add_at] using this
-- -- function 55
set_option maxHeartbeats 4000000 in
set_option maxRecDepth 8000 in
theorem given_ok (w : World) (S : Nat → Prop) (cs : List Value) (p : Pr) (insts : List In) (vi : Value) (v : Int) (h : Rd w S cs (encP p)) (hi : Rd w S [vi] [.sl 64 (insts.map encI)]) :
    Rets Tryz.prog 55 [.agg cs.toArray, vi, .int .i64 v] w (fun r w' => r = .bool (givenP p insts v) ∧ Ext w w') := by
  obtain ⟨Ai, ci, rfl, hil, -, -⟩ := hi.hd
  simp only [List.length_map] at hi hil
  obtain ⟨Av, cv, Ah, ch, Am, cm, Aa, ca, Ak, ck, Ac, cc, rfl, -, hh, hm, -⟩ := rdP h
  obtain ⟨_, _, hA, hhl, hhc⟩ := hh.ints
  injection hA with hA1 _ hA2
  subst hA1 hA2
  obtain ⟨_, _, -, hml, -, -⟩ := hm.hd
  simp only [List.length_map] at hml
  refine rets_of_ok Tryz.func55 rfl rfl ?_
  refine ok_seq (fun M hM => ok_region rfl ?_)
  repeat ((try subst X); (first | (first | apply zL | apply zH | apply zE); intro X hX | apply zh | apply zl | apply ze); try simp only [zU, reduceIte, Nat.reduceEqDiff, Nat.reduceAdd, reduceCtorEq, Q55])
  refine Runs.box (fun w1 he1 hs1 hb1 => ?_)
  rw [agg_cells] at hb1
  repeat ((try subst X); (first | (first | apply zL | apply zH | apply zE); intro X hX | apply zh | apply zl | apply ze); try simp only [zU, reduceIte, Nat.reduceEqDiff, Nat.reduceAdd, reduceCtorEq, Q55])
  refine hM _ _ _ ?_; clear hM M
  refine ok_seq (fun M0 hM0 => ?_)
  refine ok_seq (fun M hM => ok_region rfl ?_)
  repeat ((try subst X); (first | (first | apply zL | apply zH | apply zE); intro X hX | apply zh | apply zl | apply ze); try simp only [zU, reduceIte, Nat.reduceEqDiff, Nat.reduceAdd, reduceCtorEq, Q55])
  refine ⟨_, Blk.cell (by assumption) rfl, ?_⟩
  repeat ((try subst X); (first | (first | apply zL | apply zH | apply zE); intro X hX | apply zh | apply zl | apply ze); try simp only [zU, reduceIte, Nat.reduceEqDiff, Nat.reduceAdd, reduceCtorEq, Q55])
  refine hM _ _ _ ?_; clear hM M
  refine ok_for [(1, .slice Ai insts.length ci), (2, .int .i64 v), (3, .pointer (some ⟨w.heap.size, 0, none⟩)), (11, .slice Ah p.heads.length ch)] (fun i W => W = w1 ∧ ∀ j, j < i → givenAt p insts v j = false) rfl (by simp [sub, Env.get]) rfl (by simp [sub, Env.get]) hhl ⟨rfl, fun j h => by omega⟩ ?_ ?_
  · rintro i W hi' ⟨rfl, hno⟩
    have hx : p.heads[i]? = some p.heads[i] := List.getElem?_eq_getElem hi'
    obtain ⟨k, o, hA, -, hcell⟩ := hhc i _ hx
    subst hA
    generalize p.heads[i] = hd at hx hcell
    refine ok_seq (fun M hM => ok_region rfl ?_)
    repeat ((try subst X); (first | (first | apply zL | apply zH | apply zE); intro X hX | apply zh | apply zl | apply ze); try simp only [zU, reduceIte, Nat.reduceEqDiff, Nat.reduceAdd, reduceCtorEq, Q55])
    refine ⟨by omega, by omega, ?_⟩
    repeat ((try subst X); (first | (first | apply zL | apply zH | apply zE); intro X hX | apply zh | apply zl | apply ze); try simp only [zU, reduceIte, Nat.reduceEqDiff, Nat.reduceAdd, reduceCtorEq, Q55])
    refine ⟨_, he1.cell (by simpa [add_at] using hcell), ?_⟩
    repeat ((try subst X); (first | (first | apply zL | apply zH | apply zE); intro X hX | apply zh | apply zl | apply ze); try simp only [zU, reduceIte, Nat.reduceEqDiff, Nat.reduceAdd, reduceCtorEq, Q55])
    refine hM _ _ _ ?_; clear hM M
    have step : givenAt p insts v i = false → ∀ j, j < i + 1 → givenAt p insts v j = false := fun h j hj => by
      rcases Nat.lt_or_ge j i with h1 | h1
      · exact hno j h1
      · have : j = i := by omega
        rw [this]; exact h
    refine ok_join [(1, .slice Ai insts.length ci), (2, .int .i64 v), (3, .pointer (some ⟨w.heap.size, 0, none⟩)), (11, .slice (some ⟨k, o, none⟩) p.heads.length ch), (12, .int .i64 (p.heads.length : Int)), (13, .int .i64 (i : Int)), (7, .int .i64 (i : Int)), (27, .bool (decide (hd = v ∧ i < p.modes.length)))] (fun w' => W = w') ?_ ?_
    · refine ok_region rfl ?_
      repeat ((try subst X); (first | (first | apply zL | apply zH | apply zE); intro X hX | apply zh | apply zl | apply ze); try simp only [zU, reduceIte, Nat.reduceEqDiff, Nat.reduceAdd, reduceCtorEq, Q55])
      by_cases hv : hd = v
      · simp only [hv, decide_true, true_and]
        repeat ((try subst X); (first | (first | apply zL | apply zH | apply zE); intro X hX | apply zh | apply zl | apply ze); try simp only [zU, reduceIte, Nat.reduceEqDiff, Nat.reduceAdd, reduceCtorEq, Q55])
        refine ⟨fun _ => ?_, fun h => (by cases h)⟩
        repeat ((try subst X); (first | (first | apply zL | apply zH | apply zE); intro X hX | apply zh | apply zl | apply ze); try simp only [zU, reduceIte, Nat.reduceEqDiff, Nat.reduceAdd, reduceCtorEq, Q55])
        refine ⟨_, Blk.cell (by assumption) rfl, ?_⟩
        repeat ((try subst X); (first | (first | apply zL | apply zH | apply zE); intro X hX | apply zh | apply zl | apply ze); try simp only [zU, reduceIte, Nat.reduceEqDiff, Nat.reduceAdd, reduceCtorEq, Q55])
        simp [sub, Env.get, hv]
      · simp only [hv, decide_false, false_and]
        repeat ((try subst X); (first | (first | apply zL | apply zH | apply zE); intro X hX | apply zh | apply zl | apply ze); try simp only [zU, reduceIte, Nat.reduceEqDiff, Nat.reduceAdd, reduceCtorEq, Q55])
        refine ⟨fun h => (by cases h), fun _ => ?_⟩
        repeat ((try subst X); (first | (first | apply zL | apply zH | apply zE); intro X hX | apply zh | apply zl | apply ze); try simp only [zU, reduceIte, Nat.reduceEqDiff, Nat.reduceAdd, reduceCtorEq, Q55])
        simp [sub, Env.get, hv]
    rintro _ rfl
    by_cases hv : hd = v ∧ i < p.modes.length
    · have hmi : p.modes[i]? = some p.modes[i] := List.getElem?_eq_getElem hv.2
      obtain ⟨k2, o2, hAm, hmc⟩ := modeAt (hm.ext he1) hmi
      subst hAm
      generalize hmm : p.modes[i] = m at *
      refine ok_cond (b := true) (by simp [ev, Env.get, hv]) (fun _ => ?_) (fun h => by cases h)
      have hga : givenAt p insts v i = bndI insts m.1 := by simp [givenAt, hx, hv.1, hmi]
      refine ok_seq (fun M hM => ok_region rfl ?_)
      repeat ((try subst X); (first | (first | apply zL | apply zH | apply zE); intro X hX | apply zh | apply zl | apply ze); try simp only [zU, reduceIte, Nat.reduceEqDiff, Nat.reduceAdd, reduceCtorEq, Q55])
      refine ⟨_, Blk.cell (by assumption) rfl, ?_⟩
      repeat ((try subst X); (first | (first | apply zL | apply zH | apply zE); intro X hX | apply zh | apply zl | apply ze); try simp only [zU, reduceIte, Nat.reduceEqDiff, Nat.reduceAdd, reduceCtorEq, Q55])
      refine ⟨by omega, by omega, ?_⟩
      repeat ((try subst X); (first | (first | apply zL | apply zH | apply zE); intro X hX | apply zh | apply zl | apply ze); try simp only [zU, reduceIte, Nat.reduceEqDiff, Nat.reduceAdd, reduceCtorEq, Q55])
      refine ⟨_, by simpa [add_at] using hmc, ?_⟩
      repeat ((try subst X); (first | (first | apply zL | apply zH | apply zE); intro X hX | apply zh | apply zl | apply ze); try simp only [zU, reduceIte, Nat.reduceEqDiff, Nat.reduceAdd, reduceCtorEq, Q55])
      refine hM _ _ _ ?_; clear hM M
      refine ok_join [(1, .slice Ai insts.length ci), (2, .int .i64 v), (3, .pointer (some ⟨w.heap.size, 0, none⟩)), (11, .slice (some ⟨k, o, none⟩) p.heads.length ch), (12, .int .i64 (p.heads.length : Int)), (13, .int .i64 (i : Int)), (49, .bool (bndI insts m.1))] (fun w' => W = w') ?_ ?_
      · refine ok_region rfl ?_
        repeat ((try subst X); (first | (first | apply zL | apply zH | apply zE); intro X hX | apply zh | apply zl | apply ze); try simp only [zU, reduceIte, Nat.reduceEqDiff, Nat.reduceAdd, reduceCtorEq, Q55])
        by_cases h0 : m.1 < 0
        · simp only [h0, decide_true]
          repeat ((try subst X); (first | (first | apply zL | apply zH | apply zE); intro X hX | apply zh | apply zl | apply ze); try simp only [zU, reduceIte, Nat.reduceEqDiff, Nat.reduceAdd, reduceCtorEq, Q55])
          refine ⟨fun h => (by cases h), fun _ => ?_⟩
          repeat ((try subst X); (first | (first | apply zL | apply zH | apply zE); intro X hX | apply zh | apply zl | apply ze); try simp only [zU, reduceIte, Nat.reduceEqDiff, Nat.reduceAdd, reduceCtorEq, Q55])
          simp [sub, Env.get, bndI, h0]
        · simp only [h0, decide_false]
          repeat ((try subst X); (first | (first | apply zL | apply zH | apply zE); intro X hX | apply zh | apply zl | apply ze); try simp only [zU, reduceIte, Nat.reduceEqDiff, Nat.reduceAdd, reduceCtorEq, Q55])
          refine ⟨fun _ => ?_, fun h => (by cases h)⟩
          repeat ((try subst X); (first | (first | apply zL | apply zH | apply zE); intro X hX | apply zh | apply zl | apply ze); try simp only [zU, reduceIte, Nat.reduceEqDiff, Nat.reduceAdd, reduceCtorEq, Q55])
          by_cases h2 : (insts.length : Int) ≤ m.1
          · simp only [h2, decide_true]
            repeat ((try subst X); (first | (first | apply zL | apply zH | apply zE); intro X hX | apply zh | apply zl | apply ze); try simp only [zU, reduceIte, Nat.reduceEqDiff, Nat.reduceAdd, reduceCtorEq, Q55])
            refine ⟨fun h => (by cases h), fun _ => ?_⟩
            repeat ((try subst X); (first | (first | apply zL | apply zH | apply zE); intro X hX | apply zh | apply zl | apply ze); try simp only [zU, reduceIte, Nat.reduceEqDiff, Nat.reduceAdd, reduceCtorEq, Q55])
            simp [sub, Env.get, bndI, h2]
          · simp only [h2, decide_false]
            repeat ((try subst X); (first | (first | apply zL | apply zH | apply zE); intro X hX | apply zh | apply zl | apply ze); try simp only [zU, reduceIte, Nat.reduceEqDiff, Nat.reduceAdd, reduceCtorEq, Q55])
            refine ⟨fun _ => ?_, fun h => (by cases h)⟩
            repeat ((try subst X); (first | (first | apply zL | apply zH | apply zE); intro X hX | apply zh | apply zl | apply ze); try simp only [zU, reduceIte, Nat.reduceEqDiff, Nat.reduceAdd, reduceCtorEq, Q55])
            have hin : insts[m.1.toNat]? = some (insts[m.1.toNat]'(by omega)) := List.getElem?_eq_getElem _
            generalize insts[m.1.toNat]'(by omega) = q at hin
            obtain ⟨k3, o3, hAi, hic⟩ := instAt (hi.ext he1) hin
            subst hAi
            refine ⟨by omega, by omega, ?_⟩
            repeat ((try subst X); (first | (first | apply zL | apply zH | apply zE); intro X hX | apply zh | apply zl | apply ze); try simp only [zU, reduceIte, Nat.reduceEqDiff, Nat.reduceAdd, reduceCtorEq, Q55])
            refine ⟨_, by simpa [add_at] using hic, ?_⟩
            repeat ((try subst X); (first | (first | apply zL | apply zH | apply zE); intro X hX | apply zh | apply zl | apply ze); try simp only [zU, reduceIte, Nat.reduceEqDiff, Nat.reduceAdd, reduceCtorEq, Q55])
            have hb : bndI insts m.1 = !decide (q.kind = 0) := by simp [bndI, h0, h2, hin]
            simp [sub, Env.get, hb]
      rintro _ rfl
      cases hb : bndI insts m.1 with
      | true =>
        refine ok_cond rfl (fun _ => ?_) (fun h => by cases h)
        refine ok_seq (fun M hM => ok_region rfl ?_); repeat ((try subst X); (first | (first | apply zL | apply zH | apply zE); intro X hX | apply zh | apply zl | apply ze); try simp only [zU, reduceIte, Nat.reduceEqDiff, Nat.reduceAdd, reduceCtorEq, Q55])
        refine hM _ _ _ ?_; clear hM M
        refine ok_ret ?_
        try simp only [zW, zU, reduceIte, Nat.reduceEqDiff, Nat.reduceAdd, reduceCtorEq, Q55]
        refine ⟨congrArg _ (Eq.symm ?_), he1⟩
        rw [givenP, List.any_eq_true]
        exact ⟨i, List.mem_range.2 hi', by rw [hga, hb]⟩
      | false =>
        refine ok_cond rfl (fun h => by cases h) (fun _ => ok_skip ?_)
        try simp only [zW, zU, reduceIte, Nat.reduceEqDiff, Nat.reduceAdd, reduceCtorEq, Q55]
        exact ⟨by simp [sub, Env.get], step (by rw [hga, hb])⟩
    · refine ok_cond (b := false) (by simp [ev, Env.get]; intro h1; have : ¬ i < p.modes.length := fun h2 => hv ⟨h1, h2⟩; omega) (fun h => by cases h) (fun _ => ok_skip ?_)
      try simp only [zW, zU, reduceIte, Nat.reduceEqDiff, Nat.reduceAdd, reduceCtorEq, Q55]
      refine ⟨by simp [sub, Env.get], step ?_⟩
      unfold givenAt
      rw [hx]
      by_cases h1 : hd = v
      · have h2 : p.modes[i]? = none := List.getElem?_eq_none (Nat.le_of_not_lt fun h2 => hv ⟨h1, h2⟩)
        simp [h2]
      · simp [h1]
  · rintro W ⟨rfl, hno⟩
    refine hM0 _ _ _ ?_; clear hM0 M0
    refine ok_seq (fun M hM => ok_region rfl ?_); repeat ((try subst X); (first | (first | apply zL | apply zH | apply zE); intro X hX | apply zh | apply zl | apply ze); try simp only [zU, reduceIte, Nat.reduceEqDiff, Nat.reduceAdd, reduceCtorEq, Q55])
    refine hM _ _ _ ?_; clear hM M
    refine ok_ret ?_
    try simp only [zW, zU, reduceIte, Nat.reduceEqDiff, Nat.reduceAdd, reduceCtorEq, Q55]
    refine ⟨congrArg _ (Eq.symm ?_), he1⟩
    rw [givenP, List.any_eq_false]
    intro j hj
    rw [hno j (List.mem_range.1 hj)]; simp
end Go.Proofs.YtcpjojaklpgnkaaGreat
