/-
  Lists of their own in any order: what Apart asks, also behind an append to the list that holds them.
-/
import Derived.Test.YtmddapkhipmlgaaDoorFam
namespace Go.Proofs.YtmddapkhipmlgaaDoor
open Go.RowKit
set_option maxRecDepth 100000

/-- Each owned, no two in one block. -/
structure Kin (w : World) (lo : Nat) (vs : List Value) (xs : List (List Int)) : Prop where
  len : vs.length = xs.length
  own : ∀ t, t < vs.length → OwnI lo w (vAt vs t) (xs.getD t [])
  two : ∀ s t, s < vs.length → t < vs.length → s ≠ t → (vAt vs s).ownBlock = none ∨ (vAt vs s).ownBlock ≠ (vAt vs t).ownBlock

theorem Owns.kin {w : World} {lo : Nat} {vs : List Value} {xs : List (List Int)} (h : Owns w lo vs xs) : Kin w lo vs xs :=
  ⟨h.get.1, h.get.2, h.two⟩

/-- The last two of four change places. -/
theorem Kin.swap {w : World} {lo : Nat} {a b c d : Value} {x y z u : List Int} (h : Kin w lo [a, b, c, d] [x, y, z, u]) : Kin w lo [a, b, d, c] [x, y, u, z] := by
  refine ⟨rfl, fun t ht => ?_, fun s t hs ht hne => ?_⟩
  · have : t = 0 ∨ t = 1 ∨ t = 2 ∨ t = 3 := by simp at ht; omega
    rcases this with rfl | rfl | rfl | rfl
    · exact h.own 0 (by simp)
    · exact h.own 1 (by simp)
    · exact h.own 3 (by simp)
    · exact h.own 2 (by simp)
  · have h1 : s = 0 ∨ s = 1 ∨ s = 2 ∨ s = 3 := by simp at hs; omega
    have h2 : t = 0 ∨ t = 1 ∨ t = 2 ∨ t = 3 := by simp at ht; omega
    rcases h1 with rfl | rfl | rfl | rfl <;> rcases h2 with rfl | rfl | rfl | rfl
    · exact absurd rfl hne
    · exact h.two 0 1 (by simp) (by simp) (by decide)
    · exact h.two 0 3 (by simp) (by simp) (by decide)
    · exact h.two 0 2 (by simp) (by simp) (by decide)
    · exact h.two 1 0 (by simp) (by simp) (by decide)
    · exact absurd rfl hne
    · exact h.two 1 3 (by simp) (by simp) (by decide)
    · exact h.two 1 2 (by simp) (by simp) (by decide)
    · exact h.two 3 0 (by simp) (by simp) (by decide)
    · exact h.two 3 1 (by simp) (by simp) (by decide)
    · exact absurd rfl hne
    · exact h.two 3 2 (by simp) (by simp) (by decide)
    · exact h.two 2 0 (by simp) (by simp) (by decide)
    · exact h.two 2 1 (by simp) (by simp) (by decide)
    · exact h.two 2 3 (by simp) (by simp) (by decide)
    · exact absurd rfl hne

theorem apart_kin (lv : Value) (vs : List Value) (xs : List (List Int)) (lo : Nat) (w : World) (h : Kin w lo vs xs) (hv : ValsAt w lv vs) (hn : vs.length ≤ 100) (hx : ∀ x ∈ xs, x.length ≤ 1099511627776) (hlo : lo ≤ w.heap.size)
    (hd : ∀ i t, i < vs.length → t < vs.length → (vAt vs t).ownBlock ≠ some (valAt lv i).block) :
    Calls Tryd.prog 18 #[lv] w fun e w' => e = .returned (.bool true) ∧ Below lo w w' := by
  refine apart_any lo _ vs (fun t => xs.getD t []) _ hv hn (fun t ht => ?_) h.own ⟨h.two, fun i t hi ht e => hd i t hi ht e⟩ hlo
  have : t < xs.length := by have := h.len; omega
  simp only [List.getD, List.getElem?_eq_getElem this, Option.getD_some]
  exact hx _ (List.getElem_mem this)

theorem Kin.of_kept {w w' : World} {lo : Nat} {vs : List Value} {xs : List (List Int)} (h : Kin w lo vs xs) (hk : ∀ t, t < vs.length → OwnI lo w (vAt vs t) (xs.getD t []) → OwnI lo w' (vAt vs t) (xs.getD t [])) : Kin w' lo vs xs :=
  ⟨h.len, fun t ht => hk t ht (h.own t ht), h.two⟩

/-- append, its run known. -/
theorem wpl_app_run {w : World} {ops : Array Oper} {rest : List Oper} {o : Oper} {a : Act} {Q : Exit → Act → World → Prop} (hgd : o.guard = none) (s x : Operand) (T : TypeId)
    (ho : o.op = .call { callee := .builtin .append, args := #[s, x], argTypes := #[T, T] })
    (v u : Value) (hs : a.eval s = v) (hx : a.eval x = u) {v' : Value} {w' : World} (hr : (Builtin.append_ #[T, T] o.type #[v, u]).run Tryd.prog w = .ok v' w')
    (h : wpList Tryd.prog ops Q rest (a.put o.dst v') w') :
    wpList Tryd.prog ops Q (o :: rest) a w := by
  refine wpList_plain hgd fun K hK => ?_
  unfold Oper.wp execOp
  simp only [ho, resolve, invoke, builtin, Sem.run_bind, Sem.run_pure, Result.andThen_ok, List.map_toArray, List.map_cons, List.map_nil, hs, hx]
  rw [hr]
  exact hK _ _ h

/-- append(all, o), all a literal list just laid. -/
theorem app_kin (w : World) (lo : Nat) (vs : List Value) (o : Value) (xs : List (List Int)) (h : Kin w lo (vs ++ [o]) xs) (hn : vs.length ≤ 90) (cs : Array Value) (hcs : cs.toList = vs) (n : Nat) (hnn : n = vs.length) (ho : o.oneCell' = true)
    (b : Nat) (hb : b = w.heap.size + 1) :
    ∃ v' w', (Builtin.append_ #[41, 41] 41 #[.slice (some ⟨w.heap.size, 0, none⟩) n n, .slice (some ⟨b, 0, none⟩) 1 1]).run Tryd.prog ((w.alloc (.cells cs 22)).alloc (.cells #[o] 22)) = .ok v' w' ∧
      ValsAt w' v' (vs ++ [o]) ∧ Kin w' lo (vs ++ [o]) xs ∧ Below w.heap.size w w' ∧ ∀ i t, i < (vs ++ [o]).length → t < (vs ++ [o]).length → (vAt (vs ++ [o]) t).ownBlock ≠ some (valAt v' i).block := by
  subst hnn hb
  have hs : cs.size = vs.length * 1 := by rw [← Array.length_toList, hcs]; simp
  have hm : vs.length ≤ maxLen := by unfold maxLen; omega
  have hv : OwnV 22 w.heap.size (w.alloc (.cells cs 22)) (.slice (some ⟨w.heap.size, 0, none⟩) vs.length vs.length) vs := by
    have := World.ownsRow_lit (base := w.heap.size) (e := 22) (size := 1) w cs vs.length (Nat.le_refl _) hm hs
    rw [hcs] at this
    exact this
  have hsz : (w.alloc (.cells cs 22)).heap.size = w.heap.size + 1 := by simp
  have hc1 := cell_one_new (w.alloc (.cells cs 22)) o 22
  rw [hsz] at hc1
  obtain ⟨v', w', hr, h2, h3⟩ := run_app oneLists ((w.alloc (.cells cs 22)).alloc (.cells #[o] 22)) w.heap.size 41 _ vs (hv.alloc _) ⟨w.heap.size + 1, 0, none⟩ 1 [o] (by simp) hc1 (by simpa using ho) (by simp; omega) (by simp; omega)
  have hal : Below w.heap.size w ((w.alloc (.cells cs 22)).alloc (.cells #[o] 22)) := ((Below.refl _ _).alloc (Nat.le_refl _) _).alloc (by simp) _
  have hne : ∀ t, t < (vs ++ [o]).length → (vAt (vs ++ [o]) t).ownBlock = none ∨ (vAt (vs ++ [o]) t).ownBlock ≠ some w.heap.size := fun t ht => by
    cases hk : (vAt (vs ++ [o]) t).ownBlock with
    | none => exact .inl rfl
    | some q =>
      right
      intro e
      have := ((h.own t ht).lt q hk).2
      simp at e
      omega
  refine ⟨v', w', hr, h2.at, h.of_kept fun t ht h0 => ?_, ?_, fun i t hi ht e => ?_⟩
  · have h1 := (h0.alloc (.cells cs 22)).alloc (.cells #[o] 22)
    rcases h3 with ⟨_, hg⟩ | ⟨_, hg⟩
    · exact h1.kept hg (hne t ht)
    · refine h1.kept hg ?_
      cases (vAt (vs ++ [o]) t).ownBlock <;> simp
  · rcases h3 with ⟨_, hg⟩ | ⟨_, hg⟩
    · exact hal.grown hg hal.size (by intro k hk; simp [Value.ownBlock] at hk; omega)
    · exact hal.grown hg hal.size (by intro k hk; cases hk)
  · have h5 := (h2.blkB i hi).2
    have := ((h.own t ht).lt _ e).2
    omega
end Go.Proofs.YtmddapkhipmlgaaDoor
