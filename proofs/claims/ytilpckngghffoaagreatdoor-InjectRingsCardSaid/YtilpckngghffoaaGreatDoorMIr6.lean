/-
  Walk: graph.reach: what can be reached from the marked vertices.
  Walk: graph.Live.
  Walk: edenref12.way: the first of the shortest ways, by going down.
  What the document's answers of layer 12 share: the error's box.
  Plain mathematics: what stands on a loop.
  Plain mathematics: the peeling of a graph, step by step; what it leaves are the live vertices.
  Walk: edenref12.Live.
  Walks: slices.DeleteFunc (its contract off the shelf) at the function that pairs.Apart hands it.
  Plain mathematics: breadth first from the pairs of equal nodes through the pairs that are apart; the first that is met again is met by a shortest way.
  Plain mathematics: among the pairs of equal nodes there is a way from each to each.
  Walks: pairs.Graph at what is no small rule; pairs.Apart.
  Walks: edenref13.Odd, Graph, Apart.
  Walks: edenref04.Power, Digits, Value at up to twelve symbols; edenref06.Image.
  Walk: word.Text: a word's symbols as digits.
  A map from texts to lists that the call made: what is looked up, stored.
-/
import Derived.Test.YtilpckngghffoaaGreatDoorMIr5
import Derived.Deep.LoopGhost
import Derived.Deep.DeepCutAuto
import Derived.BigQuiet
import Derived.Ground.SlgfProg
import Derived.Shelf.SlGeneric
import Derived.Shelf.SlicesE.DeleteFunc
import Derived.Lib.SliceRun
import Derived.Laws.BytesArg
import Derived.Maps.OwnSet
import Derived.StringKeys
namespace Go.Proofs.YtilpckngghffoaaGreatDoor
open Go.RowKit
set_option maxRecDepth 100000

theorem oneBoolG : OneCell 146 4 (.bool false) 1 := ⟨by kernel_rfl, by kernel_rfl, rfl, by decide, fun _ => by kernel_rfl⟩
/-- The first n marks of a function. -/
def tabB (n : Nat) (m : Nat → Bool) : List Value := (List.range n).map fun v => Value.bool (m v)
theorem tabB_len (n : Nat) (m : Nat → Bool) : (tabB n m).length = n := by simp [tabB]
theorem tabB_get (n : Nat) (m : Nat → Bool) (v : Nat) (hv : v < n) : vAt (tabB n m) v = .bool (m v) := by simp [tabB, vAt, List.getD, hv]
theorem tabB_upd (n : Nat) (m : Nat → Bool) (v : Nat) (b : Bool) : (tabB n m).set v (.bool b) = tabB n (updN m v b) := by
  apply List.ext_getElem
  · simp [tabB]
  · intro i h1 h2
    simp only [tabB, List.getElem_set, List.getElem_map, List.getElem_range, updN]
    by_cases e : v = i
    · rw [if_pos e, if_pos e.symm]
    · rw [if_neg e, if_neg (fun q => e q.symm)]
theorem tabB_one (n : Nat) (m : Nat → Bool) : ∀ v ∈ tabB n m, v.oneCell' = true := by
  intro v hv
  obtain ⟨x, _, rfl⟩ := List.mem_map.1 hv
  rfl

theorem clone_bools (v : Value) (n : Nat) (m : Nat → Bool) (w : World) (h : ValsAt w v (tabB n m)) (hl : n ≤ 10000) :
    Calls Tryz.prog 166 #[v] w (Ret1 (fun x w' => OwnV 4 w.heap.size w' x (tabB n m)) w) := by
  obtain ⟨ao, cap, rfl, h1, h2, h3, h4⟩ := h
  cases ao with
  | none =>
    obtain rfl := h3 rfl
    rw [tabB_len] at h1
    obtain rfl : n = 0 := by omega
    have hn := fun w' => Lib.run_eql_slice_nil (P := Tryz.prog) w' _ _ none 0 0 0 0 oneBoolG.ht
    rw [show (tabB 0 m).length = 0 from rfl]
    clear h4
    go_enter Tryz.func166, Tryz.ntmps166
    go_wp2
    go_ret
    exact ⟨_, rfl, Below.refl _ _, OwnV.nil _ _ _⟩
  | some p =>
    have hn := fun w' => Lib.run_eql_slice_nil (P := Tryz.prog) w' _ _ (some p) (tabB n m).length cap 0 0 oneBoolG.ht
    have b0 : Below w.heap.size w (w.alloc (.cells #[] 4)) := (Below.refl _ _).alloc (Nat.le_refl _) _
    have ho0 : OwnV 4 w.heap.size (w.alloc (.cells #[] 4)) (.slice (some ⟨w.heap.size, 0, none⟩) 0 0) [] := World.ownsRow_made w #[] 0 (Nat.le_refl _) (by unfold maxLen; omega) rfl
    obtain ⟨i, hi, hz0, hz1, hz2⟩ := info_parts oneBoolG.hi
    have hcells : ∀ (j : Nat) (u : Value), (tabB n m)[j]? = some u → (w.alloc (.cells #[] 4)).cell? (p.add j) = some u := by
      intro j u hj
      have hjl := (List.getElem?_eq_some_iff.1 hj).1
      have := h4 j hjl
      simp only [valAt] at this
      rw [b0.cell (World.block_lt_of_cell? _ _ this), this, ← hj, List.getElem?_eq_getElem hjl]
    have hone := tabB_one n m
    have htl := tabB_len n m
    generalize tabB n m = bs at *
    have hbl : bs.length ≤ 10000 := by omega
    replace htl := Lib.hid htl
    replace hcells := Lib.hid hcells
    replace hone := Lib.hid hone
    replace ho0 := Lib.hid ho0
    clear h4
    go_enter Tryz.func166, Tryz.ntmps166
    go_wp2_with (at_builtin; refine wpList_append_own_at _ rfl _ _ 146 rfl w.heap.size 4 i (.bool false) 1 1 oneBoolG.ht hi hz0 hz1 hz2 rfl (by decide) _ 0 [] rfl ho0.out p bs.length cap bs rfl (by simp) hcells.out hone.out (by unfold maxLen; omega) (by omega) (by simp) ?_)
    intro v' w' ho' hgr _ hat
    have hb2 : Below w.heap.size w w' := b0.trans ((Below.refl _ _).grown hgr (by simp) (fun k hk => (ho0.out.lt k hk).1))
    have ho2 : OwnV 4 w.heap.size w' v' bs := by simpa [OwnV] using ho'
    replace ho2 := Lib.hid ho2
    clear ho' hat hgr
    go_wp2
    go_ret
    exact ⟨_, rfl, hb2, ho2.out⟩

/-- How many aren't marked. -/
def unm (n : Nat) (m : Nat → Bool) : Nat := wsum (fun _ => 1) (fun x => if m x then 1 else 0) n
theorem unm_upd (n : Nat) (m : Nat → Bool) (t : Nat) (ht : t < n) (hm : m t = false) : unm n (updN m t true) + 1 = unm n m := by
  have h := wsum_upd (fun _ => 1) (fun x => if m x then 1 else 0) t 1 (by decide) (by simp [hm]) n
  rw [if_pos ht] at h
  have e : (fun x => if updN m t true x then 1 else 0) = updN (fun x => if m x then 1 else 0) t 1 := by
    funext x
    by_cases q : x = t
    · subst q; simp [updN_same]
    · rw [updN_other _ _ _ q, updN_other _ _ _ q]
  unfold unm
  rw [e]; exact h
theorem wsum_le (f : Nat → Nat) : ∀ n, wsum (fun _ => 1) f n ≤ n
  | 0 => Nat.le_refl _
  | n + 1 => by
    have := wsum_le f n
    simp only [wsum]; split <;> omega
theorem unm_le (n : Nat) (m : Nat → Bool) : unm n m ≤ n := wsum_le _ n
/-- The marks while the search runs; done: a vertex whose arrows have all been followed. -/
structure RInv (n : Nat) (adj : Nat → List Nat) (ms m : Nat → Bool) (qs : List Nat) (busy : Nat → Prop) : Prop where
  start : ∀ x, x < n → ms x = true → m x = true
  sound : ∀ x, x < n → m x = true → ∃ u, u < n ∧ ms u = true ∧ Goes adj u x
  queue : ∀ x ∈ qs, x < n ∧ m x = true
  closed : ∀ x, x < n → m x = true → x ∉ qs → ¬ busy x → ∀ t ∈ adj x, m t = true
theorem RInv.pop {n : Nat} {adj : Nat → List Nat} {ms m : Nat → Bool} {v : Nat} {qs : List Nat} (h : RInv n adj ms m (v :: qs) (fun _ => False)) : RInv n adj ms m qs (fun x => x = v) :=
  ⟨h.start, h.sound, fun x hx => h.queue x (List.mem_cons_of_mem _ hx), fun x hx hm hq hb => h.closed x hx hm (fun hc => (List.mem_cons.1 hc).elim hb hq) id⟩
theorem RInv.finish {n : Nat} {adj : Nat → List Nat} {ms m : Nat → Bool} {v : Nat} {qs : List Nat} (h : RInv n adj ms m qs (fun x => x = v)) (hv : ∀ t ∈ adj v, m t = true) : RInv n adj ms m qs (fun _ => False) :=
  ⟨h.start, h.sound, h.queue, fun x hx hm hq _ => by
    by_cases e : x = v
    · subst e; exact hv
    · exact h.closed x hx hm hq e⟩
theorem RInv.mark {n : Nat} {adj : Nat → List Nat} {ms m : Nat → Bool} {v t : Nat} {qs : List Nat} (h : RInv n adj ms m qs (fun x => x = v)) (hv : v < n) (hmv : m v = true) (ht : t ∈ adj v) (htn : t < n) : RInv n adj ms (updN m t true) (t :: qs) (fun x => x = v) := by
  have up : ∀ x, m x = true → updN m t true x = true := fun x hx => by
    by_cases e : x = t
    · subst e; exact updN_same _ _ _
    · rw [updN_other _ _ _ e]; exact hx
  refine ⟨fun x hx hs => up x (h.start x hx hs), fun x hx hm => ?_, fun x hx => ?_, fun x hx hm hq hb t' ht' => ?_⟩
  · by_cases e : x = t
    · subst e
      obtain ⟨u, h1, h2, h3⟩ := h.sound v hv hmv
      exact ⟨u, h1, h2, h3.step ht⟩
    · rw [updN_other _ _ _ e] at hm; exact h.sound x hx hm
  · rcases List.mem_cons.1 hx with e | e
    · subst e; exact ⟨htn, updN_same _ _ _⟩
    · exact ⟨(h.queue x e).1, up x (h.queue x e).2⟩
  · have e : x ≠ t := fun e => hq (by rw [e]; exact List.mem_cons_self)
    rw [updN_other _ _ _ e] at hm
    exact up t' (h.closed x hx hm (fun hc => hq (List.mem_cons_of_mem _ hc)) hb t' ht')
theorem RInv.all {n : Nat} {adj : Nat → List Nat} {ms m : Nat → Bool} (h : RInv n adj ms m [] (fun _ => False)) (ha : ∀ v, v < n → ∀ t ∈ adj v, t < n) : ∀ x, x < n → (m x = true ↔ ∃ u, u < n ∧ ms u = true ∧ Goes adj u x) := by
  intro x hx
  refine ⟨h.sound x hx, fun ⟨u, hu, hs, hg⟩ => ?_⟩
  exact (Goes.closed (P := fun y => y < n ∧ m y = true) (fun y hy t ht => ⟨ha y hy.1 t ht, h.closed y hy.1 hy.2 (by simp) id t ht⟩) hg ⟨hu, h.start u hu hs⟩).2

/-- The search's memory. -/
structure RN (f : Names) (ov qv : Value) (n : Nat) (m : Nat → Bool) (qs : List Nat) : Prop where
  outs : f (1, 0) = some (rowV 4 ov (tabB n m))
  queue : f (2, 0) = some (rowI qv (upI qs))
section
variable {B : Nat} {w : World} {f : Names} {ov qv : Value} {n : Nat} {m : Nat → Bool} {qs : List Nat}
theorem RN.mark (h : RN f ov qv n m qs) (hr : Rows B w f) (t : Nat) (ht : t < n) : ∃ f', Rows B (w.setCell (valAt ov t) (.bool true)) f' ∧ RN f' ov qv n (updN m t true) qs := by
  have hs := hr.setV h.outs t (by rw [tabB_len]; exact ht) (.bool true)
  rw [tabB_upd] at hs
  exact ⟨_, hs, ⟨upd_same _ _ _, by rw [upd_ne _ _ (by simp)]; exact h.queue⟩⟩
theorem RN.push (h : RN f ov qv n m qs) (hr : Rows B w f) {w1 : World} {qv' : Value} (t : Nat) (ho : OwnI B w1 qv' (upI qs ++ [(t : Int)]))
    (hal : (roomOf qv' = roomOf qv ∧ w.grownBy w1 qv.ownBlock) ∨ (∃ k, qv'.ownBlock = some k ∧ w.heap.size ≤ k ∧ w.grownBy w1 none)) : ∃ f', Rows B w1 f' ∧ RN f' ov qv' n m (t :: qs) := by
  have hO := hr.ownI h.queue
  have hg : w.grownBy w1 qv.ownBlock := grown_via (hal.imp (·.2) (fun ⟨_, _, _, q⟩ => q))
  have hob : qv'.ownBlock = qv.ownBlock ∨ ∃ k, qv'.ownBlock = some k ∧ w.heap.size ≤ k := by
    rcases hal with ⟨q, _⟩ | ⟨k, h1, h2, _⟩
    · obtain ⟨a1, n1, c1, e1⟩ := hO.at.shape
      obtain ⟨a2, n2, c2, e2⟩ := ho.at.shape
      exact .inl (ownBlock_of_room e1 e2 q)
    · exact .inr ⟨k, h1, h2⟩
  exact ⟨_, hr.grown (r' := rowI qv' (upI qs ++ [(t : Int)])) h.queue hg ho hob, ⟨by rw [upd_ne _ _ (by simp)]; exact h.outs, by rw [upd_same, upI_cons]⟩⟩
theorem RN.pop {v g c : Nat} {r : List Nat} (h : RN f ov (.slice (some ⟨g, 0, none⟩) (r.length + 1) c) n m (v :: r)) (hr : Rows B w f) : ∃ f', Rows B w f' ∧ RN f' ov (.slice (some ⟨g, 0, none⟩) r.length c) n m r := by
  have ho : f (2, 0) = some ⟨3, 1, .slice (some ⟨g, 0, none⟩) (r.length + 1) c, r.length + 1, (upI (v :: r)).map (Value.int .i64)⟩ := by
    rw [h.queue]; simp [rowI, upI_len]
  have h1 := hr.shrink ho
  have hx : ((upI (v :: r)).map (Value.int .i64)).take (r.length * 1) = (upI r).map (Value.int .i64) := by
    rw [upI_cons, List.map_append, Nat.mul_one]; exact List.take_left' (by simp [upI_len])
  rw [hx] at h1
  exact ⟨_, h1, ⟨by rw [upd_ne _ _ (by simp)]; exact h.outs, by rw [upd_same]; simp [upI_len]⟩⟩
theorem RN.shape {v : Nat} {r : List Nat} (h : RN f ov qv n m (v :: r)) (hr : Rows B w f) : ∃ g c, qv = .slice (some ⟨g, 0, none⟩) (r.length + 1) c ∧ r.length + 1 ≤ c := by
  obtain ⟨g, c, e, e2⟩ := row_shape (hr.1 _ _ h.queue) (by show 0 < (upI (v :: r)).length; rw [upI_len]; simp)
  have e : qv = .slice (some ⟨g, 0, none⟩) (upI (v :: r)).length c := e
  have e2 : (upI (v :: r)).length ≤ c := e2
  rw [upI_len, List.length_cons] at e e2
  exact ⟨g, c, e, e2⟩
end
theorem upI_topR (t : Nat) (o : List Nat) : (upI (t :: o)).getD o.length 0 = (t : Int) := by
  rw [upI_cons, List.getD_eq_getElem?_getD, List.getElem?_append_right (by rw [upI_len]; exact Nat.le_refl _), upI_len, Nat.sub_self]; rfl

set_option maxHeartbeats 4000000 in
theorem reach_any (na : Option Addr) (nc : Nat) (G : List (List Int)) (mv : Value) (ms : Nat → Bool) (w : World) (h : ListsAt w (.slice na G.length nc) G) (hok : GraphOk G) (hn : G.length ≤ 8200) (hm : ValsAt w mv (tabB G.length ms)) :
    Calls Tryz.prog 135 #[.slice na G.length nc, mv] w (Ret1 (fun x w' => ∃ out : Nat → Bool, OwnV 4 w.heap.size w' x (tabB G.length out) ∧ ∀ x, x < G.length → (out x = true ↔ ∃ u, u < G.length ∧ ms u = true ∧ Goes (adjOf G) u x)) w) := by
  have hC := clone_bools mv G.length ms w hm (by omega)
  replace h := Lib.hid h
  replace hok := Lib.hid hok
  replace hm := Lib.hid hm
  go_enter Tryz.func135, Tryz.ntmps135
  go_wp2_with fail
  refine hC.mono ?_
  rintro e w1 ⟨ov, rfl, b1, ho⟩
  clear hC
  have R1 := ((rows_nils w.heap.size w 0).add (i := (1, 0)) (r' := rowV 4 ov (tabB G.length ms)) b1 ho (fun k hk => (ho.lt k hk).1)).fresh (i := (2, 0)) (r' := rowI (.slice none 0 0) []) (World.grownBy.refl _ _) (OwnI.nil _ _) (fun k hk => (by cases hk))
  have h1 : RN (upd (upd (nils 0) (1, 0) (some (rowV 4 ov (tabB G.length ms)))) (2, 0) (some (rowI (.slice none 0 0) []))) ov (.slice none 0 0) G.length ms [] := ⟨by rw [upd_ne _ _ (by simp), upd_same], by rw [upd_same]; rfl⟩
  generalize upd (upd (nils 0) (1, 0) (some (rowV 4 ov (tabB G.length ms)))) (2, 0) (some (rowI (.slice none 0 0) [])) = f1 at *
  have lO := fun w' => ho.at.len oneBoolG 3 w'
  rw [tabB_len] at lO
  replace R1 := Lib.hid R1
  replace ho := Lib.hid ho
  go_wp2_with fail
  clear lO
  go_loopw [6, 16] (fun qv kv wr => ∃ (k : Nat) (qs : List Nat) (f : Names) (qw : Value), qw = qv ∧ kv = .int .i64 k ∧ k ≤ G.length ∧ qs.length ≤ k ∧ Rows w.heap.size wr f ∧ Below w.heap.size w wr ∧ RN f ov qw G.length ms qs ∧ ∀ x, x ∈ qs ↔ (x < k ∧ ms x = true)) (fun _ kv _ => G.length - (intOf kv).toNat)
  case atStart => exact ⟨0, [], f1, _, rfl, rfl, by omega, by simp, R1.out, b1, h1, fun x => ⟨fun h => (by cases h), fun h => by omega⟩⟩
  case round =>
    clear h1 R1 ho
    obtain ⟨k, qs, f2, qv, rfl, rfl, hk, hql, hr2, b2, h2, hqs⟩ := hrel
    obtain ⟨wo, rfl⟩ : ∃ wo : World, wo = wr := ⟨_, rfl⟩
    by_cases hlt : k < G.length
    · have hOV := (hr2.ownV h2.outs).at
      have iK := fun w' => hOV.idx oneBoolG k (by rw [tabB_len]; exact hlt) w'
      have cK := hOV.cellV k (by rw [tabB_len]; exact hlt)
      rw [tabB_get _ _ _ hlt] at cK
      generalize valAt ov k = ka at *
      obtain ⟨bk, hbk⟩ : ∃ bk, ms k = bk := ⟨_, rfl⟩
      rw [hbk] at cK
      replace hOV := Lib.hid hOV
      cases bk with
      | true =>
        have hOQ := hr2.ownI h2.queue
        have hB2 : w.heap.size ≤ wo.heap.size := b2.size
        have hqs2 : ∀ x, x ∈ k :: qs ↔ (x < k + 1 ∧ ms x = true) := fun x => by
          rw [List.mem_cons, hqs x]
          constructor
          · rintro (rfl | ⟨a, b⟩)
            · exact ⟨by omega, hbk⟩
            · exact ⟨by omega, b⟩
          · rintro ⟨a, b⟩
            by_cases e : x = k
            · exact .inl e
            · exact .inr ⟨by omega, b⟩
        replace hqs2 := Lib.hid hqs2
        replace hqs := Lib.hid hqs
        replace hbk := Lib.hid hbk
        replace hr2 := Lib.hid hr2
        go_wp2_with (at_builtin; refine wpl_app1 rfl _ _ rfl w.heap.size qv (upI qs) k hOQ rfl rfl (by rw [upI_len]; omega) hB2 ?_)
        intro qv' w7 ho7 b7 hal7
        obtain ⟨f7, hr7, h7⟩ := h2.push hr2.out k ho7 hal7
        replace hr7 := Lib.hid hr7
        replace ho7 := Lib.hid ho7
        clear hal7
        go_wp2
        go_roundw
        case measure => simp [intOf]; omega
        case rel => exact ⟨k + 1, k :: qs, f7, qv', rfl, by go_num, by omega, by simp only [List.length_cons]; omega, hr7.out, b2.trans b7, h7, hqs2.out⟩
      | false =>
        have hqs2 : ∀ x, x ∈ qs ↔ (x < k + 1 ∧ ms x = true) := fun x => by
          rw [hqs x]
          constructor
          · rintro ⟨a, b⟩; exact ⟨by omega, b⟩
          · rintro ⟨a, b⟩
            by_cases e : x = k
            · subst e; rw [hbk] at b; cases b
            · exact ⟨by omega, b⟩
        replace hqs2 := Lib.hid hqs2
        replace hqs := Lib.hid hqs
        replace hbk := Lib.hid hbk
        replace hr2 := Lib.hid hr2
        go_wp2
        go_roundw
        case measure => simp [intOf]; omega
        case rel => exact ⟨k + 1, qs, f2, qv, rfl, by go_num, by omega, by omega, hr2.out, b2, h2, hqs2.out⟩
    · obtain rfl : k = G.length := by omega
      have hinv : RInv G.length (adjOf G) ms ms qs (fun _ => False) := ⟨fun _ _ q => q, fun x hx q => ⟨x, hx, q, .refl x⟩, fun x hx => ⟨((hqs x).1 hx).1, ((hqs x).1 hx).2⟩, fun x hx hmx hq _ => absurd ((hqs x).2 ⟨hx, hmx⟩) hq⟩
      replace hinv := Lib.hid hinv
      replace hqs := Lib.hid hqs
      replace hr2 := Lib.hid hr2
      go_wp2_with fail
      go_loopg [6] (2 * unm G.length ms + qs.length) (fun k qv wr => ∃ (m : Nat → Bool) (qs : List Nat) (f : Names) (qw : Value), qw = qv ∧ k = 2 * unm G.length m + qs.length ∧ k ≤ 3 * G.length ∧ Rows w.heap.size wr f ∧ Below w.heap.size w wr ∧ RN f ov qw G.length m qs ∧ RInv G.length (adjOf G) ms m qs (fun _ => False))
      case atStart => exact ⟨ms, qs, f2, qv, rfl, rfl, by have := unm_le G.length ms; omega, hr2.out, b2, h2, hinv.out⟩
      case round =>
        clear hinv hqs hr2 h2 b2 hql
        obtain ⟨m, qs, f3, qv, rfl, rfl, hk3, hr3, b3, h3, hI⟩ := hrel
        obtain ⟨wo, rfl⟩ : ∃ wo : World, wo = wr := ⟨_, rfl⟩
        cases qs with
        | nil =>
          have hOQ := hr3.ownI h3.queue
          have lQ := hOQ.at.len
          rw [upI_len, List.length_nil] at lQ
          have hall := hI.all hok.out.lt
          have hres := hr3.ownV h3.outs
          replace hall := Lib.hid hall
          replace hres := Lib.hid hres
          replace hI := Lib.hid hI
          replace hr3 := Lib.hid hr3
          go_wp2
          go_ret
          exact ⟨_, rfl, b3, m, hres.out, hall.out⟩
        | cons v r =>
          obtain ⟨g, c, rfl, hcap⟩ := h3.shape hr3
          have hun := unm_le G.length m
          obtain ⟨hvn, hmv⟩ := hI.queue v List.mem_cons_self
          have hOQ := (hr3.ownI h3.queue).at
          have iV := fun w' => hOQ.idx r.length (by rw [upI_len]; simp) w'
          have cV := hOQ.cellD r.length (by rw [upI_len]; simp)
          rw [upI_topR] at cV
          obtain ⟨f4, hr4, h4⟩ := h3.pop hr3
          have hpop := hI.pop
          obtain ⟨xv, iR, cR0, hM0⟩ := h.out.row v hvn
          have cR := (b3.cell (World.block_lt_of_cell? _ _ cR0)).trans cR0
          have hM := hM0.below b3
          have hgp := hok.out v hvn
          have hadj : adjOf G v = (G.getD v []).map Int.toNat := rfl
          generalize G.getD v [] = gx at *
          have lM := hM.len
          have hglen := hM.len_le
          generalize valAt (.slice na G.length nc) v = ra at *
          generalize valAt (.slice (some ⟨g, 0, none⟩) (r.length + 1) c) r.length = qa at *
          simp only [List.length_cons] at hk3
          have hwr : IntKind.i64.wrap (r.length : Int) = r.length := wrapK (by omega) (by omega)
          have hsl : (0 ≤ (r.length : Int) ∧ (r.length : Int) ≤ (c : Int)) := ⟨by omega, by omega⟩
          replace hOQ := Lib.hid hOQ
          replace hM := Lib.hid hM
          replace hM0 := Lib.hid hM0
          replace hgp := Lib.hid hgp
          replace hadj := Lib.hid hadj
          replace hr3 := Lib.hid hr3
          replace hr4 := Lib.hid hr4
          replace hI := Lib.hid hI
          replace hpop := Lib.hid hpop
          replace hmv := Lib.hid hmv
          go_wp2_with fail
          clear iV cV iR cR lM
          go_loopw [6, 46] (fun qv jv wr => ∃ (j : Nat) (m' : Nat → Bool) (qs : List Nat) (f : Names) (qw : Value), qw = qv ∧ jv = .int .i64 j ∧ j ≤ gx.length ∧ 2 * unm G.length m' + qs.length ≤ 2 * unm G.length m + r.length ∧ Rows w.heap.size wr f ∧ Below w.heap.size w wr ∧ RN f ov qw G.length m' qs ∧ RInv G.length (adjOf G) ms m' qs (fun x => x = v) ∧ m' v = true ∧ ∀ i, i < j → m' (gx.getD i 0).toNat = true) (fun _ jv _ => gx.length - (intOf jv).toNat)
          case atStart => exact ⟨0, m, r, f4, _, rfl, rfl, by omega, Nat.le_refl _, hr4.out, b3, h4, hpop.out, hmv.out, fun i hi => by omega⟩
          case round =>
            clear hOQ hM hr3 hr4 h4 h3 b3 hpop hI hmv hwr hsl hcap
            obtain ⟨j, m', qs, f5, qv, rfl, rfl, hj, hle, hr5, b5, h5, hI, hmv, hdone⟩ := hrel
            obtain ⟨wo, rfl⟩ : ∃ wo : World, wo = wr := ⟨_, rfl⟩
            by_cases hjl : j < gx.length
            · have hMj := hM0.out.below b5
              have hgj := hgp.out gx[j] (List.getElem_mem hjl)
              obtain ⟨t, hu⟩ : ∃ t : Nat, gx[j] = t := Int.eq_ofNat_of_zero_le hgj.1
              have htn : t < G.length := by rw [hu] at hgj; omega
              have hgd : gx.getD j 0 = (t : Int) := by rw [List.getD_eq_getElem?_getD, List.getElem?_eq_getElem hjl, hu]; rfl
              have hta : t ∈ adjOf G v := by
                rw [hadj.out]
                exact List.mem_map.2 ⟨gx[j], List.getElem_mem hjl, by rw [hu]; rfl⟩
              have iJ := fun w' => hMj.idx j hjl w'
              have cJ := hMj.cellD j hjl
              rw [hgd] at cJ
              have hOV := (hr5.ownV h5.outs)
              have iT := fun w' => hOV.at.idx oneBoolG t (by rw [tabB_len]; exact htn) w'
              have cT := hOV.at.cellV t (by rw [tabB_len]; exact htn)
              rw [tabB_get _ _ _ htn] at cT
              have fT := hOV.frz t (by rw [tabB_len]; exact htn)
              have kT := (hOV.blkB t (by rw [tabB_len]; exact htn)).2
              obtain ⟨f6, hr6, h6⟩ := h5.mark hr5 t htn
              have b6 : Below w.heap.size w (wo.setCell (valAt ov t) (.bool true)) := b5.setCell kT _
              generalize valAt xv j = ja at *
              generalize valAt ov t = ta at *
              obtain ⟨bt, hbt⟩ : ∃ bt, m' t = bt := ⟨_, rfl⟩
              rw [hbt] at cT
              cases bt with
              | false =>
                have hunm := unm_upd G.length m' t htn hbt
                have hmark := hI.mark hvn hmv hta htn
                have hmv2 : updN m' t true v = true := by
                  by_cases e : v = t
                  · subst e; exact updN_same _ _ _
                  · rw [updN_other _ _ _ e]; exact hmv
                have hdone2 : ∀ i, i < j + 1 → updN m' t true (gx.getD i 0).toNat = true := fun i hi => by
                  by_cases e : (gx.getD i 0).toNat = t
                  · rw [e]; exact updN_same _ _ _
                  · rw [updN_other _ _ _ e]
                    by_cases q : i = j
                    · subst q; rw [hgd] at e; exact absurd rfl e
                    · exact hdone i (by omega)
                replace hmark := Lib.hid hmark
                replace hmv2 := Lib.hid hmv2
                replace hdone2 := Lib.hid hdone2
                replace hdone := Lib.hid hdone
                replace hmv := Lib.hid hmv
                replace hI := Lib.hid hI
                replace hbt := Lib.hid hbt
                replace hr5 := Lib.hid hr5
                replace hr6 := Lib.hid hr6
                replace hOV := Lib.hid hOV
                replace hMj := Lib.hid hMj
                replace hgd := Lib.hid hgd
                replace hgj := Lib.hid hgj
                replace hu := Lib.hid hu
                replace hta := Lib.hid hta
                go_upto_region 17 with fail
                obtain ⟨W6, hW6⟩ : ∃ W6 : World, W6 = wo.setCell ta (.bool true) := ⟨_, rfl⟩
                rw [← hW6]
                rw [← hW6] at hr6 b6
                clear hW6 iJ cJ iT cT fT
                have hOQ := hr6.out.ownI h6.queue
                have hB6 : w.heap.size ≤ W6.heap.size := b6.size
                go_wp2_with (at_builtin; refine wpl_app1 rfl _ _ rfl w.heap.size qv (upI qs) t hOQ rfl rfl (by rw [upI_len]; omega) hB6 ?_)
                intro qv' w7 ho7 b7 hal7
                obtain ⟨f7, hr7, h7⟩ := h6.push hr6.out t ho7 hal7
                replace hr7 := Lib.hid hr7
                replace ho7 := Lib.hid ho7
                clear hal7
                go_wp2
                go_roundw
                case measure => simp [intOf]; omega
                case rel => exact ⟨j + 1, updN m' t true, t :: qs, f7, qv', rfl, by go_num, by omega, by simp only [List.length_cons]; omega, hr7.out, b6.trans b7, h7, hmark.out, hmv2.out, hdone2.out⟩
              | true =>
                have hdone2 : ∀ i, i < j + 1 → m' (gx.getD i 0).toNat = true := fun i hi => by
                  by_cases q : i = j
                  · subst q; rw [hgd]; exact hbt
                  · exact hdone i (by omega)
                replace hdone2 := Lib.hid hdone2
                replace hdone := Lib.hid hdone
                replace hmv := Lib.hid hmv
                replace hI := Lib.hid hI
                replace hbt := Lib.hid hbt
                replace hr5 := Lib.hid hr5
                replace hr6 := Lib.hid hr6
                replace hOV := Lib.hid hOV
                replace hMj := Lib.hid hMj
                replace hgd := Lib.hid hgd
                replace hgj := Lib.hid hgj
                replace hu := Lib.hid hu
                replace hta := Lib.hid hta
                go_wp2
                go_roundw
                case measure => simp [intOf]; omega
                case rel => exact ⟨j + 1, m', qs, f5, qv, rfl, by go_num, by omega, by omega, hr5.out, b5, h5, hI.out, hmv.out, hdone2.out⟩
            · obtain rfl : j = gx.length := by omega
              have hfin := hI.finish (fun t ht => by
                rw [hadj.out] at ht
                obtain ⟨x, hx, rfl⟩ := List.mem_map.1 ht
                obtain ⟨i, hi, rfl⟩ := List.mem_iff_getElem.1 hx
                have := hdone i hi
                rw [List.getD_eq_getElem?_getD, List.getElem?_eq_getElem hi] at this
                exact this)
              replace hfin := Lib.hid hfin
              replace hdone := Lib.hid hdone
              replace hmv := Lib.hid hmv
              replace hI := Lib.hid hI
              replace hr5 := Lib.hid hr5
              go_wp2
              go_roundg (2 * unm G.length m' + qs.length)
              case measure => simp only [List.length_cons]; omega
              case rel => exact ⟨m', qs, f5, qv, rfl, rfl, by omega, hr5.out, b5, h5, hfin.out⟩
end Go.Proofs.YtilpckngghffoaaGreatDoor

namespace Go.Proofs.YtilpckngghffoaaGreatDoor
open Go.RowKit
set_option maxRecDepth 100000

/-- u stands on a loop. -/
def OnLoop (adj : Nat → List Nat) (u : Nat) : Prop := ∃ t ∈ adj u, Goes adj t u
/-- v stands between two loops. -/
def IsLive (n : Nat) (adj : Nat → List Nat) (v : Nat) : Prop := (∃ u, u < n ∧ OnLoop adj u ∧ Goes adj u v) ∧ ∃ u, u < n ∧ OnLoop adj u ∧ Goes adj v u
structure LiveList (n : Nat) (adj : Nat → List Nat) (L : List Nat) : Prop where
  sorted : L.Pairwise (· < ·)
  mem : ∀ v, v ∈ L ↔ v < n ∧ IsLive n adj v
theorem sorted_eq : ∀ {L M : List Nat}, L.Pairwise (· < ·) → M.Pairwise (· < ·) → (∀ v, v ∈ L ↔ v ∈ M) → L = M
  | [], [], _, _, _ => rfl
  | [], b :: M, _, _, h => absurd ((h b).2 List.mem_cons_self) (by simp)
  | a :: L, [], _, _, h => absurd ((h a).1 List.mem_cons_self) (by simp)
  | a :: L, b :: M, hL, hM, h => by
    obtain ⟨a1, a2⟩ := List.pairwise_cons.1 hL
    obtain ⟨b1, b2⟩ := List.pairwise_cons.1 hM
    have hab : a = b := by
      rcases List.mem_cons.1 ((h a).1 List.mem_cons_self) with e | e
      · exact e
      · rcases List.mem_cons.1 ((h b).2 List.mem_cons_self) with e2 | e2
        · exact e2.symm
        · have := b1 a e; have := a1 b e2; omega
    subst hab
    rw [sorted_eq a2 b2 fun v => ?_]
    have := h v
    simp only [List.mem_cons] at this
    constructor
    · intro hv
      rcases this.1 (.inr hv) with e | e
      · subst e; exact absurd (a1 v hv) (Nat.lt_irrefl _)
      · exact e
    · intro hv
      rcases this.2 (.inr hv) with e | e
      · subst e; exact absurd (b1 v hv) (Nat.lt_irrefl _)
      · exact e
theorem LiveList.unique {n : Nat} {adj : Nat → List Nat} {L M : List Nat} (h : LiveList n adj L) (k : LiveList n adj M) : L = M := sorted_eq h.sorted k.sorted fun v => by rw [h.mem, k.mem]
theorem turned_adj {G H : List (List Int)} (h : TurnedOf G H) (hok : GraphOk G) {t v : Nat} (ht : t < G.length) : v ∈ adjOf H t ↔ v < G.length ∧ t ∈ adjOf G v := by
  unfold adjOf
  simp only [List.mem_map]
  constructor
  · rintro ⟨y, hy, rfl⟩
    obtain ⟨x, rfl, hx, hm⟩ := (h.2.2 t ht y).1 hy
    exact ⟨by simpa using hx, (t : Int), by simpa using hm, by simp⟩
  · rintro ⟨hv, y, hy, rfl⟩
    have := hok v hv y hy
    exact ⟨(v : Int), (h.2.2 y.toNat ht v).2 ⟨v, rfl, hv, by rw [Int.toNat_of_nonneg this.1]; exact hy⟩, by simp⟩
theorem turned_ok {G H : List (List Int)} (h : TurnedOf G H) : GraphOk H := by
  intro t ht y hy
  rw [h.1] at ht ⊢
  obtain ⟨x, rfl, hx, _⟩ := (h.2.2 t ht y).1 hy
  omega
theorem goes_lt {G : List (List Int)} (hok : GraphOk G) {x y : Nat} (h : Goes (adjOf G) x y) (hx : x < G.length) : y < G.length :=
  Goes.closed (P := fun z => z < G.length) (fun z hz t ht => hok.lt z hz t ht) h hx
theorem turned_goes {G H : List (List Int)} (h : TurnedOf G H) (hok : GraphOk G) {x y : Nat} (hg : Goes (adjOf H) x y) (hx : x < G.length) : Goes (adjOf G) y x := by
  induction hg with
  | refl => exact .refl _
  | @step y z hg hz ih =>
    have hy : y < G.length := by have := goes_lt (turned_ok h) hg (by rw [h.1]; exact hx); rwa [h.1] at this
    exact (Goes.one ((turned_adj h hok hy).1 hz).2).trans ih
theorem goes_turned {G H : List (List Int)} (h : TurnedOf G H) (hok : GraphOk G) {x y : Nat} (hg : Goes (adjOf G) x y) (hx : x < G.length) : Goes (adjOf H) y x := by
  induction hg with
  | refl => exact .refl _
  | @step y z hg hz ih =>
    have hy := goes_lt hok hg hx
    exact (Goes.one ((turned_adj h hok (hok.lt y hy z hz)).2 ⟨hy, hz⟩)).trans ih
theorem onLoop_parts {G : List (List Int)} (hok : GraphOk G) {ps : List Int} (hp : PartsOf G.length (adjOf G) ps) {x : Nat} (hx : x < G.length) : OnLoop (adjOf G) x ↔ ∃ t ∈ adjOf G x, ps.getD t 0 = ps.getD x 0 := by
  constructor
  · rintro ⟨t, ht, hg⟩
    exact ⟨t, ht, (hp.eq (hok.lt x hx t ht) hx).2 ⟨hg, .one ht⟩⟩
  · rintro ⟨t, ht, he⟩
    exact ⟨t, ht, ((hp.eq (hok.lt x hx t ht) hx).1 he).1⟩
/-- What Live leaves. -/
def LivePost (r : Nat → Addr) (w : World) (G : List (List Int)) (x y : Value) (w' : World) : Prop :=
  ErrIs r w' (checkG G) y ∧ (checkG G = none → ∃ L, LiveList G.length (adjOf G) L ∧ OwnI w.heap.size w' x (castI L)) ∧ (checkG G ≠ none → x = .slice none 0 0)
/-- The marks of the vertices on loops: of the first k, and of the next by its first j arrows. -/
def LoopTo (G : List (List Int)) (ps : List Int) (k j : Nat) (m : Nat → Bool) : Prop :=
  ∀ x, x < G.length → (m x = true ↔ (x < k ∧ ∃ t ∈ adjOf G x, ps.getD t 0 = ps.getD x 0) ∨ (x = k ∧ ∃ t ∈ (adjOf G k).take j, ps.getD t 0 = ps.getD k 0))
theorem LoopTo.next {G : List (List Int)} {ps : List Int} {k : Nat} {m : Nat → Bool} (h : LoopTo G ps k (adjOf G k).length m) : LoopTo G ps (k + 1) 0 m := by
  intro x hx
  rw [h x hx, List.take_length]
  constructor
  · rintro (⟨a, b⟩ | ⟨rfl, b⟩)
    · exact .inl ⟨by omega, b⟩
    · exact .inl ⟨by omega, b⟩
  · rintro (⟨a, b⟩ | ⟨_, t, ht, _⟩)
    · by_cases e : x = k
      · subst e; exact .inr ⟨rfl, b⟩
      · exact .inl ⟨by omega, b⟩
    · simp at ht
theorem LoopTo.add {G : List (List Int)} {ps : List Int} {k j t : Nat} {m : Nat → Bool} (h : LoopTo G ps k j m) (ht : (adjOf G k)[j]? = some t) (m' : Nat → Bool)
    (hm : m' = if ps.getD t 0 = ps.getD k 0 then updN m k true else m) : LoopTo G ps k (j + 1) m' := by
  intro x hx
  have htk : (adjOf G k).take (j + 1) = (adjOf G k).take j ++ [t] := by rw [List.take_add_one, ht]; rfl
  by_cases hp : ps.getD t 0 = ps.getD k 0
  · rw [if_pos hp] at hm
    subst hm
    by_cases e : x = k
    · subst e
      rw [updN_same]
      exact ⟨fun _ => .inr ⟨rfl, t, by rw [htk]; simp, hp⟩, fun _ => rfl⟩
    · rw [updN_other _ _ _ e, h x hx]
      exact ⟨fun q => q.imp id (fun q => absurd q.1 e), fun q => q.imp id (fun q => absurd q.1 e)⟩
  · rw [if_neg hp] at hm
    subst hm
    rw [h x hx, htk]
    constructor
    · rintro (q | ⟨e, s, hs, hq⟩)
      · exact .inl q
      · exact .inr ⟨e, s, List.mem_append_left _ hs, hq⟩
    · rintro (q | ⟨e, s, hs, hq⟩)
      · exact .inl q
      · rcases List.mem_append.1 hs with hs | hs
        · exact .inr ⟨e, s, hs, hq⟩
        · cases List.mem_singleton.1 hs; exact absurd hq hp

set_option maxHeartbeats 4000000 in
theorem live_any (r : Nat → Addr) (na : Option Addr) (nc : Nat) (G : List (List Int)) (w : World) (hg : Glob r w) (h : ListsAt w (.slice na G.length nc) G) (hsz : ∀ k, k < G.length → (G.getD k []).length ≤ 17592186044416) :
    Calls Tryz.prog 100 #[.slice na G.length nc] w (Ret2 (LivePost r w G) w) := by
  have hP := parts_any r na nc G w hg h hsz
  replace h := Lib.hid h
  replace hg := Lib.hid hg
  replace hsz := Lib.hid hsz
  cases hck : checkG G with
  | some t =>
    replace hck := Lib.hid hck
    go_enter Tryz.func100, Tryz.ntmps100
    go_wp2_with fail
    refine hP.mono ?_
    rintro e w1 ⟨x, y, rfl, b1, he, _, hx⟩
    rw [hck.out] at he hx
    obtain rfl := hx (by simp)
    obtain ⟨T, a, rfl⟩ := he.some_shape
    replace he := Lib.hid he
    clear hx hP
    go_wp2
    go_ret2
    exact ⟨_, _, rfl, b1, ⟨by rw [hck.out]; exact he.out, ⟨fun q => (by rw [hck.out] at q; cases q), fun _ => rfl⟩⟩⟩
  | none =>
    obtain ⟨hn, harr, hok⟩ := checkG_none hck
    replace hck := Lib.hid hck
    replace hok := Lib.hid hok
    go_enter Tryz.func100, Tryz.ntmps100
    go_wp2_with fail
    refine hP.mono ?_
    rintro e w1 ⟨pv, y, rfl, b1, he, hps0, _⟩
    rw [hck.out] at he hps0
    obtain rfl := he.none_eq
    obtain ⟨ps, hps, hpo⟩ := hps0 rfl
    clear hps0
    have hpl := hps.len
    obtain ⟨pa, pn, pc, rfl⟩ := hpo.at.shape
    have hp1 := hpo.at
    clear he hP hpo
    obtain ⟨lv, w2, mk, hl2, hb2⟩ := run_makeW oneBoolG (G.length : Int) G.length w1 rfl (by omega)
    have hz : tabB G.length (fun _ => false) = List.replicate G.length (.bool false) := by
      unfold tabB; apply List.ext_getElem <;> simp
    rw [← hz] at hl2
    obtain ⟨la, ln, lc, rfl⟩ := hl2.shape
    have hz0 : LoopTo G ps 0 0 (fun _ => false) := by
      intro x hx
      simp
    replace hz0 := Lib.hid hz0
    replace hz := Lib.hid hz
    replace hl2 := Lib.hid hl2
    replace hp1 := Lib.hid hp1
    replace hps := Lib.hid hps
    replace hpl := Lib.hid hpl
    go_wp2_with fail
    clear mk
    go_loopw [28] (fun kv wr => ∃ (k : Nat) (m : Nat → Bool), k ≤ G.length ∧ kv = .int .i64 k ∧ OwnV 4 w1.heap.size wr (.slice la ln lc) (tabB G.length m) ∧ Below w1.heap.size w1 wr ∧ LoopTo G ps k 0 m) (fun kv _ => G.length - (intOf kv).toNat)
    case atStart => exact ⟨0, _, by omega, rfl, hl2.out, hb2, hz0.out⟩
    case round =>
      clear hl2
      obtain ⟨k, m, hk, rfl, hlo, b3, hm⟩ := hrel
      obtain ⟨wo, rfl⟩ : ∃ wo : World, wo = wr := ⟨_, rfl⟩
      by_cases hlt : k < G.length
      · obtain ⟨mv, iR, cR0, hM0⟩ := h.out.row k hlt
        have hbw : Below w.heap.size w wo := b1.trans (b3.mono b1.size)
        have cR := (hbw.cell (World.block_lt_of_cell? _ _ cR0)).trans cR0
        have hM := hM0.below hbw
        have hgp := hok.out k hlt
        have hal := adjOf_len G k
        have hag : ∀ j (hj : j < (G.getD k []).length), (adjOf G k)[j]? = some ((G.getD k [])[j]).toNat := fun j hj => by
          show ((G.getD k []).map Int.toNat)[j]? = _
          rw [List.getElem?_map, List.getElem?_eq_getElem hj]; rfl
        have hglen := hsz.out k hlt
        generalize G.getD k [] = gk at *
        have lM := hM.len
        generalize valAt (.slice na G.length nc) k = ra at *
        replace hm := Lib.hid hm
        replace hlo := Lib.hid hlo
        replace hM := Lib.hid hM
        replace hM0 := Lib.hid hM0
        replace hgp := Lib.hid hgp
        replace hag := Lib.hid hag
        replace hal := Lib.hid hal
        go_wp2_with fail
        clear iR cR cR0 lM hbw
        go_loopw [35] (fun jv wr => ∃ (j : Nat) (m : Nat → Bool), j ≤ gk.length ∧ jv = .int .i64 j ∧ OwnV 4 w1.heap.size wr (.slice la ln lc) (tabB G.length m) ∧ Below w1.heap.size w1 wr ∧ LoopTo G ps k j m) (fun jv _ => gk.length - (intOf jv).toNat)
        case atStart => exact ⟨0, m, by omega, rfl, hlo.out, b3, hm.out⟩
        case round =>
          clear hlo b3 hm hM
          obtain ⟨j, m, hj, rfl, hlo, b3, hm⟩ := hrel
          obtain ⟨wo, rfl⟩ : ∃ wo : World, wo = wr := ⟨_, rfl⟩
          by_cases hjl : j < gk.length
          · have hMj := hM0.out.below (b1.trans (b3.mono b1.size))
            have hgj := hgp.out gk[j] (List.getElem_mem hjl)
            obtain ⟨t, hu⟩ : ∃ t : Nat, gk[j] = t := Int.eq_ofNat_of_zero_le hgj.1
            have htn : t < G.length := by rw [hu] at hgj; omega
            have hgd : gk.getD j 0 = (t : Int) := by rw [List.getD_eq_getElem?_getD, List.getElem?_eq_getElem hjl, hu]; rfl
            have hta : (adjOf G k)[j]? = some t := by rw [hag.out j hjl, hu]; rfl
            have iJ := fun w' => hMj.idx j hjl w'
            have cJ := hMj.cellD j hjl
            rw [hgd] at cJ
            have hPt := hp1.out.below b3
            have iT := fun w' => hPt.idx t (by rw [hpl.out]; exact htn) w'
            have cT := hPt.cellD t (by rw [hpl.out]; exact htn)
            have iK := fun w' => hPt.idx k (by rw [hpl.out]; exact hlt) w'
            have cK := hPt.cellD k (by rw [hpl.out]; exact hlt)
            have hadd := hm.add hta
            have iL := fun w' => hlo.at.idx oneBoolG k (by rw [tabB_len]; exact hlt) w'
            have cL := hlo.at.cellV k (by rw [tabB_len]; exact hlt)
            rw [tabB_get _ _ _ hlt] at cL
            have fL := hlo.frz k (by rw [tabB_len]; exact hlt)
            have kL := (hlo.blkB k (by rw [tabB_len]; exact hlt)).2
            have hset := hlo.set k (by rw [tabB_len]; exact hlt) (.bool true)
            rw [tabB_upd] at hset
            generalize valAt mv j = ja at *
            generalize valAt (.slice pa pn pc) t = ta at *
            generalize valAt (.slice pa pn pc) k = ka at *
            generalize valAt (.slice la ln lc) k = qa at *
            obtain ⟨pt, hpt⟩ : ∃ pt, ps.getD t 0 = pt := ⟨_, rfl⟩
            obtain ⟨pk, hpk⟩ : ∃ pk, ps.getD k 0 = pk := ⟨_, rfl⟩
            rw [hpt] at cT hadd
            rw [hpk] at cK hadd
            generalize m k = mk at cL
            replace hm := Lib.hid hm
            replace hlo := Lib.hid hlo
            replace hset := Lib.hid hset
            replace hPt := Lib.hid hPt
            replace hMj := Lib.hid hMj
            replace hpt := Lib.hid hpt
            replace hpk := Lib.hid hpk
            replace hgd := Lib.hid hgd
            replace hgj := Lib.hid hgj
            replace hu := Lib.hid hu
            replace hta := Lib.hid hta
            by_cases he : pt = pk
            · have hq : (pt == pk) = true := by simp [he]
              have hn2 := hadd _ (if_pos he).symm
              replace hn2 := Lib.hid hn2
              replace he := Lib.hid he
              clear hadd
              go_upto_region 11 with fail
              go_quiet (fail)
              go_wp2
              go_roundw
              case measure => simp [intOf]; omega
              case rel =>
                refine ⟨j + 1, _, by omega, by go_num, ?_, ?_, hn2.out⟩
                · exact hset.out
                · exact (below_drewN b3 nq).setCell kL _
            · have hq : (pt == pk) = false := by simp [he]
              have hn2 := hadd _ (if_neg he).symm
              replace hn2 := Lib.hid hn2
              replace he := Lib.hid he
              clear hadd
              go_upto_region 11 with fail
              go_quiet (fail)
              go_wp2
              go_roundw
              case measure => simp [intOf]; omega
              case rel => exact ⟨j + 1, m, by omega, by go_num, hlo.out, b3.trans ⟨rfl, rfl, rfl, Nat.le_refl _, fun _ _ => rfl⟩, hn2.out⟩
          · obtain rfl : j = gk.length := by omega
            have hnext := (hal.out ▸ hm : LoopTo G ps k (adjOf G k).length m).next
            replace hnext := Lib.hid hnext
            replace hm := Lib.hid hm
            replace hlo := Lib.hid hlo
            go_wp2
            go_roundw
            case measure => simp [intOf]; omega
            case rel => exact ⟨k + 1, m, by omega, by go_num, hlo.out, b3, hnext.out⟩
      · obtain rfl : k = G.length := by omega
        have hbw : Below w.heap.size w wo := b1.trans (b3.mono b1.size)
        have hR1 := reach_any na nc G (.slice la ln lc) m wo (h.out.below hbw) hok.out (by omega) hlo.at
        have hon : ∀ x, x < G.length → (m x = true ↔ OnLoop (adjOf G) x) := fun x hx => by
          rw [hm x hx, onLoop_parts hok.out hps.out hx]
          constructor
          · rintro (⟨_, q⟩ | ⟨e, _⟩)
            · exact q
            · omega
          · intro q; exact .inl ⟨hx, q⟩
        replace hm := Lib.hid hm
        replace hon := Lib.hid hon
        replace hR1 := Lib.hid hR1
        have hlo' := Lib.hid hlo
        clear hlo
        go_wp2_with fail
        refine hR1.out.mono ?_
        rintro e w4 ⟨bv, rfl, b4, bm, hbo, hbm⟩
        have hb4 := Below.step hbw b4
        have hBk := graph_back na nc G w4 (h.out.below hb4) hok.out (by omega) harr
        replace hBk := Lib.hid hBk
        go_wp2_with fail
        refine hBk.out.mono ?_
        rintro e w5 ⟨hv, rfl, b5, H, hT, hHl⟩
        obtain ⟨ha, hc, rfl⟩ := hHl.shape
        have hHn := hT.1
        have hR2 := reach_any ha hc H (.slice la ln lc) m w5 hHl (turned_ok hT) (by omega) (by rw [hHn]; exact (hlo'.out.at.below b4).below b5)
        replace hR2 := Lib.hid hR2
        replace hHn := Lib.hid hHn
        replace hT := Lib.hid hT
        replace hHl := Lib.hid hHl
        go_wp2_with fail
        refine hR2.out.mono ?_
        rintro e w6 ⟨av, rfl, b6, am, hao, ham⟩
        rw [hHn.out] at hao ham
        have hboth : ∀ x, x < G.length → ((bm x && am x) = true ↔ IsLive G.length (adjOf G) x) := fun x hx => by
          rw [Bool.and_eq_true, hbm x hx, ham x hx]
          unfold IsLive
          constructor
          · rintro ⟨⟨u, hu, h1, h2⟩, v, hv, h3, h4⟩
            exact ⟨⟨u, hu, (hon.out u hu).1 h1, h2⟩, v, hv, (hon.out v hv).1 h3, turned_goes hT.out hok.out h4 hv⟩
          · rintro ⟨⟨u, hu, h1, h2⟩, v, hv, h3, h4⟩
            exact ⟨⟨u, hu, (hon.out u hu).2 h1, h2⟩, v, hv, (hon.out v hv).2 h3, goes_turned hT.out hok.out h4 hx⟩
        have hbv := hbo.at.below (Below.step b5 b6)
        have hav := hao.at
        have hw6 := Below.step hb4 (Below.step b5 b6)
        replace hboth := Lib.hid hboth
        replace hbm := Lib.hid hbm
        replace ham := Lib.hid ham
        replace hbv := Lib.hid hbv
        replace hav := Lib.hid hav
        replace hbo := Lib.hid hbo
        replace hao := Lib.hid hao
        clear hR1 hR2 hBk
        go_wp2_with fail
        go_loopw [13, 62] (fun qv kv wr => ∃ (k : Nat) (L : List Nat) (qw : Value), qw = qv ∧ kv = .int .i64 k ∧ k ≤ G.length ∧ L.length ≤ k ∧ OwnI w6.heap.size wr qw (castI L) ∧ Below w6.heap.size w6 wr ∧ L.Pairwise (· < ·) ∧ ∀ v, v ∈ L ↔ (v < k ∧ (bm v && am v) = true)) (fun _ kv _ => G.length - (intOf kv).toNat)
        case atStart => exact ⟨0, [], _, rfl, rfl, by omega, by simp, OwnI.nil _ _, Below.refl _ _, List.Pairwise.nil, fun v => ⟨fun q => (by cases q), fun q => by omega⟩⟩
        case round =>
          obtain ⟨k, L, qv, rfl, rfl, hk, hLk, hLo, b7, hLs, hLm⟩ := hrel
          obtain ⟨wo, rfl⟩ : ∃ wo : World, wo = wr := ⟨_, rfl⟩
          by_cases hlt : k < G.length
          · have hB := hbv.out.below b7
            have hA := hav.out.below b7
            have iB := fun w' => hB.idx oneBoolG k (by rw [tabB_len]; exact hlt) w'
            have cB := hB.cellV k (by rw [tabB_len]; exact hlt)
            rw [tabB_get _ _ _ hlt] at cB
            have iA := fun w' => hA.idx oneBoolG k (by rw [tabB_len]; exact hlt) w'
            have cA := hA.cellV k (by rw [tabB_len]; exact hlt)
            rw [tabB_get _ _ _ hlt] at cA
            generalize valAt bv k = qb at *
            generalize valAt av k = qa at *
            have hyes : (bm k && am k) = true → ∀ v, v ∈ L ++ [k] ↔ (v < k + 1 ∧ (bm v && am v) = true) := fun hq v => by
              rw [List.mem_append, hLm v, List.mem_singleton]
              constructor
              · rintro (⟨a, b⟩ | rfl)
                · exact ⟨by omega, b⟩
                · exact ⟨by omega, hq⟩
              · rintro ⟨a, b⟩
                by_cases e : v = k
                · exact .inr e
                · exact .inl ⟨by omega, b⟩
            have hno : (bm k && am k) = false → ∀ v, v ∈ L ↔ (v < k + 1 ∧ (bm v && am v) = true) := fun hq v => by
              rw [hLm v]
              constructor
              · rintro ⟨a, b⟩; exact ⟨by omega, b⟩
              · rintro ⟨a, b⟩
                by_cases e : v = k
                · subst e; rw [hq] at b; cases b
                · exact ⟨by omega, b⟩
            have hsrt2 : (L ++ [k]).Pairwise (· < ·) := by
              rw [List.pairwise_append]
              refine ⟨hLs, List.pairwise_singleton _ _, fun x hx y hy => ?_⟩
              cases List.mem_singleton.1 hy
              exact ((hLm x).1 hx).1
            obtain ⟨bk, hbk⟩ : ∃ bk, bm k = bk := ⟨_, rfl⟩
            obtain ⟨ak, hak⟩ : ∃ ak, am k = ak := ⟨_, rfl⟩
            rw [hbk] at cB hyes hno
            rw [hak] at cA hyes hno
            replace hB := Lib.hid hB
            replace hA := Lib.hid hA
            replace hLm := Lib.hid hLm
            replace hLs := Lib.hid hLs
            replace hsrt2 := Lib.hid hsrt2
            replace hbk := Lib.hid hbk
            replace hak := Lib.hid hak
            cases bk with
            | false =>
              have hn := hno rfl
              replace hn := Lib.hid hn
              replace hLo := Lib.hid hLo
              clear hyes hno
              go_wp2
              go_roundw
              case measure => simp [intOf]; omega
              case rel => exact ⟨k + 1, L, qv, rfl, by go_num, by omega, by omega, hLo.out, b7, hLs.out, hn.out⟩
            | true =>
              cases ak with
              | false =>
                have hn := hno rfl
                replace hn := Lib.hid hn
                replace hLo := Lib.hid hLo
                clear hyes hno
                go_wp2
                go_roundw
                case measure => simp [intOf]; omega
                case rel => exact ⟨k + 1, L, qv, rfl, by go_num, by omega, by omega, hLo.out, b7, hLs.out, hn.out⟩
              | true =>
                have hy := hyes rfl
                replace hy := Lib.hid hy
                clear hyes hno
                have hB7 : w6.heap.size ≤ wo.heap.size := b7.size
                go_wp2_with (at_builtin; refine wpl_app1 rfl _ _ rfl w6.heap.size qv (castI L) k hLo rfl rfl (by rw [castI_len]; omega) hB7 ?_)
                intro qv' w8 ho8 b8 hal8
                replace ho8 := Lib.hid ho8
                clear hal8 hLo
                go_wp2
                go_roundw
                case measure => simp [intOf]; omega
                case rel => exact ⟨k + 1, L ++ [k], qv', rfl, by go_num, by omega, by rw [List.length_append]; simp only [List.length_cons, List.length_nil]; omega, by rw [castI_snoc]; exact ho8.out, b7.trans b8, hsrt2.out, hy.out⟩
          · obtain rfl : k = G.length := by omega
            have hLL : LiveList G.length (adjOf G) L := ⟨hLs, fun v => by
              rw [hLm v]
              constructor
              · rintro ⟨a, b⟩; exact ⟨a, (hboth.out v a).1 b⟩
              · rintro ⟨a, b⟩; exact ⟨a, (hboth.out v a).2 b⟩⟩
            obtain ⟨qa, qn, qc, rfl⟩ := hLo.at.shape
            replace hLL := Lib.hid hLL
            replace hLo := Lib.hid hLo
            replace hLm := Lib.hid hLm
            replace hLs := Lib.hid hLs
            go_wp2
            go_ret2
            exact ⟨_, _, rfl, Below.step hw6 b7, ⟨by rw [hck.out]; rfl, ⟨fun _ => ⟨L, hLL.out, hLo.out.mono hw6.size⟩, fun q => absurd hck.out q⟩⟩⟩
end Go.Proofs.YtilpckngghffoaaGreatDoor

namespace Go.Proofs.YtilpckngghffoaaGreatDoor
open Go.RowKit
set_option maxRecDepth 100000

/-- The least of the first k neighbours that are nearer by one. -/
def BestTo (l : List Nat) (D : Nat → Int) (d : Int) (k : Nat) (b : Int) : Prop :=
  (b = -1 ∧ ∀ t ∈ l.take k, D t ≠ d) ∨ ∃ m : Nat, b = m ∧ m ∈ l.take k ∧ D m = d ∧ ∀ t ∈ l.take k, D t = d → m ≤ t
theorem BestTo.zero (l : List Nat) (D : Nat → Int) (d : Int) : BestTo l D d 0 (-1) := .inl ⟨rfl, fun t ht => by simp at ht⟩
theorem BestTo.low {l : List Nat} {D : Nat → Int} {d : Int} {k : Nat} {b : Int} (h : BestTo l D d k b) : -1 ≤ b := by
  rcases h with ⟨h, _⟩ | ⟨m, h, _⟩ <;> omega
theorem take_mem {l : List Nat} {k t : Nat} (ht : l[k]? = some t) (x : Nat) : x ∈ l.take (k + 1) ↔ x ∈ l.take k ∨ x = t := by
  rw [List.take_add_one, ht]; simp
theorem BestTo.take {l : List Nat} {D : Nat → Int} {d : Int} {k : Nat} {b : Int} (h : BestTo l D d k b) {t : Nat} (ht : l[k]? = some t) (hd : D t = d) (hb : b < 0 ∨ (t : Int) < b) : BestTo l D d (k + 1) t := by
  refine .inr ⟨t, rfl, (take_mem ht t).2 (.inr rfl), hd, fun x hx hxd => ?_⟩
  rcases (take_mem ht x).1 hx with hx | rfl
  · rcases h with ⟨h1, h2⟩ | ⟨m, h1, h2, h3, h4⟩
    · exact absurd hxd (h2 x hx)
    · have := h4 x hx hxd; omega
  · exact Nat.le_refl _
theorem BestTo.stay {l : List Nat} {D : Nat → Int} {d : Int} {k : Nat} {b : Int} (h : BestTo l D d k b) {t : Nat} (ht : l[k]? = some t) (hb : 0 ≤ b) (hbt : b ≤ t) : BestTo l D d (k + 1) b := by
  rcases h with ⟨h1, h2⟩ | ⟨m, h1, h2, h3, h4⟩
  · omega
  · refine .inr ⟨m, h1, (take_mem ht m).2 (.inl h2), h3, fun x hx hxd => ?_⟩
    rcases (take_mem ht x).1 hx with hx | rfl
    · exact h4 x hx hxd
    · omega

/-- Where the way stands. -/
structure Down (n : Nat) (adj : Nat → List Nat) (x y : Nat) (D : Nat → Int) (out : List Nat) (v : Nat) : Prop where
  low : v < n
  there : 0 ≤ D v
  len : (out.length : Int) + D v = D x + 1
  last : ∃ pre, out = pre ++ [v]
  ext : ∀ u, IsFirst adj v y u → ∀ pre, out = pre ++ [v] → IsFirst adj x y (pre ++ u)
theorem Down.start {n : Nat} {adj : Nat → List Nat} {x y : Nat} {D : Nat → Int} (hx : x < n) (h0 : 0 ≤ D x) : Down n adj x y D [x] x :=
  ⟨hx, h0, by simp; omega, ⟨[], rfl⟩, fun u hu pre hp => by
    cases pre with
    | nil => exact hu
    | cons a pre => simp at hp⟩
theorem Down.next {n : Nat} {adj : Nat → List Nat} {x y : Nat} {D : Nat → Int} {out : List Nat} {v m : Nat} (h : Down n adj x y D out v) (hT : ToOf n adj y D) (hlt : ∀ v, v < n → ∀ t ∈ adj v, t < n) (hm : m ∈ adj v) (hd : D m = D v - 1) (h1 : 1 ≤ D v)
    (hmin : ∀ t ∈ adj v, D t = D v - 1 → m ≤ t) : Down n adj x y D (out ++ [m]) m := by
  refine ⟨hlt v h.low m hm, by omega, by rw [List.length_append, List.length_singleton]; have := h.len; omega, ⟨out, rfl⟩, fun u hu pre hp => ?_⟩
  have hp2 : out = pre := List.append_inj_left' hp rfl
  subst hp2
  obtain ⟨pre, hpre⟩ := h.last
  have := h.ext (v :: u) (step_first hT hlt h.low hm hd (by omega) hmin hu) pre hpre
  rw [hpre, List.append_assoc]
  exact this
theorem IsFirst.one (adj : Nat → List Nat) (y : Nat) : IsFirst adj y y [y] := by
  refine ⟨.one y, fun u hu => hu.pos, fun u hu hl => ?_⟩
  obtain ⟨w, rfl⟩ := hu.ne
  cases w with
  | nil => exact lexLe_refl _
  | cons a w => simp at hl
theorem Down.stop {n : Nat} {adj : Nat → List Nat} {x y : Nat} {D : Nat → Int} {out : List Nat} (h : Down n adj x y D out y) : IsFirst adj x y out := by
  obtain ⟨pre, hpre⟩ := h.last
  rw [hpre]
  exact h.ext [y] (IsFirst.one adj y) pre hpre

theorem row_push {B : Nat} {w w1 : World} {f : Names} {i : Nat × Nat} {qv qv' : Value} {q : List Nat} (hr : Rows B w f) (hf : f i = some (rowI qv (castI q))) (t : Nat) (ho : OwnI B w1 qv' (castI q ++ [(t : Int)]))
    (hal : (roomOf qv' = roomOf qv ∧ w.grownBy w1 qv.ownBlock) ∨ (∃ k, qv'.ownBlock = some k ∧ w.heap.size ≤ k ∧ w.grownBy w1 none)) : Rows B w1 (upd f i (some (rowI qv' (castI (q ++ [t]))))) := by
  have hO := hr.ownI hf
  have hg : w.grownBy w1 qv.ownBlock := grown_via (hal.imp (·.2) (fun ⟨_, _, _, q⟩ => q))
  have hob : qv'.ownBlock = qv.ownBlock ∨ ∃ k, qv'.ownBlock = some k ∧ w.heap.size ≤ k := by
    rcases hal with ⟨q, _⟩ | ⟨k, h1, h2, _⟩
    · obtain ⟨a1, n1, c1, e1⟩ := hO.at.shape
      obtain ⟨a2, n2, c2, e2⟩ := ho.at.shape
      exact .inl (ownBlock_of_room e1 e2 q)
    · exact .inr ⟨k, h1, h2⟩
  have := hr.grown (r' := rowI qv' (castI q ++ [(t : Int)])) hf hg ho hob
  rwa [← castI_snoc] at this

end Go.Proofs.YtilpckngghffoaaGreatDoor

namespace Go.Proofs.YtilpckngghffoaaGreatDoor
open Go.RowKit
set_option maxRecDepth 100000

theorem OwnI.set3 {B b : Nat} {w : World} {v : Value} {xs : List Int} (h : OwnI B w v xs) (hb : b < B) (x y z : Value) : OwnI B (((w.setCell ⟨b, 0, none⟩ x).setCell ⟨b, 1, none⟩ y).setCell ⟨b, 2, none⟩ z) v xs :=
  OwnV.toI (((h.toV.setBelowBase (a := ⟨b, 0, none⟩) hb x).setBelowBase (a := ⟨b, 1, none⟩) hb y).setBelowBase (a := ⟨b, 2, none⟩) hb z)
theorem FirstPost.set3 {w w3 w4 : World} {adj : Nat → List Nat} {a b : Nat} {v : Value} (h : FirstPost w3 adj a b v w4) {c : Nat} (hb : c < w3.heap.size) (hs : w.heap.size ≤ w3.heap.size) (x y z : Value) : FirstPost w adj a b v (((w4.setCell ⟨c, 0, none⟩ x).setCell ⟨c, 1, none⟩ y).setCell ⟨c, 2, none⟩ z) := by
  rcases h with ⟨u, h1, h2⟩ | h
  · exact .inl ⟨u, h1, (h2.set3 hb x y z).mono hs⟩
  · exact .inr h
end Go.Proofs.YtilpckngghffoaaGreatDoor

namespace Go.Proofs.YtilpckngghffoaaGreatDoor
theorem Goes.loop {adj : Nat → List Nat} {x y : Nat} (h : Goes adj x y) (ha : x ∈ adj y) : OnLoop adj x := by
  obtain ⟨w, hw⟩ := h.way
  cases hw with
  | one => exact ⟨x, ha, .refl x⟩
  | @cons _ t _ w ht hw => exact ⟨t, ht, .step hw.goes ha⟩
end Go.Proofs.YtilpckngghffoaaGreatDoor

namespace Go.Proofs.YtilpckngghffoaaGreatDoor

/-- Between two rounds. -/
structure PS (n : Nat) (A B : Nat → List Nat) (inn out c d : Nat → Nat) (gone : Nat → Bool) (q : List Nat) (lives : Nat → Prop) (i : Nat) : Prop where
  peel : Peel n A B inn out c d gone q lives
  pos : ∀ t, t < n → gone t = false → 0 < inn t ∧ 0 < out t
  done : ∀ j x, j < i → q[j]? = some x → c x = (A x).length ∧ d x = (B x).length
  rest : ∀ j x, i ≤ j → q[j]? = some x → c x = 0 ∧ d x = 0
/-- Within a round. -/
structure Mid (n : Nat) (A B : Nat → List Nat) (inn out c d : Nat → Nat) (gone : Nat → Bool) (q : List Nat) (lives : Nat → Prop) (i v : Nat) : Prop where
  peel : Peel n A B inn out c d gone q lives
  pos : ∀ t, t < n → gone t = false → 0 < inn t ∧ 0 < out t
  cur : q[i]? = some v
  done : ∀ j x, j < i → q[j]? = some x → c x = (A x).length ∧ d x = (B x).length
  rest : ∀ j x, i < j → q[j]? = some x → c x = 0 ∧ d x = 0
section
variable {n : Nat} {A B : Nat → List Nat} {inn out c d : Nat → Nat} {gone : Nat → Bool} {q : List Nat} {lives : Nat → Prop} {i v : Nat}
theorem PS.enter (h : PS n A B inn out c d gone q lives i) (hv : q[i]? = some v) : Mid n A B inn out c d gone q lives i v ∧ c v = 0 ∧ d v = 0 ∧ v < n :=
  ⟨⟨h.peel, h.pos, hv, h.done, fun j x hj hx => h.rest j x (by omega) hx⟩, (h.rest i v (Nat.le_refl _) hv).1, (h.rest i v (Nat.le_refl _) hv).2, h.peel.low v (List.mem_of_getElem? hv)⟩
theorem Mid.leave (h : Mid n A B inn out c d gone q lives i v) (hc : c v = (A v).length) (hd : d v = (B v).length) : PS n A B inn out c d gone q lives (i + 1) := by
  refine ⟨h.peel, h.pos, fun j x hj hx => ?_, fun j x hj hx => h.rest j x (by omega) hx⟩
  by_cases e : j = i
  · subst e
    rw [h.cur] at hx; cases hx
    exact ⟨hc, hd⟩
  · exact h.done j x (by omega) hx
/-- An arrow of v is gone through. -/
theorem Mid.step (h : Mid n A B inn out c d gone q lives i v) (hL : LiveSet n A B lives) {k t : Nat} (hk : c v = k) (ht : (A v)[k]? = some t) (htn : t < n) :
    0 < inn t ∧ (inn t = 1 → gone t = false → Mid n A B (updN inn t (inn t - 1)) out (updN c v (k + 1)) d (updN gone t true) (q ++ [t]) lives i v) ∧
    ((inn t = 1 → gone t = true) → Mid n A B (updN inn t (inn t - 1)) out (updN c v (k + 1)) d gone q lives i v) := by
  have hvq := List.mem_of_getElem? h.cur
  obtain ⟨h0, hp⟩ := h.peel.arrow1 hvq hk ht htn
  have hne : ∀ j x, j ≠ i → q[j]? = some x → x ≠ v := fun j x hj hx e => hj (get_inj h.peel.nodup (by rw [hx, e]) h.cur)
  have hdone : ∀ j x, j < i → q[j]? = some x → updN c v (k + 1) x = (A x).length ∧ d x = (B x).length := fun j x hj hx => by
    rw [updN_other _ _ _ (hne j x (by omega) hx)]; exact h.done j x hj hx
  have hrest : ∀ j x, i < j → q[j]? = some x → updN c v (k + 1) x = 0 ∧ d x = 0 := fun j x hj hx => by
    rw [updN_other _ _ _ (hne j x (by omega) hx)]; exact h.rest j x hj hx
  refine ⟨h0, fun h1 hg => ?_, fun h1 => ?_⟩
  · have htq : t ∉ q := fun hm => by have := (h.peel.goneq t).2 hm; rw [hg] at this; cases this
    have htv : t ≠ v := fun e => htq (by rw [e]; exact hvq)
    have hil := get_of h.cur
    have hga : ∀ j x, (q ++ [t])[j]? = some x → q[j]? = some x ∨ j = q.length ∧ x = t := fun j x hx => by
      by_cases e : j < q.length
      · rw [List.getElem?_append_left e] at hx; exact .inl hx
      · rw [List.getElem?_append_right (by omega)] at hx
        by_cases e2 : j = q.length
        · rw [e2] at hx; simp at hx; exact .inr ⟨e2, hx.symm⟩
        · rw [List.getElem?_eq_none (by simp; omega)] at hx; cases hx
    refine ⟨hp.goes hL htn hg (.inl (by rw [updN_same]; omega)), fun x hx hgx => ?_, by rw [List.getElem?_append_left hil]; exact h.cur, fun j x hj hx => ?_, fun j x hj hx => ?_⟩
    · by_cases e : x = t
      · subst e; rw [updN_same] at hgx; cases hgx
      · rw [updN_other _ _ _ e] at hgx ⊢; exact h.pos x hx hgx
    · rcases hga j x hx with hx | ⟨hj2, _⟩
      · exact hdone j x hj hx
      · omega
    · rcases hga j x hx with hx | ⟨_, rfl⟩
      · exact hrest j x hj hx
      · rw [updN_other _ _ _ htv]; exact h.peel.fresh x htq
  · refine ⟨hp, fun x hx hgx => ?_, h.cur, hdone, hrest⟩
    by_cases e : x = t
    · subst e
      rw [updN_same]
      have := (h.pos x hx hgx).2
      have : inn x ≠ 1 := fun e => by have := h1 e; rw [hgx] at this; cases this
      omega
    · rw [updN_other _ _ _ e]; exact h.pos x hx hgx
end
/-- The beginning: the first k have been looked at. -/
structure PStart (n : Nat) (A B : Nat → List Nat) (gone : Nat → Bool) (q : List Nat) (lives : Nat → Prop) (k : Nat) : Prop where
  peel : Peel n A B (fun t => (B t).length) (fun t => (A t).length) (fun _ => 0) (fun _ => 0) gone q lives
  pos : ∀ t, t < k → gone t = false → 0 < (B t).length ∧ 0 < (A t).length
  below : ∀ x ∈ q, x < k
section
variable {n : Nat} {A B : Nat → List Nat} {gone : Nat → Bool} {q : List Nat} {lives : Nat → Prop} {k : Nat}
theorem PStart.zero (hA : ∀ t, t < n → ∀ x ∈ A t, x < n) (hB : ∀ t, t < n → ∀ x ∈ B t, x < n) (hc : ∀ t v, t < n → v < n → (B t).count v = (A v).count t) : PStart n A B (fun _ => false) [] lives 0 :=
  ⟨⟨Deg.init hB (fun v t hv ht => hc t v ht hv), Deg.init hA (fun v t hv ht => (hc v t hv ht).symm), by simp, fun x => by simp, fun x hx => by simp at hx, fun _ _ => ⟨rfl, rfl⟩, fun _ _ _ => rfl⟩, fun t ht => by omega, fun x hx => by simp at hx⟩
theorem PStart.take (h : PStart n A B gone q lives k) (hL : LiveSet n A B lives) (hk : k < n) (h0 : (A k).length = 0 ∨ (B k).length = 0) : PStart n A B (updN gone k true) (q ++ [k]) lives (k + 1) := by
  have hg : gone k = false := by
    cases hgk : gone k with
    | false => rfl
    | true => have := h.below k ((h.peel.goneq k).1 hgk); omega
  refine ⟨h.peel.goes hL hk hg h0.symm, fun t ht hgt => ?_, fun x hx => ?_⟩
  · by_cases e : t = k
    · subst e; rw [updN_same] at hgt; cases hgt
    · rw [updN_other _ _ _ e] at hgt; exact h.pos t (by omega) hgt
  · rcases List.mem_append.1 hx with hx | hx
    · have := h.below x hx; omega
    · cases List.mem_singleton.1 hx; omega
theorem PStart.all (h : PStart n A B gone q lives n) : PS n A B (fun t => (B t).length) (fun t => (A t).length) (fun _ => 0) (fun _ => 0) gone q lives 0 :=
  ⟨h.peel, h.pos, fun j x hj => by omega, fun _ _ _ _ => ⟨rfl, rfl⟩⟩
end
end Go.Proofs.YtilpckngghffoaaGreatDoor

namespace Go.Proofs.YtilpckngghffoaaGreatDoor
open Go.RowKit
set_option maxRecDepth 100000

/-- The memory of the peeling. -/
structure LvN (f : Names) (ov iv gv qv : Value) (n : Nat) (out inn : Nat → Nat) (gone : Nat → Bool) (q : List Nat) : Prop where
  outs : f (1, 0) = some (rowI ov (tab n out))
  inns : f (2, 0) = some (rowI iv (tab n inn))
  gones : f (3, 0) = some (rowV 4 gv (tabB n gone))
  queue : f (4, 0) = some (rowI qv (castI q))
section
variable {B : Nat} {w : World} {f : Names} {ov iv gv qv : Value} {n : Nat} {out inn : Nat → Nat} {gone : Nat → Bool} {q : List Nat}
theorem LvN.mark (h : LvN f ov iv gv qv n out inn gone q) (hr : Rows B w f) (t : Nat) (ht : t < n) : ∃ f', Rows B (w.setCell (valAt gv t) (.bool true)) f' ∧ LvN f' ov iv gv qv n out inn (updN gone t true) q := by
  have hs := hr.setV h.gones t (by rw [tabB_len]; exact ht) (.bool true)
  rw [tabB_upd] at hs
  exact ⟨_, hs, ⟨by rw [upd_ne _ _ (by simp)]; exact h.outs, by rw [upd_ne _ _ (by simp)]; exact h.inns, upd_same _ _ _, by rw [upd_ne _ _ (by simp)]; exact h.queue⟩⟩
theorem LvN.push (h : LvN f ov iv gv qv n out inn gone q) (hr : Rows B w f) {w1 : World} {qv' : Value} (t : Nat) (ho : OwnI B w1 qv' (castI q ++ [(t : Int)]))
    (hal : (roomOf qv' = roomOf qv ∧ w.grownBy w1 qv.ownBlock) ∨ (∃ k, qv'.ownBlock = some k ∧ w.heap.size ≤ k ∧ w.grownBy w1 none)) : ∃ f', Rows B w1 f' ∧ LvN f' ov iv gv qv' n out inn gone (q ++ [t]) :=
  ⟨_, row_push hr h.queue t ho hal, ⟨by rw [upd_ne _ _ (by simp)]; exact h.outs, by rw [upd_ne _ _ (by simp)]; exact h.inns, by rw [upd_ne _ _ (by simp)]; exact h.gones, upd_same _ _ _⟩⟩
end
theorem tabB_none (n : Nat) : tabB n (fun _ => false) = List.replicate n (.bool false) := by
  unfold tabB; apply List.ext_getElem <;> simp
/-- Box3 below another block. -/
theorem Box3.keep {B : Nat} {w w' : World} {b : Nat} {x0 x1 x2 : Value} (h : Box3 w b x0 x1 x2) (hb : Below B w w') (hlt : b < B) : Box3 w' b x0 x1 x2 := h.belowB hb hlt

end Go.Proofs.YtilpckngghffoaaGreatDoor

namespace Go.Proofs.YtilpckngghffoaaGreatDoor
open Go.RowKit Go.Shelf Go.Sort
set_option maxRecDepth 100000

def Tryz.laysDel_ren : Go.Shelf.Ren := ⟨fun | 10 => 101 | 6 => 97 | n => n, fun | 22 => 22 | 23 => 3 | 25 => 106 | 3 => 3 | 4 => 4 | 0 => 0 | n => n, fun | n => n⟩
theorem Tryz.laysDel : Go.Proofs.SlLaysH.n10 Tryz.prog Tryz.laysDel_ren := {
  mixed := by kernel_rfl
  f6 := ⟨Tryz.f97.name, by decide, Tryz.func97.trans (congrArg some (by kernel_rfl))⟩
  f10 := ⟨Tryz.f101.name, by decide, Tryz.func101.trans (congrArg some (by kernel_rfl))⟩
  t0 := Tryz.underlying0
  a0 := Tryz.isAgg0
  z0 := Tryz.sizeOf0
  v0 := Tryz.zeroValue0
  t3 := Tryz.underlying3
  a3 := Tryz.isAgg3
  z3 := Tryz.sizeOf3
  v3 := Tryz.zeroValue3
  t4 := Tryz.underlying4
  a4 := Tryz.isAgg4
  z4 := Tryz.sizeOf4
  v4 := Tryz.zeroValue4
  t22 := Tryz.underlying22
  a22 := Tryz.isAgg22
  z22 := Tryz.sizeOf22
  v22 := Tryz.zeroValue22
  a23 := Tryz.isAgg3
  z23 := Tryz.sizeOf3
  t25 := Tryz.underlying106
  a25 := Tryz.isAgg106
  z25 := Tryz.sizeOf106
  v25 := Tryz.zeroValue106 }

/-- Are quotient and rest one? -/
def dgI (N : Nat) (x : Int) : Bool := IntKind.i64.wrap (x.tdiv N) == x.tmod N
theorem dgI_aux (a c : Nat) (ha : a ≤ 100000) : (IntKind.i64.wrap (a : Int) == (c : Int)) = decide (a = c) := by
  rw [wrapK (x := (a : Int)) (by omega) (by omega)]
  by_cases e : a = c
  · simp [e]
  · rw [decide_eq_false e, beq_eq_false_iff_ne]; omega
theorem dgI_nat {N p : Nat} (hp : p ≤ 100000) : dgI N p = decide (Diag N p) := by
  unfold dgI
  have h1 : p / N ≤ 100000 := Nat.le_trans (Nat.div_le_self _ _) hp
  have e1 : (p : Int).tdiv (N : Int) = ((p / N : Nat) : Int) := by rw [Int.tdiv_eq_ediv_of_nonneg (by omega)]; simp
  have e2 : (p : Int).tmod (N : Int) = ((p % N : Nat) : Int) := by rw [Int.tmod_eq_emod_of_nonneg (by omega)]; simp
  rw [e1, e2, dgI_aux _ _ h1, decide_eq_decide]
  exact Iff.rfl

theorem apart1_any (x : Int) (b N : Nat) (w : World) (hN : 1 ≤ N) (hb : w.cell? ⟨b, 0, none⟩ = some (.int .i64 N)) :
    Calls Tryz.prog 102 #[.int .i64 x, .pointer (some ⟨b, 0, none⟩)] w (RetB (dgI N x) w) := by
  have h1 : ¬ (N : Int) = 0 := by omega
  have h2 : ((N : Int) == 0) = false := by rw [beq_eq_false_iff_ne]; omega
  have h3 : ¬ N = 0 := by omega
  go_enter Tryz.func102, Tryz.ntmps102
  go_upto_region 1 with fail
  refine wp_region_plan (fun w' => w'.cell? ⟨b, 0, none⟩ = some (.int .i64 N)) 7 [(0, true), (1, true), (2, true), (3, true), (4, true), (5, true), (6, true)] (by kernel_rfl) (by kernel_rfl) ?_
  have hS : w.drew.cell? ⟨b, 0, none⟩ = some (.int .i64 N) := hb
  refine headY (v := ?_) (some 4) rfl rfl (Or.inl ⟨by rfl, ?_⟩) hS ?_
  rotate_left
  · rintro W' s0; go_simp; try with_reducible rfl
  simp only [Act.put, List.setIfInBounds_toArray, List.set_cons_zero, List.set_cons_succ]
  refine headY (v := ?_) (some 5) rfl rfl (Or.inl ⟨by rfl, ?_⟩) hS ?_
  rotate_left
  · rintro W' s0; go_simp; try with_reducible rfl
  simp only [Act.put, List.setIfInBounds_toArray, List.set_cons_zero, List.set_cons_succ]
  refine headY (v := ?_) (some 6) rfl rfl (Or.inl ⟨by rfl, ?_⟩) hS ?_
  rotate_left
  · rintro W' s0; go_simp; try with_reducible rfl
  simp only [Act.put, List.setIfInBounds_toArray, List.set_cons_zero, List.set_cons_succ]
  refine headY (v := ?_) (some 7) rfl rfl (Or.inl ⟨by rfl, ?_⟩) hS ?_
  rotate_left
  · rintro W' s0; go_simp; try with_reducible rfl
  simp only [Act.put, List.setIfInBounds_toArray, List.set_cons_zero, List.set_cons_succ]
  refine headY (v := ?_) (some 8) rfl rfl (Or.inl ⟨by rfl, ?_⟩) hS ?_
  rotate_left
  · rintro W' s0; go_simp; try with_reducible rfl
  simp only [Act.put, List.setIfInBounds_toArray, List.set_cons_zero, List.set_cons_succ]
  refine headY (v := ?_) (some 9) rfl rfl (Or.inl ⟨by rfl, ?_⟩) hS ?_
  rotate_left
  · rintro W' s0; go_simp; try with_reducible rfl
  simp only [Act.put, List.setIfInBounds_toArray, List.set_cons_zero, List.set_cons_succ]
  refine headY (v := ?_) (some 10) rfl rfl (Or.inl ⟨by rfl, ?_⟩) hS ?_
  rotate_left
  · rintro W' s0; go_simp; try with_reducible rfl
  simp only [Act.put, List.setIfInBounds_toArray, List.set_cons_zero, List.set_cons_succ]
  refine head0 ?_
  simp only [List.drop_succ_cons, List.drop_zero]
  clear hS
  go_wp2
  refine NoPanic.normal ?_
  go_wp2
  go_ret
  exact ⟨1, rfl, rfl⟩
theorem eg_apart1 (args : Array Value) (w : World) : (callFunc 102 args).run Tryz.prog w = .ok (.enter 102 args) w := by kernel_rfl

theorem gives1 (x : Int) (b N : Nat) (w : World) (hN : 1 ≤ N) (hb : w.cell? ⟨b, 0, none⟩ = some (.int .i64 N)) : FnGives Tryz.prog 102 #[.pointer (some ⟨b, 0, none⟩)] #[.int .i64 x] (.bool (dgI N x)) w := by
  refine (apart1_any x b N w hN hb).mono ?_
  rintro e w' ⟨n, rfl, rfl⟩
  exact ⟨rfl, n, rfl⟩
theorem delete_own (B : Nat) (v : Value) (xs : List Int) (b N : Nat) (w : World) (h : OwnI B w v xs) (hx : xs ≠ []) (hN : 1 ≤ N) (hb : w.cell? ⟨b, 0, none⟩ = some (.int .i64 N)) (hne : v.ownBlock ≠ some b) :
    Calls Tryz.prog 101 #[v, .func (.func 102) #[] #[.pointer (some ⟨b, 0, none⟩)]] w fun e w' => ∃ x, e = .returned x ∧ x.ownBlock = v.ownBlock ∧ OwnI B w' x (xs.filter fun x => !dgI N x) ∧ Below B w w' := by
  have hbl := World.block_lt_of_cell? _ _ hb
  rcases h.2 with ⟨rfl, hn⟩ | ⟨g, cap, cur, rfl, hB, hg, hn, hm, hs, ht⟩
  · exact absurd (List.length_eq_zero_iff.1 hn) hx
  · have hne' : b ≠ g := fun e => hne (by rw [e]; rfl)
    have hcon := AnyE.slices_DeleteFunc Tryz.laysDel (Value.int .i64) (fun _ => rfl) (dgI N) 102 #[.pointer (some ⟨b, 0, none⟩)] (fun args w' => eg_apart1 args w') 0 (fun w => by kernel_rfl) g 0 cap xs.toArray w
      (fun W x hb' => gives1 x b N W hN ((hb'.cell (p := ⟨b, 0, none⟩) hbl).trans hb))
      (fun n os dk x _ => gives1 x b N _ hN (by
        unfold sortWorld
        rw [cell?_grow _ _ _ (by show b < (putRow _ _ _ _ _).heap.size; rw [size_putRow]; exact hbl), cell?_putRow_other _ _ g 0 _ _ (Or.inl hne')]
        exact hb))
      (holds_of_block_i hg (by simpa using ht)) (by have := h.at.len_le; simpa using this) (by simpa using hn)
    refine Calls.mono hcon ?_
    rintro e w' ⟨rfl, q, rfl⟩
    have hfl : (xs.toArray.toList.filter fun x => !dgI N x) = xs.filter fun x => !dgI N x := rfl
    rw [hfl]
    have hle := List.length_filter_le (fun x => !dgI N x) xs
    generalize hF : (xs.filter fun x => !dgI N x) = F at *
    have hL : (F ++ List.replicate (xs.toArray.size - F.length) 0).length = xs.length := by simp; omega
    have ho := ownsRow_sorted_i (w := w) (n := q) (os := #[]) (ss := xs) (ts := F ++ List.replicate (xs.toArray.size - F.length) 0) hL hB hg hn hm hs
    have hgr := grownBy_sorted_i (w := w) (g := g) (n := q) (os := #[]) (F ++ List.replicate (xs.toArray.size - F.length) 0).toArray
    rw [grow_empty] at ho hgr
    have hO : OwnI B (putRow (Value.int .i64) (Sort.ahead w q) g 0 (F ++ List.replicate (xs.toArray.size - F.length) 0).toArray) (.slice (some ⟨g, 0, none⟩) xs.length cap) (F ++ List.replicate (xs.toArray.size - F.length) 0) := by
      unfold OwnI; rw [hL]; exact ho
    have ho2 := hO.cutTo F.length (by rw [hL]; exact hle)
    rw [List.take_left' rfl] at ho2
    exact ⟨_, rfl, rfl, ho2, (Below.refl _ _).grown hgr (by have := (Array.getElem?_eq_some_iff.1 hg).1; omega) (fun k hk => by cases hk; exact hB)⟩
end Go.Proofs.YtilpckngghffoaaGreatDoor

namespace Go.Proofs.YtilpckngghffoaaGreatDoor

/-- The search: the levels D, the queue q; the first i of it have been gone through, and of the next, v, the arrows to pre. -/
structure MIn (N : Nat) (adj : Nat → List Nat) (D : Nat → Nat) (q : List Nat) (i v : Nat) (pre : List Nat) : Prop where
  at_ : q[i]? = some v
  nodup : q.Nodup
  low : ∀ x ∈ q, x < N * N
  diag : ∀ x, x < N * N → Diag N x → x ∈ q ∧ D x = 0
  old : ∀ x, x < N * N → ¬ Diag N x → (x ∈ q ↔ 0 < D x)
  mono : ∀ (j k x y : Nat), j ≤ k → q[j]? = some x → q[k]? = some y → D x ≤ D y
  top : ∀ x ∈ q, D x ≤ D v + 1
  bnd : ∀ x ∈ q, D x ≤ q.length
  done : ∀ (k x : Nat), k < i → q[k]? = some x → ∀ t ∈ adj x, (¬ Diag N t → t ∈ q ∧ D t ≤ D x + 1) ∧ (Diag N t → Diag N x)
  now : ∀ t ∈ pre, (¬ Diag N t → t ∈ q ∧ D t ≤ D v + 1) ∧ (Diag N t → Diag N v)
/-- Between two of the queue: the first i have been gone through. -/
structure MOut (N : Nat) (adj : Nat → List Nat) (D : Nat → Nat) (q : List Nat) (i : Nat) : Prop where
  nodup : q.Nodup
  low : ∀ x ∈ q, x < N * N
  diag : ∀ x, x < N * N → Diag N x → x ∈ q ∧ D x = 0
  old : ∀ x, x < N * N → ¬ Diag N x → (x ∈ q ↔ 0 < D x)
  mono : ∀ (j k x y : Nat), j ≤ k → q[j]? = some x → q[k]? = some y → D x ≤ D y
  top : ∀ v : Nat, q[i]? = some v → ∀ x ∈ q, D x ≤ D v + 1
  bnd : ∀ x ∈ q, D x ≤ q.length
  done : ∀ (k x : Nat), k < i → q[k]? = some x → ∀ t ∈ adj x, (¬ Diag N t → t ∈ q ∧ D t ≤ D x + 1) ∧ (Diag N t → Diag N x)
section
variable {N : Nat} {adj : Nat → List Nat} {D : Nat → Nat} {q : List Nat} {i v : Nat} {pre : List Nat}
/-- The pairs of equal nodes, in order. -/
def diags (N : Nat) : List Nat := (List.range N).map fun u => u * N + u
theorem mem_diags {N x : Nat} : x ∈ diags N ↔ ∃ u, u < N ∧ x = u * N + u := by
  unfold diags; rw [List.mem_map]
  constructor
  · rintro ⟨u, h, rfl⟩; exact ⟨u, List.mem_range.1 h, rfl⟩
  · rintro ⟨u, h, rfl⟩; exact ⟨u, List.mem_range.2 h, rfl⟩
theorem MOut.init (N : Nat) (adj : Nat → List Nat) : MOut N adj (fun _ => 0) (diags N) 0 := by
  refine ⟨?_, fun x hx => ?_, fun x hx hd => ⟨mem_diags.2 ⟨x / N, div_lt_of hx, hd.eq⟩, rfl⟩, fun x hx hd => ⟨fun h => ?_, fun h => absurd h (by simp)⟩, fun _ _ _ _ _ _ _ => Nat.le_refl _, fun _ _ _ _ => by simp, fun _ _ => Nat.zero_le _, fun k x hk => by omega⟩
  · unfold diags
    rw [List.nodup_iff_pairwise_ne, List.pairwise_map]
    refine List.pairwise_lt_range.imp_of_mem fun {a b} ha hb h e => ?_
    have hb := List.mem_range.1 hb
    have := Nat.mul_le_mul_right N (show a + 1 ≤ b by omega)
    rw [Nat.add_mul] at this
    omega
  · obtain ⟨u, hu, rfl⟩ := mem_diags.1 hx
    exact pair_lt hu hu
  · obtain ⟨u, hu, rfl⟩ := mem_diags.1 h
    exact absurd (diag_mk hu) hd
theorem MOut.enter (h : MOut N adj D q i) (hv : q[i]? = some v) : MIn N adj D q i v [] :=
  ⟨hv, h.nodup, h.low, h.diag, h.old, h.mono, h.top v hv, h.bnd, h.done, fun _ ht => by cases ht⟩
theorem MIn.leave (h : MIn N adj D q i v pre) (hp : pre = adj v) : MOut N adj D q (i + 1) := by
  subst hp
  refine ⟨h.nodup, h.low, h.diag, h.old, h.mono, fun y hy x hx => ?_, h.bnd, fun k x hk hx => ?_⟩
  · have := h.mono i (i + 1) v y (by omega) h.at_ hy
    have := h.top x hx
    omega
  · by_cases e : k = i
    · subst e
      rw [h.at_] at hx; cases hx
      exact h.now
    · exact h.done k x (by omega) hx
/-- A new one. -/
theorem MIn.add (h : MIn N adj D q i v pre) {t : Nat} (htl : t < N * N) (ht : ¬ Diag N t) (hq : t ∉ q) : MIn N adj (updN D t (D v + 1)) (q ++ [t]) i v (pre ++ [t]) := by
  have hi : i < q.length := (List.getElem?_eq_some_iff.1 h.at_).1
  have hvq : v ∈ q := List.mem_of_getElem? h.at_
  have hvt : v ≠ t := fun e => hq (by rw [← e]; exact hvq)
  have hD : ∀ x, x ∈ q → updN D t (D v + 1) x = D x := fun x hx => updN_other _ _ _ (fun e => hq (by rw [← e]; exact hx))
  have hget : ∀ k x, (q ++ [t])[k]? = some x → (q[k]? = some x ∧ k < q.length) ∨ (k = q.length ∧ x = t) := fun k x hx => by
    rw [List.getElem?_append] at hx
    split at hx
    · exact .inl ⟨hx, by assumption⟩
    · right
      cases hk : k - q.length with
      | zero => rw [hk] at hx; simp at hx; exact ⟨by omega, hx.symm⟩
      | succ n => rw [hk] at hx; simp at hx
  refine ⟨by rw [List.getElem?_append_left hi]; exact h.at_, List.nodup_append.2 ⟨h.nodup, by simp, fun a ha b hb e => by cases List.mem_singleton.1 hb; subst e; exact hq ha⟩, fun x hx => ?_, fun x hx hd => ?_, fun x hx hd => ?_, fun j k x y hjk hx hy => ?_, fun x hx => ?_, fun x hx => ?_, fun k x hk hx s hs => ?_, fun s hs => ?_⟩
  · rcases List.mem_append.1 hx with hx | hx
    · exact h.low x hx
    · cases List.mem_singleton.1 hx; exact htl
  · obtain ⟨h1, h2⟩ := h.diag x hx hd
    exact ⟨List.mem_append_left _ h1, by rw [hD x h1]; exact h2⟩
  · by_cases e : x = t
    · subst e; rw [updN_same]; simp
    · rw [updN_other _ _ _ e, ← h.old x hx hd]; simp [e]
  · rcases hget j x hx with ⟨a1, _⟩ | ⟨a1, rfl⟩
    · rw [hD x (List.mem_of_getElem? a1)]
      rcases hget k y hy with ⟨b1, _⟩ | ⟨b1, rfl⟩
      · rw [hD y (List.mem_of_getElem? b1)]; exact h.mono j k x y hjk a1 b1
      · rw [updN_same]; exact h.top x (List.mem_of_getElem? a1)
    · rcases hget k y hy with ⟨b1, b2⟩ | ⟨b1, rfl⟩
      · omega
      · exact Nat.le_refl _
  · rw [updN_other D t (D v + 1) hvt]
    rcases List.mem_append.1 hx with hx | hx
    · rw [hD x hx]; exact h.top x hx
    · cases List.mem_singleton.1 hx; rw [updN_same]; exact Nat.le_refl _
  · rw [List.length_append, List.length_singleton]
    rcases List.mem_append.1 hx with hx | hx
    · rw [hD x hx]; have := h.bnd x hx; omega
    · cases List.mem_singleton.1 hx; rw [updN_same]; have := h.bnd v hvq; omega
  · rcases hget k x hx with ⟨a1, _⟩ | ⟨a1, rfl⟩
    · rw [hD x (List.mem_of_getElem? a1)]
      obtain ⟨c1, c2⟩ := h.done k x hk a1 s hs
      exact ⟨fun q' => by
        obtain ⟨d1, d2⟩ := c1 q'
        exact ⟨List.mem_append_left _ d1, by rw [hD s d1]; exact d2⟩, c2⟩
    · omega
  · rw [updN_other D t (D v + 1) hvt]
    rcases List.mem_append.1 hs with hs | hs
    · obtain ⟨c1, c2⟩ := h.now s hs
      exact ⟨fun q' => by
        obtain ⟨d1, d2⟩ := c1 q'
        exact ⟨List.mem_append_left _ d1, by rw [hD s d1]; exact d2⟩, c2⟩
    · cases List.mem_singleton.1 hs
      exact ⟨fun _ => ⟨List.mem_append_right _ (by simp), by rw [updN_same]; exact Nat.le_refl _⟩, fun q' => absurd q' ht⟩
/-- Of a way, whose vertices are gone through as far as j, the next one lies in the queue. -/
theorem MOut.along (h : MOut N adj D q i) {u : List Nat} (hu : ApartWay N adj u) : ∀ j, j + 1 < u.length →
    (∃ k, k ≤ j ∧ u.getD k 0 ∈ q ∧ D (u.getD k 0) ≤ k ∧ ∀ m, m < i → q[m]? ≠ some (u.getD k 0)) ∨ (u.getD j 0 ∈ q ∧ D (u.getD j 0) ≤ j ∧ ∃ m, m < i ∧ q[m]? = some (u.getD j 0))
  | 0, h1 => by
    obtain ⟨a, b⟩ := h.diag _ (hu.low 0 (by omega)) hu.fst
    by_cases q' : ∃ m, m < i ∧ q[m]? = some (u.getD 0 0)
    · exact .inr ⟨a, by omega, q'⟩
    · exact .inl ⟨0, Nat.le_refl _, a, by omega, fun m hm e => q' ⟨m, hm, e⟩⟩
  | j + 1, h1 => by
    rcases h.along hu j (by omega) with ⟨k, k1, k2, k3, k4⟩ | ⟨_, a2, m, m1, m2⟩
    · exact .inl ⟨k, by omega, k2, k3, k4⟩
    · obtain ⟨c1, _⟩ := h.done m _ m1 m2 _ (hu.arr j (by omega))
      obtain ⟨d1, d2⟩ := c1 (hu.inn (j + 1) (by omega) h1)
      by_cases q' : ∃ m, m < i ∧ q[m]? = some (u.getD (j + 1) 0)
      · exact .inr ⟨d1, by omega, q'⟩
      · exact .inl ⟨j + 1, Nat.le_refl _, d1, by omega, fun m hm e => q' ⟨m, hm, e⟩⟩
/-- At the end of the queue: there is no such way. -/
theorem MOut.none (h : MOut N adj D q i) (hi : q.length ≤ i) (u : List Nat) : ¬ ApartWay N adj u := fun hu => by
  have h3 := hu.len
  rcases h.along hu (u.length - 2) (by omega) with ⟨k, _, k2, _, k4⟩ | ⟨_, _, m, m1, m2⟩
  · obtain ⟨m, hm⟩ := List.mem_iff_getElem?.1 k2
    have := (List.getElem?_eq_some_iff.1 hm).1
    exact k4 m (by omega) hm
  · obtain ⟨_, c2⟩ := h.done m _ m1 m2 _ (hu.arr (u.length - 2) (by omega))
    refine hu.inn (u.length - 2) (by omega) (by omega) (c2 ?_)
    rw [show u.length - 2 + 1 = u.length - 1 by omega]
    exact hu.lst
/-- Whoever is met from v: no way is shorter. -/
theorem MIn.best (h : MIn N adj D q i v pre) {u : List Nat} (hu : ApartWay N adj u) : D v + 3 ≤ u.length + 1 := by
  have h3 := hu.len
  have ho : MOut N adj D q i := ⟨h.nodup, h.low, h.diag, h.old, h.mono, fun y hy => by rw [h.at_] at hy; cases hy; exact h.top, h.bnd, h.done⟩
  rcases ho.along hu (u.length - 2) (by omega) with ⟨k, k1, k2, k3, k4⟩ | ⟨_, _, m, m1, m2⟩
  · obtain ⟨m, hm⟩ := List.mem_iff_getElem?.1 k2
    have hmi : i ≤ m := Nat.le_of_not_lt fun q' => k4 m q' hm
    have := h.mono i m v _ hmi h.at_ hm
    omega
  · obtain ⟨_, c2⟩ := h.done m _ m1 m2 _ (hu.arr (u.length - 2) (by omega))
    refine absurd (c2 ?_) (hu.inn (u.length - 2) (by omega) (by omega))
    rw [show u.length - 2 + 1 = u.length - 1 by omega]
    exact hu.lst

/-- From whom each came. -/
def CameOf (N : Nat) (adj : Nat → List Nat) (D : Nat → Nat) (q : List Nat) (came : Nat → Int) : Prop :=
  (∀ x, x < N * N → ((came x < 0 ↔ Diag N x ∨ x ∉ q) ∧ (came x < 0 → came x = -1))) ∧ ∀ x, x < N * N → 0 ≤ came x → ∃ p : Nat, came x = p ∧ p ∈ q ∧ x ∈ adj p ∧ D x = D p + 1
theorem CameOf.init (N : Nat) (adj : Nat → List Nat) : CameOf N adj (fun _ => 0) (diags N) (fun _ => -1) := by
  refine ⟨fun x hx => ⟨⟨fun _ => ?_, fun _ => (by show (-1 : Int) < 0; decide)⟩, fun _ => rfl⟩, fun x _ h => by simp at h⟩
  by_cases hd : Diag N x
  · exact .inl hd
  · right
    intro hm
    obtain ⟨u, hu, rfl⟩ := mem_diags.1 hm
    exact hd (diag_mk hu)
theorem CameOf.add (h : MIn N adj D q i v pre) {came : Nat → Int} (hc : CameOf N adj D q came) {t : Nat} (ht : ¬ Diag N t) (hq : t ∉ q) (ha : t ∈ adj v) : CameOf N adj (updN D t (D v + 1)) (q ++ [t]) (updN came t (v : Int)) := by
  have hvq : v ∈ q := List.mem_of_getElem? h.at_
  have hvt : v ≠ t := fun e => hq (by rw [← e]; exact hvq)
  refine ⟨fun x hx => ?_, fun x hx h0 => ?_⟩
  · by_cases e : x = t
    · subst e; rw [updN_same]
      exact ⟨⟨fun q' => by omega, fun q' => by rcases q' with q' | q'; exact absurd q' ht; exact absurd (List.mem_append_right _ (by simp)) q'⟩, fun q' => by omega⟩
    · rw [updN_other _ _ _ e]
      obtain ⟨a, b⟩ := hc.1 x hx
      refine ⟨?_, b⟩
      rw [a]; simp [e]
  · by_cases e : x = t
    · subst e
      refine ⟨v, updN_same .., List.mem_append_left _ hvq, ha, ?_⟩
      rw [updN_same, updN_other _ _ _ hvt]
    · rw [updN_other _ _ _ e] at h0 ⊢
      obtain ⟨p, p1, p2, p3, p4⟩ := hc.2 x hx h0
      refine ⟨p, p1, List.mem_append_left _ p2, p3, ?_⟩
      rw [updN_other _ _ _ e, updN_other _ _ _ (fun e' => hq (by rw [← e']; exact p2))]
      exact p4
/-- The way back from u to a pair of equal nodes. -/
inductive BackWay (N : Nat) (adj : Nat → List Nat) (came : Nat → Int) : Nat → List Nat → Prop
  | stop (x : Nat) (h : came x = -1) (hd : Diag N x) : BackWay N adj came x [x]
  | step (x p : Nat) (c : List Nat) (h : came x = p) (hd : ¬ Diag N x) (ha : x ∈ adj p) (hp : p < N * N) (hc : BackWay N adj came p c) : BackWay N adj came x (x :: c)
theorem CameOf.back {came : Nat → Int} (hq : ∀ x ∈ q, x < N * N) (h0 : ∀ x ∈ q, ¬ Diag N x → 0 < D x) (hc : CameOf N adj D q came) : ∀ n x, D x = n → x ∈ q → ∃ c, BackWay N adj came x c ∧ c.length ≤ n + 1
  | n, x, hn, hx => by
    obtain ⟨a, b⟩ := hc.1 x (hq x hx)
    by_cases hd : Diag N x
    · exact ⟨[x], .stop x (b (a.2 (.inl hd))) hd, by simp⟩
    · have h1 : 0 ≤ came x := by
        apply Classical.byContradiction
        intro q'
        rcases a.1 (by omega) with q' | q'
        · exact hd q'
        · exact q' hx
      obtain ⟨p, p1, p2, p3, p4⟩ := hc.2 x (hq x hx) h1
      obtain ⟨c, c1, c2⟩ := CameOf.back hq h0 hc (n - 1) p (by omega) p2
      exact ⟨x :: c, .step x p c p1 hd p3 (hq p p2) c1, by simp; omega⟩
termination_by n => n
decreasing_by all_goals (have := h0 x hx hd; omega)
theorem BackWay.ne {came : Nat → Int} {x : Nat} {c : List Nat} (h : BackWay N adj came x c) : ∃ c', c = x :: c' := by cases h <;> exact ⟨_, rfl⟩
theorem BackWay.next {came : Nat → Int} {x : Nat} {c : List Nat} (h : BackWay N adj came x c) (hx : x < N * N) : ∀ k y, c[k]? = some y → y < N * N ∧ ((k + 1 < c.length ∧ ∃ z, c[k + 1]? = some z ∧ came y = z) ∨ (k + 1 = c.length ∧ came y = -1)) := by
  induction h with
  | stop x h hd =>
    intro k y hy
    cases k with
    | zero => simp at hy; subst hy; exact ⟨hx, .inr ⟨rfl, h⟩⟩
    | succ k => simp at hy
  | step x p c hcm hnd ha hp hc ih =>
    intro k y hy
    obtain ⟨c', rfl⟩ := hc.ne
    cases k with
    | zero => simp at hy; subst hy; exact ⟨hx, .inl ⟨by simp, p, rfl, hcm⟩⟩
    | succ k =>
      have hy : (p :: c')[k]? = some y := by simpa using hy
      obtain ⟨h1, h2⟩ := ih hp k y hy
      refine ⟨h1, h2.imp ?_ ?_⟩
      · rintro ⟨a, z, b, d⟩; exact ⟨by simpa using a, z, by simpa using b, d⟩
      · rintro ⟨a, b⟩; exact ⟨by simpa using a, b⟩
/-- The whole way, from its first vertex on. -/
theorem BackWay.way {came : Nat → Int} {x : Nat} {c : List Nat} (h : BackWay N adj came x c) (hx : x < N * N) :
    (∀ i, i < c.length → c.reverse.getD i 0 < N * N) ∧ (∀ i, i + 1 < c.length → c.reverse.getD (i + 1) 0 ∈ adj (c.reverse.getD i 0)) ∧ Diag N (c.reverse.getD 0 0) ∧ (∀ i, 0 < i → i < c.length → ¬ Diag N (c.reverse.getD i 0)) ∧ c.reverse.getD (c.length - 1) 0 = x ∧ 0 < c.length := by
  induction h with
  | stop x _ hd => exact ⟨fun i hi => by simp at hi; subst hi; simpa using hx, fun i hi => by simp at hi, by simpa using hd, fun i h1 h2 => by simp at h2; omega, by simp, by simp⟩
  | step x p c hcm hnd ha hp hc ih =>
    obtain ⟨i1, i2, i3, i4, i5, i6⟩ := ih hp
    have g1 : ∀ i, i < c.length → (x :: c).reverse.getD i 0 = c.reverse.getD i 0 := fun i hi => by
      rw [List.reverse_cons, List.getD_eq_getElem?_getD, List.getElem?_append_left (by simpa using hi)]; rfl
    have g2 : (x :: c).reverse.getD c.length 0 = x := by
      rw [List.reverse_cons, List.getD_eq_getElem?_getD, List.getElem?_append_right (by simp)]; simp
    refine ⟨fun i hi => ?_, fun i hi => ?_, ?_, fun i h1 h2 => ?_, ?_, by simp⟩
    · by_cases e : i < c.length
      · rw [g1 i e]; exact i1 i e
      · obtain rfl : i = c.length := by simp at hi; omega
        rw [g2]; exact hx
    · have hi : i + 1 < c.length + 1 := by simpa using hi
      rw [g1 i (by omega)]
      by_cases e : i + 1 < c.length
      · rw [g1 _ e]; exact i2 i e
      · obtain rfl : i = c.length - 1 := by omega
        rw [i5, show c.length - 1 + 1 = c.length by omega, g2]; exact ha
    · rw [g1 0 i6]; exact i3
    · by_cases e : i < c.length
      · rw [g1 i e]; exact i4 i h1 e
      · obtain rfl : i = c.length := by simp at h2; omega
        rw [g2]; exact hnd
    · rw [List.length_cons, Nat.add_sub_cancel, g2]
/-- What is met: a way of the kind, and none is shorter. -/
theorem MIn.met (h : MIn N adj D q i v pre) {came : Nat → Int} (hc : CameOf N adj D q came) {t : Nat} (hv : ¬ Diag N v) (ht : Diag N t) (htl : t < N * N) (ha : t ∈ adj v) :
    ∃ c, BackWay N adj came v c ∧ ApartWay N adj (c.reverse ++ [t]) ∧ (c.reverse ++ [t]).length = D v + 2 ∧ ∀ u, ApartWay N adj u → (c.reverse ++ [t]).length ≤ u.length := by
  have hvq : v ∈ q := List.mem_of_getElem? h.at_
  obtain ⟨c, hb, hl⟩ := hc.back h.low (fun x hx hd => (h.old x (h.low x hx) hd).1 hx) (D v) v rfl hvq
  obtain ⟨w1, w2, w3, w4, w5, w6⟩ := hb.way (h.low v hvq)
  have h2 : 2 ≤ c.length := by
    obtain ⟨c', rfl⟩ := hb.ne
    cases hb with
    | stop _ _ hd => exact absurd hd hv
    | step _ p _ _ _ _ _ hc' => obtain ⟨_, rfl⟩ := hc'.ne; simp
  have g1 : ∀ i, i < c.length → (c.reverse ++ [t]).getD i 0 = c.reverse.getD i 0 := fun i hi => by
    rw [List.getD_eq_getElem?_getD, List.getElem?_append_left (by simpa using hi)]; rfl
  have g2 : (c.reverse ++ [t]).getD c.length 0 = t := by
    rw [List.getD_eq_getElem?_getD, List.getElem?_append_right (by simp)]; simp
  have hL : (c.reverse ++ [t]).length = c.length + 1 := by simp
  have hw : ApartWay N adj (c.reverse ++ [t]) := by
    refine ⟨by omega, fun i hi => ?_, fun i hi => ?_, ?_, ?_, fun i h1 h2 => ?_⟩
    · by_cases e : i < c.length
      · rw [g1 i e]; exact w1 i e
      · obtain rfl : i = c.length := by omega
        rw [g2]; exact htl
    · rw [g1 i (by omega)]
      by_cases e : i + 1 < c.length
      · rw [g1 _ e]; exact w2 i e
      · obtain rfl : i = c.length - 1 := by omega
        rw [w5, show c.length - 1 + 1 = c.length by omega, g2]; exact ha
    · rw [g1 0 (by omega)]; exact w3
    · rw [hL, Nat.add_sub_cancel, g2]; exact ht
    · rw [g1 i (by omega)]; exact w4 i h1 (by omega)
  have hmin : ∀ u, ApartWay N adj u → D v + 2 ≤ u.length := fun u hu => by have := h.best hu; omega
  have := hmin _ hw
  refine ⟨c, hb, hw, by omega, fun u hu => ?_⟩
  have := hmin u hu
  omega
end
end Go.Proofs.YtilpckngghffoaaGreatDoor

namespace Go.Proofs.YtilpckngghffoaaGreatDoor

theorem diag_arr {K N : Nat} {T : List Int} {u s : Nat} (hu : u < N) (hs : s < K) : toN K N u s * N + toN K N u s ∈ pairL K N T (u * N + u) := by
  rw [mem_pairL (by omega), pair_div hu, pair_mod hu]
  exact ⟨s, s, hs, hs, rfl, rfl⟩
/-- Where a word leads from a node. -/
theorem diag_word {K N : Nat} {T : List Int} {u : Nat} (hu : u < N) : ∀ (n : Nat) (xs : List Int), xs.length = n → Syms K xs → Goes (pairL K N T) (u * N + u) ((u * pw K xs.length + numW K xs) % N * N + (u * pw K xs.length + numW K xs) % N)
  | 0, xs, hn, _ => by
    obtain rfl := List.length_eq_zero_iff.1 hn
    rw [show u * pw K ([] : List Int).length + numW K [] = u by simp [pw, numW], Nat.mod_eq_of_lt hu]
    exact .refl _
  | n + 1, xs, hn, hx => by
    have hne : xs ≠ [] := by intro e; subst e; simp at hn
    obtain ⟨b, x, rfl⟩ : ∃ b x, xs = b ++ [x] := ⟨xs.dropLast, xs.getLast hne, (List.dropLast_concat_getLast hne).symm⟩
    have hb : b.length = n := by simpa using hn
    have ih := diag_word (T := T) hu n b hb (fun y hy => hx y (List.mem_append_left _ hy))
    have hxs := hx x (by simp)
    refine .step ih ?_
    have := diag_arr (T := T) (u := (u * pw K b.length + numW K b) % N) (s := x.toNat) (Nat.mod_lt _ (by omega)) (show x.toNat < K by omega)
    have e : toN K N ((u * pw K b.length + numW K b) % N) x.toNat = (u * pw K (b ++ [x]).length + numW K (b ++ [x])) % N := by
      unfold toN
      rw [numW_snoc, List.length_append, List.length_singleton, pw_succ, ← Nat.mul_assoc, show u * pw K b.length * K + (numW K b * K + x.toNat) = (u * pw K b.length + numW K b) * K + x.toNat by rw [Nat.add_mul]; omega]
      rw [Nat.add_mod, Nat.mul_mod, Nat.mod_mod, ← Nat.mul_mod, ← Nat.add_mod]
    rw [e] at this
    exact this
theorem diag_goes {K R : Nat} {T : List Int} {u v : Nat} (hK : 1 ≤ K) (hu : u < pw K (2 * R)) (hv : v < pw K (2 * R)) : Goes (pairL K (pw K (2 * R)) T) (u * pw K (2 * R) + u) (v * pw K (2 * R) + v) := by
  have := diag_word (T := T) hu (2 * R) (digs K (2 * R) v) (digs_length ..) (digs_syms hK _ _)
  rw [digs_length, numW_digs hK _ _ hv, show u * pw K (2 * R) + v = pw K (2 * R) * u + v by rw [Nat.mul_comm], Nat.mul_add_mod, Nat.mod_eq_of_lt hv] at this
  exact this
end Go.Proofs.YtilpckngghffoaaGreatDoor

namespace Go.Proofs.YtilpckngghffoaaGreatDoor
open Go.RowKit
set_option maxRecDepth 100000

theorem oddTo_ok {G : List (List Int)} (hok : GraphOk G) : ∀ k, k ≤ G.length → oddTo G k < 0
  | 0, _ => by simp [oddTo]
  | k + 1, hk => oddTo_miss (oddTo_ok hok k (by omega)) fun t ht => by
    have := hok k (by omega) t ht
    simp [oddT]; omega
theorem checkG_ok {G : List (List Int)} (h1 : G.length ≤ 8192) (h2 : arrowsTo G G.length ≤ 262144) (hok : GraphOk G) : checkG G = none := by
  unfold checkG
  rw [if_neg (by omega), if_neg (by omega), if_neg (by have := oddTo_ok hok G.length (Nat.le_refl _); omega)]
section
variable {K N : Nat} {T : List Int}
theorem pairG_len : (pairG K N T).length = N * N := rowsOf_len _ _
theorem pairG_row {p : Nat} (hp : p < N * N) : (pairG K N T).getD p [] = castI (pairL K N T p) := rowsOf_get _ _ _ hp
theorem pairG_adj {p : Nat} (hp : p < N * N) : adjOf (pairG K N T) p = pairL K N T p := by
  unfold adjOf
  rw [pairG_row hp, castI, List.map_map]
  exact List.map_id _
theorem pairG_ok (hN : 0 < N) : GraphOk (pairG K N T) := by
  intro v hv t ht
  rw [pairG_len] at hv
  rw [pairG_row hv] at ht
  obtain ⟨q, hq, rfl⟩ := List.mem_map.1 ht
  have := ((mem_pairL hN).1 hq).lt hN
  rw [pairG_len]
  omega
theorem pairG_arrows : ∀ k, k ≤ N * N → arrowsTo (pairG K N T) k ≤ k * (K * K)
  | 0, _ => by simp [arrowsTo]
  | k + 1, hk => by
    have := pairG_arrows k (by omega)
    simp only [arrowsTo]
    rw [pairG_row (by omega), castI_len, Nat.add_mul]
    have := pairL_len K N T k
    omega
theorem pairG_check (hN : 0 < N) (hN81 : N ≤ 81) (hNK : N * K ≤ 256) : checkG (pairG K N T) = none := by
  refine checkG_ok ?_ ?_ (pairG_ok hN)
  · rw [pairG_len]; have := Nat.mul_le_mul hN81 hN81; omega
  · rw [pairG_len]
    have := pairG_arrows (K := K) (N := N) (T := T) (N * N) (Nat.le_refl _)
    have h2 := Nat.mul_le_mul hNK hNK
    rw [show N * K * (N * K) = N * N * (K * K) by rw [Nat.mul_assoc, Nat.mul_left_comm K, ← Nat.mul_assoc]] at h2
    omega
theorem pairG_goes (hN : 0 < N) {x y : Nat} (h : Goes (pairL K N T) x y) (hx : x < N * N) : Goes (adjOf (pairG K N T)) x y ∧ y < N * N := by
  induction h with
  | refl => exact ⟨.refl _, hx⟩
  | step h hz ih =>
    exact ⟨.step ih.1 (by rw [pairG_adj ih.2]; exact hz), ((mem_pairL hN).1 hz).lt hN⟩
end
/-- The pairs of equal nodes are live. -/
theorem diag_live {K R : Nat} {T : List Int} {u : Nat} (hK : 1 ≤ K) (hu : u < pw K (2 * R)) : IsLive (pw K (2 * R) * pw K (2 * R)) (adjOf (pairG K (pw K (2 * R)) T)) (u * pw K (2 * R) + u) := by
  have hp := pair_lt hu hu
  have hN : 0 < pw K (2 * R) := by omega
  have ht := toN_lt (K := K) (u := u) (s := 0) hN
  have hl : OnLoop (adjOf (pairG K (pw K (2 * R)) T)) (u * pw K (2 * R) + u) :=
    ⟨toN K (pw K (2 * R)) u 0 * pw K (2 * R) + toN K (pw K (2 * R)) u 0, by rw [pairG_adj hp]; exact diag_arr hu hK, (pairG_goes hN (diag_goes hK ht hu) (pair_lt ht ht)).1⟩
  exact ⟨⟨_, hp, hl, .refl _⟩, ⟨_, hp, hl, .refl _⟩⟩

set_option maxHeartbeats 1000000 in
theorem papart_ok (r : Nat → Addr) (K R : Nat) (va : Option Addr) (vn vc : Nat) (T : List Int) (w : World) (hg : Glob r w) (h : IntsAt w (.slice va vn vc) T) (hr : RuleOk K R T) (hl : T.length ≤ 256) :
    Calls Tryz.prog 55 #[.agg #[.int .i64 K, .int .i64 R, .slice va vn vc]] w (Ret2 (fun x y w' => y = .nilIface ∧ ∃ L, LiveList (pw K (2 * wkR R) * pw K (2 * wkR R)) (adjOf (pairG K (pw K (2 * wkR R)) (wkT K R T))) L ∧ OwnI w.heap.size w' x (castI (L.filter fun p => !decide (Diag (pw K (2 * wkR R)) p)))) w) := by
  have b0 := belowAlloc w (.cells #[.int .i64 K, .int .i64 R, .slice va vn vc] 24)
  have q : Box3 (w.alloc (.cells #[.int .i64 K, .int .i64 R, .slice va vn vc] 24)) w.heap.size (.int .i64 K) (.int .i64 R) (.slice va vn vc) := by simp [Box3, go_sem]
  have hk1 := hr.k1
  have hk4 := hr.k4
  have hokW := wk_ok hr
  have hlW := wk_small hr hl
  have hRW := wk_pos R
  have hN81 := nodes_le hokW hRW hlW
  obtain ⟨hdiv, hlen⟩ := hokW.half
  have hN1 := pw_pos (K := K) (2 * wkR R) hk1
  have hNK : pw K (2 * wkR R) * K ≤ 256 := by rw [← hlen]; exact hlW
  have hck := pairG_check (K := K) (N := pw K (2 * wkR R)) (T := wkT K R T) (by omega) hN81 hNK
  have hlive0 := diag_live (K := K) (R := wkR R) (T := wkT K R T) (u := 0) hk1 (by omega)
  have hgraph := fun (w' : World) (hgl : Glob r w') (hT : IntsAt w' (.slice va vn vc) T) => pgraph_ok r K R va vn vc T w' hgl hT hr hl
  have hwork := fun (w' : World) (hgl : Glob r w') (hT : IntsAt w' (.slice va vn vc) T) => working_ok r K R va vn vc T w' hgl hT hr hl
  have hNodes := fun (a : Option Addr) (n c : Nat) (w' : World) (hgl : Glob r w') (hT : IntsAt w' (.slice a n c) (wkT K R T)) => over_Nodes r K (wkR R) a n c (wkT K R T) w' hgl hT hokW hlW
  rw [hdiv] at hNodes
  generalize pw K (2 * wkR R) = N at *
  generalize wkT K R T = T' at *
  generalize wkR R = R' at *
  rw [Nat.zero_mul, Nat.zero_add] at hlive0
  replace hgraph := Lib.hid hgraph
  replace hwork := Lib.hid hwork
  replace hNodes := Lib.hid hNodes
  replace hck := Lib.hid hck
  replace hlive0 := Lib.hid hlive0
  replace hg := Lib.hid (hg.below b0)
  replace h := Lib.hid (h.below b0)
  replace hokW := Lib.hid hokW
  replace hr := Lib.hid hr
  replace hdiv := Lib.hid hdiv
  replace hlen := Lib.hid hlen
  go_enter Tryz.func55, Tryz.ntmps55
  go_wp2_with fail
  refine (hgraph.out _ hg.out h.out).mono ?_
  rintro e w1 ⟨gv, y, rfl, b1, rfl, f, vals, hrows, hwn⟩
  have hL : ListsAt w1 gv (pairG K N T') := hwn.lists hrows
  obtain ⟨ga, gc, rfl⟩ := hL.shape
  have hsz : ∀ k, k < (pairG K N T').length → ((pairG K N T').getD k []).length ≤ 17592186044416 := fun k hk => by
    rw [pairG_len] at hk
    rw [pairG_row hk, castI_len]
    have := pairL_len K N T' k
    have := Nat.mul_le_mul hk4 hk4
    omega
  have hM6 : N * N ≤ 6561 := Nat.mul_le_mul hN81 hN81
  replace hrows := Lib.hid hrows
  replace hwn := Lib.hid hwn
  replace hL := Lib.hid hL
  replace hsz := Lib.hid hsz
  go_wp2_with fail
  refine (live_any r ga gc (pairG K N T') w1 (hg.out.below b1) hL.out hsz.out).mono ?_
  rintro e w2 ⟨lv, y, rfl, b2, he, hls, _⟩
  rw [hck.out] at he hls
  obtain rfl := he.none_eq
  obtain ⟨L, hLL, ho⟩ := hls rfl
  rw [pairG_len] at hLL
  clear hls he
  have b12 := Below.step b1 b2
  have q2 := q.below b12
  obtain ⟨⟨z0, z1, z2⟩, -, -, -⟩ := q2
  replace hLL := Lib.hid hLL
  replace ho := Lib.hid ho
  go_wp2_with fail
  refine (hwork.out w2 (hg.out.below b12) (h.out.below b12)).mono ?_
  rintro e w3 ⟨x, y, rfl, b3, rfl, a, n, c, rfl, hT3⟩
  clear z0 z1 z2
  have b13 := Below.step b12 b3
  have ba := belowAlloc w3 (.cells #[.int .i64 K, .int .i64 R', .slice a n c] 24)
  have b14 := Below.step b13 ba
  have hT4 := hT3.below ba
  replace hT3 := Lib.hid hT3
  replace hT4 := Lib.hid hT4
  go_wp2_with fail
  refine (hNodes.out a n c _ (hg.out.below b14) hT4.out).mono ?_
  rintro e w5 ⟨x, y, rfl, b5, rfl, rfl⟩
  have b15 := Below.step b14 b5
  have bb := belowAlloc w5 (.cells #[.int .i64 N] 3)
  have b16 := Below.step b15 bb
  have b26 := Below.step b3 (Below.step ba (Below.step b5 bb))
  have ho6 := ho.out.below b26
  have cN : (w5.alloc (.cells #[.int .i64 N] 3)).cell? ⟨w5.heap.size, 0, none⟩ = some (.int .i64 N) := by simp [go_sem]
  have hne : lv.ownBlock ≠ some w5.heap.size := fun e => by
    have h1 := (ho.out.lt _ e).2
    have h2 := (Below.step b3 (Below.step ba b5)).size
    omega
  have hLne : castI L ≠ [] := fun e => by
    have : L = [] := by cases L with | nil => rfl | cons a l => simp [castI] at e
    have h0 := (hLL.out.mem 0).2 ⟨by have := Nat.mul_le_mul hN1 hN1; omega, hlive0.out⟩
    rw [this] at h0; cases h0
  replace ho6 := Lib.hid ho6
  replace hne := Lib.hid hne
  replace hLne := Lib.hid hLne
  replace cN := Lib.hid cN
  go_wp2_with fail
  refine (delete_own w1.heap.size lv (castI L) w5.heap.size N _ ho6.out hLne.out hN1 cN.out hne.out).mono ?_
  rintro e w7 ⟨x, rfl, _, ho7, b7⟩
  have hF : (castI L).filter (fun x => !dgI N x) = castI (L.filter fun p => !decide (Diag N p)) := by
    unfold castI
    rw [List.filter_map]
    congr 1
    refine List.filter_congr fun p hp => ?_
    have := ((hLL.out.mem p).1 hp).1
    show (!dgI N (p : Int)) = _
    rw [dgI_nat (by omega)]
  rw [hF] at ho7
  obtain ⟨xa, xn, xc, rfl⟩ := ho7.at.shape
  have ho8 := ho7.mono (B' := w.heap.size) (Nat.le_trans b0.size b1.size)
  have bE := (Below.step b0 b1).trans ((Below.step b2 b26).trans b7 |>.mono (Nat.le_trans b0.size b1.size))
  replace ho7 := Lib.hid ho7
  replace ho8 := Lib.hid ho8
  replace hF := Lib.hid hF
  go_wp2
  go_ret2
  exact ⟨_, _, rfl, bE, rfl, L, hLL.out, ho8.out⟩
end Go.Proofs.YtilpckngghffoaaGreatDoor

namespace Go.Proofs.YtilpckngghffoaaGreatDoor
open Go.RowKit
set_option maxRecDepth 100000

theorem ListsFrom.shape {B : Nat} {w : World} {v : Value} {G : List (List Int)} (h : ListsFrom B w v G) : ∃ a c, v = .slice a G.length c := h.at.shape
theorem ListsFrom.mono {B B' : Nat} {w : World} {v : Value} {G : List (List Int)} (h : ListsFrom B w v G) (hB : B' ≤ B) : ListsFrom B' w v G := by
  obtain ⟨vs, h1, h2, h3⟩ := h
  exact ⟨vs, h1.mono hB, h2, fun i hi => (h3 i hi).mono hB⟩
theorem ListsFrom.set3 {B b : Nat} {w : World} {v : Value} {G : List (List Int)} (h : ListsFrom B w v G) (hb : b < B) (x y z : Value) : ListsFrom B (((w.setCell ⟨b, 0, none⟩ x).setCell ⟨b, 1, none⟩ y).setCell ⟨b, 2, none⟩ z) v G :=
  ((h.set (a := ⟨b, 0, none⟩) hb x).set (a := ⟨b, 1, none⟩) hb y).set (a := ⟨b, 2, none⟩) hb z
end Go.Proofs.YtilpckngghffoaaGreatDoor

namespace Go.Proofs.YtilpckngghffoaaGreatDoor
open Go.RowKit
set_option maxRecDepth 100000

theorem pw_big {K i : Nat} (h4 : K ≤ 4) (hi : i ≤ 12) : pw K i ≤ 16777216 :=
  Nat.le_trans (Nat.pow_le_pow_left h4 i) (Nat.le_trans (Nat.pow_le_pow_right (by omega) hi) (by decide))
theorem ref_power12 (K n : Nat) (w : World) (_h1 : 1 ≤ K) (h4 : K ≤ 4) (hn : n ≤ 12) :
    Calls Tryz.prog 75 #[.int .i64 K, .int .i64 n] w fun e w' => e = .returned (.int .i64 (pw K n)) ∧ w = w' := by
  go_enter Tryz.func75, Tryz.ntmps75
  go_wp2
  go_loop [5, 6] (fun x i => ∃ j : Nat, j ≤ n ∧ i = .int .i64 j ∧ x = .int .i64 (pw K j)) (fun _ i => n - (intOf i).toNat)
  case atStart => exact ⟨0, by omega, rfl, rfl⟩
  case round =>
    obtain ⟨j, hj, rfl, rfl⟩ := hrel
    by_cases hlt : j < n
    · have hb := pw_big (i := j + 1) h4 (by omega)
      have hs : ((pw K (j + 1) : Nat) : Int) = (pw K j : Int) * (K : Int) := by rw [pw_succ]; simp
      have hb1 : 0 ≤ (pw K j : Int) * (K : Int) := by rw [← hs]; omega
      have hb2 : (pw K j : Int) * (K : Int) ≤ 16777216 := by rw [← hs]; omega
      replace hs := Lib.hid hs
      go_wp2
      go_round
      case rel => exact ⟨j + 1, by omega, by go_num, by rw [hs.out]⟩
      case measure => simp [intOf]; omega
    · obtain rfl : j = n := by omega
      go_wp2
      go_ret
      exact ⟨rfl, rfl⟩

set_option maxHeartbeats 400000 in
theorem ref_digits12 (K N X : Nat) (w : World) (hk1 : 1 ≤ K) (hk4 : K ≤ 4) (hN : N ≤ 12) (hX : X ≤ 16384) :
    Calls Tryz.prog 67 #[.int .i64 K, .int .i64 N, .int .i64 X] w (Ret1 (fun x w' => OwnI w.heap.size w' x (digs K N X)) w) := by
  have hK0 : ((K : Int) == 0) = false := by rw [beq_eq_false_iff_ne]; omega
  have hK1 : ¬ (K : Int) = 0 := by omega
  have hK2 : (0 : Int) < K := by omega
  go_enter Tryz.func67, Tryz.ntmps67
  go_wp2_with (at_make; refine wpl_make rfl _ _ rfl _ rfl rfl (by omega) (by omega) ?_)
  intro wv w1 ho b1
  go_wp2
  go_loopw [2, 8] (fun x i wr => ∃ j : Nat, j ≤ N ∧ i = .int .i64 ((N : Int) - 1 - (j : Int)) ∧ x = .int .i64 (X / pw K j : Nat) ∧ OwnI w.heap.size wr wv ((List.replicate N (0 : Int)).take (N - j) ++ (digs K N X).drop (N - j)) ∧ Below w.heap.size w wr) (fun _ i _ => (intOf i + 1).toNat)
  case atStart => exact ⟨0, by omega, by simp, by simp [pw], by rw [Nat.sub_zero, List.drop_of_length_le (by simp [digs_length]), List.append_nil, List.take_of_length_le (by simp)]; exact ho, b1⟩
  case round =>
    obtain ⟨j, hj, rfl, rfl, hO, hbI⟩ := hrel
    obtain ⟨wi, rfl⟩ : ∃ wi : World, wi = wr := ⟨_, rfl⟩
    by_cases hjl : j < N
    · have hXl : ((List.replicate N (0 : Int)).take (N - j) ++ (digs K N X).drop (N - j)).length = N := by simp [digs_length]
      have i1 : ∀ w', (Instr.indexAt 22 wv (.int .i64 ((N : Int) - 1 - (j : Int)))).run Tryz.prog w' = .ok (.pointer (some (valAt wv (N - 1 - j)))) w' := by
        intro w'
        have := hO.at.idxI ((N : Int) - 1 - (j : Int)) (by omega) (by rw [hXl]; omega) w'
        rwa [show ((N : Int) - 1 - (j : Int)).toNat = N - 1 - j by omega] at this
      have c1 := hO.at.cellD (N - 1 - j) (by rw [hXl]; omega)
      have f1 := hO.frz (N - 1 - j) (by rw [hXl]; omega)
      have hS := hO.set (N - 1 - j) (by rw [hXl]; omega) ((X / pw K j % K : Nat) : Int)
      have hbS := hO.setBelow hbI (N - 1 - j) (by rw [hXl]; omega) (.int .i64 ((X / pw K j % K : Nat) : Int))
      rw [digs_fill K N X j hjl (List.replicate N (0 : Int)) (by simp)] at hS
      replace hS := Lib.hid hS
      replace hbS := Lib.hid hbS
      have hqd : X / pw K j / K = X / pw K (j + 1) := by rw [Nat.div_div_eq_div_mul, ← pw_succ]
      replace hqd := Lib.hid hqd
      have hql : X / pw K j ≤ 16384 := Nat.le_trans (Nat.div_le_self _ _) (by omega)
      generalize ((List.replicate N (0 : Int)).take (N - j) ++ (digs K N X).drop (N - j)).getD (N - 1 - j) 0 = y at c1
      clear hXl hO
      generalize X / pw K j = q at *
      rw [Int.natCast_emod] at hS hbS
      have hd0 : 0 ≤ (q : Int) / (K : Int) := Int.ediv_nonneg (by omega) (by omega)
      have hd1 : (q : Int) / (K : Int) ≤ 16384 := by
        have h1 : q / K ≤ q := Nat.div_le_self _ _
        have h2 : q / K ≤ 16384 := by omega
        exact_mod_cast h2
      have hdw : IntKind.i64.wrap ((q : Int) / (K : Int)) = (q : Int) / (K : Int) := wrapK (by omega) (by omega)
      go_wp2
      go_roundw
      case rel => exact ⟨j + 1, by omega, by congr 1; omega, by rw [← hqd.out]; simp, hS.out, hbS.out⟩
      case measure => simp [intOf]; omega
    · obtain rfl : j = N := by omega
      rw [Nat.sub_self, List.take_zero, List.drop_zero, List.nil_append] at hO
      replace hO := Lib.hid hO
      go_wp2
      go_ret
      exact ⟨_, rfl, hbI, hO.out⟩

theorem ref_value12 (K : Nat) (u : Value) (ys : List Int) (w : World) (hk1 : 1 ≤ K) (hk4 : K ≤ 4) (hu : IntsAt w u ys) (hy : Syms K ys) (hyl : ys.length ≤ 12) :
    Calls Tryz.prog 68 #[.int .i64 K, u] w fun e w' => e = .returned (.int .i64 (numW K ys)) ∧ w = w' := by
  have l1 := hu.len
  replace hu := Lib.hid hu
  replace hy := Lib.hid hy
  go_enter Tryz.func68, Tryz.ntmps68
  go_wp2
  go_loop [5, 6] (fun n i => ∃ j : Nat, j ≤ ys.length ∧ i = .int .i64 j ∧ n = .int .i64 (numW K (ys.take j))) (fun _ i => ys.length - (intOf i).toNat)
  case atStart => exact ⟨0, by omega, rfl, rfl⟩
  case round =>
    obtain ⟨j, hj, rfl, rfl⟩ := hrel
    by_cases hjl : j < ys.length
    · have i1 := hu.out.idx j hjl
      have c1 := hu.out.cell j hjl
      have hx := hy.out ys[j] (by simp)
      have hn : Hid (numW K (ys.take (j + 1)) = numW K (ys.take j) * K + ys[j].toNat) := by
        show _ = _
        rw [take_snoc ys j hjl, numW_snoc]
      have hn2 : numW K (ys.take j) ≤ 16777216 := by
        have h1 := numW_lt (ys.take j) (fun x hx => hy.out x (List.mem_of_mem_take hx))
        have h2 := pw_big hk4 (i := (ys.take j).length) (by simp; omega)
        omega
      generalize ys[j] = x at c1 hx hn
      generalize numW K (ys.take j) = N at hn hn2
      have hm1 : 0 ≤ (N : Int) * (K : Int) := Int.mul_nonneg (by omega) (by omega)
      have hm2 : (N : Int) * (K : Int) ≤ 67108864 := by
        have : N * K ≤ 67108864 := Nat.mul_le_mul hn2 hk4
        have h2 := Int.ofNat_le.2 this
        rw [Int.natCast_mul] at h2
        exact h2
      go_wp2
      go_round
      case rel => exact ⟨j + 1, by omega, by go_num, by rw [hn.out]; go_num⟩
      case measure => simp [intOf]; omega
    · obtain rfl : j = ys.length := by omega
      rw [List.take_length]
      go_wp2
      go_ret
      exact ⟨rfl, rfl⟩


set_option maxHeartbeats 4000000 in
theorem ref_ring (K R : Nat) (va : Option Addr) (vn vc : Nat) (T : List Int) (u : Value) (xs : List Int) (w : World) (h : IntsAt w (.slice va vn vc) T) (hr : RuleOk K R T) (hu : IntsAt w u xs) (hs : Syms K xs) (h1 : 1 ≤ xs.length) (hl : xs.length ≤ 4096) :
    Calls Tryz.prog 76 #[.agg #[.int .i64 K, .int .i64 R, .slice va vn vc], u] w (Ret1 (fun x w' => OwnI w.heap.size w' x (ringI K R T xs)) w) := by
  have b0 := belowAlloc w (.cells #[.int .i64 K, .int .i64 R, .slice va vn vc] 24)
  have q : Box3 (w.alloc (.cells #[.int .i64 K, .int .i64 R, .slice va vn vc] 24)) w.heap.size (.int .i64 K) (.int .i64 R) (.slice va vn vc) := by simp [Box3, go_sem]
  obtain ⟨w0, hw0⟩ : ∃ W : World, w.alloc (.cells #[.int .i64 K, .int .i64 R, .slice va vn vc] 24) = W := ⟨_, rfl⟩
  rw [hw0] at b0 q
  replace h := h.below b0
  replace hu := hu.below b0
  have lX := hu.len
  have s0 := b0.size
  have hk1 := hr.k1
  have hk4 := hr.k4
  have hR3 := hr.r3
  have hTl := hr.len
  have hTb : T.length ≤ 16384 := by rw [hTl]; exact pw_le hk1 hk4 (by omega)
  obtain ⟨ua, un, uc, rfl⟩ := hu.shape
  obtain ⟨n, hn⟩ : ∃ n, xs.length = n := ⟨_, rfl⟩
  rw [hn] at lX h1 hl
  obtain ⟨ov, w1, mk, ho, b1⟩ := run_makeI (n : Int) n w0 rfl (by omega)
  obtain ⟨oa, on, oc, rfl⟩ := ho.at.shape
  have hi0 : OwnI w0.heap.size w1 (.slice oa on oc) ((ringI K R T xs).take 0 ++ List.replicate (n - 0) 0) := ho
  have hnz : ¬ n = 0 := by omega
  have hnz2 : ((n : Int) == 0) = false := by rw [beq_eq_false_iff_ne]; omega
  have hrl : (ringX R xs).length = n + 2 * R := by rw [ringX_len, hn]
  have hrs := ringX_syms (R := R) hs (by rw [hn]; exact h1)
  replace hn := Lib.hid hn
  replace h := Lib.hid h
  replace hu := Lib.hid hu
  replace hr := Lib.hid hr
  replace hs := Lib.hid hs
  replace hTl := Lib.hid hTl
  replace ho := Lib.hid ho
  replace hi0 := Lib.hid hi0
  replace hw0 := Lib.hid hw0
  replace hrl := Lib.hid hrl
  replace hrs := Lib.hid hrs
  have qh := Lib.hid q
  go_enter Tryz.func76, Tryz.ntmps76
  go_upto_region 1 with fail
  rw [hw0.out]
  go_wp2_with fail
  clear mk
  go_loopw [7] (fun iv wr => ∃ i : Nat, i ≤ n ∧ iv = .int .i64 i ∧ OwnI w0.heap.size wr (.slice oa on oc) ((ringI K R T xs).take i ++ List.replicate (n - i) 0) ∧ Below w0.heap.size w0 wr) (fun iv _ => n - (intOf iv).toNat)
  case atStart => exact ⟨0, Nat.zero_le _, rfl, hi0.out, b1⟩
  case round =>
    clear b1 q
    obtain ⟨i, hi, rfl, hO, hB⟩ := hrel
    obtain ⟨wo, rfl⟩ : ∃ wo : World, wo = wr := ⟨_, rfl⟩
    obtain ⟨⟨z0, z1, z2⟩, -, -, -⟩ := qh.out.below hB
    by_cases hin : i < n
    · have di : decide ((i : Int) < (n : Int)) = true := decide_eq_true (by omega)
      obtain ⟨ws, hws⟩ : ∃ ws, ((ringX R xs).drop i).take (2 * R + 1) = ws := ⟨_, rfl⟩
      have hwl : ws.length = 2 * R + 1 := by rw [← hws, List.length_take, List.length_drop, hrl.out]; omega
      have hwsy : Syms K ws := by rw [← hws]; exact syms_take (syms_drop hrs.out i) _
      have hwg : ∀ t, t < 2 * R + 1 → ws.getD t 0 = xs.getD (((i : Int) + ((t : Int) - R)) % (n : Int)).toNat 0 := fun t ht => by
        have e1 : ws.getD t 0 = (ringX R xs).getD (i + t) 0 := by
          rw [← hws]
          simp only [List.getD_eq_getElem?_getD, List.getElem?_take_of_lt ht, List.getElem?_drop]
        rw [e1, ringX_get (by rw [hn.out]; omega), hn.out]
        congr 2
        congr 1
        omega
      have hnum := numW_lt ws hwsy
      rw [hwl, ← hTl.out] at hnum
      have hval := ringI_get (K := K) (R := R) (T := T) (w := xs) (i := i) (by rw [hn.out]; exact hin)
      rw [hws] at hval
      replace hws := Lib.hid hws
      replace hwl := Lib.hid hwl
      replace hwsy := Lib.hid hwsy
      replace hwg := Lib.hid hwg
      replace hval := Lib.hid hval
      replace hO := Lib.hid hO
      go_wp2_with fail
      clear z0 z1 z2
      go_loopw [8, 9] (fun vv jv wr => ∃ (t : Nat) (j : Int), t ≤ 2 * R + 1 ∧ jv = .int .i64 j ∧ j = (t : Int) - R ∧ vv = .int .i64 ((numW K (ws.take t) : Nat) : Int) ∧ Below wo.heap.size wo wr) (fun _ jv _ => ((R : Int) + 1 - intOf jv).toNat)
      case atStart => exact ⟨0, _, Nat.zero_le _, rfl, by omega, by simp [numW], Below.refl _ _⟩
      case round =>
        obtain ⟨t, j, ht, rfl, hjt, rfl, hB2⟩ := hrel
        obtain ⟨wp', rfl⟩ : ∃ wo : World, wo = wr := ⟨_, rfl⟩
        have hBp := Below.step hB hB2
        by_cases hjR : j ≤ R
        · have dj : decide (j ≤ (R : Int)) = true := decide_eq_true hjR
          have htR : t < 2 * R + 1 := by omega
          obtain ⟨c1, c2, r, e1, e2, e3, e4, e5, e6, e7, e8⟩ := ring_mod (a := (i : Int) + j) (show 1 ≤ n by omega)
          have e6' : (c2 : Int).tmod (n : Int) = (r : Int) := by rw [Int.tmod_eq_emod_of_nonneg (by omega), ← Int.natCast_emod, e6]
          have e6b : (c2 : Int) % (n : Int) = (r : Int) := by rw [← Int.natCast_emod, e6]
          have w1' : IntKind.i64.wrap ((i : Int) + j) = (i : Int) + j := wrapK (by omega) (by omega)
          have w2' : IntKind.i64.wrap (c1 + (n : Int)) = (c2 : Int) := by rw [e2]; exact wrapK (by omega) (by omega)
          have w3' : IntKind.i64.wrap c1 = c1 := wrapK (by omega) (by omega)
          have w7' : IntKind.i64.wrap (c2 : Int) = (c2 : Int) := wrapK (by omega) (by omega)
          have w4' : IntKind.i64.wrap (r : Int) = (r : Int) := wrapK (by omega) (by omega)
          have hg := hwg.out t htR
          rw [show (i : Int) + ((t : Int) - R) = (i : Int) + j by omega, e8, Int.toNat_natCast] at hg
          have bV := hBp.drew
          have hxo := hu.out.below bV
          have iX := fun w' => hxo.idx r (by rw [hn.out]; exact e7) w'
          have cX := hxo.cellD r (by rw [hn.out]; exact e7)
          rw [← hg] at cX
          have hsx := getD_syms hwsy.out (i := t) (by rw [hwl.out]; exact htR)
          have htk : ws.take (t + 1) = ws.take t ++ [ws.getD t 0] := by
            rw [List.take_add_one]; simp [List.getD, hwl.out, htR]
          have hst := numW_snoc K (ws.take t) (ws.getD t 0)
          rw [← htk] at hst
          have hnb := numW_lt (ws.take t) (syms_take hwsy.out t)
          have hpb : pw K (ws.take t).length ≤ 16384 := pw_le hk1 hk4 (by rw [List.length_take]; omega)
          obtain ⟨x, hx⟩ : ∃ x, ws.getD t 0 = x := ⟨_, rfl⟩
          rw [hx] at cX hsx hst
          obtain ⟨xn, rfl⟩ : ∃ m : Nat, x = (m : Int) := ⟨x.toNat, by omega⟩
          rw [Int.toNat_natCast] at hst
          obtain ⟨v, hv⟩ : ∃ v, numW K (ws.take t) = v := ⟨_, rfl⟩
          rw [hv] at hst hnb ⊢
          obtain ⟨vk, hvk⟩ : ∃ z, v * K = z := ⟨_, rfl⟩
          have hvkb : vk ≤ 65536 := by rw [← hvk]; exact Nat.le_trans (Nat.mul_le_mul (show v ≤ 16384 by omega) hk4) (by decide)
          have hvk2 : (v : Int) * (K : Int) = (vk : Int) := by rw [← hvk]; simp
          rw [hvk] at hst
          obtain ⟨s, hs9⟩ : ∃ s, vk + xn = s := ⟨_, rfl⟩
          have hs2 : (vk : Int) + (xn : Int) = (s : Int) := by omega
          rw [hs9] at hst
          have w5' : IntKind.i64.wrap (vk : Int) = (vk : Int) := wrapK (by omega) (by omega)
          have w6' : IntKind.i64.wrap (s : Int) = (s : Int) := wrapK (by omega) (by omega)
          obtain ⟨xa, hxa⟩ : ∃ xa, valAt (.slice ua un uc) r = xa := ⟨_, rfl⟩
          rw [hxa] at iX cX
          obtain ⟨V, hV⟩ : ∃ V : World, wp'.drew = V := ⟨_, rfl⟩
          obtain ⟨⟨z0, z1, z2⟩, -, -, -⟩ := qh.out.below bV
          have bV2 := hB2.drew
          rw [hV] at cX z0 bV bV2
          have hS : V.cell? ⟨w.heap.size, 0, none⟩ = some (.int .i64 K) ∧ V.cell? xa = some (.int .i64 (xn : Int)) := ⟨z0, cX⟩
          have hjb : -3 ≤ j ∧ j ≤ 3 := by omega
          have hjt2 := Lib.hid hjt
          replace hV := Lib.hid hV
          replace hxa := Lib.hid hxa
          replace hv := Lib.hid hv
          replace hst := Lib.hid hst
          replace hvk := Lib.hid hvk
          replace hs9 := Lib.hid hs9
          replace hx := Lib.hid hx
          replace hg := Lib.hid hg
          replace htk := Lib.hid htk
          replace hxo := Lib.hid hxo
          replace e6 := Lib.hid e6
          replace e8 := Lib.hid e8
          clear z0 z1 z2 hjt cX
          obtain ⟨⟨-, y1, -⟩, -, -, -⟩ := qh.out.below hBp
          go_upto_region 10 with fail
          refine wp_region_plan (fun w' => w'.cell? ⟨w.heap.size, 0, none⟩ = some (.int .i64 K) ∧ w'.cell? xa = some (.int .i64 (xn : Int))) 17 [(0, true), (1, true), (2, true), (3, true), (4, true), (5, true), (6, true), (7, true), (8, true), (9, true), (10, true), (11, true), (12, true), (13, true), (14, true), (15, true), (16, true)] (by kernel_rfl) (by kernel_rfl) ?_
          rw [hV.out]
          refine headY (v := ?_) (some 28) rfl rfl (Or.inl ⟨by rfl, ?_⟩) hS ?_
          rotate_left
          · rintro W' ⟨s0, s1⟩; go_simp; try with_reducible rfl
          simp only [Act.put, List.setIfInBounds_toArray, List.set_cons_zero, List.set_cons_succ]
          refine headY (v := ?_) (some 29) rfl rfl (Or.inl ⟨by rfl, ?_⟩) hS ?_
          rotate_left
          · rintro W' ⟨s0, s1⟩; go_simp; try with_reducible rfl
          simp only [Act.put, List.setIfInBounds_toArray, List.set_cons_zero, List.set_cons_succ]
          refine headY (v := ?_) (some 30) rfl rfl (Or.inl ⟨by rfl, ?_⟩) hS ?_
          rotate_left
          · rintro W' ⟨s0, s1⟩; go_simp; try with_reducible rfl
          simp only [Act.put, List.setIfInBounds_toArray, List.set_cons_zero, List.set_cons_succ]
          refine headY (v := ?_) (some 31) rfl rfl (Or.inl ⟨by rfl, ?_⟩) hS ?_
          rotate_left
          · rintro W' ⟨s0, s1⟩; go_simp; try with_reducible rfl
          simp only [Act.put, List.setIfInBounds_toArray, List.set_cons_zero, List.set_cons_succ]
          refine headY (v := ?_) (some 32) rfl rfl (Or.inl ⟨by rfl, ?_⟩) hS ?_
          rotate_left
          · rintro W' ⟨s0, s1⟩; go_simp; try with_reducible rfl
          simp only [Act.put, List.setIfInBounds_toArray, List.set_cons_zero, List.set_cons_succ]
          refine headY (v := ?_) (some 33) rfl rfl (Or.inl ⟨by rfl, ?_⟩) hS ?_
          rotate_left
          · rintro W' ⟨s0, s1⟩; go_simp; try with_reducible rfl
          simp only [Act.put, List.setIfInBounds_toArray, List.set_cons_zero, List.set_cons_succ]
          refine headY (v := ?_) (some 34) rfl rfl (Or.inl ⟨by rfl, ?_⟩) hS ?_
          rotate_left
          · rintro W' ⟨s0, s1⟩; go_simp; try with_reducible rfl
          simp only [Act.put, List.setIfInBounds_toArray, List.set_cons_zero, List.set_cons_succ]
          refine headY (v := ?_) (some 35) rfl rfl (Or.inl ⟨by rfl, ?_⟩) hS ?_
          rotate_left
          · rintro W' ⟨s0, s1⟩; go_simp; try with_reducible rfl
          simp only [Act.put, List.setIfInBounds_toArray, List.set_cons_zero, List.set_cons_succ]
          refine headY (v := ?_) (some 36) rfl rfl (Or.inl ⟨by rfl, ?_⟩) hS ?_
          rotate_left
          · rintro W' ⟨s0, s1⟩; go_simp; try with_reducible rfl
          simp only [Act.put, List.setIfInBounds_toArray, List.set_cons_zero, List.set_cons_succ]
          refine headY (v := ?_) (some 37) rfl rfl (Or.inl ⟨by rfl, ?_⟩) hS ?_
          rotate_left
          · rintro W' ⟨s0, s1⟩; go_simp; try with_reducible rfl
          simp only [Act.put, List.setIfInBounds_toArray, List.set_cons_zero, List.set_cons_succ]
          refine headY (v := ?_) (some 38) rfl rfl (Or.inl ⟨by rfl, ?_⟩) hS ?_
          rotate_left
          · rintro W' ⟨s0, s1⟩; go_simp; try with_reducible rfl
          simp only [Act.put, List.setIfInBounds_toArray, List.set_cons_zero, List.set_cons_succ]
          refine headY (v := ?_) (some 39) rfl rfl (Or.inl ⟨by rfl, ?_⟩) hS ?_
          rotate_left
          · rintro W' ⟨s0, s1⟩; go_simp; try with_reducible rfl
          simp only [Act.put, List.setIfInBounds_toArray, List.set_cons_zero, List.set_cons_succ]
          refine headY (v := ?_) (some 40) rfl rfl (Or.inl ⟨by rfl, ?_⟩) hS ?_
          rotate_left
          · rintro W' ⟨s0, s1⟩; go_simp; try with_reducible rfl
          simp only [Act.put, List.setIfInBounds_toArray, List.set_cons_zero, List.set_cons_succ]
          refine headY (v := ?_) (some 41) rfl rfl (Or.inl ⟨by rfl, ?_⟩) hS ?_
          rotate_left
          · rintro W' ⟨s0, s1⟩; go_simp; try with_reducible rfl
          simp only [Act.put, List.setIfInBounds_toArray, List.set_cons_zero, List.set_cons_succ]
          refine headY (v := ?_) (some 42) rfl rfl (Or.inl ⟨by rfl, ?_⟩) hS ?_
          rotate_left
          · rintro W' ⟨s0, s1⟩; go_simp; try with_reducible rfl
          simp only [Act.put, List.setIfInBounds_toArray, List.set_cons_zero, List.set_cons_succ]
          refine headY (v := ?_) (some 43) rfl rfl (Or.inl ⟨by rfl, ?_⟩) hS ?_
          rotate_left
          · rintro W' ⟨s0, s1⟩; go_simp; try with_reducible rfl
          simp only [Act.put, List.setIfInBounds_toArray, List.set_cons_zero, List.set_cons_succ]
          refine headY (v := ?_) (some 44) rfl rfl (Or.inl ⟨by rfl, ?_⟩) hS ?_
          rotate_left
          · rintro W' ⟨s0, s1⟩; go_simp; try with_reducible rfl
          simp only [Act.put, List.setIfInBounds_toArray, List.set_cons_zero, List.set_cons_succ]
          refine head0 ?_
          simp only [List.drop_succ_cons, List.drop_zero]
          clear hS
          go_wp2
          refine NoPanic.normal ?_
          go_wp2
          go_roundw
          case measure => simp [intOf]; omega
          case rel => exact ⟨t + 1, _, by omega, rfl, by have := hjt2.out; omega, by rw [hst.out], bV2⟩
        · have dj : decide (j ≤ (R : Int)) = false := decide_eq_false hjR
          have htf : t = 2 * R + 1 := by omega
          have hnt : numW K (ws.take t) = numW K ws := by rw [List.take_of_length_le (by rw [hwl.out]; omega)]
          rw [hnt]
          obtain ⟨v, hv⟩ : ∃ v, numW K ws = v := ⟨_, rfl⟩
          rw [hv]
          have hvl : v < T.length := by rw [← hv]; exact hnum
          have hto := h.out.below hBp
          have iT := fun w' => hto.idx v hvl w'
          have cT := hto.cellD v hvl
          obtain ⟨ta, hta⟩ : ∃ ta, valAt (.slice va vn vc) v = ta := ⟨_, rfl⟩
          obtain ⟨y, hy⟩ : ∃ y, T.getD v 0 = y := ⟨_, rfl⟩
          rw [hta] at iT cT
          rw [hy] at cT
          have hval2 : (ringI K R T xs).getD i 0 = y := by rw [hval.out, hv, hy]
          have hlen : (ringI K R T xs).length = n := by rw [ringI_len, hn.out]
          have hOl : ((ringI K R T xs).take i ++ List.replicate (n - i) 0).length = n := by rw [List.length_append, List.length_take, List.length_replicate, hlen]; omega
          have hset : ((ringI K R T xs).take i ++ List.replicate (n - i) 0).set i y = (ringI K R T xs).take (i + 1) ++ List.replicate (n - (i + 1)) 0 := by
            rw [show n - i = (n - (i + 1)) + 1 by omega, List.replicate_succ, List.set_append_right _ _ (by rw [List.length_take, hlen]; omega), show i - (List.take i (ringI K R T xs)).length = 0 by rw [List.length_take, hlen]; omega, List.set_cons_zero]
            rw [List.take_add_one, List.getElem?_eq_getElem (by rw [hlen]; exact hin), List.append_assoc]
            have : (ringI K R T xs)[i]'(by rw [hlen]; exact hin) = y := by rw [← hval2]; simp [List.getD, hlen, hin]
            rw [this]; rfl
          have hO2 := hO.out.below hB2
          have iO := fun w' => hO2.at.idx i (by rw [hOl]; exact hin) w'
          have cO := hO2.at.cell i (by rw [hOl]; exact hin)
          have fO := hO2.frz i (by rw [hOl]; exact hin)
          have kO := hO2.blkB i (by rw [hOl]; exact hin)
          have hS := hO2.set i (by rw [hOl]; exact hin) y
          rw [hset] at hS
          have hBS := hBp.setCell kO (.int .i64 y)
          obtain ⟨oj, hoj⟩ : ∃ oj, valAt (.slice oa on oc) i = oj := ⟨_, rfl⟩
          rw [hoj] at iO cO fO hS hBS
          obtain ⟨⟨z0, z1, z2⟩, -, -, -⟩ := qh.out.below hBp
          replace hjt := Lib.hid hjt
          replace hoj := Lib.hid hoj
          replace hS := Lib.hid hS
          replace hO2 := Lib.hid hO2
          replace hset := Lib.hid hset
          replace hOl := Lib.hid hOl
          replace hval2 := Lib.hid hval2
          replace hlen := Lib.hid hlen
          replace hta := Lib.hid hta
          replace hy := Lib.hid hy
          replace hv := Lib.hid hv
          replace hto := Lib.hid hto
          replace hnt := Lib.hid hnt
          clear kO
          go_wp2
          go_roundw
          case measure => simp [intOf]; omega
          case rel => exact ⟨i + 1, by omega, by go_num, hS.out, hBS⟩
    · have di : decide ((i : Int) < (n : Int)) = false := decide_eq_false (by omega)
      obtain rfl : i = n := by omega
      have hE : OwnI w.heap.size wo (.slice oa on oc) (ringI K R T xs) := by
        have := hO.mono s0
        rwa [Nat.sub_self, List.replicate_zero, List.append_nil, List.take_of_length_le (by rw [ringI_len, hn.out]; exact Nat.le_refl _)] at this
      have bE := Below.step b0 hB
      replace hO := Lib.hid hO
      replace hE := Lib.hid hE
      go_wp2
      go_ret
      exact ⟨_, rfl, bE, hE.out⟩
end Go.Proofs.YtilpckngghffoaaGreatDoor

namespace Go.Proofs.YtilpckngghffoaaGreatDoor
open Go.RowKit
set_option maxRecDepth 100000

theorem oneBytes : OneCell 155 5 (.int .u8 0) 1 := ⟨by kernel_rfl, by kernel_rfl, rfl, by decide, fun _ => by kernel_rfl⟩
theorem uByte : Tryz.prog.underlying 5 = some (.int .u8) := by kernel_rfl
theorem uStr : Tryz.prog.underlying 9 = some .string := by kernel_rfl
/-- The digits of a word. -/
def dig8 (xs : List Int) : List Int := xs.map fun x => 48 + x
def txtW (xs : List Int) : ByteArray := strOfNums (dig8 xs)
def byteV (xs : List Int) : List Value := (dig8 xs).map (Value.int .u8)

/-- make([]T, 0, n). -/
theorem wpl_makeV0 {T E : TypeId} {z : Value} {b : Nat} (oc : OneCell T E z b) {w : World} {ops : Array Oper} {rest : List Oper} {o : Oper} {a : Act} {Q : Exit → Act → World → Prop}
    (hg : o.guard = none) (l c : Operand) (hop : o.op = Op.makeSlice T l c) (n : Nat) (hl : a.eval l = .int .i64 0) (hc : a.eval c = .int .i64 (n : Int)) (hC : n ≤ 100000)
    (hK : ∀ v w', OwnV E w.heap.size w' v [] → Below w.heap.size w w' → wpList Tryz.prog ops Q rest (a.put o.dst v) w') :
    wpList Tryz.prog ops Q (o :: rest) a w := by
  obtain ⟨i, hi, hz0, hz1, hz2⟩ := info_parts oc.hi
  have hb := oc.hb
  refine wpList_make_own w hg l c T hop w.heap.size E i z 1 oc.ht hi hz0 hz1 .i64 .i64 n n hl hc rfl (by
    rw [hz2]
    calc b * n ≤ 32 * 100000 := Nat.mul_le_mul hb hC
      _ ≤ _ := by decide) (by unfold maxLen; omega) (Nat.le_refl _) ?_
  intro w' hown hgrow
  exact hK _ _ hown ((Below.refl _ _).grown hgrow (Nat.le_refl _) (by intro k hk; cases hk))

theorem digit_at (x : Int) (h0 : 0 ≤ x) (h4 : x < 4) (w' : World) : (Instr.index 9 (.string ⟨#[48, 49, 50, 51]⟩) (.int .i64 x)).run Tryz.prog w' = .ok (.int .u8 (48 + x)) w' := by
  rw [run_index_string w' _ _ _ _ uStr]
  obtain ⟨n, rfl⟩ := Int.eq_ofNat_of_zero_le h0
  have : n = 0 ∨ n = 1 ∨ n = 2 ∨ n = 3 := by omega
  rcases this with rfl | rfl | rfl | rfl <;> rfl

/-- append(s, y), one value laid just ahead. -/
theorem wpl_appV {T E : TypeId} {z : Value} {b : Nat} (oc : OneCell T E z b) {w : World} {ops : Array Oper} {rest : List Oper} {o : Oper} {a : Act} {Q : Exit → Act → World → Prop} (hgd : o.guard = none) (s x : Operand)
    (ho : o.op = .call { callee := .builtin .append, args := #[s, x], argTypes := #[T, T] })
    (B : Nat) (v : Value) (xs : List Value) (y : Value) (hy : y.oneCell' = true) (hown : OwnV E B w v xs) (hs : a.eval s = v) (hx : a.eval x = .slice (some ⟨w.heap.size, 0, none⟩) 1 1)
    (hlen : xs.length < 4398046511104) (hB : B ≤ w.heap.size)
    (h : ∀ v' w', OwnV E B w' v' (xs ++ [y]) → Below B w w' → wpList Tryz.prog ops Q rest (a.put o.dst v') w') :
    wpList Tryz.prog ops Q (o :: rest) a (w.alloc (.cells #[y] E)) := by
  refine wpList_plain hgd fun K hK => ?_
  obtain ⟨v', w', hr, h2, h3⟩ := run_app oc (w.alloc (.cells #[y] E)) B o.type v _ (hown.alloc _) ⟨w.heap.size, 0, none⟩ 1 [y] (by simp) (cell_one_new _ _ _) (by simp [hy]) (by simp; omega) (by simp; omega)
  unfold Oper.wp execOp
  simp only [ho, resolve, invoke, builtin, Sem.run_bind, Sem.run_pure, Result.andThen_ok, List.map_toArray, List.map_cons, List.map_nil, hs, hx]
  rw [show ([y] : List Value).length = 1 from rfl] at hr
  rw [hr]
  have hal : ∀ row, w.grownBy (w.alloc (.cells #[y] E)) row := fun row => World.grownBy_alloc w _ row
  rcases h3 with ⟨_, hg⟩ | ⟨_, hg⟩
  · exact hK _ _ (h v' w' h2 ((Below.refl _ _).grown ((hal v.ownBlock).trans hg) hB (fun k hk => (hown.lt k hk).1)))
  · exact hK _ _ (h v' w' h2 ((Below.refl _ _).grown ((hal none).trans hg) hB (by intro k hk; cases hk)))

theorem byteV_snoc (xs : List Int) (x : Int) : byteV (xs ++ [x]) = byteV xs ++ [.int .u8 (48 + x)] := by simp [byteV, dig8]
theorem conv_bytes (B : Nat) (w : World) (v : Value) (xs : List Int) (h : OwnV 5 B w v (byteV xs)) (h1 : 1 ≤ xs.length) : (convert 155 9 v).run Tryz.prog w = .ok (.string (txtW xs)) w := by
  have hl : (byteV xs).length = xs.length := by simp [byteV, dig8]
  rcases h.2 with ⟨rfl, hn⟩ | ⟨g, cap, cur, rfl, hb, hg, hn, hm, hs, ht⟩
  · omega
  · refine run_convert_bytes_arg (P := Tryz.prog) w 155 5 oneBytes.ht uByte g 0 (byteV xs).length cap (dig8 xs) (by simp [dig8, byteV]) (fun i hi => ?_) 9 uStr
    have := h.at.cell i hi
    rw [valAt_row] at this
    rw [Nat.zero_add, this]
    have hi2 : i < xs.length := by rw [← hl]; exact hi
    simp [byteV, List.getD, dig8, hi2]

set_option maxHeartbeats 1000000 in
theorem word_text (K : Nat) (v : Value) (xs : List Int) (w : World) (h : IntsAt w v xs) (h1 : 1 ≤ K) (h4 : K ≤ 4) (hs : Syms K xs) (hn : 1 ≤ xs.length) (hl : xs.length ≤ 4096) :
    Calls Tryz.prog 57 #[.int .i64 K, v] w (Ret2 (fun x y _ => y = .nilIface ∧ x = .string (txtW xs)) w) := by
  have l1 := h.len
  obtain ⟨va, vn, vc, rfl⟩ := h.shape
  replace h := Lib.hid h
  replace hs := Lib.hid hs
  go_enter Tryz.func57, Tryz.ntmps57
  go_wp2_with fail
  refine (word_check K _ xs w h.out h1 h4 hs.out hl).mono ?_
  rintro e w1 ⟨_, rfl, b1, rfl⟩
  have hx1 := h.out.below b1
  replace hx1 := Lib.hid hx1
  go_wp2_with (at_make; refine wpl_makeV0 oneBytes rfl _ _ rfl xs.length rfl rfl (by omega) ?_)
  intro bv w2 ho2 b2
  have b02 := Below.step b1 b2
  replace ho2 := Lib.hid ho2
  go_wp2_with fail
  go_loopw [7, 21] (fun ov iv wr => ∃ (i : Nat) (ow : Value), ow = ov ∧ iv = .int .i64 i ∧ i ≤ xs.length ∧ OwnV 5 w1.heap.size wr ow (byteV (xs.take i)) ∧ Below w1.heap.size w1 wr) (fun _ iv _ => xs.length - (intOf iv).toNat)
  case atStart => exact ⟨0, _, rfl, rfl, Nat.zero_le _, ho2.out, b2⟩
  case round =>
    obtain ⟨i, ow, rfl, rfl, hi, hO, hB⟩ := hrel
    obtain ⟨wo, rfl⟩ : ∃ wo : World, wo = wr := ⟨_, rfl⟩
    by_cases hil : i < xs.length
    · have di : decide ((i : Int) < (xs.length : Int)) = true := decide_eq_true (by omega)
      have hxo := hx1.out.below hB
      have iX := fun w' => hxo.idx i hil w'
      have cX := hxo.cellD i hil
      have hsy := getD_syms hs.out hil
      have htk : xs.take (i + 1) = xs.take i ++ [xs.getD i 0] := by
        rw [List.take_add_one]; simp [List.getD, hil]
      have hbv := byteV_snoc (xs.take i) (xs.getD i 0)
      rw [← htk] at hbv
      obtain ⟨x, hx⟩ : ∃ x, xs.getD i 0 = x := ⟨_, rfl⟩
      rw [hx] at cX hsy hbv
      have dg := digit_at x hsy.1 (by omega)
      obtain ⟨xa, hxa⟩ : ∃ xa, valAt (.slice va vn vc) i = xa := ⟨_, rfl⟩
      rw [hxa] at iX cX
      have hlb : (byteV (xs.take i)).length < 4398046511104 := by simp [byteV, dig8]; omega
      have hBs := hB.size
      replace hx := Lib.hid hx
      replace hxa := Lib.hid hxa
      replace hxo := Lib.hid hxo
      replace htk := Lib.hid htk
      replace hbv := Lib.hid hbv
      go_wp2_with (at_builtin; go_loud (refine wpl_appV oneBytes rfl _ _ rfl w1.heap.size ow _ (.int .u8 (48 + x)) rfl hO rfl rfl hlb hBs ?_))
      intro v' w7 ho7 b7
      rw [← hbv.out] at ho7
      obtain ⟨v7a, v7b, v7c, rfl⟩ := ho7.shape
      replace ho7 := Lib.hid ho7
      clear hO
      go_wp2
      go_roundw
      case measure => simp [intOf]; omega
      case rel => exact ⟨i + 1, _, rfl, by go_num, by omega, ho7.out, hB.trans b7⟩
    · have di : decide ((i : Int) < (xs.length : Int)) = false := decide_eq_false (by omega)
      obtain rfl : i = xs.length := by omega
      rw [List.take_length] at hO
      have hc := conv_bytes w1.heap.size wo ow xs hO hn
      obtain ⟨oa, on, oc, rfl⟩ := hO.shape
      have bE := Below.step b1 hB
      replace hO := Lib.hid hO
      go_wp2
      go_ret2
      exact ⟨_, _, rfl, bE, rfl, rfl⟩
end Go.Proofs.YtilpckngghffoaaGreatDoor

namespace Go.Proofs.YtilpckngghffoaaGreatDoor
open Go.RowKit Go.Maps Go.WideMaps
set_option maxRecDepth 100000

theorem uMapS : Tryz.prog.underlying 96 = some (.map 9 22) := by kernel_rfl
theorem keyedS : Keyed Tryz.prog 9 := string_keyed uStr
theorem zeroS (w : World) : (zeroValue 22).run Tryz.prog w = .ok (.slice none 0 0) w := by kernel_rfl
/-- A value as it is. -/
def heldE (v : Value) : Option (DataW Value × List MemPlace) := some (.held v, [])
def keyL (y : List Int) : Lit := .string (txtW y).data.toList
theorem txt_size (y : List Int) : (txtW y).size = y.length := by unfold txtW; rw [strOfNums_size]; simp [dig8]
theorem keyL_of {y : List Int} (h : y.length ≤ 4096) : keyOf Tryz.prog 9 (.string (txtW y)) = some (keyL y) := keyOf_string_mk uStr (by rw [txt_size]; unfold maxLen; omega)
theorem keyL_inj {K : Int} {x y : List Int} (hK : K ≤ 4) (hx : Syms K x) (hy : Syms K y) (h : keyL x = keyL y) : x = y := by
  have h2 : (txtW x).data.toList = (txtW y).data.toList := by injection h
  unfold txtW at h2
  rw [strOfNums_data, strOfNums_data] at h2
  unfold dig8 at h2
  rw [List.map_map, List.map_map] at h2
  have key : ∀ (a b : List Int), Syms K a → Syms K b → a.map ((fun n : Int => UInt8.ofNat n.toNat) ∘ fun x : Int => 48 + x) = b.map ((fun n : Int => UInt8.ofNat n.toNat) ∘ fun x : Int => 48 + x) → a = b := by
    intro a
    induction a with
    | nil =>
      intro b _ _ h
      cases b with
      | nil => rfl
      | cons _ _ => simp at h
    | cons p a ih =>
      intro b ha hb h
      cases b with
      | nil => simp at h
      | cons q b =>
        rw [List.map_cons, List.map_cons] at h
        injection h with h1 h2
        have e1 := ha p List.mem_cons_self
        have e2 := hb q List.mem_cons_self
        have : p = q := by
          have h3 := congrArg UInt8.toNat h1
          simp only [Function.comp, UInt8.toNat_ofNat'] at h3
          omega
        rw [this, ih b (fun z hz => ha z (List.mem_cons_of_mem _ hz)) (fun z hz => hb z (List.mem_cons_of_mem _ hz)) h2]
  exact key x y hx hy h2

/-- Block b is the map of the first j words by their images. -/
def RingMap (w : World) (b j K n : Nat) (img : Nat → List Int) (vals : Nat → Value) : Prop :=
  ∃ D : DataW Value, w.ownsMap Tryz.prog 9 heldE b j D ∧ (∀ y, Syms K y → y.length = n → (Maps.has D (keyL y) = true ↔ ∃ x, x < j ∧ img x = y)) ∧ ∀ x, x < j → D.atKey (keyL (img x)) (.held (.slice none 0 0)) = .held (vals x)
theorem RingMap.made (w : World) (K n : Nat) (img : Nat → List Int) (vals : Nat → Value) : RingMap (w.alloc (.map #[] 0)) w.heap.size 0 K n img vals :=
  ⟨_, World.ownsMap_made w Tryz.prog 9 _, fun y _ _ => ⟨fun h => (by cases h), fun ⟨x, hx, _⟩ => absurd hx (Nat.not_lt_zero _)⟩, fun x hx => absurd hx (Nat.not_lt_zero _)⟩
section
variable {w : World} {b j K n : Nat} {img : Nat → List Int} {vals : Nat → Value}
theorem RingMap.blk (h : RingMap w b j K n img vals) : ∃ es c, w.heap[b]? = some (.map es c) := by
  obtain ⟨D, ⟨es, c, hb, _⟩, _⟩ := h
  exact ⟨es, c, hb⟩
theorem RingMap.below {w' : World} (h : RingMap w b j K n img vals) (hb : Below w.heap.size w w') : RingMap w' b j K n img vals := by
  obtain ⟨D, h1, h2⟩ := h
  refine ⟨D, ?_, h2⟩
  have hlt := h1.lt
  obtain ⟨es, clock, hb', F, hs, hD⟩ := h1
  exact ⟨es, clock, (hb.block b hlt).trans hb', F, hs, hD⟩
theorem RingMap.hit (h : RingMap w b j K n img vals) {x : Nat} (hx : x < j) (hs : Syms K (img x)) (hl : (img x).length = n) (hn : n ≤ 4096) :
    (Instr.lookup 96 (.map (some b)) (.string (txtW (img x))) true).run Tryz.prog w = .ok (.tuple #[vals x, .bool true]) w := by
  obtain ⟨D, h1, h2, h3⟩ := h
  obtain ⟨v, ps, hr, hv⟩ := h1.look_ok keyedS uMapS (zeroS w) (zd := .held (.slice none 0 0)) (zp := []) rfl (keyL_of (y := img x) (by omega))
  rw [h3 x hx] at hv
  unfold heldE at hv
  have e1 := Option.some.inj hv
  have e2 : DataW.held v = DataW.held (vals x) := congrArg Prod.fst e1
  have e : v = vals x := by injection e2
  rw [hr, e, (h2 _ hs hl).2 ⟨x, hx, rfl⟩]
theorem RingMap.miss (h : RingMap w b j K n img vals) {y : List Int} (hs : Syms K y) (hl : y.length = n) (hn : n ≤ 4096) (hno : ∀ x, x < j → img x ≠ y) :
    ∃ v, (Instr.lookup 96 (.map (some b)) (.string (txtW y)) true).run Tryz.prog w = .ok (.tuple #[v, .bool false]) w := by
  obtain ⟨D, h1, h2, h3⟩ := h
  obtain ⟨v, ps, hr, hv⟩ := h1.look_ok keyedS uMapS (zeroS w) (zd := .held (.slice none 0 0)) (zp := []) rfl (keyL_of (y := y) (by omega))
  have : Maps.has D (keyL y) = false := by
    cases hh : Maps.has D (keyL y) with
    | false => rfl
    | true => obtain ⟨x, hx, e⟩ := (h2 y hs hl).1 hh; exact absurd e (hno x hx)
  exact ⟨v, by rw [hr, this]⟩
theorem RingMap.store (h : RingMap w b j K n img vals) (hK : K ≤ 4) (hsy : ∀ x, x ≤ j → Syms K (img x)) (hln : ∀ x, x ≤ j → (img x).length = n) (hn : n ≤ 4096) (hno : ∀ x, x < j → img x ≠ img j) (v : Value) (hj : j < 100000) :
    ∃ w', (Instr.mapUpdate 96 (.map (some b)) (.string (txtW (img j))) v).run Tryz.prog w = .ok () w' ∧ RingMap w' b (j + 1) K n img (fun x => if x = j then v else vals x) ∧ w.grownBy w' (some b) := by
  obtain ⟨D, h1, h2, h3⟩ := h
  have hI := h1.isMap
  have hkey := keyL_of (y := img j) (by rw [hln j (Nat.le_refl _)]; exact hn)
  obtain ⟨w', hr, ho, hg⟩ := h1.update keyedS uMapS (by unfold maxLen; omega) hkey (val := v) (d := .held v) (ps := []) rfl
  have hkl : WideAt.IsKeyLit (keyL (img j)) := keyedS.key hkey
  refine ⟨w', hr, ⟨_, ho, fun y hy hyl => ?_, fun x hx => ?_⟩, hg⟩
  · by_cases e : y = img j
    · subst e
      exact ⟨fun _ => ⟨j, Nat.lt_succ_self _, rfl⟩, fun _ => Maps.has_put_same hI hkl _⟩
    · have hne : keyL y ≠ keyL (img j) := fun h => e (keyL_inj (K := K) (by omega) hy (hsy j (Nat.le_refl _)) h)
      rw [Maps.has_put_other hne, h2 y hy hyl]
      constructor
      · rintro ⟨x, hx, rfl⟩; exact ⟨x, by omega, rfl⟩
      · rintro ⟨x, hx, rfl⟩
        exact ⟨x, by
          have : x ≠ j := fun q => e (by rw [q])
          omega, rfl⟩
  · by_cases e : x = j
    · subst e
      rw [Maps.atKey_put_same hI hkl]
      show DataW.held v = DataW.held (if x = x then v else vals x)
      rw [if_pos rfl]
    · have hne : keyL (img x) ≠ keyL (img j) := fun h => hno x (by omega) (keyL_inj (K := K) (by omega) (hsy x (by omega)) (hsy j (Nat.le_refl _)) h)
      rw [Maps.atKey_put_other hne]
      show _ = DataW.held (if x = j then v else vals x)
      rw [if_neg e]
      exact h3 x (by omega)
end
/-- Rows stay while a map's block is written. -/
theorem Rows.map {B : Nat} {w w' : World} {f : Names} {b : Nat} {es : Array MapEntry} {c : Nat} (h : Rows B w f) (hb : w.heap[b]? = some (.map es c)) (hg : w.grownBy w' (some b)) : Rows B w' f :=
  ⟨fun i r hi => (by
    have ho := h.1 i r hi
    refine World.ownsRow.kept ho hg ?_
    rcases ho.2 with ⟨e, _⟩ | ⟨g, cap, cur, e, _, hh, _⟩
    · left; rw [e]; rfl
    · right; rw [e]; intro q
      have : g = b := by injection q
      subst this; rw [hh] at hb; cases hb), h.2⟩
end Go.Proofs.YtilpckngghffoaaGreatDoor
