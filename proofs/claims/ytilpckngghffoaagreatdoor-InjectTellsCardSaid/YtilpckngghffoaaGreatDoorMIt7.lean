/-
  Walk: graph.reach: what can be reached from the marked vertices.
  Walk: graph.Live.
  Walk: edenref12.way: the first of the shortest ways, by going down.
  What the document's answers of layer 12 share: the error's box.
  Plain mathematics: what stands on a loop.
  Plain mathematics: the peeling of a graph, step by step; what it leaves are the live vertices.
  Walk: edenref12.Live.
  Walks: slices.DeleteFunc (its contract off the shelf) at the function that pairs.Apart hands it.
  Plain mathematics: breadth first from the pairs of equal nodes through the pairs that are apart; the first that is met again is met by a shortest way.
  Plain mathematics: among the pairs of equal nodes there is a way from each to each.
-/
import Derived.Test.YtilpckngghffoaaGreatDoorMIt6
import Derived.Deep.LoopGhost
import Derived.Deep.DeepCutAuto
import Derived.BigQuiet
import Derived.Ground.SlgfProg
import Derived.Shelf.SlGeneric
import Derived.Shelf.SlicesE.DeleteFunc
import Derived.Lib.SliceRun
namespace Go.Proofs.YtilpckngghffoaaGreatDoor
open Go.RowKit
set_option maxRecDepth 100000

theorem oneBoolG : OneCell 146 4 (.bool false) 1 := ⟨by kernel_rfl, by kernel_rfl, rfl, by decide, fun _ => by kernel_rfl⟩
/-- The first n marks of a function. -/
def tabB (n : Nat) (m : Nat → Bool) : List Value := (List.range n).map fun v => Value.bool (m v)
theorem tabB_len (n : Nat) (m : Nat → Bool) : (tabB n m).length = n := by simp [tabB]
theorem tabB_get (n : Nat) (m : Nat → Bool) (v : Nat) (hv : v < n) : vAt (tabB n m) v = .bool (m v) := by simp [tabB, vAt, List.getD, hv]
theorem tabB_upd (n : Nat) (m : Nat → Bool) (v : Nat) (b : Bool) : (tabB n m).set v (.bool b) = tabB n (updN m v b) := by
  apply List.ext_getElem
  · simp [tabB]
  · intro i h1 h2
    simp only [tabB, List.getElem_set, List.getElem_map, List.getElem_range, updN]
    by_cases e : v = i
    · rw [if_pos e, if_pos e.symm]
    · rw [if_neg e, if_neg (fun q => e q.symm)]
theorem tabB_one (n : Nat) (m : Nat → Bool) : ∀ v ∈ tabB n m, v.oneCell' = true := by
  intro v hv
  obtain ⟨x, _, rfl⟩ := List.mem_map.1 hv
  rfl

theorem clone_bools (v : Value) (n : Nat) (m : Nat → Bool) (w : World) (h : ValsAt w v (tabB n m)) (hl : n ≤ 10000) :
    Calls Tryz.prog 166 #[v] w (Ret1 (fun x w' => OwnV 4 w.heap.size w' x (tabB n m)) w) := by
  obtain ⟨ao, cap, rfl, h1, h2, h3, h4⟩ := h
  cases ao with
  | none =>
    obtain rfl := h3 rfl
    rw [tabB_len] at h1
    obtain rfl : n = 0 := by omega
    have hn := fun w' => Lib.run_eql_slice_nil (P := Tryz.prog) w' _ _ none 0 0 0 0 oneBoolG.ht
    rw [show (tabB 0 m).length = 0 from rfl]
    clear h4
    go_enter Tryz.func166, Tryz.ntmps166
    go_wp2
    go_ret
    exact ⟨_, rfl, Below.refl _ _, OwnV.nil _ _ _⟩
  | some p =>
    have hn := fun w' => Lib.run_eql_slice_nil (P := Tryz.prog) w' _ _ (some p) (tabB n m).length cap 0 0 oneBoolG.ht
    have b0 : Below w.heap.size w (w.alloc (.cells #[] 4)) := (Below.refl _ _).alloc (Nat.le_refl _) _
    have ho0 : OwnV 4 w.heap.size (w.alloc (.cells #[] 4)) (.slice (some ⟨w.heap.size, 0, none⟩) 0 0) [] := World.ownsRow_made w #[] 0 (Nat.le_refl _) (by unfold maxLen; omega) rfl
    obtain ⟨i, hi, hz0, hz1, hz2⟩ := info_parts oneBoolG.hi
    have hcells : ∀ (j : Nat) (u : Value), (tabB n m)[j]? = some u → (w.alloc (.cells #[] 4)).cell? (p.add j) = some u := by
      intro j u hj
      have hjl := (List.getElem?_eq_some_iff.1 hj).1
      have := h4 j hjl
      simp only [valAt] at this
      rw [b0.cell (World.block_lt_of_cell? _ _ this), this, ← hj, List.getElem?_eq_getElem hjl]
    have hone := tabB_one n m
    have htl := tabB_len n m
    generalize tabB n m = bs at *
    have hbl : bs.length ≤ 10000 := by omega
    replace htl := Lib.hid htl
    replace hcells := Lib.hid hcells
    replace hone := Lib.hid hone
    replace ho0 := Lib.hid ho0
    clear h4
    go_enter Tryz.func166, Tryz.ntmps166
    go_wp2_with (at_builtin; refine wpList_append_own_at _ rfl _ _ 146 rfl w.heap.size 4 i (.bool false) 1 1 oneBoolG.ht hi hz0 hz1 hz2 rfl (by decide) _ 0 [] rfl ho0.out p bs.length cap bs rfl (by simp) hcells.out hone.out (by unfold maxLen; omega) (by omega) (by simp) ?_)
    intro v' w' ho' hgr _ hat
    have hb2 : Below w.heap.size w w' := b0.trans ((Below.refl _ _).grown hgr (by simp) (fun k hk => (ho0.out.lt k hk).1))
    have ho2 : OwnV 4 w.heap.size w' v' bs := by simpa [OwnV] using ho'
    replace ho2 := Lib.hid ho2
    clear ho' hat hgr
    go_wp2
    go_ret
    exact ⟨_, rfl, hb2, ho2.out⟩

/-- How many aren't marked. -/
def unm (n : Nat) (m : Nat → Bool) : Nat := wsum (fun _ => 1) (fun x => if m x then 1 else 0) n
theorem unm_upd (n : Nat) (m : Nat → Bool) (t : Nat) (ht : t < n) (hm : m t = false) : unm n (updN m t true) + 1 = unm n m := by
  have h := wsum_upd (fun _ => 1) (fun x => if m x then 1 else 0) t 1 (by decide) (by simp [hm]) n
  rw [if_pos ht] at h
  have e : (fun x => if updN m t true x then 1 else 0) = updN (fun x => if m x then 1 else 0) t 1 := by
    funext x
    by_cases q : x = t
    · subst q; simp [updN_same]
    · rw [updN_other _ _ _ q, updN_other _ _ _ q]
  unfold unm
  rw [e]; exact h
theorem wsum_le (f : Nat → Nat) : ∀ n, wsum (fun _ => 1) f n ≤ n
  | 0 => Nat.le_refl _
  | n + 1 => by
    have := wsum_le f n
    simp only [wsum]; split <;> omega
theorem unm_le (n : Nat) (m : Nat → Bool) : unm n m ≤ n := wsum_le _ n
/-- The marks while the search runs; done: a vertex whose arrows have all been followed. -/
structure RInv (n : Nat) (adj : Nat → List Nat) (ms m : Nat → Bool) (qs : List Nat) (busy : Nat → Prop) : Prop where
  start : ∀ x, x < n → ms x = true → m x = true
  sound : ∀ x, x < n → m x = true → ∃ u, u < n ∧ ms u = true ∧ Goes adj u x
  queue : ∀ x ∈ qs, x < n ∧ m x = true
  closed : ∀ x, x < n → m x = true → x ∉ qs → ¬ busy x → ∀ t ∈ adj x, m t = true
theorem RInv.pop {n : Nat} {adj : Nat → List Nat} {ms m : Nat → Bool} {v : Nat} {qs : List Nat} (h : RInv n adj ms m (v :: qs) (fun _ => False)) : RInv n adj ms m qs (fun x => x = v) :=
  ⟨h.start, h.sound, fun x hx => h.queue x (List.mem_cons_of_mem _ hx), fun x hx hm hq hb => h.closed x hx hm (fun hc => (List.mem_cons.1 hc).elim hb hq) id⟩
theorem RInv.finish {n : Nat} {adj : Nat → List Nat} {ms m : Nat → Bool} {v : Nat} {qs : List Nat} (h : RInv n adj ms m qs (fun x => x = v)) (hv : ∀ t ∈ adj v, m t = true) : RInv n adj ms m qs (fun _ => False) :=
  ⟨h.start, h.sound, h.queue, fun x hx hm hq _ => by
    by_cases e : x = v
    · subst e; exact hv
    · exact h.closed x hx hm hq e⟩
theorem RInv.mark {n : Nat} {adj : Nat → List Nat} {ms m : Nat → Bool} {v t : Nat} {qs : List Nat} (h : RInv n adj ms m qs (fun x => x = v)) (hv : v < n) (hmv : m v = true) (ht : t ∈ adj v) (htn : t < n) : RInv n adj ms (updN m t true) (t :: qs) (fun x => x = v) := by
  have up : ∀ x, m x = true → updN m t true x = true := fun x hx => by
    by_cases e : x = t
    · subst e; exact updN_same _ _ _
    · rw [updN_other _ _ _ e]; exact hx
  refine ⟨fun x hx hs => up x (h.start x hx hs), fun x hx hm => ?_, fun x hx => ?_, fun x hx hm hq hb t' ht' => ?_⟩
  · by_cases e : x = t
    · subst e
      obtain ⟨u, h1, h2, h3⟩ := h.sound v hv hmv
      exact ⟨u, h1, h2, h3.step ht⟩
    · rw [updN_other _ _ _ e] at hm; exact h.sound x hx hm
  · rcases List.mem_cons.1 hx with e | e
    · subst e; exact ⟨htn, updN_same _ _ _⟩
    · exact ⟨(h.queue x e).1, up x (h.queue x e).2⟩
  · have e : x ≠ t := fun e => hq (by rw [e]; exact List.mem_cons_self)
    rw [updN_other _ _ _ e] at hm
    exact up t' (h.closed x hx hm (fun hc => hq (List.mem_cons_of_mem _ hc)) hb t' ht')
theorem RInv.all {n : Nat} {adj : Nat → List Nat} {ms m : Nat → Bool} (h : RInv n adj ms m [] (fun _ => False)) (ha : ∀ v, v < n → ∀ t ∈ adj v, t < n) : ∀ x, x < n → (m x = true ↔ ∃ u, u < n ∧ ms u = true ∧ Goes adj u x) := by
  intro x hx
  refine ⟨h.sound x hx, fun ⟨u, hu, hs, hg⟩ => ?_⟩
  exact (Goes.closed (P := fun y => y < n ∧ m y = true) (fun y hy t ht => ⟨ha y hy.1 t ht, h.closed y hy.1 hy.2 (by simp) id t ht⟩) hg ⟨hu, h.start u hu hs⟩).2

/-- The search's memory. -/
structure RN (f : Names) (ov qv : Value) (n : Nat) (m : Nat → Bool) (qs : List Nat) : Prop where
  outs : f (1, 0) = some (rowV 4 ov (tabB n m))
  queue : f (2, 0) = some (rowI qv (upI qs))
section
variable {B : Nat} {w : World} {f : Names} {ov qv : Value} {n : Nat} {m : Nat → Bool} {qs : List Nat}
theorem RN.mark (h : RN f ov qv n m qs) (hr : Rows B w f) (t : Nat) (ht : t < n) : ∃ f', Rows B (w.setCell (valAt ov t) (.bool true)) f' ∧ RN f' ov qv n (updN m t true) qs := by
  have hs := hr.setV h.outs t (by rw [tabB_len]; exact ht) (.bool true)
  rw [tabB_upd] at hs
  exact ⟨_, hs, ⟨upd_same _ _ _, by rw [upd_ne _ _ (by simp)]; exact h.queue⟩⟩
theorem RN.push (h : RN f ov qv n m qs) (hr : Rows B w f) {w1 : World} {qv' : Value} (t : Nat) (ho : OwnI B w1 qv' (upI qs ++ [(t : Int)]))
    (hal : (roomOf qv' = roomOf qv ∧ w.grownBy w1 qv.ownBlock) ∨ (∃ k, qv'.ownBlock = some k ∧ w.heap.size ≤ k ∧ w.grownBy w1 none)) : ∃ f', Rows B w1 f' ∧ RN f' ov qv' n m (t :: qs) := by
  have hO := hr.ownI h.queue
  have hg : w.grownBy w1 qv.ownBlock := grown_via (hal.imp (·.2) (fun ⟨_, _, _, q⟩ => q))
  have hob : qv'.ownBlock = qv.ownBlock ∨ ∃ k, qv'.ownBlock = some k ∧ w.heap.size ≤ k := by
    rcases hal with ⟨q, _⟩ | ⟨k, h1, h2, _⟩
    · obtain ⟨a1, n1, c1, e1⟩ := hO.at.shape
      obtain ⟨a2, n2, c2, e2⟩ := ho.at.shape
      exact .inl (ownBlock_of_room e1 e2 q)
    · exact .inr ⟨k, h1, h2⟩
  exact ⟨_, hr.grown (r' := rowI qv' (upI qs ++ [(t : Int)])) h.queue hg ho hob, ⟨by rw [upd_ne _ _ (by simp)]; exact h.outs, by rw [upd_same, upI_cons]⟩⟩
theorem RN.pop {v g c : Nat} {r : List Nat} (h : RN f ov (.slice (some ⟨g, 0, none⟩) (r.length + 1) c) n m (v :: r)) (hr : Rows B w f) : ∃ f', Rows B w f' ∧ RN f' ov (.slice (some ⟨g, 0, none⟩) r.length c) n m r := by
  have ho : f (2, 0) = some ⟨3, 1, .slice (some ⟨g, 0, none⟩) (r.length + 1) c, r.length + 1, (upI (v :: r)).map (Value.int .i64)⟩ := by
    rw [h.queue]; simp [rowI, upI_len]
  have h1 := hr.shrink ho
  have hx : ((upI (v :: r)).map (Value.int .i64)).take (r.length * 1) = (upI r).map (Value.int .i64) := by
    rw [upI_cons, List.map_append, Nat.mul_one]; exact List.take_left' (by simp [upI_len])
  rw [hx] at h1
  exact ⟨_, h1, ⟨by rw [upd_ne _ _ (by simp)]; exact h.outs, by rw [upd_same]; simp [upI_len]⟩⟩
theorem RN.shape {v : Nat} {r : List Nat} (h : RN f ov qv n m (v :: r)) (hr : Rows B w f) : ∃ g c, qv = .slice (some ⟨g, 0, none⟩) (r.length + 1) c ∧ r.length + 1 ≤ c := by
  obtain ⟨g, c, e, e2⟩ := row_shape (hr.1 _ _ h.queue) (by show 0 < (upI (v :: r)).length; rw [upI_len]; simp)
  have e : qv = .slice (some ⟨g, 0, none⟩) (upI (v :: r)).length c := e
  have e2 : (upI (v :: r)).length ≤ c := e2
  rw [upI_len, List.length_cons] at e e2
  exact ⟨g, c, e, e2⟩
end
theorem upI_topR (t : Nat) (o : List Nat) : (upI (t :: o)).getD o.length 0 = (t : Int) := by
  rw [upI_cons, List.getD_eq_getElem?_getD, List.getElem?_append_right (by rw [upI_len]; exact Nat.le_refl _), upI_len, Nat.sub_self]; rfl

set_option maxHeartbeats 4000000 in
theorem reach_any (na : Option Addr) (nc : Nat) (G : List (List Int)) (mv : Value) (ms : Nat → Bool) (w : World) (h : ListsAt w (.slice na G.length nc) G) (hok : GraphOk G) (hn : G.length ≤ 8200) (hm : ValsAt w mv (tabB G.length ms)) :
    Calls Tryz.prog 135 #[.slice na G.length nc, mv] w (Ret1 (fun x w' => ∃ out : Nat → Bool, OwnV 4 w.heap.size w' x (tabB G.length out) ∧ ∀ x, x < G.length → (out x = true ↔ ∃ u, u < G.length ∧ ms u = true ∧ Goes (adjOf G) u x)) w) := by
  have hC := clone_bools mv G.length ms w hm (by omega)
  replace h := Lib.hid h
  replace hok := Lib.hid hok
  replace hm := Lib.hid hm
  go_enter Tryz.func135, Tryz.ntmps135
  go_wp2_with fail
  refine hC.mono ?_
  rintro e w1 ⟨ov, rfl, b1, ho⟩
  clear hC
  have R1 := ((rows_nils w.heap.size w 0).add (i := (1, 0)) (r' := rowV 4 ov (tabB G.length ms)) b1 ho (fun k hk => (ho.lt k hk).1)).fresh (i := (2, 0)) (r' := rowI (.slice none 0 0) []) (World.grownBy.refl _ _) (OwnI.nil _ _) (fun k hk => (by cases hk))
  have h1 : RN (upd (upd (nils 0) (1, 0) (some (rowV 4 ov (tabB G.length ms)))) (2, 0) (some (rowI (.slice none 0 0) []))) ov (.slice none 0 0) G.length ms [] := ⟨by rw [upd_ne _ _ (by simp), upd_same], by rw [upd_same]; rfl⟩
  generalize upd (upd (nils 0) (1, 0) (some (rowV 4 ov (tabB G.length ms)))) (2, 0) (some (rowI (.slice none 0 0) [])) = f1 at *
  have lO := fun w' => ho.at.len oneBoolG 3 w'
  rw [tabB_len] at lO
  replace R1 := Lib.hid R1
  replace ho := Lib.hid ho
  go_wp2_with fail
  clear lO
  go_loopw [6, 16] (fun qv kv wr => ∃ (k : Nat) (qs : List Nat) (f : Names) (qw : Value), qw = qv ∧ kv = .int .i64 k ∧ k ≤ G.length ∧ qs.length ≤ k ∧ Rows w.heap.size wr f ∧ Below w.heap.size w wr ∧ RN f ov qw G.length ms qs ∧ ∀ x, x ∈ qs ↔ (x < k ∧ ms x = true)) (fun _ kv _ => G.length - (intOf kv).toNat)
  case atStart => exact ⟨0, [], f1, _, rfl, rfl, by omega, by simp, R1.out, b1, h1, fun x => ⟨fun h => (by cases h), fun h => by omega⟩⟩
  case round =>
    clear h1 R1 ho
    obtain ⟨k, qs, f2, qv, rfl, rfl, hk, hql, hr2, b2, h2, hqs⟩ := hrel
    obtain ⟨wo, rfl⟩ : ∃ wo : World, wo = wr := ⟨_, rfl⟩
    by_cases hlt : k < G.length
    · have hOV := (hr2.ownV h2.outs).at
      have iK := fun w' => hOV.idx oneBoolG k (by rw [tabB_len]; exact hlt) w'
      have cK := hOV.cellV k (by rw [tabB_len]; exact hlt)
      rw [tabB_get _ _ _ hlt] at cK
      generalize valAt ov k = ka at *
      obtain ⟨bk, hbk⟩ : ∃ bk, ms k = bk := ⟨_, rfl⟩
      rw [hbk] at cK
      replace hOV := Lib.hid hOV
      cases bk with
      | true =>
        have hOQ := hr2.ownI h2.queue
        have hB2 : w.heap.size ≤ wo.heap.size := b2.size
        have hqs2 : ∀ x, x ∈ k :: qs ↔ (x < k + 1 ∧ ms x = true) := fun x => by
          rw [List.mem_cons, hqs x]
          constructor
          · rintro (rfl | ⟨a, b⟩)
            · exact ⟨by omega, hbk⟩
            · exact ⟨by omega, b⟩
          · rintro ⟨a, b⟩
            by_cases e : x = k
            · exact .inl e
            · exact .inr ⟨by omega, b⟩
        replace hqs2 := Lib.hid hqs2
        replace hqs := Lib.hid hqs
        replace hbk := Lib.hid hbk
        replace hr2 := Lib.hid hr2
        go_wp2_with (at_builtin; refine wpl_app1 rfl _ _ rfl w.heap.size qv (upI qs) k hOQ rfl rfl (by rw [upI_len]; omega) hB2 ?_)
        intro qv' w7 ho7 b7 hal7
        obtain ⟨f7, hr7, h7⟩ := h2.push hr2.out k ho7 hal7
        replace hr7 := Lib.hid hr7
        replace ho7 := Lib.hid ho7
        clear hal7
        go_wp2
        go_roundw
        case measure => simp [intOf]; omega
        case rel => exact ⟨k + 1, k :: qs, f7, qv', rfl, by go_num, by omega, by simp only [List.length_cons]; omega, hr7.out, b2.trans b7, h7, hqs2.out⟩
      | false =>
        have hqs2 : ∀ x, x ∈ qs ↔ (x < k + 1 ∧ ms x = true) := fun x => by
          rw [hqs x]
          constructor
          · rintro ⟨a, b⟩; exact ⟨by omega, b⟩
          · rintro ⟨a, b⟩
            by_cases e : x = k
            · subst e; rw [hbk] at b; cases b
            · exact ⟨by omega, b⟩
        replace hqs2 := Lib.hid hqs2
        replace hqs := Lib.hid hqs
        replace hbk := Lib.hid hbk
        replace hr2 := Lib.hid hr2
        go_wp2
        go_roundw
        case measure => simp [intOf]; omega
        case rel => exact ⟨k + 1, qs, f2, qv, rfl, by go_num, by omega, by omega, hr2.out, b2, h2, hqs2.out⟩
    · obtain rfl : k = G.length := by omega
      have hinv : RInv G.length (adjOf G) ms ms qs (fun _ => False) := ⟨fun _ _ q => q, fun x hx q => ⟨x, hx, q, .refl x⟩, fun x hx => ⟨((hqs x).1 hx).1, ((hqs x).1 hx).2⟩, fun x hx hmx hq _ => absurd ((hqs x).2 ⟨hx, hmx⟩) hq⟩
      replace hinv := Lib.hid hinv
      replace hqs := Lib.hid hqs
      replace hr2 := Lib.hid hr2
      go_wp2_with fail
      go_loopg [6] (2 * unm G.length ms + qs.length) (fun k qv wr => ∃ (m : Nat → Bool) (qs : List Nat) (f : Names) (qw : Value), qw = qv ∧ k = 2 * unm G.length m + qs.length ∧ k ≤ 3 * G.length ∧ Rows w.heap.size wr f ∧ Below w.heap.size w wr ∧ RN f ov qw G.length m qs ∧ RInv G.length (adjOf G) ms m qs (fun _ => False))
      case atStart => exact ⟨ms, qs, f2, qv, rfl, rfl, by have := unm_le G.length ms; omega, hr2.out, b2, h2, hinv.out⟩
      case round =>
        clear hinv hqs hr2 h2 b2 hql
        obtain ⟨m, qs, f3, qv, rfl, rfl, hk3, hr3, b3, h3, hI⟩ := hrel
        obtain ⟨wo, rfl⟩ : ∃ wo : World, wo = wr := ⟨_, rfl⟩
        cases qs with
        | nil =>
          have hOQ := hr3.ownI h3.queue
          have lQ := hOQ.at.len
          rw [upI_len, List.length_nil] at lQ
          have hall := hI.all hok.out.lt
          have hres := hr3.ownV h3.outs
          replace hall := Lib.hid hall
          replace hres := Lib.hid hres
          replace hI := Lib.hid hI
          replace hr3 := Lib.hid hr3
          go_wp2
          go_ret
          exact ⟨_, rfl, b3, m, hres.out, hall.out⟩
        | cons v r =>
          obtain ⟨g, c, rfl, hcap⟩ := h3.shape hr3
          have hun := unm_le G.length m
          obtain ⟨hvn, hmv⟩ := hI.queue v List.mem_cons_self
          have hOQ := (hr3.ownI h3.queue).at
          have iV := fun w' => hOQ.idx r.length (by rw [upI_len]; simp) w'
          have cV := hOQ.cellD r.length (by rw [upI_len]; simp)
          rw [upI_topR] at cV
          obtain ⟨f4, hr4, h4⟩ := h3.pop hr3
          have hpop := hI.pop
          obtain ⟨xv, iR, cR0, hM0⟩ := h.out.row v hvn
          have cR := (b3.cell (World.block_lt_of_cell? _ _ cR0)).trans cR0
          have hM := hM0.below b3
          have hgp := hok.out v hvn
          have hadj : adjOf G v = (G.getD v []).map Int.toNat := rfl
          generalize G.getD v [] = gx at *
          have lM := hM.len
          have hglen := hM.len_le
          generalize valAt (.slice na G.length nc) v = ra at *
          generalize valAt (.slice (some ⟨g, 0, none⟩) (r.length + 1) c) r.length = qa at *
          simp only [List.length_cons] at hk3
          have hwr : IntKind.i64.wrap (r.length : Int) = r.length := wrapK (by omega) (by omega)
          have hsl : (0 ≤ (r.length : Int) ∧ (r.length : Int) ≤ (c : Int)) := ⟨by omega, by omega⟩
          replace hOQ := Lib.hid hOQ
          replace hM := Lib.hid hM
          replace hM0 := Lib.hid hM0
          replace hgp := Lib.hid hgp
          replace hadj := Lib.hid hadj
          replace hr3 := Lib.hid hr3
          replace hr4 := Lib.hid hr4
          replace hI := Lib.hid hI
          replace hpop := Lib.hid hpop
          replace hmv := Lib.hid hmv
          go_wp2_with fail
          clear iV cV iR cR lM
          go_loopw [6, 46] (fun qv jv wr => ∃ (j : Nat) (m' : Nat → Bool) (qs : List Nat) (f : Names) (qw : Value), qw = qv ∧ jv = .int .i64 j ∧ j ≤ gx.length ∧ 2 * unm G.length m' + qs.length ≤ 2 * unm G.length m + r.length ∧ Rows w.heap.size wr f ∧ Below w.heap.size w wr ∧ RN f ov qw G.length m' qs ∧ RInv G.length (adjOf G) ms m' qs (fun x => x = v) ∧ m' v = true ∧ ∀ i, i < j → m' (gx.getD i 0).toNat = true) (fun _ jv _ => gx.length - (intOf jv).toNat)
          case atStart => exact ⟨0, m, r, f4, _, rfl, rfl, by omega, Nat.le_refl _, hr4.out, b3, h4, hpop.out, hmv.out, fun i hi => by omega⟩
          case round =>
            clear hOQ hM hr3 hr4 h4 h3 b3 hpop hI hmv hwr hsl hcap
            obtain ⟨j, m', qs, f5, qv, rfl, rfl, hj, hle, hr5, b5, h5, hI, hmv, hdone⟩ := hrel
            obtain ⟨wo, rfl⟩ : ∃ wo : World, wo = wr := ⟨_, rfl⟩
            by_cases hjl : j < gx.length
            · have hMj := hM0.out.below b5
              have hgj := hgp.out gx[j] (List.getElem_mem hjl)
              obtain ⟨t, hu⟩ : ∃ t : Nat, gx[j] = t := Int.eq_ofNat_of_zero_le hgj.1
              have htn : t < G.length := by rw [hu] at hgj; omega
              have hgd : gx.getD j 0 = (t : Int) := by rw [List.getD_eq_getElem?_getD, List.getElem?_eq_getElem hjl, hu]; rfl
              have hta : t ∈ adjOf G v := by
                rw [hadj.out]
                exact List.mem_map.2 ⟨gx[j], List.getElem_mem hjl, by rw [hu]; rfl⟩
              have iJ := fun w' => hMj.idx j hjl w'
              have cJ := hMj.cellD j hjl
              rw [hgd] at cJ
              have hOV := (hr5.ownV h5.outs)
              have iT := fun w' => hOV.at.idx oneBoolG t (by rw [tabB_len]; exact htn) w'
              have cT := hOV.at.cellV t (by rw [tabB_len]; exact htn)
              rw [tabB_get _ _ _ htn] at cT
              have fT := hOV.frz t (by rw [tabB_len]; exact htn)
              have kT := (hOV.blkB t (by rw [tabB_len]; exact htn)).2
              obtain ⟨f6, hr6, h6⟩ := h5.mark hr5 t htn
              have b6 : Below w.heap.size w (wo.setCell (valAt ov t) (.bool true)) := b5.setCell kT _
              generalize valAt xv j = ja at *
              generalize valAt ov t = ta at *
              obtain ⟨bt, hbt⟩ : ∃ bt, m' t = bt := ⟨_, rfl⟩
              rw [hbt] at cT
              cases bt with
              | false =>
                have hunm := unm_upd G.length m' t htn hbt
                have hmark := hI.mark hvn hmv hta htn
                have hmv2 : updN m' t true v = true := by
                  by_cases e : v = t
                  · subst e; exact updN_same _ _ _
                  · rw [updN_other _ _ _ e]; exact hmv
                have hdone2 : ∀ i, i < j + 1 → updN m' t true (gx.getD i 0).toNat = true := fun i hi => by
                  by_cases e : (gx.getD i 0).toNat = t
                  · rw [e]; exact updN_same _ _ _
                  · rw [updN_other _ _ _ e]
                    by_cases q : i = j
                    · subst q; rw [hgd] at e; exact absurd rfl e
                    · exact hdone i (by omega)
                replace hmark := Lib.hid hmark
                replace hmv2 := Lib.hid hmv2
                replace hdone2 := Lib.hid hdone2
                replace hdone := Lib.hid hdone
                replace hmv := Lib.hid hmv
                replace hI := Lib.hid hI
                replace hbt := Lib.hid hbt
                replace hr5 := Lib.hid hr5
                replace hr6 := Lib.hid hr6
                replace hOV := Lib.hid hOV
                replace hMj := Lib.hid hMj
                replace hgd := Lib.hid hgd
                replace hgj := Lib.hid hgj
                replace hu := Lib.hid hu
                replace hta := Lib.hid hta
                go_upto_region 17 with fail
                obtain ⟨W6, hW6⟩ : ∃ W6 : World, W6 = wo.setCell ta (.bool true) := ⟨_, rfl⟩
                rw [← hW6]
                rw [← hW6] at hr6 b6
                clear hW6 iJ cJ iT cT fT
                have hOQ := hr6.out.ownI h6.queue
                have hB6 : w.heap.size ≤ W6.heap.size := b6.size
                go_wp2_with (at_builtin; refine wpl_app1 rfl _ _ rfl w.heap.size qv (upI qs) t hOQ rfl rfl (by rw [upI_len]; omega) hB6 ?_)
                intro qv' w7 ho7 b7 hal7
                obtain ⟨f7, hr7, h7⟩ := h6.push hr6.out t ho7 hal7
                replace hr7 := Lib.hid hr7
                replace ho7 := Lib.hid ho7
                clear hal7
                go_wp2
                go_roundw
                case measure => simp [intOf]; omega
                case rel => exact ⟨j + 1, updN m' t true, t :: qs, f7, qv', rfl, by go_num, by omega, by simp only [List.length_cons]; omega, hr7.out, b6.trans b7, h7, hmark.out, hmv2.out, hdone2.out⟩
              | true =>
                have hdone2 : ∀ i, i < j + 1 → m' (gx.getD i 0).toNat = true := fun i hi => by
                  by_cases q : i = j
                  · subst q; rw [hgd]; exact hbt
                  · exact hdone i (by omega)
                replace hdone2 := Lib.hid hdone2
                replace hdone := Lib.hid hdone
                replace hmv := Lib.hid hmv
                replace hI := Lib.hid hI
                replace hbt := Lib.hid hbt
                replace hr5 := Lib.hid hr5
                replace hr6 := Lib.hid hr6
                replace hOV := Lib.hid hOV
                replace hMj := Lib.hid hMj
                replace hgd := Lib.hid hgd
                replace hgj := Lib.hid hgj
                replace hu := Lib.hid hu
                replace hta := Lib.hid hta
                go_wp2
                go_roundw
                case measure => simp [intOf]; omega
                case rel => exact ⟨j + 1, m', qs, f5, qv, rfl, by go_num, by omega, by omega, hr5.out, b5, h5, hI.out, hmv.out, hdone2.out⟩
            · obtain rfl : j = gx.length := by omega
              have hfin := hI.finish (fun t ht => by
                rw [hadj.out] at ht
                obtain ⟨x, hx, rfl⟩ := List.mem_map.1 ht
                obtain ⟨i, hi, rfl⟩ := List.mem_iff_getElem.1 hx
                have := hdone i hi
                rw [List.getD_eq_getElem?_getD, List.getElem?_eq_getElem hi] at this
                exact this)
              replace hfin := Lib.hid hfin
              replace hdone := Lib.hid hdone
              replace hmv := Lib.hid hmv
              replace hI := Lib.hid hI
              replace hr5 := Lib.hid hr5
              go_wp2
              go_roundg (2 * unm G.length m' + qs.length)
              case measure => simp only [List.length_cons]; omega
              case rel => exact ⟨m', qs, f5, qv, rfl, rfl, by omega, hr5.out, b5, h5, hfin.out⟩
end Go.Proofs.YtilpckngghffoaaGreatDoor

namespace Go.Proofs.YtilpckngghffoaaGreatDoor
open Go.RowKit
set_option maxRecDepth 100000

/-- u stands on a loop. -/
def OnLoop (adj : Nat → List Nat) (u : Nat) : Prop := ∃ t ∈ adj u, Goes adj t u
/-- v stands between two loops. -/
def IsLive (n : Nat) (adj : Nat → List Nat) (v : Nat) : Prop := (∃ u, u < n ∧ OnLoop adj u ∧ Goes adj u v) ∧ ∃ u, u < n ∧ OnLoop adj u ∧ Goes adj v u
structure LiveList (n : Nat) (adj : Nat → List Nat) (L : List Nat) : Prop where
  sorted : L.Pairwise (· < ·)
  mem : ∀ v, v ∈ L ↔ v < n ∧ IsLive n adj v
theorem turned_adj {G H : List (List Int)} (h : TurnedOf G H) (hok : GraphOk G) {t v : Nat} (ht : t < G.length) : v ∈ adjOf H t ↔ v < G.length ∧ t ∈ adjOf G v := by
  unfold adjOf
  simp only [List.mem_map]
  constructor
  · rintro ⟨y, hy, rfl⟩
    obtain ⟨x, rfl, hx, hm⟩ := (h.2.2 t ht y).1 hy
    exact ⟨by simpa using hx, (t : Int), by simpa using hm, by simp⟩
  · rintro ⟨hv, y, hy, rfl⟩
    have := hok v hv y hy
    exact ⟨(v : Int), (h.2.2 y.toNat ht v).2 ⟨v, rfl, hv, by rw [Int.toNat_of_nonneg this.1]; exact hy⟩, by simp⟩
theorem turned_ok {G H : List (List Int)} (h : TurnedOf G H) : GraphOk H := by
  intro t ht y hy
  rw [h.1] at ht ⊢
  obtain ⟨x, rfl, hx, _⟩ := (h.2.2 t ht y).1 hy
  omega
theorem goes_lt {G : List (List Int)} (hok : GraphOk G) {x y : Nat} (h : Goes (adjOf G) x y) (hx : x < G.length) : y < G.length :=
  Goes.closed (P := fun z => z < G.length) (fun z hz t ht => hok.lt z hz t ht) h hx
theorem turned_goes {G H : List (List Int)} (h : TurnedOf G H) (hok : GraphOk G) {x y : Nat} (hg : Goes (adjOf H) x y) (hx : x < G.length) : Goes (adjOf G) y x := by
  induction hg with
  | refl => exact .refl _
  | @step y z hg hz ih =>
    have hy : y < G.length := by have := goes_lt (turned_ok h) hg (by rw [h.1]; exact hx); rwa [h.1] at this
    exact (Goes.one ((turned_adj h hok hy).1 hz).2).trans ih
theorem goes_turned {G H : List (List Int)} (h : TurnedOf G H) (hok : GraphOk G) {x y : Nat} (hg : Goes (adjOf G) x y) (hx : x < G.length) : Goes (adjOf H) y x := by
  induction hg with
  | refl => exact .refl _
  | @step y z hg hz ih =>
    have hy := goes_lt hok hg hx
    exact (Goes.one ((turned_adj h hok (hok.lt y hy z hz)).2 ⟨hy, hz⟩)).trans ih
theorem onLoop_parts {G : List (List Int)} (hok : GraphOk G) {ps : List Int} (hp : PartsOf G.length (adjOf G) ps) {x : Nat} (hx : x < G.length) : OnLoop (adjOf G) x ↔ ∃ t ∈ adjOf G x, ps.getD t 0 = ps.getD x 0 := by
  constructor
  · rintro ⟨t, ht, hg⟩
    exact ⟨t, ht, (hp.eq (hok.lt x hx t ht) hx).2 ⟨hg, .one ht⟩⟩
  · rintro ⟨t, ht, he⟩
    exact ⟨t, ht, ((hp.eq (hok.lt x hx t ht) hx).1 he).1⟩
/-- What Live leaves. -/
def LivePost (r : Nat → Addr) (w : World) (G : List (List Int)) (x y : Value) (w' : World) : Prop :=
  ErrIs r w' (checkG G) y ∧ (checkG G = none → ∃ L, LiveList G.length (adjOf G) L ∧ OwnI w.heap.size w' x (castI L)) ∧ (checkG G ≠ none → x = .slice none 0 0)
/-- The marks of the vertices on loops: of the first k, and of the next by its first j arrows. -/
def LoopTo (G : List (List Int)) (ps : List Int) (k j : Nat) (m : Nat → Bool) : Prop :=
  ∀ x, x < G.length → (m x = true ↔ (x < k ∧ ∃ t ∈ adjOf G x, ps.getD t 0 = ps.getD x 0) ∨ (x = k ∧ ∃ t ∈ (adjOf G k).take j, ps.getD t 0 = ps.getD k 0))
theorem LoopTo.next {G : List (List Int)} {ps : List Int} {k : Nat} {m : Nat → Bool} (h : LoopTo G ps k (adjOf G k).length m) : LoopTo G ps (k + 1) 0 m := by
  intro x hx
  rw [h x hx, List.take_length]
  constructor
  · rintro (⟨a, b⟩ | ⟨rfl, b⟩)
    · exact .inl ⟨by omega, b⟩
    · exact .inl ⟨by omega, b⟩
  · rintro (⟨a, b⟩ | ⟨_, t, ht, _⟩)
    · by_cases e : x = k
      · subst e; exact .inr ⟨rfl, b⟩
      · exact .inl ⟨by omega, b⟩
    · simp at ht
theorem LoopTo.add {G : List (List Int)} {ps : List Int} {k j t : Nat} {m : Nat → Bool} (h : LoopTo G ps k j m) (ht : (adjOf G k)[j]? = some t) (m' : Nat → Bool)
    (hm : m' = if ps.getD t 0 = ps.getD k 0 then updN m k true else m) : LoopTo G ps k (j + 1) m' := by
  intro x hx
  have htk : (adjOf G k).take (j + 1) = (adjOf G k).take j ++ [t] := by rw [List.take_add_one, ht]; rfl
  by_cases hp : ps.getD t 0 = ps.getD k 0
  · rw [if_pos hp] at hm
    subst hm
    by_cases e : x = k
    · subst e
      rw [updN_same]
      exact ⟨fun _ => .inr ⟨rfl, t, by rw [htk]; simp, hp⟩, fun _ => rfl⟩
    · rw [updN_other _ _ _ e, h x hx]
      exact ⟨fun q => q.imp id (fun q => absurd q.1 e), fun q => q.imp id (fun q => absurd q.1 e)⟩
  · rw [if_neg hp] at hm
    subst hm
    rw [h x hx, htk]
    constructor
    · rintro (q | ⟨e, s, hs, hq⟩)
      · exact .inl q
      · exact .inr ⟨e, s, List.mem_append_left _ hs, hq⟩
    · rintro (q | ⟨e, s, hs, hq⟩)
      · exact .inl q
      · rcases List.mem_append.1 hs with hs | hs
        · exact .inr ⟨e, s, hs, hq⟩
        · cases List.mem_singleton.1 hs; exact absurd hq hp

set_option maxHeartbeats 4000000 in
theorem live_any (r : Nat → Addr) (na : Option Addr) (nc : Nat) (G : List (List Int)) (w : World) (hg : Glob r w) (h : ListsAt w (.slice na G.length nc) G) (hsz : ∀ k, k < G.length → (G.getD k []).length ≤ 17592186044416) :
    Calls Tryz.prog 100 #[.slice na G.length nc] w (Ret2 (LivePost r w G) w) := by
  have hP := parts_any r na nc G w hg h hsz
  replace h := Lib.hid h
  replace hg := Lib.hid hg
  replace hsz := Lib.hid hsz
  cases hck : checkG G with
  | some t =>
    replace hck := Lib.hid hck
    go_enter Tryz.func100, Tryz.ntmps100
    go_wp2_with fail
    refine hP.mono ?_
    rintro e w1 ⟨x, y, rfl, b1, he, _, hx⟩
    rw [hck.out] at he hx
    obtain rfl := hx (by simp)
    obtain ⟨T, a, rfl⟩ := he.some_shape
    replace he := Lib.hid he
    clear hx hP
    go_wp2
    go_ret2
    exact ⟨_, _, rfl, b1, ⟨by rw [hck.out]; exact he.out, ⟨fun q => (by rw [hck.out] at q; cases q), fun _ => rfl⟩⟩⟩
  | none =>
    obtain ⟨hn, harr, hok⟩ := checkG_none hck
    replace hck := Lib.hid hck
    replace hok := Lib.hid hok
    go_enter Tryz.func100, Tryz.ntmps100
    go_wp2_with fail
    refine hP.mono ?_
    rintro e w1 ⟨pv, y, rfl, b1, he, hps0, _⟩
    rw [hck.out] at he hps0
    obtain rfl := he.none_eq
    obtain ⟨ps, hps, hpo⟩ := hps0 rfl
    clear hps0
    have hpl := hps.len
    obtain ⟨pa, pn, pc, rfl⟩ := hpo.at.shape
    have hp1 := hpo.at
    clear he hP hpo
    obtain ⟨lv, w2, mk, hl2, hb2⟩ := run_makeW oneBoolG (G.length : Int) G.length w1 rfl (by omega)
    have hz : tabB G.length (fun _ => false) = List.replicate G.length (.bool false) := by
      unfold tabB; apply List.ext_getElem <;> simp
    rw [← hz] at hl2
    obtain ⟨la, ln, lc, rfl⟩ := hl2.shape
    have hz0 : LoopTo G ps 0 0 (fun _ => false) := by
      intro x hx
      simp
    replace hz0 := Lib.hid hz0
    replace hz := Lib.hid hz
    replace hl2 := Lib.hid hl2
    replace hp1 := Lib.hid hp1
    replace hps := Lib.hid hps
    replace hpl := Lib.hid hpl
    go_wp2_with fail
    clear mk
    go_loopw [28] (fun kv wr => ∃ (k : Nat) (m : Nat → Bool), k ≤ G.length ∧ kv = .int .i64 k ∧ OwnV 4 w1.heap.size wr (.slice la ln lc) (tabB G.length m) ∧ Below w1.heap.size w1 wr ∧ LoopTo G ps k 0 m) (fun kv _ => G.length - (intOf kv).toNat)
    case atStart => exact ⟨0, _, by omega, rfl, hl2.out, hb2, hz0.out⟩
    case round =>
      clear hl2
      obtain ⟨k, m, hk, rfl, hlo, b3, hm⟩ := hrel
      obtain ⟨wo, rfl⟩ : ∃ wo : World, wo = wr := ⟨_, rfl⟩
      by_cases hlt : k < G.length
      · obtain ⟨mv, iR, cR0, hM0⟩ := h.out.row k hlt
        have hbw : Below w.heap.size w wo := b1.trans (b3.mono b1.size)
        have cR := (hbw.cell (World.block_lt_of_cell? _ _ cR0)).trans cR0
        have hM := hM0.below hbw
        have hgp := hok.out k hlt
        have hal := adjOf_len G k
        have hag : ∀ j (hj : j < (G.getD k []).length), (adjOf G k)[j]? = some ((G.getD k [])[j]).toNat := fun j hj => by
          show ((G.getD k []).map Int.toNat)[j]? = _
          rw [List.getElem?_map, List.getElem?_eq_getElem hj]; rfl
        have hglen := hsz.out k hlt
        generalize G.getD k [] = gk at *
        have lM := hM.len
        generalize valAt (.slice na G.length nc) k = ra at *
        replace hm := Lib.hid hm
        replace hlo := Lib.hid hlo
        replace hM := Lib.hid hM
        replace hM0 := Lib.hid hM0
        replace hgp := Lib.hid hgp
        replace hag := Lib.hid hag
        replace hal := Lib.hid hal
        go_wp2_with fail
        clear iR cR cR0 lM hbw
        go_loopw [35] (fun jv wr => ∃ (j : Nat) (m : Nat → Bool), j ≤ gk.length ∧ jv = .int .i64 j ∧ OwnV 4 w1.heap.size wr (.slice la ln lc) (tabB G.length m) ∧ Below w1.heap.size w1 wr ∧ LoopTo G ps k j m) (fun jv _ => gk.length - (intOf jv).toNat)
        case atStart => exact ⟨0, m, by omega, rfl, hlo.out, b3, hm.out⟩
        case round =>
          clear hlo b3 hm hM
          obtain ⟨j, m, hj, rfl, hlo, b3, hm⟩ := hrel
          obtain ⟨wo, rfl⟩ : ∃ wo : World, wo = wr := ⟨_, rfl⟩
          by_cases hjl : j < gk.length
          · have hMj := hM0.out.below (b1.trans (b3.mono b1.size))
            have hgj := hgp.out gk[j] (List.getElem_mem hjl)
            obtain ⟨t, hu⟩ : ∃ t : Nat, gk[j] = t := Int.eq_ofNat_of_zero_le hgj.1
            have htn : t < G.length := by rw [hu] at hgj; omega
            have hgd : gk.getD j 0 = (t : Int) := by rw [List.getD_eq_getElem?_getD, List.getElem?_eq_getElem hjl, hu]; rfl
            have hta : (adjOf G k)[j]? = some t := by rw [hag.out j hjl, hu]; rfl
            have iJ := fun w' => hMj.idx j hjl w'
            have cJ := hMj.cellD j hjl
            rw [hgd] at cJ
            have hPt := hp1.out.below b3
            have iT := fun w' => hPt.idx t (by rw [hpl.out]; exact htn) w'
            have cT := hPt.cellD t (by rw [hpl.out]; exact htn)
            have iK := fun w' => hPt.idx k (by rw [hpl.out]; exact hlt) w'
            have cK := hPt.cellD k (by rw [hpl.out]; exact hlt)
            have hadd := hm.add hta
            have iL := fun w' => hlo.at.idx oneBoolG k (by rw [tabB_len]; exact hlt) w'
            have cL := hlo.at.cellV k (by rw [tabB_len]; exact hlt)
            rw [tabB_get _ _ _ hlt] at cL
            have fL := hlo.frz k (by rw [tabB_len]; exact hlt)
            have kL := (hlo.blkB k (by rw [tabB_len]; exact hlt)).2
            have hset := hlo.set k (by rw [tabB_len]; exact hlt) (.bool true)
            rw [tabB_upd] at hset
            generalize valAt mv j = ja at *
            generalize valAt (.slice pa pn pc) t = ta at *
            generalize valAt (.slice pa pn pc) k = ka at *
            generalize valAt (.slice la ln lc) k = qa at *
            obtain ⟨pt, hpt⟩ : ∃ pt, ps.getD t 0 = pt := ⟨_, rfl⟩
            obtain ⟨pk, hpk⟩ : ∃ pk, ps.getD k 0 = pk := ⟨_, rfl⟩
            rw [hpt] at cT hadd
            rw [hpk] at cK hadd
            generalize m k = mk at cL
            replace hm := Lib.hid hm
            replace hlo := Lib.hid hlo
            replace hset := Lib.hid hset
            replace hPt := Lib.hid hPt
            replace hMj := Lib.hid hMj
            replace hpt := Lib.hid hpt
            replace hpk := Lib.hid hpk
            replace hgd := Lib.hid hgd
            replace hgj := Lib.hid hgj
            replace hu := Lib.hid hu
            replace hta := Lib.hid hta
            by_cases he : pt = pk
            · have hq : (pt == pk) = true := by simp [he]
              have hn2 := hadd _ (if_pos he).symm
              replace hn2 := Lib.hid hn2
              replace he := Lib.hid he
              clear hadd
              go_upto_region 11 with fail
              go_quiet (fail)
              go_wp2
              go_roundw
              case measure => simp [intOf]; omega
              case rel =>
                refine ⟨j + 1, _, by omega, by go_num, ?_, ?_, hn2.out⟩
                · exact hset.out
                · exact (below_drewN b3 nq).setCell kL _
            · have hq : (pt == pk) = false := by simp [he]
              have hn2 := hadd _ (if_neg he).symm
              replace hn2 := Lib.hid hn2
              replace he := Lib.hid he
              clear hadd
              go_upto_region 11 with fail
              go_quiet (fail)
              go_wp2
              go_roundw
              case measure => simp [intOf]; omega
              case rel => exact ⟨j + 1, m, by omega, by go_num, hlo.out, b3.trans ⟨rfl, rfl, rfl, Nat.le_refl _, fun _ _ => rfl⟩, hn2.out⟩
          · obtain rfl : j = gk.length := by omega
            have hnext := (hal.out ▸ hm : LoopTo G ps k (adjOf G k).length m).next
            replace hnext := Lib.hid hnext
            replace hm := Lib.hid hm
            replace hlo := Lib.hid hlo
            go_wp2
            go_roundw
            case measure => simp [intOf]; omega
            case rel => exact ⟨k + 1, m, by omega, by go_num, hlo.out, b3, hnext.out⟩
      · obtain rfl : k = G.length := by omega
        have hbw : Below w.heap.size w wo := b1.trans (b3.mono b1.size)
        have hR1 := reach_any na nc G (.slice la ln lc) m wo (h.out.below hbw) hok.out (by omega) hlo.at
        have hon : ∀ x, x < G.length → (m x = true ↔ OnLoop (adjOf G) x) := fun x hx => by
          rw [hm x hx, onLoop_parts hok.out hps.out hx]
          constructor
          · rintro (⟨_, q⟩ | ⟨e, _⟩)
            · exact q
            · omega
          · intro q; exact .inl ⟨hx, q⟩
        replace hm := Lib.hid hm
        replace hon := Lib.hid hon
        replace hR1 := Lib.hid hR1
        have hlo' := Lib.hid hlo
        clear hlo
        go_wp2_with fail
        refine hR1.out.mono ?_
        rintro e w4 ⟨bv, rfl, b4, bm, hbo, hbm⟩
        have hb4 := Below.step hbw b4
        have hBk := graph_back na nc G w4 (h.out.below hb4) hok.out (by omega) harr
        replace hBk := Lib.hid hBk
        go_wp2_with fail
        refine hBk.out.mono ?_
        rintro e w5 ⟨hv, rfl, b5, H, hT, hHl⟩
        obtain ⟨ha, hc, rfl⟩ := hHl.shape
        have hHn := hT.1
        have hR2 := reach_any ha hc H (.slice la ln lc) m w5 hHl (turned_ok hT) (by omega) (by rw [hHn]; exact (hlo'.out.at.below b4).below b5)
        replace hR2 := Lib.hid hR2
        replace hHn := Lib.hid hHn
        replace hT := Lib.hid hT
        replace hHl := Lib.hid hHl
        go_wp2_with fail
        refine hR2.out.mono ?_
        rintro e w6 ⟨av, rfl, b6, am, hao, ham⟩
        rw [hHn.out] at hao ham
        have hboth : ∀ x, x < G.length → ((bm x && am x) = true ↔ IsLive G.length (adjOf G) x) := fun x hx => by
          rw [Bool.and_eq_true, hbm x hx, ham x hx]
          unfold IsLive
          constructor
          · rintro ⟨⟨u, hu, h1, h2⟩, v, hv, h3, h4⟩
            exact ⟨⟨u, hu, (hon.out u hu).1 h1, h2⟩, v, hv, (hon.out v hv).1 h3, turned_goes hT.out hok.out h4 hv⟩
          · rintro ⟨⟨u, hu, h1, h2⟩, v, hv, h3, h4⟩
            exact ⟨⟨u, hu, (hon.out u hu).2 h1, h2⟩, v, hv, (hon.out v hv).2 h3, goes_turned hT.out hok.out h4 hx⟩
        have hbv := hbo.at.below (Below.step b5 b6)
        have hav := hao.at
        have hw6 := Below.step hb4 (Below.step b5 b6)
        replace hboth := Lib.hid hboth
        replace hbm := Lib.hid hbm
        replace ham := Lib.hid ham
        replace hbv := Lib.hid hbv
        replace hav := Lib.hid hav
        replace hbo := Lib.hid hbo
        replace hao := Lib.hid hao
        clear hR1 hR2 hBk
        go_wp2_with fail
        go_loopw [13, 62] (fun qv kv wr => ∃ (k : Nat) (L : List Nat) (qw : Value), qw = qv ∧ kv = .int .i64 k ∧ k ≤ G.length ∧ L.length ≤ k ∧ OwnI w6.heap.size wr qw (castI L) ∧ Below w6.heap.size w6 wr ∧ L.Pairwise (· < ·) ∧ ∀ v, v ∈ L ↔ (v < k ∧ (bm v && am v) = true)) (fun _ kv _ => G.length - (intOf kv).toNat)
        case atStart => exact ⟨0, [], _, rfl, rfl, by omega, by simp, OwnI.nil _ _, Below.refl _ _, List.Pairwise.nil, fun v => ⟨fun q => (by cases q), fun q => by omega⟩⟩
        case round =>
          obtain ⟨k, L, qv, rfl, rfl, hk, hLk, hLo, b7, hLs, hLm⟩ := hrel
          obtain ⟨wo, rfl⟩ : ∃ wo : World, wo = wr := ⟨_, rfl⟩
          by_cases hlt : k < G.length
          · have hB := hbv.out.below b7
            have hA := hav.out.below b7
            have iB := fun w' => hB.idx oneBoolG k (by rw [tabB_len]; exact hlt) w'
            have cB := hB.cellV k (by rw [tabB_len]; exact hlt)
            rw [tabB_get _ _ _ hlt] at cB
            have iA := fun w' => hA.idx oneBoolG k (by rw [tabB_len]; exact hlt) w'
            have cA := hA.cellV k (by rw [tabB_len]; exact hlt)
            rw [tabB_get _ _ _ hlt] at cA
            generalize valAt bv k = qb at *
            generalize valAt av k = qa at *
            have hyes : (bm k && am k) = true → ∀ v, v ∈ L ++ [k] ↔ (v < k + 1 ∧ (bm v && am v) = true) := fun hq v => by
              rw [List.mem_append, hLm v, List.mem_singleton]
              constructor
              · rintro (⟨a, b⟩ | rfl)
                · exact ⟨by omega, b⟩
                · exact ⟨by omega, hq⟩
              · rintro ⟨a, b⟩
                by_cases e : v = k
                · exact .inr e
                · exact .inl ⟨by omega, b⟩
            have hno : (bm k && am k) = false → ∀ v, v ∈ L ↔ (v < k + 1 ∧ (bm v && am v) = true) := fun hq v => by
              rw [hLm v]
              constructor
              · rintro ⟨a, b⟩; exact ⟨by omega, b⟩
              · rintro ⟨a, b⟩
                by_cases e : v = k
                · subst e; rw [hq] at b; cases b
                · exact ⟨by omega, b⟩
            have hsrt2 : (L ++ [k]).Pairwise (· < ·) := by
              rw [List.pairwise_append]
              refine ⟨hLs, List.pairwise_singleton _ _, fun x hx y hy => ?_⟩
              cases List.mem_singleton.1 hy
              exact ((hLm x).1 hx).1
            obtain ⟨bk, hbk⟩ : ∃ bk, bm k = bk := ⟨_, rfl⟩
            obtain ⟨ak, hak⟩ : ∃ ak, am k = ak := ⟨_, rfl⟩
            rw [hbk] at cB hyes hno
            rw [hak] at cA hyes hno
            replace hB := Lib.hid hB
            replace hA := Lib.hid hA
            replace hLm := Lib.hid hLm
            replace hLs := Lib.hid hLs
            replace hsrt2 := Lib.hid hsrt2
            replace hbk := Lib.hid hbk
            replace hak := Lib.hid hak
            cases bk with
            | false =>
              have hn := hno rfl
              replace hn := Lib.hid hn
              replace hLo := Lib.hid hLo
              clear hyes hno
              go_wp2
              go_roundw
              case measure => simp [intOf]; omega
              case rel => exact ⟨k + 1, L, qv, rfl, by go_num, by omega, by omega, hLo.out, b7, hLs.out, hn.out⟩
            | true =>
              cases ak with
              | false =>
                have hn := hno rfl
                replace hn := Lib.hid hn
                replace hLo := Lib.hid hLo
                clear hyes hno
                go_wp2
                go_roundw
                case measure => simp [intOf]; omega
                case rel => exact ⟨k + 1, L, qv, rfl, by go_num, by omega, by omega, hLo.out, b7, hLs.out, hn.out⟩
              | true =>
                have hy := hyes rfl
                replace hy := Lib.hid hy
                clear hyes hno
                have hB7 : w6.heap.size ≤ wo.heap.size := b7.size
                go_wp2_with (at_builtin; refine wpl_app1 rfl _ _ rfl w6.heap.size qv (castI L) k hLo rfl rfl (by rw [castI_len]; omega) hB7 ?_)
                intro qv' w8 ho8 b8 hal8
                replace ho8 := Lib.hid ho8
                clear hal8 hLo
                go_wp2
                go_roundw
                case measure => simp [intOf]; omega
                case rel => exact ⟨k + 1, L ++ [k], qv', rfl, by go_num, by omega, by rw [List.length_append]; simp only [List.length_cons, List.length_nil]; omega, by rw [castI_snoc]; exact ho8.out, b7.trans b8, hsrt2.out, hy.out⟩
          · obtain rfl : k = G.length := by omega
            have hLL : LiveList G.length (adjOf G) L := ⟨hLs, fun v => by
              rw [hLm v]
              constructor
              · rintro ⟨a, b⟩; exact ⟨a, (hboth.out v a).1 b⟩
              · rintro ⟨a, b⟩; exact ⟨a, (hboth.out v a).2 b⟩⟩
            obtain ⟨qa, qn, qc, rfl⟩ := hLo.at.shape
            replace hLL := Lib.hid hLL
            replace hLo := Lib.hid hLo
            replace hLm := Lib.hid hLm
            replace hLs := Lib.hid hLs
            go_wp2
            go_ret2
            exact ⟨_, _, rfl, Below.step hw6 b7, ⟨by rw [hck.out]; rfl, ⟨fun _ => ⟨L, hLL.out, hLo.out.mono hw6.size⟩, fun q => absurd hck.out q⟩⟩⟩
end Go.Proofs.YtilpckngghffoaaGreatDoor

namespace Go.Proofs.YtilpckngghffoaaGreatDoor
open Go.RowKit
set_option maxRecDepth 100000

/-- The least of the first k neighbours that are nearer by one. -/
def BestTo (l : List Nat) (D : Nat → Int) (d : Int) (k : Nat) (b : Int) : Prop :=
  (b = -1 ∧ ∀ t ∈ l.take k, D t ≠ d) ∨ ∃ m : Nat, b = m ∧ m ∈ l.take k ∧ D m = d ∧ ∀ t ∈ l.take k, D t = d → m ≤ t
theorem BestTo.zero (l : List Nat) (D : Nat → Int) (d : Int) : BestTo l D d 0 (-1) := .inl ⟨rfl, fun t ht => by simp at ht⟩
theorem BestTo.low {l : List Nat} {D : Nat → Int} {d : Int} {k : Nat} {b : Int} (h : BestTo l D d k b) : -1 ≤ b := by
  rcases h with ⟨h, _⟩ | ⟨m, h, _⟩ <;> omega
theorem take_mem {l : List Nat} {k t : Nat} (ht : l[k]? = some t) (x : Nat) : x ∈ l.take (k + 1) ↔ x ∈ l.take k ∨ x = t := by
  rw [List.take_add_one, ht]; simp
theorem BestTo.skip {l : List Nat} {D : Nat → Int} {d : Int} {k : Nat} {b : Int} (h : BestTo l D d k b) {t : Nat} (ht : l[k]? = some t) (hd : D t ≠ d) : BestTo l D d (k + 1) b := by
  rcases h with ⟨h1, h2⟩ | ⟨m, h1, h2, h3, h4⟩
  · refine .inl ⟨h1, fun x hx => ?_⟩
    rcases (take_mem ht x).1 hx with hx | rfl
    · exact h2 x hx
    · exact hd
  · refine .inr ⟨m, h1, (take_mem ht m).2 (.inl h2), h3, fun x hx hxd => ?_⟩
    rcases (take_mem ht x).1 hx with hx | rfl
    · exact h4 x hx hxd
    · exact absurd hxd hd
theorem BestTo.take {l : List Nat} {D : Nat → Int} {d : Int} {k : Nat} {b : Int} (h : BestTo l D d k b) {t : Nat} (ht : l[k]? = some t) (hd : D t = d) (hb : b < 0 ∨ (t : Int) < b) : BestTo l D d (k + 1) t := by
  refine .inr ⟨t, rfl, (take_mem ht t).2 (.inr rfl), hd, fun x hx hxd => ?_⟩
  rcases (take_mem ht x).1 hx with hx | rfl
  · rcases h with ⟨h1, h2⟩ | ⟨m, h1, h2, h3, h4⟩
    · exact absurd hxd (h2 x hx)
    · have := h4 x hx hxd; omega
  · exact Nat.le_refl _
theorem BestTo.stay {l : List Nat} {D : Nat → Int} {d : Int} {k : Nat} {b : Int} (h : BestTo l D d k b) {t : Nat} (ht : l[k]? = some t) (hb : 0 ≤ b) (hbt : b ≤ t) : BestTo l D d (k + 1) b := by
  rcases h with ⟨h1, h2⟩ | ⟨m, h1, h2, h3, h4⟩
  · omega
  · refine .inr ⟨m, h1, (take_mem ht m).2 (.inl h2), h3, fun x hx hxd => ?_⟩
    rcases (take_mem ht x).1 hx with hx | rfl
    · exact h4 x hx hxd
    · omega

/-- Where the way stands. -/
structure Down (n : Nat) (adj : Nat → List Nat) (x y : Nat) (D : Nat → Int) (out : List Nat) (v : Nat) : Prop where
  low : v < n
  there : 0 ≤ D v
  len : (out.length : Int) + D v = D x + 1
  last : ∃ pre, out = pre ++ [v]
  ext : ∀ u, IsFirst adj v y u → ∀ pre, out = pre ++ [v] → IsFirst adj x y (pre ++ u)
theorem Down.start {n : Nat} {adj : Nat → List Nat} {x y : Nat} {D : Nat → Int} (hx : x < n) (h0 : 0 ≤ D x) : Down n adj x y D [x] x :=
  ⟨hx, h0, by simp; omega, ⟨[], rfl⟩, fun u hu pre hp => by
    cases pre with
    | nil => exact hu
    | cons a pre => simp at hp⟩
theorem Down.next {n : Nat} {adj : Nat → List Nat} {x y : Nat} {D : Nat → Int} {out : List Nat} {v m : Nat} (h : Down n adj x y D out v) (hT : ToOf n adj y D) (hlt : ∀ v, v < n → ∀ t ∈ adj v, t < n) (hm : m ∈ adj v) (hd : D m = D v - 1) (h1 : 1 ≤ D v)
    (hmin : ∀ t ∈ adj v, D t = D v - 1 → m ≤ t) : Down n adj x y D (out ++ [m]) m := by
  refine ⟨hlt v h.low m hm, by omega, by rw [List.length_append, List.length_singleton]; have := h.len; omega, ⟨out, rfl⟩, fun u hu pre hp => ?_⟩
  have hp2 : out = pre := List.append_inj_left' hp rfl
  subst hp2
  obtain ⟨pre, hpre⟩ := h.last
  have := h.ext (v :: u) (step_first hT hlt h.low hm hd (by omega) hmin hu) pre hpre
  rw [hpre, List.append_assoc]
  exact this
theorem IsFirst.one (adj : Nat → List Nat) (y : Nat) : IsFirst adj y y [y] := by
  refine ⟨.one y, fun u hu => hu.pos, fun u hu hl => ?_⟩
  obtain ⟨w, rfl⟩ := hu.ne
  cases w with
  | nil => exact lexLe_refl _
  | cons a w => simp at hl
theorem Down.stop {n : Nat} {adj : Nat → List Nat} {x y : Nat} {D : Nat → Int} {out : List Nat} (h : Down n adj x y D out y) : IsFirst adj x y out := by
  obtain ⟨pre, hpre⟩ := h.last
  rw [hpre]
  exact h.ext [y] (IsFirst.one adj y) pre hpre

theorem row_push {B : Nat} {w w1 : World} {f : Names} {i : Nat × Nat} {qv qv' : Value} {q : List Nat} (hr : Rows B w f) (hf : f i = some (rowI qv (castI q))) (t : Nat) (ho : OwnI B w1 qv' (castI q ++ [(t : Int)]))
    (hal : (roomOf qv' = roomOf qv ∧ w.grownBy w1 qv.ownBlock) ∨ (∃ k, qv'.ownBlock = some k ∧ w.heap.size ≤ k ∧ w.grownBy w1 none)) : Rows B w1 (upd f i (some (rowI qv' (castI (q ++ [t]))))) := by
  have hO := hr.ownI hf
  have hg : w.grownBy w1 qv.ownBlock := grown_via (hal.imp (·.2) (fun ⟨_, _, _, q⟩ => q))
  have hob : qv'.ownBlock = qv.ownBlock ∨ ∃ k, qv'.ownBlock = some k ∧ w.heap.size ≤ k := by
    rcases hal with ⟨q, _⟩ | ⟨k, h1, h2, _⟩
    · obtain ⟨a1, n1, c1, e1⟩ := hO.at.shape
      obtain ⟨a2, n2, c2, e2⟩ := ho.at.shape
      exact .inl (ownBlock_of_room e1 e2 q)
    · exact .inr ⟨k, h1, h2⟩
  have := hr.grown (r' := rowI qv' (castI q ++ [(t : Int)])) hf hg ho hob
  rwa [← castI_snoc] at this

end Go.Proofs.YtilpckngghffoaaGreatDoor

namespace Go.Proofs.YtilpckngghffoaaGreatDoor
open Go.RowKit
set_option maxRecDepth 100000

theorem err_box (w1 : World) (x0 x1 x2 : Value) :
    Below w1.heap.size w1 (w1.alloc (.cells #[x0, x1, x2] 33)) ∧ Box3 (w1.alloc (.cells #[x0, x1, x2] 33)) w1.heap.size x0 x1 x2 ∧ (w1.alloc (.cells #[x0, x1, x2] 33)).heap.size = w1.heap.size + 1 := by
  obtain ⟨y0, y1, y2, f⟩ := cells3 (Below.refl (w1.alloc (.cells #[x0, x1, x2] 33)).heap.size (w1.alloc (.cells #[x0, x1, x2] 33)))
  exact ⟨belowAlloc w1 _, ⟨⟨y0, y1, y2⟩, f⟩, by simp⟩
theorem checkG_num {G : List (List Int)} {n : Int} {l : List (ByteArray × Int)} (h : checkG G = some (n, l)) : (n != 0) = true := by
  unfold checkG at h
  split at h
  · injection h with h; injection h with h; subst h; rfl
  split at h
  · injection h with h; injection h with h; subst h; rfl
  split at h
  · injection h with h; injection h with h; subst h; rfl
  · cases h
theorem OwnI.set3 {B b : Nat} {w : World} {v : Value} {xs : List Int} (h : OwnI B w v xs) (hb : b < B) (x y z : Value) : OwnI B (((w.setCell ⟨b, 0, none⟩ x).setCell ⟨b, 1, none⟩ y).setCell ⟨b, 2, none⟩ z) v xs :=
  OwnV.toI (((h.toV.setBelowBase (a := ⟨b, 0, none⟩) hb x).setBelowBase (a := ⟨b, 1, none⟩) hb y).setBelowBase (a := ⟨b, 2, none⟩) hb z)
theorem FirstPost.set3 {w w3 w4 : World} {adj : Nat → List Nat} {a b : Nat} {v : Value} (h : FirstPost w3 adj a b v w4) {c : Nat} (hb : c < w3.heap.size) (hs : w.heap.size ≤ w3.heap.size) (x y z : Value) : FirstPost w adj a b v (((w4.setCell ⟨c, 0, none⟩ x).setCell ⟨c, 1, none⟩ y).setCell ⟨c, 2, none⟩ z) := by
  rcases h with ⟨u, h1, h2⟩ | h
  · exact .inl ⟨u, h1, (h2.set3 hb x y z).mono hs⟩
  · exact .inr h
/-- What an answer with an error leaves. -/
def RefPost (w : World) (t : PErr) (P : Value → World → Prop) (x y : Value) (w' : World) : Prop :=
  EOwn w.heap.size w' t y ∧ (t = none → P x w') ∧ (t ≠ none → x = .slice none 0 0)
end Go.Proofs.YtilpckngghffoaaGreatDoor

namespace Go.Proofs.YtilpckngghffoaaGreatDoor
theorem Goes.loop {adj : Nat → List Nat} {x y : Nat} (h : Goes adj x y) (ha : x ∈ adj y) : OnLoop adj x := by
  obtain ⟨w, hw⟩ := h.way
  cases hw with
  | one => exact ⟨x, ha, .refl x⟩
  | @cons _ t _ w ht hw => exact ⟨t, ht, .step hw.goes ha⟩
end Go.Proofs.YtilpckngghffoaaGreatDoor

namespace Go.Proofs.YtilpckngghffoaaGreatDoor

theorem Peel.swap {n : Nat} {A B : Nat → List Nat} {inn out c d : Nat → Nat} {gone : Nat → Bool} {q : List Nat} {lives : Nat → Prop} (h : Peel n A B inn out c d gone q lives) : Peel n B A out inn d c gone q lives :=
  ⟨h.deg2, h.deg1, h.nodup, h.goneq, h.low, fun v hv => (h.fresh v hv).symm, h.keep⟩
theorem LiveSet.swap {n : Nat} {A B : Nat → List Nat} {lives : Nat → Prop} (h : LiveSet n A B lives) : LiveSet n B A lives := ⟨h.ahead, h.behind⟩
/-- Between two rounds. -/
structure PS (n : Nat) (A B : Nat → List Nat) (inn out c d : Nat → Nat) (gone : Nat → Bool) (q : List Nat) (lives : Nat → Prop) (i : Nat) : Prop where
  peel : Peel n A B inn out c d gone q lives
  pos : ∀ t, t < n → gone t = false → 0 < inn t ∧ 0 < out t
  done : ∀ j x, j < i → q[j]? = some x → c x = (A x).length ∧ d x = (B x).length
  rest : ∀ j x, i ≤ j → q[j]? = some x → c x = 0 ∧ d x = 0
/-- Within a round. -/
structure Mid (n : Nat) (A B : Nat → List Nat) (inn out c d : Nat → Nat) (gone : Nat → Bool) (q : List Nat) (lives : Nat → Prop) (i v : Nat) : Prop where
  peel : Peel n A B inn out c d gone q lives
  pos : ∀ t, t < n → gone t = false → 0 < inn t ∧ 0 < out t
  cur : q[i]? = some v
  done : ∀ j x, j < i → q[j]? = some x → c x = (A x).length ∧ d x = (B x).length
  rest : ∀ j x, i < j → q[j]? = some x → c x = 0 ∧ d x = 0
section
variable {n : Nat} {A B : Nat → List Nat} {inn out c d : Nat → Nat} {gone : Nat → Bool} {q : List Nat} {lives : Nat → Prop} {i v : Nat}
theorem Mid.swap (h : Mid n A B inn out c d gone q lives i v) : Mid n B A out inn d c gone q lives i v :=
  ⟨h.peel.swap, fun t ht hg => (h.pos t ht hg).symm, h.cur, fun j x hj hx => (h.done j x hj hx).symm, fun j x hj hx => (h.rest j x hj hx).symm⟩
theorem PS.enter (h : PS n A B inn out c d gone q lives i) (hv : q[i]? = some v) : Mid n A B inn out c d gone q lives i v ∧ c v = 0 ∧ d v = 0 ∧ v < n :=
  ⟨⟨h.peel, h.pos, hv, h.done, fun j x hj hx => h.rest j x (by omega) hx⟩, (h.rest i v (Nat.le_refl _) hv).1, (h.rest i v (Nat.le_refl _) hv).2, h.peel.low v (List.mem_of_getElem? hv)⟩
theorem Mid.leave (h : Mid n A B inn out c d gone q lives i v) (hc : c v = (A v).length) (hd : d v = (B v).length) : PS n A B inn out c d gone q lives (i + 1) := by
  refine ⟨h.peel, h.pos, fun j x hj hx => ?_, fun j x hj hx => h.rest j x (by omega) hx⟩
  by_cases e : j = i
  · subst e
    rw [h.cur] at hx; cases hx
    exact ⟨hc, hd⟩
  · exact h.done j x (by omega) hx
/-- An arrow of v is gone through. -/
theorem Mid.step (h : Mid n A B inn out c d gone q lives i v) (hL : LiveSet n A B lives) {k t : Nat} (hk : c v = k) (ht : (A v)[k]? = some t) (htn : t < n) :
    0 < inn t ∧ (inn t = 1 → gone t = false → Mid n A B (updN inn t (inn t - 1)) out (updN c v (k + 1)) d (updN gone t true) (q ++ [t]) lives i v) ∧
    ((inn t = 1 → gone t = true) → Mid n A B (updN inn t (inn t - 1)) out (updN c v (k + 1)) d gone q lives i v) := by
  have hvq := List.mem_of_getElem? h.cur
  obtain ⟨h0, hp⟩ := h.peel.arrow1 hvq hk ht htn
  have hne : ∀ j x, j ≠ i → q[j]? = some x → x ≠ v := fun j x hj hx e => hj (get_inj h.peel.nodup (by rw [hx, e]) h.cur)
  have hdone : ∀ j x, j < i → q[j]? = some x → updN c v (k + 1) x = (A x).length ∧ d x = (B x).length := fun j x hj hx => by
    rw [updN_other _ _ _ (hne j x (by omega) hx)]; exact h.done j x hj hx
  have hrest : ∀ j x, i < j → q[j]? = some x → updN c v (k + 1) x = 0 ∧ d x = 0 := fun j x hj hx => by
    rw [updN_other _ _ _ (hne j x (by omega) hx)]; exact h.rest j x hj hx
  refine ⟨h0, fun h1 hg => ?_, fun h1 => ?_⟩
  · have htq : t ∉ q := fun hm => by have := (h.peel.goneq t).2 hm; rw [hg] at this; cases this
    have htv : t ≠ v := fun e => htq (by rw [e]; exact hvq)
    have hil := get_of h.cur
    have hga : ∀ j x, (q ++ [t])[j]? = some x → q[j]? = some x ∨ j = q.length ∧ x = t := fun j x hx => by
      by_cases e : j < q.length
      · rw [List.getElem?_append_left e] at hx; exact .inl hx
      · rw [List.getElem?_append_right (by omega)] at hx
        by_cases e2 : j = q.length
        · rw [e2] at hx; simp at hx; exact .inr ⟨e2, hx.symm⟩
        · rw [List.getElem?_eq_none (by simp; omega)] at hx; cases hx
    refine ⟨hp.goes hL htn hg (.inl (by rw [updN_same]; omega)), fun x hx hgx => ?_, by rw [List.getElem?_append_left hil]; exact h.cur, fun j x hj hx => ?_, fun j x hj hx => ?_⟩
    · by_cases e : x = t
      · subst e; rw [updN_same] at hgx; cases hgx
      · rw [updN_other _ _ _ e] at hgx ⊢; exact h.pos x hx hgx
    · rcases hga j x hx with hx | ⟨hj2, _⟩
      · exact hdone j x hj hx
      · omega
    · rcases hga j x hx with hx | ⟨_, rfl⟩
      · exact hrest j x hj hx
      · rw [updN_other _ _ _ htv]; exact h.peel.fresh x htq
  · refine ⟨hp, fun x hx hgx => ?_, h.cur, hdone, hrest⟩
    by_cases e : x = t
    · subst e
      rw [updN_same]
      have := (h.pos x hx hgx).2
      have : inn x ≠ 1 := fun e => by have := h1 e; rw [hgx] at this; cases this
      omega
    · rw [updN_other _ _ _ e]; exact h.pos x hx hgx
end
/-- The beginning: the first k have been looked at. -/
structure PStart (n : Nat) (A B : Nat → List Nat) (gone : Nat → Bool) (q : List Nat) (lives : Nat → Prop) (k : Nat) : Prop where
  peel : Peel n A B (fun t => (B t).length) (fun t => (A t).length) (fun _ => 0) (fun _ => 0) gone q lives
  pos : ∀ t, t < k → gone t = false → 0 < (B t).length ∧ 0 < (A t).length
  below : ∀ x ∈ q, x < k
section
variable {n : Nat} {A B : Nat → List Nat} {gone : Nat → Bool} {q : List Nat} {lives : Nat → Prop} {k : Nat}
theorem PStart.zero (hA : ∀ t, t < n → ∀ x ∈ A t, x < n) (hB : ∀ t, t < n → ∀ x ∈ B t, x < n) (hc : ∀ t v, t < n → v < n → (B t).count v = (A v).count t) : PStart n A B (fun _ => false) [] lives 0 :=
  ⟨⟨Deg.init hB (fun v t hv ht => hc t v ht hv), Deg.init hA (fun v t hv ht => (hc v t hv ht).symm), by simp, fun x => by simp, fun x hx => by simp at hx, fun _ _ => ⟨rfl, rfl⟩, fun _ _ _ => rfl⟩, fun t ht => by omega, fun x hx => by simp at hx⟩
theorem PStart.take (h : PStart n A B gone q lives k) (hL : LiveSet n A B lives) (hk : k < n) (h0 : (A k).length = 0 ∨ (B k).length = 0) : PStart n A B (updN gone k true) (q ++ [k]) lives (k + 1) := by
  have hg : gone k = false := by
    cases hgk : gone k with
    | false => rfl
    | true => have := h.below k ((h.peel.goneq k).1 hgk); omega
  refine ⟨h.peel.goes hL hk hg h0.symm, fun t ht hgt => ?_, fun x hx => ?_⟩
  · by_cases e : t = k
    · subst e; rw [updN_same] at hgt; cases hgt
    · rw [updN_other _ _ _ e] at hgt; exact h.pos t (by omega) hgt
  · rcases List.mem_append.1 hx with hx | hx
    · have := h.below x hx; omega
    · cases List.mem_singleton.1 hx; omega
theorem PStart.skip (h : PStart n A B gone q lives k) (hA : (A k).length ≠ 0) (hB : (B k).length ≠ 0) : PStart n A B gone q lives (k + 1) := by
  refine ⟨h.peel, fun t ht hgt => ?_, fun x hx => by have := h.below x hx; omega⟩
  by_cases e : t = k
  · subst e; omega
  · exact h.pos t (by omega) hgt
theorem PStart.all (h : PStart n A B gone q lives n) : PS n A B (fun t => (B t).length) (fun t => (A t).length) (fun _ => 0) (fun _ => 0) gone q lives 0 :=
  ⟨h.peel, h.pos, fun j x hj => by omega, fun _ _ _ _ => ⟨rfl, rfl⟩⟩
end
/-- Live vertices have live neighbours. -/
theorem live_set {G H : List (List Int)} (hT : TurnedOf G H) (hok : GraphOk G) : LiveSet G.length (adjOf G) (adjOf H) (IsLive G.length (adjOf G)) := by
  refine ⟨fun t ht hl => ?_, fun t ht hl => ?_⟩
  · obtain ⟨⟨u, hu, hlu, hgu⟩, w, hw, hlw, hgw⟩ := hl
    cases hgu with
    | refl =>
      obtain ⟨s, hs, hgs⟩ := hlu
      cases hgs with
      | refl => exact ⟨t, ht, ⟨⟨t, hu, ⟨t, hs, .refl t⟩, .refl t⟩, w, hw, hlw, hgw⟩, hs⟩
      | @step p _ hgp htp =>
        have hsn := hok.lt t ht s hs
        have hpn := goes_lt hok hgp hsn
        have hL : OnLoop (adjOf G) t := ⟨s, hs, .step hgp htp⟩
        exact ⟨p, hpn, ⟨⟨t, ht, hL, .trans (.one hs) hgp⟩, t, ht, hL, .one htp⟩, htp⟩
    | @step p _ hgp htp =>
      have hpn := goes_lt hok hgp hu
      exact ⟨p, hpn, ⟨⟨u, hu, hlu, hgp⟩, w, hw, hlw, .trans (.one htp) hgw⟩, htp⟩
  · obtain ⟨⟨u, hu, hlu, hgu⟩, w, hw, hlw, hgw⟩ := hl
    have key : ∀ s, s ∈ adjOf G t → (∃ w, w < G.length ∧ OnLoop (adjOf G) w ∧ Goes (adjOf G) s w) → ∃ p, p < G.length ∧ IsLive G.length (adjOf G) p ∧ t ∈ adjOf H p := fun s hs hw => by
      have hsn := hok.lt t ht s hs
      exact ⟨s, hsn, ⟨⟨u, hu, hlu, .step hgu hs⟩, hw⟩, (turned_adj hT hok hsn).2 ⟨ht, hs⟩⟩
    obtain ⟨wy, hwy⟩ := hgw.way
    cases hwy with
    | one =>
      obtain ⟨s, hs, hgs⟩ := hlw
      exact key s hs ⟨t, hw, ⟨s, hs, hgs⟩, hgs⟩
    | @cons _ s _ _ hs hwy => exact key s hs ⟨w, hw, hlw, hwy.goes⟩
/-- What is left at the end are the live vertices. -/
theorem PS.end_ {G H : List (List Int)} (hT : TurnedOf G H) (hok : GraphOk G) {inn out c d : Nat → Nat} {gone : Nat → Bool} {q : List Nat} (h : PS G.length (adjOf G) (adjOf H) inn out c d gone q (IsLive G.length (adjOf G)) q.length) :
    LiveList G.length (adjOf G) ((List.range G.length).filter fun t => !gone t) := by
  have hall : ∀ v ∈ q, c v = (adjOf G v).length ∧ d v = (adjOf H v).length := fun v hv => by
    obtain ⟨j, hj⟩ := List.mem_iff_getElem?.1 hv
    exact h.done j v (get_of hj) hj
  refine ⟨List.Pairwise.filter _ List.pairwise_lt_range, fun v => ?_⟩
  rw [List.mem_filter, List.mem_range]
  constructor
  · rintro ⟨hv, hg⟩
    have hg : gone v = false := by simpa using hg
    refine ⟨hv, ?_, ?_⟩
    · obtain ⟨u, hu, ⟨t, ht, hgt⟩, hgo⟩ := set_loop (n := G.length) (A := adjOf H) (S := fun x => x < G.length ∧ gone x = false) (fun x hx => hx.1) (fun x hx => by
        obtain ⟨⟨p, hp, hgp, hm⟩, _⟩ := h.peel.left hall h.pos hx.1 hx.2
        exact ⟨p, (turned_adj hT hok hx.1).2 ⟨hp, hm⟩, hp, hgp⟩) ⟨hv, hg⟩
      obtain ⟨htn, hut⟩ := (turned_adj hT hok hu).1 ht
      exact ⟨u, hu, (turned_goes hT hok hgt htn).loop hut, turned_goes hT hok hgo hv⟩
    · obtain ⟨u, hu, hlu, hgo⟩ := set_loop (n := G.length) (A := adjOf G) (S := fun x => x < G.length ∧ gone x = false) (fun x hx => hx.1) (fun x hx => by
        obtain ⟨_, ⟨p, hp, hgp, hm⟩⟩ := h.peel.left hall h.pos hx.1 hx.2
        exact ⟨p, ((turned_adj hT hok hp).1 hm).2, hp, hgp⟩) ⟨hv, hg⟩
      exact ⟨u, hu, hlu, hgo⟩
  · rintro ⟨hv, hl⟩
    exact ⟨hv, by rw [h.peel.keep v hv hl]; rfl⟩
end Go.Proofs.YtilpckngghffoaaGreatDoor

namespace Go.Proofs.YtilpckngghffoaaGreatDoor
open Go.RowKit
set_option maxRecDepth 100000

/-- The memory of the peeling. -/
structure LvN (f : Names) (ov iv gv qv : Value) (n : Nat) (out inn : Nat → Nat) (gone : Nat → Bool) (q : List Nat) : Prop where
  outs : f (1, 0) = some (rowI ov (tab n out))
  inns : f (2, 0) = some (rowI iv (tab n inn))
  gones : f (3, 0) = some (rowV 4 gv (tabB n gone))
  queue : f (4, 0) = some (rowI qv (castI q))
section
variable {B : Nat} {w : World} {f : Names} {ov iv gv qv : Value} {n : Nat} {out inn : Nat → Nat} {gone : Nat → Bool} {q : List Nat}
theorem LvN.setOut (h : LvN f ov iv gv qv n out inn gone q) (hr : Rows B w f) (t : Nat) (ht : t < n) (a : Nat) : ∃ f', Rows B (w.setCell (valAt ov t) (.int .i64 (a : Int))) f' ∧ LvN f' ov iv gv qv n (updN out t a) inn gone q := by
  have hs := hr.setI h.outs t (by rw [tab_len]; exact ht) (a : Int)
  rw [tab_upd] at hs
  exact ⟨_, hs, ⟨upd_same _ _ _, by rw [upd_ne _ _ (by simp)]; exact h.inns, by rw [upd_ne _ _ (by simp)]; exact h.gones, by rw [upd_ne _ _ (by simp)]; exact h.queue⟩⟩
theorem LvN.setInn (h : LvN f ov iv gv qv n out inn gone q) (hr : Rows B w f) (t : Nat) (ht : t < n) (a : Nat) : ∃ f', Rows B (w.setCell (valAt iv t) (.int .i64 (a : Int))) f' ∧ LvN f' ov iv gv qv n out (updN inn t a) gone q := by
  have hs := hr.setI h.inns t (by rw [tab_len]; exact ht) (a : Int)
  rw [tab_upd] at hs
  exact ⟨_, hs, ⟨by rw [upd_ne _ _ (by simp)]; exact h.outs, upd_same _ _ _, by rw [upd_ne _ _ (by simp)]; exact h.gones, by rw [upd_ne _ _ (by simp)]; exact h.queue⟩⟩
theorem LvN.mark (h : LvN f ov iv gv qv n out inn gone q) (hr : Rows B w f) (t : Nat) (ht : t < n) : ∃ f', Rows B (w.setCell (valAt gv t) (.bool true)) f' ∧ LvN f' ov iv gv qv n out inn (updN gone t true) q := by
  have hs := hr.setV h.gones t (by rw [tabB_len]; exact ht) (.bool true)
  rw [tabB_upd] at hs
  exact ⟨_, hs, ⟨by rw [upd_ne _ _ (by simp)]; exact h.outs, by rw [upd_ne _ _ (by simp)]; exact h.inns, upd_same _ _ _, by rw [upd_ne _ _ (by simp)]; exact h.queue⟩⟩
theorem LvN.push (h : LvN f ov iv gv qv n out inn gone q) (hr : Rows B w f) {w1 : World} {qv' : Value} (t : Nat) (ho : OwnI B w1 qv' (castI q ++ [(t : Int)]))
    (hal : (roomOf qv' = roomOf qv ∧ w.grownBy w1 qv.ownBlock) ∨ (∃ k, qv'.ownBlock = some k ∧ w.heap.size ≤ k ∧ w.grownBy w1 none)) : ∃ f', Rows B w1 f' ∧ LvN f' ov iv gv qv' n out inn gone (q ++ [t]) :=
  ⟨_, row_push hr h.queue t ho hal, ⟨by rw [upd_ne _ _ (by simp)]; exact h.outs, by rw [upd_ne _ _ (by simp)]; exact h.inns, by rw [upd_ne _ _ (by simp)]; exact h.gones, upd_same _ _ _⟩⟩
/-- A number's cell. -/
theorem tab_cell (hr : Rows B w f) {i : Nat × Nat} {v : Value} {F : Nat → Nat} (hf : f i = some (rowI v (tab n F))) (t : Nat) (ht : t < n) :
    (∀ w', (Instr.indexAt 22 v (.int .i64 (t : Int))).run Tryz.prog w' = .ok (.pointer (some (valAt v t))) w') ∧ w.cell? (valAt v t) = some (.int .i64 (F t : Int)) ∧ w.frozen? (valAt v t) = false ∧ B ≤ (valAt v t).block := by
  have hO := hr.ownI hf
  refine ⟨fun w' => hO.at.idx t (by rw [tab_len]; exact ht) w', ?_, hO.frz t (by rw [tab_len]; exact ht), (hO.toV.blkB t (by rw [List.length_map, tab_len]; exact ht)).2⟩
  rw [hO.at.cellD t (by rw [tab_len]; exact ht), tab_get _ _ _ ht]
/-- A mark's cell. -/
theorem mark_cell (hr : Rows B w f) {i : Nat × Nat} {v : Value} {F : Nat → Bool} (hf : f i = some (rowV 4 v (tabB n F))) (t : Nat) (ht : t < n) :
    (∀ w', (Instr.indexAt 146 v (.int .i64 (t : Int))).run Tryz.prog w' = .ok (.pointer (some (valAt v t))) w') ∧ w.cell? (valAt v t) = some (.bool (F t)) ∧ w.frozen? (valAt v t) = false ∧ B ≤ (valAt v t).block := by
  have hO := hr.ownV hf
  refine ⟨fun w' => hO.at.idx oneBoolG t (by rw [tabB_len]; exact ht) w', ?_, hO.frz t (by rw [tabB_len]; exact ht), (hO.blkB t (by rw [tabB_len]; exact ht)).2⟩
  rw [hO.at.cellV t (by rw [tabB_len]; exact ht), tabB_get _ _ _ ht]
end
/-- The first k are F's. -/
def fillTo (F : Nat → Nat) (k t : Nat) : Nat := if t < k then F t else 0
theorem fillTo_next (F : Nat → Nat) (k : Nat) : updN (fillTo F k) k (F k) = fillTo F (k + 1) := by
  funext t
  unfold fillTo
  by_cases e : t = k
  · subst e; rw [updN_same, if_pos (by omega)]
  · rw [updN_other _ _ _ e]
    by_cases q : t < k
    · rw [if_pos q, if_pos (by omega)]
    · rw [if_neg q, if_neg (by omega)]
theorem tab_congr {n : Nat} {f g : Nat → Nat} (h : ∀ t, t < n → f t = g t) : tab n f = tab n g := by
  unfold tab
  exact List.map_congr_left fun t ht => by rw [h t (List.mem_range.1 ht)]
theorem fillTo_all (F : Nat → Nat) (n : Nat) : tab n (fillTo F n) = tab n F := tab_congr fun t ht => by unfold fillTo; rw [if_pos ht]
theorem fillTo_zero (F : Nat → Nat) (n : Nat) : tab n (fillTo F 0) = List.replicate n 0 := by
  unfold tab
  apply List.ext_getElem
  · simp
  · intro i h1 h2; simp [fillTo]
theorem tabB_none (n : Nat) : tabB n (fun _ => false) = List.replicate n (.bool false) := by
  unfold tabB; apply List.ext_getElem <;> simp
theorem filter_next (p : Nat → Bool) (k : Nat) : (List.range (k + 1)).filter p = (List.range k).filter p ++ if p k = true then [k] else [] := by
  rw [List.range_succ, List.filter_append]
  by_cases h : p k = true
  · rw [if_pos h, List.filter_cons_of_pos h]; rfl
  · rw [if_neg h, List.filter_cons_of_neg h]; rfl
/-- Box3 below another block. -/
theorem Box3.keep {B : Nat} {w w' : World} {b : Nat} {x0 x1 x2 : Value} (h : Box3 w b x0 x1 x2) (hb : Below B w w') (hlt : b < B) : Box3 w' b x0 x1 x2 := h.belowB hb hlt

set_option maxHeartbeats 8000000 in
theorem ref12_live (na : Option Addr) (nc : Nat) (G : List (List Int)) (w : World) (h : ListsAt w (.slice na G.length nc) G) (hsz : ∀ k, k < G.length → (G.getD k []).length ≤ 17592186044416) :
    Calls Tryz.prog 149 #[.slice na G.length nc] w (Ret2 (RefPost w (checkG G) (fun x w' => ∃ L, LiveList G.length (adjOf G) L ∧ OwnI w.heap.size w' x (castI L))) w) := by
  have b0 := belowAlloc w (.cells #[.int .i64 0, .slice none 0 0, .slice none 0 0] 33)
  have bx : Box3 (w.alloc (.cells #[.int .i64 0, .slice none 0 0, .slice none 0 0] 33)) w.heap.size (.int .i64 0) (.slice none 0 0) (.slice none 0 0) := by
    have q := cells3 (Below.refl (w.alloc (.cells #[.int .i64 0, .slice none 0 0, .slice none 0 0] 33)).heap.size (w.alloc (.cells #[.int .i64 0, .slice none 0 0, .slice none 0 0] 33)))
    exact ⟨⟨q.1, q.2.1, q.2.2.1⟩, q.2.2.2⟩
  have hsW : (w.alloc (.cells #[.int .i64 0, .slice none 0 0, .slice none 0 0] 33)).heap.size = w.heap.size + 1 := by simp
  have hC := ref12_check na nc G _ (h.below b0) hsz
  replace hC := Lib.hid hC
  replace bx := Lib.hid bx
  replace hsW := Lib.hid hsW
  replace h := Lib.hid h
  replace hsz := Lib.hid hsz
  go_enter Tryz.func149, Tryz.ntmps149
  go_wp2_with fail
  refine hC.out.mono ?_
  rintro e w1 ⟨x, rfl, b1, he⟩
  clear hC
  obtain ⟨q, a1, n1, c1, a2, n2, c2, rfl⟩ := he.shape
  obtain ⟨bb, bx2, hs2⟩ := err_box w1 (.int .i64 q) (.slice a1 n1 c1) (.slice a2 n2 c2)
  replace he := Lib.hid he
  go_upto_region 2 with fail
  obtain ⟨W2, hW2⟩ : ∃ W2 : World, W2 = w1.alloc (.cells #[.int .i64 q, .slice a1 n1 c1, .slice a2 n2 c2] 33) := ⟨_, rfl⟩
  rw [← hW2] at bb bx2 hs2 ⊢
  clear hW2
  obtain ⟨⟨y0, y1, y2⟩, _⟩ := bx2
  obtain ⟨eb, heb⟩ : ∃ eb, eb = w1.heap.size := ⟨_, rfl⟩
  rw [← heb] at y0 y1 y2 ⊢
  clear heb
  go_wp2_with fail
  refine (err_bad q a1 n1 c1 a2 n2 c2 W2).mono ?_
  rintro e w3 ⟨x, rfl, b3, rfl⟩
  have bW3 := Below.step bb b3
  have z0 := cell_keep b3 y0
  have z1 := cell_keep b3 y1
  have z2 := cell_keep b3 y2
  clear y0 y1 y2
  have bx3 := (bx.out.below b1).below bW3
  have b03 := Below.step b0 (Below.step b1 bW3)
  have he3 := he.out.below bW3
  have hsz3 : w.heap.size < w3.heap.size := by have := hsW.out; have := b1.size; have := bW3.size; omega
  cases hck : checkG G with
  | some t =>
    obtain ⟨n, l⟩ := t
    rw [hck] at he3
    have hn := checkG_num hck
    obtain rfl : q = n := by
      obtain ⟨_, _, _, _, _, _, e, _⟩ := he3
      simp at e; exact e.1
    rw [hn]
    obtain ⟨⟨r0, r1, r2⟩, f0, f1, f2⟩ := bx3
    replace he3 := Lib.hid he3
    replace hck := Lib.hid hck
    replace he := Lib.hid he
    have hE : checkG G = some (q, l) := hck.out
    replace hE := Lib.hid hE
    go_upto_region 3 with fail
    refine wp_region_plan (fun w' => w'.cell? ⟨eb, 0, none⟩ = some (.int .i64 q) ∧ w'.cell? ⟨eb, 1, none⟩ = some (.slice a1 n1 c1) ∧ w'.cell? ⟨eb, 2, none⟩ = some (.slice a2 n2 c2)) 2 [(0, true), (1, true)] (by kernel_rfl) (by kernel_rfl) ?_
    have hS : w3.drew.cell? ⟨eb, 0, none⟩ = some (.int .i64 q) ∧ w3.drew.cell? ⟨eb, 1, none⟩ = some (.slice a1 n1 c1) ∧ w3.drew.cell? ⟨eb, 2, none⟩ = some (.slice a2 n2 c2) := ⟨z0, z1, z2⟩
    refine headY (v := ?_) (some 23) rfl rfl (Or.inl ⟨by rfl, ?_⟩) hS ?_
    rotate_left
    · rintro W' ⟨s0, s1, s2⟩; go_simp; try with_reducible rfl
    simp only [Act.put, List.setIfInBounds_toArray, List.set_cons_zero, List.set_cons_succ]
    refine headY (v := ?_) (some 2) rfl rfl (Or.inl ⟨by rfl, ?_⟩) hS ?_
    rotate_left
    · rintro W' ⟨s0, s1, s2⟩; go_simp; try with_reducible rfl
    simp only [Act.put, List.setIfInBounds_toArray, List.set_cons_zero, List.set_cons_succ]
    refine head0 ?_
    simp only [List.drop_succ_cons, List.drop_zero]
    clear hS
    go_wp2
    refine NoPanic.normal ?_
    go_wp2
    refine bodyPost_ret (v := .tuple #[.slice none 0 0, .agg #[.int .i64 q, .slice a1 n1 c1, .slice a2 n2 c2]]) (by simp [results, Tryz.results149, go_sem, r0, r1, r2]) rfl ⟨_, _, rfl, below_set3 (below_drewN b03 1) (by simp) _ _ _, ?_⟩
    rw [hE.out]
    exact ⟨(he3.out.set3 (by have := hsW.out; omega) _ _ _).mono (by have := hsW.out; omega), ⟨(fun q => (by cases q)), (fun _ => rfl)⟩⟩
  | none =>
    rw [hck] at he3
    have hz : (q = 0 ∧ (a1 = none ∧ n1 = 0 ∧ c1 = 0) ∧ a2 = none ∧ n2 = 0 ∧ c2 = 0) := by
      have e : (Value.agg #[.int .i64 q, .slice a1 n1 c1, .slice a2 n2 c2]) = zErr := he3
      simpa using e
    obtain ⟨rfl, ⟨rfl, rfl, rfl⟩, rfl, rfl, rfl⟩ := hz
    rw [show ((0 : Int) != 0) = false from rfl]
    have hck2 := checkG_none hck
    replace hck2 := Lib.hid hck2
    replace hck := Lib.hid hck
    replace he := Lib.hid he
    replace bx := Lib.hid bx.out
    clear he3 z0 z1 z2
    have hok := hck2.out.2.2
    have hn := hck2.out.1
    have harr := hck2.out.2.1
    have hlen : ∀ k, k < G.length → (G.getD k []).length ≤ 262144 := fun k hk => by
      have := arrowsTo_mono G (show k + 1 ≤ G.length by omega)
      simp only [arrowsTo] at this; omega
    replace hok := Lib.hid hok
    replace hlen := Lib.hid hlen
    replace bx3 := Lib.hid bx3
    have hB3 : w.heap.size ≤ w3.heap.size := b03.size
    go_wp2_with fail
    refine (ref_turned na nc G w3 (h.out.below b03) hok.out (by omega) harr).mono ?_
    rintro e w4 ⟨hv, rfl, b4, H, hT, hH⟩
    obtain ⟨ha, hc, rfl⟩ := hH.at.shape
    have hHl : H.length = G.length := hT.t.1
    have hHok := turned_ok hT.t
    have hHlen : ∀ k, k < G.length → (H.getD k []).length ≤ 262144 := fun k hk => by
      have := hT.t.2.1 k hk; omega
    have hHat := hH.at
    have hBx := bx3.out.below b4
    have b04 := Below.step b03 b4
    have hG4 := h.out.below b04
    have hs4 : w.heap.size < w4.heap.size := by have := b4.size; omega
    rw [hHl] at hHat hH ⊢
    obtain ⟨ov, w5, mk1, ho1, b5⟩ := run_makeN G.length w4 (by omega)
    obtain ⟨iv, w6, mk2, ho2, b6⟩ := run_makeN G.length w5 (by omega)
    obtain ⟨gv, w7, mk3, ho3, b7⟩ := run_makeW oneBoolG (G.length : Int) G.length w6 rfl (by omega)
    have hAl := fun t => show (adjOf G t).length = (G.getD t []).length from adjOf_len G t
    have hBl := fun t => show (adjOf H t).length = (H.getD t []).length from adjOf_len H t
    rw [← fillTo_zero (fun t => (adjOf G t).length)] at ho1
    rw [← fillTo_zero (fun t => (adjOf H t).length)] at ho2
    rw [← tabB_none] at ho3
    have R1 := (rowsE w4.heap.size w4).add (i := (1, 0)) (r' := rowI ov (tab G.length (fillTo (fun t => (adjOf G t).length) 0))) b5 ho1 (fun k hk => (ho1.lt k hk).1)
    have R2 := R1.add (i := (2, 0)) (r' := rowI iv (tab G.length (fillTo (fun t => (adjOf H t).length) 0))) b6 (ho2.mono b5.size) (fun k hk => (ho2.lt k hk).1)
    have R3 := R2.add (i := (3, 0)) (r' := rowV 4 gv (tabB G.length (fun _ => false))) b7 (ho3.mono (Nat.le_trans b5.size b6.size)) (fun k hk => (ho3.lt k hk).1)
    have R4 := R3.add (i := (4, 0)) (r' := rowI (.slice none 0 0) []) (Below.refl _ _) (OwnI.nil _ _) (fun k hk => by cases hk)
    have b47 : Below w4.heap.size w4 w7 := Below.step (Below.step b5 b6) b7
    have hN4 : LvN (upd (upd (upd (upd (fun _ => none) (1, 0) (some (rowI ov (tab G.length (fillTo (fun t => (adjOf G t).length) 0))))) (2, 0) (some (rowI iv (tab G.length (fillTo (fun t => (adjOf H t).length) 0))))) (3, 0) (some (rowV 4 gv (tabB G.length (fun _ => false))))) (4, 0) (some (rowI (.slice none 0 0) []))) ov iv gv (.slice none 0 0) G.length (fillTo (fun t => (adjOf G t).length) 0) (fillTo (fun t => (adjOf H t).length) 0) (fun _ => false) [] :=
      ⟨by rw [upd_ne _ _ (by simp), upd_ne _ _ (by simp), upd_ne _ _ (by simp), upd_same], by rw [upd_ne _ _ (by simp), upd_ne _ _ (by simp), upd_same], by rw [upd_ne _ _ (by simp), upd_same], by rw [upd_same]; rfl⟩
    generalize upd (upd (upd (upd (fun _ => none) (1, 0) (some (rowI ov (tab G.length (fillTo (fun t => (adjOf G t).length) 0))))) (2, 0) (some (rowI iv (tab G.length (fillTo (fun t => (adjOf H t).length) 0))))) (3, 0) (some (rowV 4 gv (tabB G.length (fun _ => false))))) (4, 0) (some (rowI (.slice none 0 0) [])) = f4 at R4 hN4
    have hst : PStart G.length (adjOf G) (adjOf H) (fun _ => false) [] (IsLive G.length (adjOf G)) 0 := PStart.zero (fun t ht x hx => hok.out.lt t ht x hx) (fun t ht x hx => ((turned_adj hT.t hok.out ht).1 hx).1) (fun t v ht hv => hT.cnt t v ht hv)
    have hgpH : ∀ t, t < G.length → ∀ y ∈ H.getD t [], 0 ≤ y ∧ y < G.length := fun t ht y hy => by
      obtain ⟨v, rfl, hv, _⟩ := (hT.t.2.2 t ht y).1 hy
      omega
    replace hgpH := Lib.hid hgpH
    replace hst := Lib.hid hst
    replace hT := Lib.hid hT
    replace hH := Lib.hid hH
    replace hHat := Lib.hid hHat
    replace hG4 := Lib.hid hG4
    replace hHok := Lib.hid hHok
    replace hHlen := Lib.hid hHlen
    replace hHl := Lib.hid hHl
    replace hBx := Lib.hid hBx
    replace hAl := Lib.hid hAl
    replace hBl := Lib.hid hBl
    replace ho1 := Lib.hid ho1
    replace ho2 := Lib.hid ho2
    replace ho3 := Lib.hid ho3
    replace R4 := Lib.hid R4
    clear R1 R2 R3
    go_wp2_with fail
    clear mk1 mk2 mk3
    go_loopw [9, 10] (fun qv kv wr => ∃ (k : Nat) (gone : Nat → Bool) (q : List Nat) (f : Names) (qw : Value), qw = qv ∧ kv = .int .i64 k ∧ k ≤ G.length ∧ Rows w4.heap.size wr f ∧ Below w4.heap.size w4 wr ∧ LvN f ov iv gv qw G.length (fillTo (fun t => (adjOf G t).length) k) (fillTo (fun t => (adjOf H t).length) k) gone q ∧ PStart G.length (adjOf G) (adjOf H) gone q (IsLive G.length (adjOf G)) k) (fun _ kv _ => G.length - (intOf kv).toNat)
    case atStart => exact ⟨0, _, [], f4, _, rfl, rfl, by omega, R4.out, b47, hN4, hst.out⟩
    case round =>
      clear R4 b47 hN4 hst ho1 ho2 ho3 b5 b6 b7
      obtain ⟨k, gone, q, f, qv, rfl, rfl, hk, hr, bw, hN, hps⟩ := hrel
      obtain ⟨wo, rfl⟩ : ∃ wo : World, wo = wr := ⟨_, rfl⟩
      have hqlt := nodup_len G.length q hps.peel.nodup hps.peel.low
      by_cases hlt : k < G.length
      · obtain ⟨mv, iR, cR0, hM⟩ := hG4.out.row k hlt
        have hHat2 : ListsAt w4 (.slice ha G.length hc) H := hHat.out
        obtain ⟨mh, iS, cS0, hMh⟩ := hHat2.row k (by have := hHl.out; omega)
        have cR := (bw.cell (World.block_lt_of_cell? _ _ cR0)).trans cR0
        have cS := (bw.cell (World.block_lt_of_cell? _ _ cS0)).trans cS0
        have lM := hM.len
        have lMh := hMh.len
        rw [← hAl.out] at lM
        rw [← hBl.out] at lMh
        obtain ⟨iO, cO, fO, kO⟩ := tab_cell hr hN.outs k hlt
        obtain ⟨f1, hr1, hN1⟩ := hN.setOut hr k hlt (adjOf G k).length
        have bw1 : Below w4.heap.size w4 (wo.setCell (valAt ov k) (.int .i64 ((adjOf G k).length : Int))) := bw.setCell kO _
        obtain ⟨iI, cI, fI, kI⟩ := tab_cell hr1 hN1.inns k hlt
        obtain ⟨f2, hr2, hN2⟩ := hN1.setInn hr1 k hlt (adjOf H k).length
        have bw2 : Below w4.heap.size w4 ((wo.setCell (valAt ov k) (.int .i64 ((adjOf G k).length : Int))).setCell (valAt iv k) (.int .i64 ((adjOf H k).length : Int))) := bw1.setCell kI _
        obtain ⟨_, cO2, _, _⟩ := tab_cell hr2 hN2.outs k hlt
        obtain ⟨_, cI2, _, _⟩ := tab_cell hr2 hN2.inns k hlt
        rw [updN_same] at cO2 cI2
        have e1 := fillTo_next (fun t => (adjOf G t).length) k
        have e2 := fillTo_next (fun t => (adjOf H t).length) k
        rw [e1, e2] at hN2
        obtain ⟨iG, cG, fG, kG⟩ := mark_cell hr2 hN2.gones k hlt
        have cS1 := (bw1.cell (World.block_lt_of_cell? _ _ cS0)).trans cS0
        clear e1 e2
        have htk := fun h0 => hps.take (live_set hT.out.t hok.out) hlt h0
        have hsk := hps.skip
        obtain ⟨la, hla⟩ : ∃ la, (adjOf G k).length = la := ⟨_, rfl⟩
        obtain ⟨lb, hlb⟩ : ∃ lb, (adjOf H k).length = lb := ⟨_, rfl⟩
        rw [hla] at lM cO2 hr1 hr2 bw1 bw2 cI fI cI2 htk hsk cS1 cG fG
        rw [hlb] at lMh cO2 hr2 bw2 cI2 htk hsk cG fG
        generalize valAt ov k = oka at *
        generalize valAt iv k = ika at *
        generalize valAt (.slice na G.length nc) k = ra at *
        generalize valAt (.slice ha G.length hc) k = rb at *
        obtain ⟨gka, hgk⟩ : ∃ gka, valAt gv k = gka := ⟨_, rfl⟩
        rw [hgk] at iG cG fG kG
        replace hgk := Lib.hid hgk
        replace hps := Lib.hid hps
        replace htk := Lib.hid htk
        replace hsk := Lib.hid hsk
        replace hla := Lib.hid hla
        replace hlb := Lib.hid hlb
        replace hr := Lib.hid hr
        replace hr1 := Lib.hid hr1
        replace hM := Lib.hid hM
        replace hMh := Lib.hid hMh
        replace cR0 := Lib.hid cR0
        replace cS0 := Lib.hid cS0
        replace hHat2 := Lib.hid hHat2
        generalize (fillTo (fun t => (adjOf G t).length) k k : Int) = old1 at cO
        generalize (fillTo (fun t => (adjOf H t).length) k k : Int) = old2 at cI
        go_upto_region 13 with fail
        obtain ⟨W1, hW1⟩ : ∃ W1 : World, W1 = wo.setCell oka (.int .i64 (la : Int)) := ⟨_, rfl⟩
        rw [← hW1] at hr1 hr2 bw1 bw2 cI fI cI2 cO2 cS1 cG fG ⊢
        clear hW1 cO fO cR cS
        go_upto_region 14 with fail
        obtain ⟨W2, hW2⟩ : ∃ W2 : World, W2 = W1.setCell ika (.int .i64 (lb : Int)) := ⟨_, rfl⟩
        rw [← hW2] at hr2 bw2 cI2 cO2 cG fG ⊢
        clear hW2 cI fI cS1
        by_cases hz : la = 0 ∨ lb = 0
        · have htk2 := htk.out hz
          obtain ⟨f3, hr3, hN3⟩ := hN2.mark hr2 k hlt
          have bw3 : Below w4.heap.size w4 (W2.setCell (valAt gv k) (.bool true)) := bw2.setCell (by have := (mark_cell hr2 hN2.gones k hlt).2.2.2; exact this) _
          have hgka : valAt gv k = gka := hgk.out
          rw [hgka] at hr3 bw3
          replace hgka := Lib.hid hgka
          replace htk2 := Lib.hid htk2
          replace hr2 := Lib.hid hr2
          replace hr3 := Lib.hid hr3
          by_cases hz1 : la = 0
          · have hq1 : ((la : Int) == 0) = true := by rw [beq_iff_eq]; omega
            replace hz1 := Lib.hid hz1
            replace hz := Lib.hid hz
            go_upto_region 16 with fail
            obtain ⟨W3, hW3⟩ : ∃ W3 : World, W3 = W2.setCell gka (.bool true) := ⟨_, rfl⟩
            rw [← hW3] at hr3 bw3 ⊢
            clear hW3 cO2 cI2 cG fG
            have hOQ := hr3.out.ownI hN3.queue
            go_wp2_with (at_builtin; refine wpl_app1 rfl _ _ rfl w4.heap.size qv (castI q) k hOQ rfl rfl (by rw [castI_len]; omega) bw3.size ?_)
            intro qv' w7 ho7 b7 hal7
            obtain ⟨f7, hr7, hN7⟩ := hN3.push hr3.out k ho7 hal7
            replace hr7 := Lib.hid hr7
            replace ho7 := Lib.hid ho7
            clear hal7
            go_wp2
            go_roundw
            case measure => simp [intOf]; omega
            case rel => exact ⟨k + 1, _, _, f7, qv', rfl, by go_num, by omega, hr7.out, bw3.trans b7, hN7, htk2.out⟩
          · have hq1 : ((la : Int) == 0) = false := by rw [beq_eq_false_iff_ne]; omega
            have hq2 : ((lb : Int) == 0) = true := by rw [beq_iff_eq]; omega
            replace hz1 := Lib.hid hz1
            replace hz := Lib.hid hz
            go_upto_region 16 with fail
            obtain ⟨W3, hW3⟩ : ∃ W3 : World, W3 = W2.setCell gka (.bool true) := ⟨_, rfl⟩
            rw [← hW3] at hr3 bw3 ⊢
            clear hW3 cO2 cI2 cG fG
            have hOQ := hr3.out.ownI hN3.queue
            go_wp2_with (at_builtin; refine wpl_app1 rfl _ _ rfl w4.heap.size qv (castI q) k hOQ rfl rfl (by rw [castI_len]; omega) bw3.size ?_)
            intro qv' w7 ho7 b7 hal7
            obtain ⟨f7, hr7, hN7⟩ := hN3.push hr3.out k ho7 hal7
            replace hr7 := Lib.hid hr7
            replace ho7 := Lib.hid ho7
            clear hal7
            go_wp2
            go_roundw
            case measure => simp [intOf]; omega
            case rel => exact ⟨k + 1, _, _, f7, qv', rfl, by go_num, by omega, hr7.out, bw3.trans b7, hN7, htk2.out⟩
        · have hq1 : ((la : Int) == 0) = false := by rw [beq_eq_false_iff_ne]; omega
          have hq2 : ((lb : Int) == 0) = false := by rw [beq_eq_false_iff_ne]; omega
          have hsk2 := hsk.out (by omega) (by omega)
          replace hsk2 := Lib.hid hsk2
          replace hr2 := Lib.hid hr2
          replace hz := Lib.hid hz
          go_wp2
          go_roundw
          case measure => simp [intOf]; omega
          case rel => exact ⟨k + 1, gone, q, f2, qv, rfl, by go_num, by omega, hr2.out, bw2, hN2, hsk2.out⟩
      · obtain rfl : k = G.length := by omega
        have hN0 : LvN f ov iv gv qv G.length (fun t => (adjOf G t).length) (fun t => (adjOf H t).length) gone q :=
          ⟨by rw [← fillTo_all]; exact hN.outs, by rw [← fillTo_all]; exact hN.inns, hN.gones, hN.queue⟩
        have hps0 := hps.all
        have hbd0 : ∀ t, t < G.length → (adjOf H t).length ≤ 262144 ∧ (adjOf G t).length ≤ 262144 := fun t ht => ⟨by rw [hBl.out]; exact hHlen.out t ht, by rw [hAl.out]; exact hlen.out t ht⟩
        replace hps := Lib.hid hps
        replace hps0 := Lib.hid hps0
        replace hbd0 := Lib.hid hbd0
        replace hr := Lib.hid hr
        clear hN
        go_wp2_with fail
        go_loopw [9, 11] (fun qv iv2 wr => ∃ (i : Nat) (inn out c d : Nat → Nat) (gone : Nat → Bool) (q : List Nat) (f : Names) (qw : Value), qw = qv ∧ iv2 = .int .i64 i ∧ i ≤ q.length ∧ Rows w4.heap.size wr f ∧ Below w4.heap.size w4 wr ∧ LvN f ov iv gv qw G.length out inn gone q ∧ PS G.length (adjOf G) (adjOf H) inn out c d gone q (IsLive G.length (adjOf G)) i ∧ ∀ t, t < G.length → inn t ≤ 262144 ∧ out t ≤ 262144) (fun _ iv2 _ => G.length + 1 - (intOf iv2).toNat)
        case atStart => exact ⟨0, _, _, _, _, gone, q, f, qv, rfl, rfl, by omega, hr.out, bw, hN0, hps0.out, hbd0.out⟩
        case round =>
          clear hr bw hN0 hps0 hbd0 hps hqlt
          obtain ⟨i, inn, out, c, d, gone, q, f, qv, rfl, rfl, hi, hr, bw, hN, hps, hbd⟩ := hrel
          obtain ⟨wo, rfl⟩ : ∃ wo : World, wo = wr := ⟨_, rfl⟩
          have hqlt := nodup_len G.length q hps.peel.nodup hps.peel.low
          have hOQ := hr.ownI hN.queue
          have lQ := hOQ.at.len
          rw [castI_len] at lQ
          by_cases hil : i < q.length
          · obtain ⟨v, hv⟩ : ∃ v, q[i]? = some v := ⟨_, List.getElem?_eq_getElem hil⟩
            obtain ⟨hmid, hcv, hdv, hvn⟩ := hps.enter hv
            have iV := fun w' => hOQ.at.idx i (by rw [castI_len]; exact hil) w'
            have cV := hOQ.at.cellD i (by rw [castI_len]; exact hil)
            rw [castI_get hv] at cV
            obtain ⟨mv, iR, cR0, hMG⟩ := hG4.out.row v hvn
            have hHat2 : ListsAt w4 (.slice ha G.length hc) H := hHat.out
            obtain ⟨mh, iS, cS0, hMH⟩ := hHat2.row v (by have := hHl.out; omega)
            have hgx := hlen.out v hvn
            have hhx := hHlen.out v hvn
            have hgpG := hok.out v hvn
            have hgpHv := hgpH.out v hvn
            have hadjG : adjOf G v = (G.getD v []).map Int.toNat := rfl
            have hadjH : adjOf H v = (H.getD v []).map Int.toNat := rfl
            generalize G.getD v [] = gx at *
            generalize H.getD v [] = hx at *
            have lM := hMG.len
            have lMh := hMH.len
            generalize valAt qv i = qa at *
            generalize valAt (.slice na G.length nc) v = ra at *
            generalize valAt (.slice ha G.length hc) v = rb at *
            replace hr := Lib.hid hr
            replace hOQ := Lib.hid hOQ
            replace hMG := Lib.hid hMG
            replace hMH := Lib.hid hMH
            replace cR0 := Lib.hid cR0
            replace cS0 := Lib.hid cS0
            replace hps := Lib.hid hps
            replace hmid := Lib.hid hmid
            replace hbd := Lib.hid hbd
            replace hgpG := Lib.hid hgpG
            replace hgpHv := Lib.hid hgpHv
            replace hadjG := Lib.hid hadjG
            replace hadjH := Lib.hid hadjH
            replace hv := Lib.hid hv
            replace hHat2 := Lib.hid hHat2
            go_wp2_with fail
            clear iV cV lQ hps hOQ hqlt hi hil
            go_loopw [9, 13] (fun qv kv wr => ∃ (k : Nat) (inn out c d : Nat → Nat) (gone : Nat → Bool) (q : List Nat) (f : Names) (qw : Value), qw = qv ∧ kv = .int .i64 k ∧ k ≤ gx.length ∧ Rows w4.heap.size wr f ∧ Below w4.heap.size w4 wr ∧ LvN f ov iv gv qw G.length out inn gone q ∧ Mid G.length (adjOf G) (adjOf H) inn out c d gone q (IsLive G.length (adjOf G)) i v ∧ (c v = k ∧ d v = 0) ∧ ∀ t, t < G.length → inn t ≤ 262144 ∧ out t ≤ 262144) (fun _ kv _ => gx.length - (intOf kv).toNat)
            case atStart => exact ⟨0, inn, out, c, d, gone, q, f, qv, rfl, rfl, by omega, hr.out, bw, hN, hmid.out, ⟨hcv, hdv⟩, hbd.out⟩
            case round =>
              clear hr bw hN hmid hcv hdv hbd
              obtain ⟨k, inn, out, c, d, gone, q, f, qv, rfl, rfl, hk, hr, bw, hN, hmid, ⟨hcv, hdv⟩, hbd⟩ := hrel
              obtain ⟨wo, rfl⟩ : ∃ wo : World, wo = wr := ⟨_, rfl⟩
              have cRm := (bw.cell (World.block_lt_of_cell? _ _ cR0.out)).trans cR0.out
              have hal : (adjOf G v).length = gx.length := by rw [hadjG.out]; simp
              have hqlt := nodup_len G.length q hmid.peel.nodup hmid.peel.low
              by_cases hlk : k < gx.length
              · obtain ⟨t, ht⟩ : ∃ t, (adjOf G v)[k]? = some t := ⟨_, List.getElem?_eq_getElem (by omega)⟩
                have hgt : gx.getD k 0 = (t : Int) ∧ t < G.length := by
                  have hg := hgpG.out gx[k] (List.getElem_mem hlk)
                  have e := ht
                  rw [hadjG.out, List.getElem?_map, List.getElem?_eq_getElem hlk] at e
                  injection e with e
                  rw [List.getD_eq_getElem?_getD, List.getElem?_eq_getElem hlk, Option.getD_some]
                  omega
                obtain ⟨hgd, htn⟩ := hgt
                obtain ⟨h0, hmk, hno⟩ := hmid.step (live_set hT.out.t hok.out) hcv ht htn
                have hMo := hMG.out.below bw
                have iT := fun w' => hMo.idx k hlk w'
                have cT := hMo.cellD k hlk
                rw [hgd] at cT
                obtain ⟨iA, cA, fA, kA⟩ := tab_cell hr hN.inns t htn
                obtain ⟨b, hb⟩ : ∃ b, inn t = b + 1 := ⟨inn t - 1, by omega⟩
                have hbb := hbd t htn
                have hb1 : inn t - 1 = b := by omega
                rw [hb1] at hmk hno
                rw [hb] at cA
                have hwr : IntKind.i64.wrap (b : Int) = (b : Int) := wrapK (by omega) (by omega)
                have hcast : ((b + 1 : Nat) : Int) = (b : Int) + 1 := by omega
                rw [hcast] at cA
                obtain ⟨f1, hr1, hN1⟩ := hN.setInn hr t htn b
                have bw1 : Below w4.heap.size w4 (wo.setCell (valAt iv t) (.int .i64 (b : Int))) := bw.setCell kA _
                obtain ⟨_, cA1, _, _⟩ := tab_cell hr1 hN1.inns t htn
                rw [updN_same] at cA1
                obtain ⟨iG, cG, fG, kG⟩ := mark_cell hr1 hN1.gones t htn
                have hbd2 : ∀ x, x < G.length → updN inn t b x ≤ 262144 ∧ out x ≤ 262144 := fun x hx => by
                  have := hbd x hx
                  by_cases e : x = t
                  · subst e; rw [updN_same]; omega
                  · rw [updN_other _ _ _ e]; exact this
                replace hbd2 := Lib.hid hbd2
                replace hbd := Lib.hid hbd
                generalize valAt iv t = ta at *
                generalize valAt mv k = ja at *
                obtain ⟨gg, hgg⟩ : ∃ gg, gone t = gg := ⟨_, rfl⟩
                rw [hgg] at cG hmk hno
                replace hr := Lib.hid hr
                replace hMo := Lib.hid hMo
                replace hmid := Lib.hid hmid
                replace ht := Lib.hid ht
                replace hgd := Lib.hid hgd
                replace hb := Lib.hid hb
                replace hb1 := Lib.hid hb1
                replace hcast := Lib.hid hcast
                replace hgg := Lib.hid hgg
                replace hmk := Lib.hid hmk
                replace hno := Lib.hid hno
                replace hal := Lib.hid hal
                replace cRm0 := Lib.hid cRm
                go_upto_region 26 with fail
                obtain ⟨W1, hW1⟩ : ∃ W1 : World, W1 = wo.setCell ta (.int .i64 (b : Int)) := ⟨_, rfl⟩
                rw [← hW1] at hr1 bw1 cA1 cG fG ⊢
                clear hW1 cA fA cT iT cRm
                by_cases hb0 : b = 0
                · have hbq : ((b : Int) == 0) = true := by rw [beq_iff_eq]; omega
                  cases gg with
                  | false =>
                    have hm2 := hmk.out (by rw [hb.out]; omega) rfl
                    obtain ⟨f2, hr2, hN2⟩ := hN1.mark hr1 t htn
                    have bw2 : Below w4.heap.size w4 (W1.setCell (valAt gv t) (.bool true)) := bw1.setCell kG _
                    generalize valAt gv t = ga at *
                    replace hm2 := Lib.hid hm2
                    replace hr1 := Lib.hid hr1
                    replace hr2 := Lib.hid hr2
                    replace hb0 := Lib.hid hb0
                    go_upto_region 28 with fail
                    obtain ⟨W2, hW2⟩ : ∃ W2 : World, W2 = W1.setCell ga (.bool true) := ⟨_, rfl⟩
                    rw [← hW2] at hr2 bw2 ⊢
                    clear hW2 cA1 cG fG iG iA
                    have hOQ := hr2.out.ownI hN2.queue
                    go_wp2_with (at_builtin; refine wpl_app1 rfl _ _ rfl w4.heap.size qv (castI q) t hOQ rfl rfl (by rw [castI_len]; omega) bw2.size ?_)
                    intro qv' w7 ho7 b7 hal7
                    obtain ⟨f7, hr7, hN7⟩ := hN2.push hr2.out t ho7 hal7
                    replace hr7 := Lib.hid hr7
                    replace ho7 := Lib.hid ho7
                    clear hal7
                    go_wp2
                    go_roundw
                    case measure => simp [intOf]; omega
                    case rel => exact ⟨k + 1, updN inn t b, out, updN c v (k + 1), d, _, _, f7, qv', rfl, by go_num, by omega, hr7.out, bw2.trans b7, hN7, hm2.out, ⟨updN_same _ _ _, hdv⟩, hbd2.out⟩
                  | true =>
                    have hm2 := hno.out (fun _ => rfl)
                    replace hm2 := Lib.hid hm2
                    replace hr1 := Lib.hid hr1
                    replace hb0 := Lib.hid hb0
                    go_wp2
                    go_roundw
                    case measure => simp [intOf]; omega
                    case rel => exact ⟨k + 1, updN inn t b, out, updN c v (k + 1), d, gone, q, f1, qv, rfl, by go_num, by omega, hr1.out, bw1, hN1, hm2.out, ⟨updN_same _ _ _, hdv⟩, hbd2.out⟩
                · have hbq : ((b : Int) == 0) = false := by rw [beq_eq_false_iff_ne]; omega
                  have hm2 := hno.out (fun q => by rw [hb.out] at q; omega)
                  replace hm2 := Lib.hid hm2
                  replace hr1 := Lib.hid hr1
                  replace hb0 := Lib.hid hb0
                  go_wp2
                  go_roundw
                  case measure => simp [intOf]; omega
                  case rel => exact ⟨k + 1, updN inn t b, out, updN c v (k + 1), d, gone, q, f1, qv, rfl, by go_num, by omega, hr1.out, bw1, hN1, hm2.out, ⟨updN_same _ _ _, hdv⟩, hbd2.out⟩
              · obtain rfl : k = gx.length := by omega
                rw [← hal] at hcv
                replace hmid := Lib.hid hmid
                replace hbd := Lib.hid hbd
                replace hr := Lib.hid hr
                replace hal := Lib.hid hal
                go_wp2_with fail
                clear cRm hqlt
                go_loopw [9, 15] (fun qv kv wr => ∃ (k : Nat) (inn out c d : Nat → Nat) (gone : Nat → Bool) (q : List Nat) (f : Names) (qw : Value), qw = qv ∧ kv = .int .i64 k ∧ k ≤ hx.length ∧ Rows w4.heap.size wr f ∧ Below w4.heap.size w4 wr ∧ LvN f ov iv gv qw G.length out inn gone q ∧ Mid G.length (adjOf G) (adjOf H) inn out c d gone q (IsLive G.length (adjOf G)) i v ∧ (c v = (adjOf G v).length ∧ d v = k) ∧ ∀ t, t < G.length → inn t ≤ 262144 ∧ out t ≤ 262144) (fun _ kv _ => hx.length - (intOf kv).toNat)
                case atStart => exact ⟨0, inn, out, c, d, gone, q, f, qv, rfl, rfl, by omega, hr.out, bw, hN, hmid.out, ⟨hcv, hdv⟩, hbd.out⟩
                case round =>
                  clear hr bw hN hmid hcv hdv hbd
                  obtain ⟨k, inn, out, c, d, gone, q, f, qv, rfl, rfl, hk, hr, bw, hN, hmid, ⟨hcv, hdv⟩, hbd⟩ := hrel
                  obtain ⟨wo, rfl⟩ : ∃ wo : World, wo = wr := ⟨_, rfl⟩
                  have cRm := (bw.cell (World.block_lt_of_cell? _ _ cS0.out)).trans cS0.out
                  have hal : (adjOf H v).length = hx.length := by rw [hadjH.out]; simp
                  have hqlt := nodup_len G.length q hmid.peel.nodup hmid.peel.low
                  by_cases hlk : k < hx.length
                  · obtain ⟨t, ht⟩ : ∃ t, (adjOf H v)[k]? = some t := ⟨_, List.getElem?_eq_getElem (by omega)⟩
                    have hgt : hx.getD k 0 = (t : Int) ∧ t < G.length := by
                      have hg := hgpHv.out hx[k] (List.getElem_mem hlk)
                      have e := ht
                      rw [hadjH.out, List.getElem?_map, List.getElem?_eq_getElem hlk] at e
                      injection e with e
                      rw [List.getD_eq_getElem?_getD, List.getElem?_eq_getElem hlk, Option.getD_some]
                      omega
                    obtain ⟨hgd, htn⟩ := hgt
                    obtain ⟨h0, hmk, hno⟩ := hmid.swap.step (live_set hT.out.t hok.out).swap hdv ht htn
                    have hMo := hMH.out.below bw
                    have iT := fun w' => hMo.idx k hlk w'
                    have cT := hMo.cellD k hlk
                    rw [hgd] at cT
                    obtain ⟨iA, cA, fA, kA⟩ := tab_cell hr hN.outs t htn
                    obtain ⟨b, hb⟩ : ∃ b, out t = b + 1 := ⟨out t - 1, by omega⟩
                    have hbb := hbd t htn
                    have hb1 : out t - 1 = b := by omega
                    rw [hb1] at hmk hno
                    rw [hb] at cA
                    have hwr : IntKind.i64.wrap (b : Int) = (b : Int) := wrapK (by omega) (by omega)
                    have hcast : ((b + 1 : Nat) : Int) = (b : Int) + 1 := by omega
                    rw [hcast] at cA
                    obtain ⟨f1, hr1, hN1⟩ := hN.setOut hr t htn b
                    have bw1 : Below w4.heap.size w4 (wo.setCell (valAt ov t) (.int .i64 (b : Int))) := bw.setCell kA _
                    obtain ⟨_, cA1, _, _⟩ := tab_cell hr1 hN1.outs t htn
                    rw [updN_same] at cA1
                    obtain ⟨iG, cG, fG, kG⟩ := mark_cell hr1 hN1.gones t htn
                    have hbd2 : ∀ x, x < G.length → inn x ≤ 262144 ∧ updN out t b x ≤ 262144 := fun x hx => by
                      have := hbd x hx
                      by_cases e : x = t
                      · subst e; rw [updN_same]; omega
                      · rw [updN_other _ _ _ e]; exact this
                    replace hbd2 := Lib.hid hbd2
                    replace hbd := Lib.hid hbd
                    generalize valAt ov t = ta at *
                    generalize valAt mh k = ja at *
                    obtain ⟨gg, hgg⟩ : ∃ gg, gone t = gg := ⟨_, rfl⟩
                    rw [hgg] at cG hmk hno
                    replace hr := Lib.hid hr
                    replace hMo := Lib.hid hMo
                    replace hmid := Lib.hid hmid
                    replace ht := Lib.hid ht
                    replace hgd := Lib.hid hgd
                    replace hb := Lib.hid hb
                    replace hb1 := Lib.hid hb1
                    replace hcast := Lib.hid hcast
                    replace hgg := Lib.hid hgg
                    replace hmk := Lib.hid hmk
                    replace hno := Lib.hid hno
                    replace hal := Lib.hid hal
                    replace cRm0 := Lib.hid cRm
                    go_upto_region 34 with fail
                    obtain ⟨W1, hW1⟩ : ∃ W1 : World, W1 = wo.setCell ta (.int .i64 (b : Int)) := ⟨_, rfl⟩
                    rw [← hW1] at hr1 bw1 cA1 cG fG ⊢
                    clear hW1 cA fA cT iT cRm
                    by_cases hb0 : b = 0
                    · have hbq : ((b : Int) == 0) = true := by rw [beq_iff_eq]; omega
                      cases gg with
                      | false =>
                        have hm2 := hmk.out (by rw [hb.out]; omega) rfl
                        obtain ⟨f2, hr2, hN2⟩ := hN1.mark hr1 t htn
                        have bw2 : Below w4.heap.size w4 (W1.setCell (valAt gv t) (.bool true)) := bw1.setCell kG _
                        generalize valAt gv t = ga at *
                        replace hm2 := Lib.hid hm2
                        replace hr1 := Lib.hid hr1
                        replace hr2 := Lib.hid hr2
                        replace hb0 := Lib.hid hb0
                        go_upto_region 36 with fail
                        obtain ⟨W2, hW2⟩ : ∃ W2 : World, W2 = W1.setCell ga (.bool true) := ⟨_, rfl⟩
                        rw [← hW2] at hr2 bw2 ⊢
                        clear hW2 cA1 cG fG iG iA
                        have hOQ := hr2.out.ownI hN2.queue
                        go_wp2_with (at_builtin; refine wpl_app1 rfl _ _ rfl w4.heap.size qv (castI q) t hOQ rfl rfl (by rw [castI_len]; omega) bw2.size ?_)
                        intro qv' w7 ho7 b7 hal7
                        obtain ⟨f7, hr7, hN7⟩ := hN2.push hr2.out t ho7 hal7
                        replace hr7 := Lib.hid hr7
                        replace ho7 := Lib.hid ho7
                        clear hal7
                        go_wp2
                        go_roundw
                        case measure => simp [intOf]; omega
                        case rel => exact ⟨k + 1, inn, updN out t b, c, updN d v (k + 1), _, _, f7, qv', rfl, by go_num, by omega, hr7.out, bw2.trans b7, hN7, hm2.out.swap, ⟨hcv, updN_same _ _ _⟩, hbd2.out⟩
                      | true =>
                        have hm2 := hno.out (fun _ => rfl)
                        replace hm2 := Lib.hid hm2
                        replace hr1 := Lib.hid hr1
                        replace hb0 := Lib.hid hb0
                        go_wp2
                        go_roundw
                        case measure => simp [intOf]; omega
                        case rel => exact ⟨k + 1, inn, updN out t b, c, updN d v (k + 1), gone, q, f1, qv, rfl, by go_num, by omega, hr1.out, bw1, hN1, hm2.out.swap, ⟨hcv, updN_same _ _ _⟩, hbd2.out⟩
                    · have hbq : ((b : Int) == 0) = false := by rw [beq_eq_false_iff_ne]; omega
                      have hm2 := hno.out (fun q => by rw [hb.out] at q; omega)
                      replace hm2 := Lib.hid hm2
                      replace hr1 := Lib.hid hr1
                      replace hb0 := Lib.hid hb0
                      go_wp2
                      go_roundw
                      case measure => simp [intOf]; omega
                      case rel => exact ⟨k + 1, inn, updN out t b, c, updN d v (k + 1), gone, q, f1, qv, rfl, by go_num, by omega, hr1.out, bw1, hN1, hm2.out.swap, ⟨hcv, updN_same _ _ _⟩, hbd2.out⟩
                  · obtain rfl : k = hx.length := by omega
                    have hps2 := hmid.leave hcv (by rw [hdv, hal])
                    have hil2 := get_of hmid.cur
                    replace hps2 := Lib.hid hps2
                    replace hmid := Lib.hid hmid
                    replace hbd := Lib.hid hbd
                    replace hr := Lib.hid hr
                    replace hal := Lib.hid hal
                    go_wp2
                    go_roundw
                    case measure => simp [intOf]; omega
                    case rel => exact ⟨i + 1, inn, out, c, d, gone, q, f, qv, rfl, by go_num, by omega, hr.out, bw, hN, hps2.out, hbd.out⟩
          · obtain rfl : i = q.length := by omega
            have hend := hps.end_ hT.out.t hok.out
            have hR5 := hr.add (i := (5, 0)) (r' := rowI (.slice none 0 0) []) (Below.refl _ _) (OwnI.nil _ _) (fun k hk => by cases hk)
            have hg5 : upd f (5, 0) (some (rowI (.slice none 0 0) [])) (3, 0) = some (rowV 4 gv (tabB G.length gone)) := by rw [upd_ne _ _ (by simp)]; exact hN.gones
            have hl5 : upd f (5, 0) (some (rowI (.slice none 0 0) [])) (5, 0) = some (rowI (.slice none 0 0) (castI [])) := by rw [upd_same]; rfl
            generalize upd f (5, 0) (some (rowI (.slice none 0 0) [])) = f5 at hR5 hg5 hl5
            replace hend := Lib.hid hend
            replace hR5 := Lib.hid hR5
            replace hg5 := Lib.hid hg5
            replace hl5 := Lib.hid hl5
            replace hps := Lib.hid hps
            replace hbd := Lib.hid hbd
            replace hr := Lib.hid hr
            replace hOQ := Lib.hid hOQ
            go_wp2_with fail
            go_loopw [17, 18] (fun lv kv wr => ∃ (k : Nat) (f : Names) (lw : Value), lw = lv ∧ kv = .int .i64 k ∧ k ≤ G.length ∧ Rows w4.heap.size wr f ∧ Below w4.heap.size w4 wr ∧ f (3, 0) = some (rowV 4 gv (tabB G.length gone)) ∧ f (5, 0) = some (rowI lw (castI ((List.range k).filter fun t => !gone t)))) (fun _ kv _ => G.length - (intOf kv).toNat)
            case atStart => exact ⟨0, f5, _, rfl, rfl, by omega, hR5.out, bw, hg5.out, hl5.out⟩
            case round =>
              clear hR5 hg5 hl5 hr bw hN hOQ
              obtain ⟨k, f, lv, rfl, rfl, hk, hr, bw, hf3, hf5⟩ := hrel
              obtain ⟨wo, rfl⟩ : ∃ wo : World, wo = wr := ⟨_, rfl⟩
              have hOL := hr.ownI hf5
              have hll : ((List.range k).filter fun t => !gone t).length ≤ 10000 := by
                have := List.length_filter_le (fun t => !gone t) (List.range k)
                rw [List.length_range] at this; omega
              by_cases hlk : k < G.length
              · obtain ⟨iG, cG, fG, kG⟩ := mark_cell hr hf3 k hlk
                have hfn := filter_next (fun t => !gone t) k
                generalize valAt gv k = ga at *
                obtain ⟨gg, hgg⟩ : ∃ gg, gone k = gg := ⟨_, rfl⟩
                rw [hgg] at cG
                simp only [hgg] at hfn
                generalize (List.range k).filter (fun t => !gone t) = L at *
                cases gg with
                | true =>
                  rw [if_neg (by decide), List.append_nil] at hfn
                  rw [← hfn] at hf5
                  replace hfn := Lib.hid hfn
                  replace hf3 := Lib.hid hf3
                  replace hf5 := Lib.hid hf5
                  replace hr := Lib.hid hr
                  replace hOL := Lib.hid hOL
                  replace hgg := Lib.hid hgg
                  go_wp2
                  go_roundw
                  case measure => simp [intOf]; omega
                  case rel => exact ⟨k + 1, f, lv, rfl, by go_num, by omega, hr.out, bw, hf3.out, hf5.out⟩
                | false =>
                  rw [if_pos (by decide)] at hfn
                  replace hfn := Lib.hid hfn
                  replace hf3 := Lib.hid hf3
                  replace hf5 := Lib.hid hf5
                  replace hr := Lib.hid hr
                  replace hgg := Lib.hid hgg
                  go_wp2_with (at_builtin; refine wpl_app1 rfl _ _ rfl w4.heap.size lv (castI L) k hOL rfl rfl (by rw [castI_len]; omega) bw.size ?_)
                  intro lv' w7 ho7 b7 hal7
                  have R7 := row_push hr.out hf5.out k ho7 hal7
                  replace R7 := Lib.hid R7
                  replace ho7 := Lib.hid ho7
                  clear hal7
                  go_wp2
                  go_roundw
                  case measure => simp [intOf]; omega
                  case rel => exact ⟨k + 1, _, lv', rfl, by go_num, by omega, R7.out, bw.trans b7, (upd_ne _ _ (by simp)).trans hf3.out, by rw [upd_same, hfn.out]⟩
              · obtain rfl : k = G.length := by omega
                obtain ⟨⟨s0, s1, s2⟩, g0, g1, g2⟩ := hBx.out.keep bw hs4
                have bwe := b04.trans (bw.mono (Nat.le_of_lt hs4))
                replace hOL := Lib.hid hOL
                replace hr := Lib.hid hr
                replace hf3 := Lib.hid hf3
                replace hf5 := Lib.hid hf5
                go_wp2
                refine bodyPost_ret (v := .tuple #[lv, zErr]) (by simp [results, Tryz.results149, go_sem, s0, s1, s2]) rfl ⟨_, _, rfl, below_set3 bwe (by simp) _ _ _, ?_⟩
                rw [hck.out]
                exact ⟨rfl, ⟨(fun _ => ⟨_, hend.out, (hOL.out.set3 hs4 _ _ _).mono (Nat.le_of_lt hs4)⟩), (fun q => absurd rfl q)⟩⟩
end Go.Proofs.YtilpckngghffoaaGreatDoor

namespace Go.Proofs.YtilpckngghffoaaGreatDoor
open Go.RowKit Go.Shelf Go.Sort
set_option maxRecDepth 100000

def Tryz.laysDel_ren : Go.Shelf.Ren := ⟨fun | 10 => 101 | 6 => 97 | n => n, fun | 22 => 22 | 23 => 3 | 25 => 106 | 3 => 3 | 4 => 4 | 0 => 0 | n => n, fun | n => n⟩
theorem Tryz.laysDel : Go.Proofs.SlLaysH.n10 Tryz.prog Tryz.laysDel_ren := {
  mixed := by kernel_rfl
  f6 := ⟨Tryz.f97.name, by decide, Tryz.func97.trans (congrArg some (by kernel_rfl))⟩
  f10 := ⟨Tryz.f101.name, by decide, Tryz.func101.trans (congrArg some (by kernel_rfl))⟩
  t0 := Tryz.underlying0
  a0 := Tryz.isAgg0
  z0 := Tryz.sizeOf0
  v0 := Tryz.zeroValue0
  t3 := Tryz.underlying3
  a3 := Tryz.isAgg3
  z3 := Tryz.sizeOf3
  v3 := Tryz.zeroValue3
  t4 := Tryz.underlying4
  a4 := Tryz.isAgg4
  z4 := Tryz.sizeOf4
  v4 := Tryz.zeroValue4
  t22 := Tryz.underlying22
  a22 := Tryz.isAgg22
  z22 := Tryz.sizeOf22
  v22 := Tryz.zeroValue22
  a23 := Tryz.isAgg3
  z23 := Tryz.sizeOf3
  t25 := Tryz.underlying106
  a25 := Tryz.isAgg106
  z25 := Tryz.sizeOf106
  v25 := Tryz.zeroValue106 }

/-- Are quotient and rest one? -/
def dgI (N : Nat) (x : Int) : Bool := IntKind.i64.wrap (x.tdiv N) == x.tmod N
theorem dgI_aux (a c : Nat) (ha : a ≤ 100000) : (IntKind.i64.wrap (a : Int) == (c : Int)) = decide (a = c) := by
  rw [wrapK (x := (a : Int)) (by omega) (by omega)]
  by_cases e : a = c
  · simp [e]
  · rw [decide_eq_false e, beq_eq_false_iff_ne]; omega
theorem dgI_nat {N p : Nat} (hp : p ≤ 100000) : dgI N p = decide (Diag N p) := by
  unfold dgI
  have h1 : p / N ≤ 100000 := Nat.le_trans (Nat.div_le_self _ _) hp
  have e1 : (p : Int).tdiv (N : Int) = ((p / N : Nat) : Int) := by rw [Int.tdiv_eq_ediv_of_nonneg (by omega)]; simp
  have e2 : (p : Int).tmod (N : Int) = ((p % N : Nat) : Int) := by rw [Int.tmod_eq_emod_of_nonneg (by omega)]; simp
  rw [e1, e2, dgI_aux _ _ h1, decide_eq_decide]
  exact Iff.rfl

theorem apart1_any (x : Int) (b N : Nat) (w : World) (hN : 1 ≤ N) (hb : w.cell? ⟨b, 0, none⟩ = some (.int .i64 N)) :
    Calls Tryz.prog 102 #[.int .i64 x, .pointer (some ⟨b, 0, none⟩)] w (RetB (dgI N x) w) := by
  have h1 : ¬ (N : Int) = 0 := by omega
  have h2 : ((N : Int) == 0) = false := by rw [beq_eq_false_iff_ne]; omega
  have h3 : ¬ N = 0 := by omega
  go_enter Tryz.func102, Tryz.ntmps102
  go_upto_region 1 with fail
  refine wp_region_plan (fun w' => w'.cell? ⟨b, 0, none⟩ = some (.int .i64 N)) 7 [(0, true), (1, true), (2, true), (3, true), (4, true), (5, true), (6, true)] (by kernel_rfl) (by kernel_rfl) ?_
  have hS : w.drew.cell? ⟨b, 0, none⟩ = some (.int .i64 N) := hb
  refine headY (v := ?_) (some 4) rfl rfl (Or.inl ⟨by rfl, ?_⟩) hS ?_
  rotate_left
  · rintro W' s0; go_simp; try with_reducible rfl
  simp only [Act.put, List.setIfInBounds_toArray, List.set_cons_zero, List.set_cons_succ]
  refine headY (v := ?_) (some 5) rfl rfl (Or.inl ⟨by rfl, ?_⟩) hS ?_
  rotate_left
  · rintro W' s0; go_simp; try with_reducible rfl
  simp only [Act.put, List.setIfInBounds_toArray, List.set_cons_zero, List.set_cons_succ]
  refine headY (v := ?_) (some 6) rfl rfl (Or.inl ⟨by rfl, ?_⟩) hS ?_
  rotate_left
  · rintro W' s0; go_simp; try with_reducible rfl
  simp only [Act.put, List.setIfInBounds_toArray, List.set_cons_zero, List.set_cons_succ]
  refine headY (v := ?_) (some 7) rfl rfl (Or.inl ⟨by rfl, ?_⟩) hS ?_
  rotate_left
  · rintro W' s0; go_simp; try with_reducible rfl
  simp only [Act.put, List.setIfInBounds_toArray, List.set_cons_zero, List.set_cons_succ]
  refine headY (v := ?_) (some 8) rfl rfl (Or.inl ⟨by rfl, ?_⟩) hS ?_
  rotate_left
  · rintro W' s0; go_simp; try with_reducible rfl
  simp only [Act.put, List.setIfInBounds_toArray, List.set_cons_zero, List.set_cons_succ]
  refine headY (v := ?_) (some 9) rfl rfl (Or.inl ⟨by rfl, ?_⟩) hS ?_
  rotate_left
  · rintro W' s0; go_simp; try with_reducible rfl
  simp only [Act.put, List.setIfInBounds_toArray, List.set_cons_zero, List.set_cons_succ]
  refine headY (v := ?_) (some 10) rfl rfl (Or.inl ⟨by rfl, ?_⟩) hS ?_
  rotate_left
  · rintro W' s0; go_simp; try with_reducible rfl
  simp only [Act.put, List.setIfInBounds_toArray, List.set_cons_zero, List.set_cons_succ]
  refine head0 ?_
  simp only [List.drop_succ_cons, List.drop_zero]
  clear hS
  go_wp2
  refine NoPanic.normal ?_
  go_wp2
  go_ret
  exact ⟨1, rfl, rfl⟩
theorem eg_apart1 (args : Array Value) (w : World) : (callFunc 102 args).run Tryz.prog w = .ok (.enter 102 args) w := by kernel_rfl

theorem gives1 (x : Int) (b N : Nat) (w : World) (hN : 1 ≤ N) (hb : w.cell? ⟨b, 0, none⟩ = some (.int .i64 N)) : FnGives Tryz.prog 102 #[.pointer (some ⟨b, 0, none⟩)] #[.int .i64 x] (.bool (dgI N x)) w := by
  refine (apart1_any x b N w hN hb).mono ?_
  rintro e w' ⟨n, rfl, rfl⟩
  exact ⟨rfl, n, rfl⟩
theorem delete_own (B : Nat) (v : Value) (xs : List Int) (b N : Nat) (w : World) (h : OwnI B w v xs) (hx : xs ≠ []) (hN : 1 ≤ N) (hb : w.cell? ⟨b, 0, none⟩ = some (.int .i64 N)) (hne : v.ownBlock ≠ some b) :
    Calls Tryz.prog 101 #[v, .func (.func 102) #[] #[.pointer (some ⟨b, 0, none⟩)]] w fun e w' => ∃ x, e = .returned x ∧ x.ownBlock = v.ownBlock ∧ OwnI B w' x (xs.filter fun x => !dgI N x) ∧ Below B w w' := by
  have hbl := World.block_lt_of_cell? _ _ hb
  rcases h.2 with ⟨rfl, hn⟩ | ⟨g, cap, cur, rfl, hB, hg, hn, hm, hs, ht⟩
  · exact absurd (List.length_eq_zero_iff.1 hn) hx
  · have hne' : b ≠ g := fun e => hne (by rw [e]; rfl)
    have hcon := AnyE.slices_DeleteFunc Tryz.laysDel (Value.int .i64) (fun _ => rfl) (dgI N) 102 #[.pointer (some ⟨b, 0, none⟩)] (fun args w' => eg_apart1 args w') 0 (fun w => by kernel_rfl) g 0 cap xs.toArray w
      (fun W x hb' => gives1 x b N W hN ((hb'.cell (p := ⟨b, 0, none⟩) hbl).trans hb))
      (fun n os dk x _ => gives1 x b N _ hN (by
        unfold sortWorld
        rw [cell?_grow _ _ _ (by show b < (putRow _ _ _ _ _).heap.size; rw [size_putRow]; exact hbl), cell?_putRow_other _ _ g 0 _ _ (Or.inl hne')]
        exact hb))
      (holds_of_block_i hg (by simpa using ht)) (by have := h.at.len_le; simpa using this) (by simpa using hn)
    refine Calls.mono hcon ?_
    rintro e w' ⟨rfl, q, rfl⟩
    have hfl : (xs.toArray.toList.filter fun x => !dgI N x) = xs.filter fun x => !dgI N x := rfl
    rw [hfl]
    have hle := List.length_filter_le (fun x => !dgI N x) xs
    generalize hF : (xs.filter fun x => !dgI N x) = F at *
    have hL : (F ++ List.replicate (xs.toArray.size - F.length) 0).length = xs.length := by simp; omega
    have ho := ownsRow_sorted_i (w := w) (n := q) (os := #[]) (ss := xs) (ts := F ++ List.replicate (xs.toArray.size - F.length) 0) hL hB hg hn hm hs
    have hgr := grownBy_sorted_i (w := w) (g := g) (n := q) (os := #[]) (F ++ List.replicate (xs.toArray.size - F.length) 0).toArray
    rw [grow_empty] at ho hgr
    have hO : OwnI B (putRow (Value.int .i64) (Sort.ahead w q) g 0 (F ++ List.replicate (xs.toArray.size - F.length) 0).toArray) (.slice (some ⟨g, 0, none⟩) xs.length cap) (F ++ List.replicate (xs.toArray.size - F.length) 0) := by
      unfold OwnI; rw [hL]; exact ho
    have ho2 := hO.cutTo F.length (by rw [hL]; exact hle)
    rw [List.take_left' rfl] at ho2
    exact ⟨_, rfl, rfl, ho2, (Below.refl _ _).grown hgr (by have := (Array.getElem?_eq_some_iff.1 hg).1; omega) (fun k hk => by cases hk; exact hB)⟩
end Go.Proofs.YtilpckngghffoaaGreatDoor

namespace Go.Proofs.YtilpckngghffoaaGreatDoor

/-- The search: the levels D, the queue q; the first i of it have been gone through, and of the next, v, the arrows to pre. -/
structure MIn (N : Nat) (adj : Nat → List Nat) (D : Nat → Nat) (q : List Nat) (i v : Nat) (pre : List Nat) : Prop where
  at_ : q[i]? = some v
  nodup : q.Nodup
  low : ∀ x ∈ q, x < N * N
  diag : ∀ x, x < N * N → Diag N x → x ∈ q ∧ D x = 0
  old : ∀ x, x < N * N → ¬ Diag N x → (x ∈ q ↔ 0 < D x)
  mono : ∀ (j k x y : Nat), j ≤ k → q[j]? = some x → q[k]? = some y → D x ≤ D y
  top : ∀ x ∈ q, D x ≤ D v + 1
  bnd : ∀ x ∈ q, D x ≤ q.length
  done : ∀ (k x : Nat), k < i → q[k]? = some x → ∀ t ∈ adj x, (¬ Diag N t → t ∈ q ∧ D t ≤ D x + 1) ∧ (Diag N t → Diag N x)
  now : ∀ t ∈ pre, (¬ Diag N t → t ∈ q ∧ D t ≤ D v + 1) ∧ (Diag N t → Diag N v)
/-- Between two of the queue: the first i have been gone through. -/
structure MOut (N : Nat) (adj : Nat → List Nat) (D : Nat → Nat) (q : List Nat) (i : Nat) : Prop where
  nodup : q.Nodup
  low : ∀ x ∈ q, x < N * N
  diag : ∀ x, x < N * N → Diag N x → x ∈ q ∧ D x = 0
  old : ∀ x, x < N * N → ¬ Diag N x → (x ∈ q ↔ 0 < D x)
  mono : ∀ (j k x y : Nat), j ≤ k → q[j]? = some x → q[k]? = some y → D x ≤ D y
  top : ∀ v : Nat, q[i]? = some v → ∀ x ∈ q, D x ≤ D v + 1
  bnd : ∀ x ∈ q, D x ≤ q.length
  done : ∀ (k x : Nat), k < i → q[k]? = some x → ∀ t ∈ adj x, (¬ Diag N t → t ∈ q ∧ D t ≤ D x + 1) ∧ (Diag N t → Diag N x)
section
variable {N : Nat} {adj : Nat → List Nat} {D : Nat → Nat} {q : List Nat} {i v : Nat} {pre : List Nat}
/-- The pairs of equal nodes, in order. -/
def diags (N : Nat) : List Nat := (List.range N).map fun u => u * N + u
theorem mem_diags {N x : Nat} : x ∈ diags N ↔ ∃ u, u < N ∧ x = u * N + u := by
  unfold diags; rw [List.mem_map]
  constructor
  · rintro ⟨u, h, rfl⟩; exact ⟨u, List.mem_range.1 h, rfl⟩
  · rintro ⟨u, h, rfl⟩; exact ⟨u, List.mem_range.2 h, rfl⟩
theorem MOut.init (N : Nat) (adj : Nat → List Nat) : MOut N adj (fun _ => 0) (diags N) 0 := by
  refine ⟨?_, fun x hx => ?_, fun x hx hd => ⟨mem_diags.2 ⟨x / N, div_lt_of hx, hd.eq⟩, rfl⟩, fun x hx hd => ⟨fun h => ?_, fun h => absurd h (by simp)⟩, fun _ _ _ _ _ _ _ => Nat.le_refl _, fun _ _ _ _ => by simp, fun _ _ => Nat.zero_le _, fun k x hk => by omega⟩
  · unfold diags
    rw [List.nodup_iff_pairwise_ne, List.pairwise_map]
    refine List.pairwise_lt_range.imp_of_mem fun {a b} ha hb h e => ?_
    have hb := List.mem_range.1 hb
    have := Nat.mul_le_mul_right N (show a + 1 ≤ b by omega)
    rw [Nat.add_mul] at this
    omega
  · obtain ⟨u, hu, rfl⟩ := mem_diags.1 hx
    exact pair_lt hu hu
  · obtain ⟨u, hu, rfl⟩ := mem_diags.1 h
    exact absurd (diag_mk hu) hd
theorem MOut.enter (h : MOut N adj D q i) (hv : q[i]? = some v) : MIn N adj D q i v [] :=
  ⟨hv, h.nodup, h.low, h.diag, h.old, h.mono, h.top v hv, h.bnd, h.done, fun _ ht => by cases ht⟩
theorem MIn.leave (h : MIn N adj D q i v pre) (hp : pre = adj v) : MOut N adj D q (i + 1) := by
  subst hp
  refine ⟨h.nodup, h.low, h.diag, h.old, h.mono, fun y hy x hx => ?_, h.bnd, fun k x hk hx => ?_⟩
  · have := h.mono i (i + 1) v y (by omega) h.at_ hy
    have := h.top x hx
    omega
  · by_cases e : k = i
    · subst e
      rw [h.at_] at hx; cases hx
      exact h.now
    · exact h.done k x (by omega) hx
/-- An arrow that is passed over: to a pair of equal nodes from one, to one that has come up. -/
theorem MIn.skip (h : MIn N adj D q i v pre) {t : Nat} (ht : (Diag N t ∧ Diag N v) ∨ (¬ Diag N t ∧ t ∈ q)) : MIn N adj D q i v (pre ++ [t]) := by
  refine ⟨h.at_, h.nodup, h.low, h.diag, h.old, h.mono, h.top, h.bnd, h.done, fun s hs => ?_⟩
  rcases List.mem_append.1 hs with hs | hs
  · exact h.now s hs
  · cases List.mem_singleton.1 hs
    rcases ht with ⟨h1, h2⟩ | ⟨h1, h2⟩
    · exact ⟨fun q => absurd h1 q, fun _ => h2⟩
    · exact ⟨fun _ => ⟨h2, h.top _ h2⟩, fun q => absurd q h1⟩
/-- A new one. -/
theorem MIn.add (h : MIn N adj D q i v pre) {t : Nat} (htl : t < N * N) (ht : ¬ Diag N t) (hq : t ∉ q) : MIn N adj (updN D t (D v + 1)) (q ++ [t]) i v (pre ++ [t]) := by
  have hi : i < q.length := (List.getElem?_eq_some_iff.1 h.at_).1
  have hvq : v ∈ q := List.mem_of_getElem? h.at_
  have hvt : v ≠ t := fun e => hq (by rw [← e]; exact hvq)
  have hD : ∀ x, x ∈ q → updN D t (D v + 1) x = D x := fun x hx => updN_other _ _ _ (fun e => hq (by rw [← e]; exact hx))
  have hget : ∀ k x, (q ++ [t])[k]? = some x → (q[k]? = some x ∧ k < q.length) ∨ (k = q.length ∧ x = t) := fun k x hx => by
    rw [List.getElem?_append] at hx
    split at hx
    · exact .inl ⟨hx, by assumption⟩
    · right
      cases hk : k - q.length with
      | zero => rw [hk] at hx; simp at hx; exact ⟨by omega, hx.symm⟩
      | succ n => rw [hk] at hx; simp at hx
  refine ⟨by rw [List.getElem?_append_left hi]; exact h.at_, List.nodup_append.2 ⟨h.nodup, by simp, fun a ha b hb e => by cases List.mem_singleton.1 hb; subst e; exact hq ha⟩, fun x hx => ?_, fun x hx hd => ?_, fun x hx hd => ?_, fun j k x y hjk hx hy => ?_, fun x hx => ?_, fun x hx => ?_, fun k x hk hx s hs => ?_, fun s hs => ?_⟩
  · rcases List.mem_append.1 hx with hx | hx
    · exact h.low x hx
    · cases List.mem_singleton.1 hx; exact htl
  · obtain ⟨h1, h2⟩ := h.diag x hx hd
    exact ⟨List.mem_append_left _ h1, by rw [hD x h1]; exact h2⟩
  · by_cases e : x = t
    · subst e; rw [updN_same]; simp
    · rw [updN_other _ _ _ e, ← h.old x hx hd]; simp [e]
  · rcases hget j x hx with ⟨a1, _⟩ | ⟨a1, rfl⟩
    · rw [hD x (List.mem_of_getElem? a1)]
      rcases hget k y hy with ⟨b1, _⟩ | ⟨b1, rfl⟩
      · rw [hD y (List.mem_of_getElem? b1)]; exact h.mono j k x y hjk a1 b1
      · rw [updN_same]; exact h.top x (List.mem_of_getElem? a1)
    · rcases hget k y hy with ⟨b1, b2⟩ | ⟨b1, rfl⟩
      · omega
      · exact Nat.le_refl _
  · rw [updN_other D t (D v + 1) hvt]
    rcases List.mem_append.1 hx with hx | hx
    · rw [hD x hx]; exact h.top x hx
    · cases List.mem_singleton.1 hx; rw [updN_same]; exact Nat.le_refl _
  · rw [List.length_append, List.length_singleton]
    rcases List.mem_append.1 hx with hx | hx
    · rw [hD x hx]; have := h.bnd x hx; omega
    · cases List.mem_singleton.1 hx; rw [updN_same]; have := h.bnd v hvq; omega
  · rcases hget k x hx with ⟨a1, _⟩ | ⟨a1, rfl⟩
    · rw [hD x (List.mem_of_getElem? a1)]
      obtain ⟨c1, c2⟩ := h.done k x hk a1 s hs
      exact ⟨fun q' => by
        obtain ⟨d1, d2⟩ := c1 q'
        exact ⟨List.mem_append_left _ d1, by rw [hD s d1]; exact d2⟩, c2⟩
    · omega
  · rw [updN_other D t (D v + 1) hvt]
    rcases List.mem_append.1 hs with hs | hs
    · obtain ⟨c1, c2⟩ := h.now s hs
      exact ⟨fun q' => by
        obtain ⟨d1, d2⟩ := c1 q'
        exact ⟨List.mem_append_left _ d1, by rw [hD s d1]; exact d2⟩, c2⟩
    · cases List.mem_singleton.1 hs
      exact ⟨fun _ => ⟨List.mem_append_right _ (by simp), by rw [updN_same]; exact Nat.le_refl _⟩, fun q' => absurd q' ht⟩
/-- Of a way, whose vertices are gone through as far as j, the next one lies in the queue. -/
theorem MOut.along (h : MOut N adj D q i) {u : List Nat} (hu : ApartWay N adj u) : ∀ j, j + 1 < u.length →
    (∃ k, k ≤ j ∧ u.getD k 0 ∈ q ∧ D (u.getD k 0) ≤ k ∧ ∀ m, m < i → q[m]? ≠ some (u.getD k 0)) ∨ (u.getD j 0 ∈ q ∧ D (u.getD j 0) ≤ j ∧ ∃ m, m < i ∧ q[m]? = some (u.getD j 0))
  | 0, h1 => by
    obtain ⟨a, b⟩ := h.diag _ (hu.low 0 (by omega)) hu.fst
    by_cases q' : ∃ m, m < i ∧ q[m]? = some (u.getD 0 0)
    · exact .inr ⟨a, by omega, q'⟩
    · exact .inl ⟨0, Nat.le_refl _, a, by omega, fun m hm e => q' ⟨m, hm, e⟩⟩
  | j + 1, h1 => by
    rcases h.along hu j (by omega) with ⟨k, k1, k2, k3, k4⟩ | ⟨_, a2, m, m1, m2⟩
    · exact .inl ⟨k, by omega, k2, k3, k4⟩
    · obtain ⟨c1, _⟩ := h.done m _ m1 m2 _ (hu.arr j (by omega))
      obtain ⟨d1, d2⟩ := c1 (hu.inn (j + 1) (by omega) h1)
      by_cases q' : ∃ m, m < i ∧ q[m]? = some (u.getD (j + 1) 0)
      · exact .inr ⟨d1, by omega, q'⟩
      · exact .inl ⟨j + 1, Nat.le_refl _, d1, by omega, fun m hm e => q' ⟨m, hm, e⟩⟩
/-- At the end of the queue: there is no such way. -/
theorem MOut.none (h : MOut N adj D q i) (hi : q.length ≤ i) (u : List Nat) : ¬ ApartWay N adj u := fun hu => by
  have h3 := hu.len
  rcases h.along hu (u.length - 2) (by omega) with ⟨k, _, k2, _, k4⟩ | ⟨_, _, m, m1, m2⟩
  · obtain ⟨m, hm⟩ := List.mem_iff_getElem?.1 k2
    have := (List.getElem?_eq_some_iff.1 hm).1
    exact k4 m (by omega) hm
  · obtain ⟨_, c2⟩ := h.done m _ m1 m2 _ (hu.arr (u.length - 2) (by omega))
    refine hu.inn (u.length - 2) (by omega) (by omega) (c2 ?_)
    rw [show u.length - 2 + 1 = u.length - 1 by omega]
    exact hu.lst
/-- Whoever is met from v: no way is shorter. -/
theorem MIn.best (h : MIn N adj D q i v pre) {u : List Nat} (hu : ApartWay N adj u) : D v + 3 ≤ u.length + 1 := by
  have h3 := hu.len
  have ho : MOut N adj D q i := ⟨h.nodup, h.low, h.diag, h.old, h.mono, fun y hy => by rw [h.at_] at hy; cases hy; exact h.top, h.bnd, h.done⟩
  rcases ho.along hu (u.length - 2) (by omega) with ⟨k, k1, k2, k3, k4⟩ | ⟨_, _, m, m1, m2⟩
  · obtain ⟨m, hm⟩ := List.mem_iff_getElem?.1 k2
    have hmi : i ≤ m := Nat.le_of_not_lt fun q' => k4 m q' hm
    have := h.mono i m v _ hmi h.at_ hm
    omega
  · obtain ⟨_, c2⟩ := h.done m _ m1 m2 _ (hu.arr (u.length - 2) (by omega))
    refine absurd (c2 ?_) (hu.inn (u.length - 2) (by omega) (by omega))
    rw [show u.length - 2 + 1 = u.length - 1 by omega]
    exact hu.lst

/-- From whom each came. -/
def CameOf (N : Nat) (adj : Nat → List Nat) (D : Nat → Nat) (q : List Nat) (came : Nat → Int) : Prop :=
  (∀ x, x < N * N → ((came x < 0 ↔ Diag N x ∨ x ∉ q) ∧ (came x < 0 → came x = -1))) ∧ ∀ x, x < N * N → 0 ≤ came x → ∃ p : Nat, came x = p ∧ p ∈ q ∧ x ∈ adj p ∧ D x = D p + 1
theorem CameOf.init (N : Nat) (adj : Nat → List Nat) : CameOf N adj (fun _ => 0) (diags N) (fun _ => -1) := by
  refine ⟨fun x hx => ⟨⟨fun _ => ?_, fun _ => (by show (-1 : Int) < 0; decide)⟩, fun _ => rfl⟩, fun x _ h => by simp at h⟩
  by_cases hd : Diag N x
  · exact .inl hd
  · right
    intro hm
    obtain ⟨u, hu, rfl⟩ := mem_diags.1 hm
    exact hd (diag_mk hu)
theorem CameOf.add (h : MIn N adj D q i v pre) {came : Nat → Int} (hc : CameOf N adj D q came) {t : Nat} (ht : ¬ Diag N t) (hq : t ∉ q) (ha : t ∈ adj v) : CameOf N adj (updN D t (D v + 1)) (q ++ [t]) (updN came t (v : Int)) := by
  have hvq : v ∈ q := List.mem_of_getElem? h.at_
  have hvt : v ≠ t := fun e => hq (by rw [← e]; exact hvq)
  refine ⟨fun x hx => ?_, fun x hx h0 => ?_⟩
  · by_cases e : x = t
    · subst e; rw [updN_same]
      exact ⟨⟨fun q' => by omega, fun q' => by rcases q' with q' | q'; exact absurd q' ht; exact absurd (List.mem_append_right _ (by simp)) q'⟩, fun q' => by omega⟩
    · rw [updN_other _ _ _ e]
      obtain ⟨a, b⟩ := hc.1 x hx
      refine ⟨?_, b⟩
      rw [a]; simp [e]
  · by_cases e : x = t
    · subst e
      refine ⟨v, updN_same .., List.mem_append_left _ hvq, ha, ?_⟩
      rw [updN_same, updN_other _ _ _ hvt]
    · rw [updN_other _ _ _ e] at h0 ⊢
      obtain ⟨p, p1, p2, p3, p4⟩ := hc.2 x hx h0
      refine ⟨p, p1, List.mem_append_left _ p2, p3, ?_⟩
      rw [updN_other _ _ _ e, updN_other _ _ _ (fun e' => hq (by rw [← e']; exact p2))]
      exact p4
/-- The way back from u to a pair of equal nodes. -/
inductive BackWay (N : Nat) (adj : Nat → List Nat) (came : Nat → Int) : Nat → List Nat → Prop
  | stop (x : Nat) (h : came x = -1) (hd : Diag N x) : BackWay N adj came x [x]
  | step (x p : Nat) (c : List Nat) (h : came x = p) (hd : ¬ Diag N x) (ha : x ∈ adj p) (hp : p < N * N) (hc : BackWay N adj came p c) : BackWay N adj came x (x :: c)
theorem CameOf.back {came : Nat → Int} (hq : ∀ x ∈ q, x < N * N) (h0 : ∀ x ∈ q, ¬ Diag N x → 0 < D x) (hc : CameOf N adj D q came) : ∀ n x, D x = n → x ∈ q → ∃ c, BackWay N adj came x c ∧ c.length ≤ n + 1
  | n, x, hn, hx => by
    obtain ⟨a, b⟩ := hc.1 x (hq x hx)
    by_cases hd : Diag N x
    · exact ⟨[x], .stop x (b (a.2 (.inl hd))) hd, by simp⟩
    · have h1 : 0 ≤ came x := by
        apply Classical.byContradiction
        intro q'
        rcases a.1 (by omega) with q' | q'
        · exact hd q'
        · exact q' hx
      obtain ⟨p, p1, p2, p3, p4⟩ := hc.2 x (hq x hx) h1
      obtain ⟨c, c1, c2⟩ := CameOf.back hq h0 hc (n - 1) p (by omega) p2
      exact ⟨x :: c, .step x p c p1 hd p3 (hq p p2) c1, by simp; omega⟩
termination_by n => n
decreasing_by all_goals (have := h0 x hx hd; omega)
theorem BackWay.ne {came : Nat → Int} {x : Nat} {c : List Nat} (h : BackWay N adj came x c) : ∃ c', c = x :: c' := by cases h <;> exact ⟨_, rfl⟩
theorem BackWay.next {came : Nat → Int} {x : Nat} {c : List Nat} (h : BackWay N adj came x c) (hx : x < N * N) : ∀ k y, c[k]? = some y → y < N * N ∧ ((k + 1 < c.length ∧ ∃ z, c[k + 1]? = some z ∧ came y = z) ∨ (k + 1 = c.length ∧ came y = -1)) := by
  induction h with
  | stop x h hd =>
    intro k y hy
    cases k with
    | zero => simp at hy; subst hy; exact ⟨hx, .inr ⟨rfl, h⟩⟩
    | succ k => simp at hy
  | step x p c hcm hnd ha hp hc ih =>
    intro k y hy
    obtain ⟨c', rfl⟩ := hc.ne
    cases k with
    | zero => simp at hy; subst hy; exact ⟨hx, .inl ⟨by simp, p, rfl, hcm⟩⟩
    | succ k =>
      have hy : (p :: c')[k]? = some y := by simpa using hy
      obtain ⟨h1, h2⟩ := ih hp k y hy
      refine ⟨h1, h2.imp ?_ ?_⟩
      · rintro ⟨a, z, b, d⟩; exact ⟨by simpa using a, z, by simpa using b, d⟩
      · rintro ⟨a, b⟩; exact ⟨by simpa using a, b⟩
/-- The whole way, from its first vertex on. -/
theorem BackWay.way {came : Nat → Int} {x : Nat} {c : List Nat} (h : BackWay N adj came x c) (hx : x < N * N) :
    (∀ i, i < c.length → c.reverse.getD i 0 < N * N) ∧ (∀ i, i + 1 < c.length → c.reverse.getD (i + 1) 0 ∈ adj (c.reverse.getD i 0)) ∧ Diag N (c.reverse.getD 0 0) ∧ (∀ i, 0 < i → i < c.length → ¬ Diag N (c.reverse.getD i 0)) ∧ c.reverse.getD (c.length - 1) 0 = x ∧ 0 < c.length := by
  induction h with
  | stop x _ hd => exact ⟨fun i hi => by simp at hi; subst hi; simpa using hx, fun i hi => by simp at hi, by simpa using hd, fun i h1 h2 => by simp at h2; omega, by simp, by simp⟩
  | step x p c hcm hnd ha hp hc ih =>
    obtain ⟨i1, i2, i3, i4, i5, i6⟩ := ih hp
    have g1 : ∀ i, i < c.length → (x :: c).reverse.getD i 0 = c.reverse.getD i 0 := fun i hi => by
      rw [List.reverse_cons, List.getD_eq_getElem?_getD, List.getElem?_append_left (by simpa using hi)]; rfl
    have g2 : (x :: c).reverse.getD c.length 0 = x := by
      rw [List.reverse_cons, List.getD_eq_getElem?_getD, List.getElem?_append_right (by simp)]; simp
    refine ⟨fun i hi => ?_, fun i hi => ?_, ?_, fun i h1 h2 => ?_, ?_, by simp⟩
    · by_cases e : i < c.length
      · rw [g1 i e]; exact i1 i e
      · obtain rfl : i = c.length := by simp at hi; omega
        rw [g2]; exact hx
    · have hi : i + 1 < c.length + 1 := by simpa using hi
      rw [g1 i (by omega)]
      by_cases e : i + 1 < c.length
      · rw [g1 _ e]; exact i2 i e
      · obtain rfl : i = c.length - 1 := by omega
        rw [i5, show c.length - 1 + 1 = c.length by omega, g2]; exact ha
    · rw [g1 0 i6]; exact i3
    · by_cases e : i < c.length
      · rw [g1 i e]; exact i4 i h1 e
      · obtain rfl : i = c.length := by simp at h2; omega
        rw [g2]; exact hnd
    · rw [List.length_cons, Nat.add_sub_cancel, g2]
/-- What is met: a way of the kind, and none is shorter. -/
theorem MIn.met (h : MIn N adj D q i v pre) {came : Nat → Int} (hc : CameOf N adj D q came) {t : Nat} (hv : ¬ Diag N v) (ht : Diag N t) (htl : t < N * N) (ha : t ∈ adj v) :
    ∃ c, BackWay N adj came v c ∧ ApartWay N adj (c.reverse ++ [t]) ∧ (c.reverse ++ [t]).length = D v + 2 ∧ ∀ u, ApartWay N adj u → (c.reverse ++ [t]).length ≤ u.length := by
  have hvq : v ∈ q := List.mem_of_getElem? h.at_
  obtain ⟨c, hb, hl⟩ := hc.back h.low (fun x hx hd => (h.old x (h.low x hx) hd).1 hx) (D v) v rfl hvq
  obtain ⟨w1, w2, w3, w4, w5, w6⟩ := hb.way (h.low v hvq)
  have h2 : 2 ≤ c.length := by
    obtain ⟨c', rfl⟩ := hb.ne
    cases hb with
    | stop _ _ hd => exact absurd hd hv
    | step _ p _ _ _ _ _ hc' => obtain ⟨_, rfl⟩ := hc'.ne; simp
  have g1 : ∀ i, i < c.length → (c.reverse ++ [t]).getD i 0 = c.reverse.getD i 0 := fun i hi => by
    rw [List.getD_eq_getElem?_getD, List.getElem?_append_left (by simpa using hi)]; rfl
  have g2 : (c.reverse ++ [t]).getD c.length 0 = t := by
    rw [List.getD_eq_getElem?_getD, List.getElem?_append_right (by simp)]; simp
  have hL : (c.reverse ++ [t]).length = c.length + 1 := by simp
  have hw : ApartWay N adj (c.reverse ++ [t]) := by
    refine ⟨by omega, fun i hi => ?_, fun i hi => ?_, ?_, ?_, fun i h1 h2 => ?_⟩
    · by_cases e : i < c.length
      · rw [g1 i e]; exact w1 i e
      · obtain rfl : i = c.length := by omega
        rw [g2]; exact htl
    · rw [g1 i (by omega)]
      by_cases e : i + 1 < c.length
      · rw [g1 _ e]; exact w2 i e
      · obtain rfl : i = c.length - 1 := by omega
        rw [w5, show c.length - 1 + 1 = c.length by omega, g2]; exact ha
    · rw [g1 0 (by omega)]; exact w3
    · rw [hL, Nat.add_sub_cancel, g2]; exact ht
    · rw [g1 i (by omega)]; exact w4 i h1 (by omega)
  have hmin : ∀ u, ApartWay N adj u → D v + 2 ≤ u.length := fun u hu => by have := h.best hu; omega
  have := hmin _ hw
  refine ⟨c, hb, hw, by omega, fun u hu => ?_⟩
  have := hmin u hu
  omega
end
end Go.Proofs.YtilpckngghffoaaGreatDoor

namespace Go.Proofs.YtilpckngghffoaaGreatDoor

theorem diag_arr {K N : Nat} {T : List Int} {u s : Nat} (hu : u < N) (hs : s < K) : toN K N u s * N + toN K N u s ∈ pairL K N T (u * N + u) := by
  rw [mem_pairL (by omega), pair_div hu, pair_mod hu]
  exact ⟨s, s, hs, hs, rfl, rfl⟩
/-- Where a word leads from a node. -/
theorem diag_word {K N : Nat} {T : List Int} {u : Nat} (hu : u < N) : ∀ (n : Nat) (xs : List Int), xs.length = n → Syms K xs → Goes (pairL K N T) (u * N + u) ((u * pw K xs.length + numW K xs) % N * N + (u * pw K xs.length + numW K xs) % N)
  | 0, xs, hn, _ => by
    obtain rfl := List.length_eq_zero_iff.1 hn
    rw [show u * pw K ([] : List Int).length + numW K [] = u by simp [pw, numW], Nat.mod_eq_of_lt hu]
    exact .refl _
  | n + 1, xs, hn, hx => by
    have hne : xs ≠ [] := by intro e; subst e; simp at hn
    obtain ⟨b, x, rfl⟩ : ∃ b x, xs = b ++ [x] := ⟨xs.dropLast, xs.getLast hne, (List.dropLast_concat_getLast hne).symm⟩
    have hb : b.length = n := by simpa using hn
    have ih := diag_word (T := T) hu n b hb (fun y hy => hx y (List.mem_append_left _ hy))
    have hxs := hx x (by simp)
    refine .step ih ?_
    have := diag_arr (T := T) (u := (u * pw K b.length + numW K b) % N) (s := x.toNat) (Nat.mod_lt _ (by omega)) (show x.toNat < K by omega)
    have e : toN K N ((u * pw K b.length + numW K b) % N) x.toNat = (u * pw K (b ++ [x]).length + numW K (b ++ [x])) % N := by
      unfold toN
      rw [numW_snoc, List.length_append, List.length_singleton, pw_succ, ← Nat.mul_assoc, show u * pw K b.length * K + (numW K b * K + x.toNat) = (u * pw K b.length + numW K b) * K + x.toNat by rw [Nat.add_mul]; omega]
      rw [Nat.add_mod, Nat.mul_mod, Nat.mod_mod, ← Nat.mul_mod, ← Nat.add_mod]
    rw [e] at this
    exact this
theorem diag_goes {K R : Nat} {T : List Int} {u v : Nat} (hK : 1 ≤ K) (hu : u < pw K (2 * R)) (hv : v < pw K (2 * R)) : Goes (pairL K (pw K (2 * R)) T) (u * pw K (2 * R) + u) (v * pw K (2 * R) + v) := by
  have := diag_word (T := T) hu (2 * R) (digs K (2 * R) v) (digs_length ..) (digs_syms hK _ _)
  rw [digs_length, numW_digs hK _ _ hv, show u * pw K (2 * R) + v = pw K (2 * R) * u + v by rw [Nat.mul_comm], Nat.mul_add_mod, Nat.mod_eq_of_lt hv] at this
  exact this
end Go.Proofs.YtilpckngghffoaaGreatDoor
