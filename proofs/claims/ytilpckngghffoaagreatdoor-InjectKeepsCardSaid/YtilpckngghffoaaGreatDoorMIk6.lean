/-
  Walk: graph.Live.
  Walk: edenref12.way: the first of the shortest ways, by going down.
  What the document's answers of layer 12 share: the error's box.
  Plain mathematics: what stands on a loop.
  Plain mathematics: the peeling of a graph, step by step; what it leaves are the live vertices.
  Walk: edenref12.Live.
  Walks: slices.DeleteFunc (its contract off the shelf) at the function that pairs.Apart hands it.
  Plain mathematics: breadth first from the pairs of equal nodes through the pairs that are apart; the first that is met again is met by a shortest way.
  Plain mathematics: among the pairs of equal nodes there is a way from each to each.
  Walks: pairs.Graph at what is no small rule; pairs.Apart.
  Walks: edenref13.Odd, Graph, Apart.
  Walks: ring.check, ring.image, ring.Step at a ring over the rule's symbols.
  Walks: edenraw.LentRule, KeptRule.
  A store of a whole edenraw.Err into its box: what stays as it was.
  Boxes of structs of four cells among the rows of a call's own memory.
  Walks: the two functions within pairs.Words.
  Walk: pairs.Words.
  Walk: inject.loops: which vertices stand on a loop.
  Plain mathematics: the breadth first queue as a function, the first vertex of it that is wanted.
  Walk: inject.near: the nearest vertex on a loop.
-/
import Derived.Test.YtilpckngghffoaaGreatDoorMIk5
import Derived.BigQuiet
import Derived.Deep.DeepCutAuto
import Derived.Ground.SlgfProg
import Derived.Shelf.SlGeneric
import Derived.Shelf.SlicesE.DeleteFunc
import Derived.Lib.SliceRun
import Derived.Deep.RegionHeld3
namespace Go.Proofs.YtilpckngghffoaaGreatDoor
open Go.RowKit
set_option maxRecDepth 100000

/-- u stands on a loop. -/
def OnLoop (adj : Nat → List Nat) (u : Nat) : Prop := ∃ t ∈ adj u, Goes adj t u
/-- v stands between two loops. -/
def IsLive (n : Nat) (adj : Nat → List Nat) (v : Nat) : Prop := (∃ u, u < n ∧ OnLoop adj u ∧ Goes adj u v) ∧ ∃ u, u < n ∧ OnLoop adj u ∧ Goes adj v u
structure LiveList (n : Nat) (adj : Nat → List Nat) (L : List Nat) : Prop where
  sorted : L.Pairwise (· < ·)
  mem : ∀ v, v ∈ L ↔ v < n ∧ IsLive n adj v
theorem sorted_eq : ∀ {L M : List Nat}, L.Pairwise (· < ·) → M.Pairwise (· < ·) → (∀ v, v ∈ L ↔ v ∈ M) → L = M
  | [], [], _, _, _ => rfl
  | [], b :: M, _, _, h => absurd ((h b).2 List.mem_cons_self) (by simp)
  | a :: L, [], _, _, h => absurd ((h a).1 List.mem_cons_self) (by simp)
  | a :: L, b :: M, hL, hM, h => by
    obtain ⟨a1, a2⟩ := List.pairwise_cons.1 hL
    obtain ⟨b1, b2⟩ := List.pairwise_cons.1 hM
    have hab : a = b := by
      rcases List.mem_cons.1 ((h a).1 List.mem_cons_self) with e | e
      · exact e
      · rcases List.mem_cons.1 ((h b).2 List.mem_cons_self) with e2 | e2
        · exact e2.symm
        · have := b1 a e; have := a1 b e2; omega
    subst hab
    rw [sorted_eq a2 b2 fun v => ?_]
    have := h v
    simp only [List.mem_cons] at this
    constructor
    · intro hv
      rcases this.1 (.inr hv) with e | e
      · subst e; exact absurd (a1 v hv) (Nat.lt_irrefl _)
      · exact e
    · intro hv
      rcases this.2 (.inr hv) with e | e
      · subst e; exact absurd (b1 v hv) (Nat.lt_irrefl _)
      · exact e
theorem LiveList.unique {n : Nat} {adj : Nat → List Nat} {L M : List Nat} (h : LiveList n adj L) (k : LiveList n adj M) : L = M := sorted_eq h.sorted k.sorted fun v => by rw [h.mem, k.mem]
theorem turned_adj {G H : List (List Int)} (h : TurnedOf G H) (hok : GraphOk G) {t v : Nat} (ht : t < G.length) : v ∈ adjOf H t ↔ v < G.length ∧ t ∈ adjOf G v := by
  unfold adjOf
  simp only [List.mem_map]
  constructor
  · rintro ⟨y, hy, rfl⟩
    obtain ⟨x, rfl, hx, hm⟩ := (h.2.2 t ht y).1 hy
    exact ⟨by simpa using hx, (t : Int), by simpa using hm, by simp⟩
  · rintro ⟨hv, y, hy, rfl⟩
    have := hok v hv y hy
    exact ⟨(v : Int), (h.2.2 y.toNat ht v).2 ⟨v, rfl, hv, by rw [Int.toNat_of_nonneg this.1]; exact hy⟩, by simp⟩
theorem turned_ok {G H : List (List Int)} (h : TurnedOf G H) : GraphOk H := by
  intro t ht y hy
  rw [h.1] at ht ⊢
  obtain ⟨x, rfl, hx, _⟩ := (h.2.2 t ht y).1 hy
  omega
theorem goes_lt {G : List (List Int)} (hok : GraphOk G) {x y : Nat} (h : Goes (adjOf G) x y) (hx : x < G.length) : y < G.length :=
  Goes.closed (P := fun z => z < G.length) (fun z hz t ht => hok.lt z hz t ht) h hx
theorem turned_goes {G H : List (List Int)} (h : TurnedOf G H) (hok : GraphOk G) {x y : Nat} (hg : Goes (adjOf H) x y) (hx : x < G.length) : Goes (adjOf G) y x := by
  induction hg with
  | refl => exact .refl _
  | @step y z hg hz ih =>
    have hy : y < G.length := by have := goes_lt (turned_ok h) hg (by rw [h.1]; exact hx); rwa [h.1] at this
    exact (Goes.one ((turned_adj h hok hy).1 hz).2).trans ih
theorem goes_turned {G H : List (List Int)} (h : TurnedOf G H) (hok : GraphOk G) {x y : Nat} (hg : Goes (adjOf G) x y) (hx : x < G.length) : Goes (adjOf H) y x := by
  induction hg with
  | refl => exact .refl _
  | @step y z hg hz ih =>
    have hy := goes_lt hok hg hx
    exact (Goes.one ((turned_adj h hok (hok.lt y hy z hz)).2 ⟨hy, hz⟩)).trans ih
theorem onLoop_parts {G : List (List Int)} (hok : GraphOk G) {ps : List Int} (hp : PartsOf G.length (adjOf G) ps) {x : Nat} (hx : x < G.length) : OnLoop (adjOf G) x ↔ ∃ t ∈ adjOf G x, ps.getD t 0 = ps.getD x 0 := by
  constructor
  · rintro ⟨t, ht, hg⟩
    exact ⟨t, ht, (hp.eq (hok.lt x hx t ht) hx).2 ⟨hg, .one ht⟩⟩
  · rintro ⟨t, ht, he⟩
    exact ⟨t, ht, ((hp.eq (hok.lt x hx t ht) hx).1 he).1⟩
/-- What Live leaves. -/
def LivePost (r : Nat → Addr) (w : World) (G : List (List Int)) (x y : Value) (w' : World) : Prop :=
  ErrIs r w' (checkG G) y ∧ (checkG G = none → ∃ L, LiveList G.length (adjOf G) L ∧ OwnI w.heap.size w' x (castI L)) ∧ (checkG G ≠ none → x = .slice none 0 0)
/-- The marks of the vertices on loops: of the first k, and of the next by its first j arrows. -/
def LoopTo (G : List (List Int)) (ps : List Int) (k j : Nat) (m : Nat → Bool) : Prop :=
  ∀ x, x < G.length → (m x = true ↔ (x < k ∧ ∃ t ∈ adjOf G x, ps.getD t 0 = ps.getD x 0) ∨ (x = k ∧ ∃ t ∈ (adjOf G k).take j, ps.getD t 0 = ps.getD k 0))
theorem LoopTo.next {G : List (List Int)} {ps : List Int} {k : Nat} {m : Nat → Bool} (h : LoopTo G ps k (adjOf G k).length m) : LoopTo G ps (k + 1) 0 m := by
  intro x hx
  rw [h x hx, List.take_length]
  constructor
  · rintro (⟨a, b⟩ | ⟨rfl, b⟩)
    · exact .inl ⟨by omega, b⟩
    · exact .inl ⟨by omega, b⟩
  · rintro (⟨a, b⟩ | ⟨_, t, ht, _⟩)
    · by_cases e : x = k
      · subst e; exact .inr ⟨rfl, b⟩
      · exact .inl ⟨by omega, b⟩
    · simp at ht
theorem LoopTo.add {G : List (List Int)} {ps : List Int} {k j t : Nat} {m : Nat → Bool} (h : LoopTo G ps k j m) (ht : (adjOf G k)[j]? = some t) (m' : Nat → Bool)
    (hm : m' = if ps.getD t 0 = ps.getD k 0 then updN m k true else m) : LoopTo G ps k (j + 1) m' := by
  intro x hx
  have htk : (adjOf G k).take (j + 1) = (adjOf G k).take j ++ [t] := by rw [List.take_add_one, ht]; rfl
  by_cases hp : ps.getD t 0 = ps.getD k 0
  · rw [if_pos hp] at hm
    subst hm
    by_cases e : x = k
    · subst e
      rw [updN_same]
      exact ⟨fun _ => .inr ⟨rfl, t, by rw [htk]; simp, hp⟩, fun _ => rfl⟩
    · rw [updN_other _ _ _ e, h x hx]
      exact ⟨fun q => q.imp id (fun q => absurd q.1 e), fun q => q.imp id (fun q => absurd q.1 e)⟩
  · rw [if_neg hp] at hm
    subst hm
    rw [h x hx, htk]
    constructor
    · rintro (q | ⟨e, s, hs, hq⟩)
      · exact .inl q
      · exact .inr ⟨e, s, List.mem_append_left _ hs, hq⟩
    · rintro (q | ⟨e, s, hs, hq⟩)
      · exact .inl q
      · rcases List.mem_append.1 hs with hs | hs
        · exact .inr ⟨e, s, hs, hq⟩
        · cases List.mem_singleton.1 hs; exact absurd hq hp

set_option maxHeartbeats 4000000 in
theorem live_any (r : Nat → Addr) (na : Option Addr) (nc : Nat) (G : List (List Int)) (w : World) (hg : Glob r w) (h : ListsAt w (.slice na G.length nc) G) (hsz : ∀ k, k < G.length → (G.getD k []).length ≤ 17592186044416) :
    Calls Tryz.prog 100 #[.slice na G.length nc] w (Ret2 (LivePost r w G) w) := by
  have hP := parts_any r na nc G w hg h hsz
  replace h := Lib.hid h
  replace hg := Lib.hid hg
  replace hsz := Lib.hid hsz
  cases hck : checkG G with
  | some t =>
    replace hck := Lib.hid hck
    go_enter Tryz.func100, Tryz.ntmps100
    go_wp2_with fail
    refine hP.mono ?_
    rintro e w1 ⟨x, y, rfl, b1, he, _, hx⟩
    rw [hck.out] at he hx
    obtain rfl := hx (by simp)
    obtain ⟨T, a, rfl⟩ := he.some_shape
    replace he := Lib.hid he
    clear hx hP
    go_wp2
    go_ret2
    exact ⟨_, _, rfl, b1, ⟨by rw [hck.out]; exact he.out, ⟨fun q => (by rw [hck.out] at q; cases q), fun _ => rfl⟩⟩⟩
  | none =>
    obtain ⟨hn, harr, hok⟩ := checkG_none hck
    replace hck := Lib.hid hck
    replace hok := Lib.hid hok
    go_enter Tryz.func100, Tryz.ntmps100
    go_wp2_with fail
    refine hP.mono ?_
    rintro e w1 ⟨pv, y, rfl, b1, he, hps0, _⟩
    rw [hck.out] at he hps0
    obtain rfl := he.none_eq
    obtain ⟨ps, hps, hpo⟩ := hps0 rfl
    clear hps0
    have hpl := hps.len
    obtain ⟨pa, pn, pc, rfl⟩ := hpo.at.shape
    have hp1 := hpo.at
    clear he hP hpo
    obtain ⟨lv, w2, mk, hl2, hb2⟩ := run_makeW oneBoolG (G.length : Int) G.length w1 rfl (by omega)
    have hz : tabB G.length (fun _ => false) = List.replicate G.length (.bool false) := by
      unfold tabB; apply List.ext_getElem <;> simp
    rw [← hz] at hl2
    obtain ⟨la, ln, lc, rfl⟩ := hl2.shape
    have hz0 : LoopTo G ps 0 0 (fun _ => false) := by
      intro x hx
      simp
    replace hz0 := Lib.hid hz0
    replace hz := Lib.hid hz
    replace hl2 := Lib.hid hl2
    replace hp1 := Lib.hid hp1
    replace hps := Lib.hid hps
    replace hpl := Lib.hid hpl
    go_wp2_with fail
    clear mk
    go_loopw [28] (fun kv wr => ∃ (k : Nat) (m : Nat → Bool), k ≤ G.length ∧ kv = .int .i64 k ∧ OwnV 4 w1.heap.size wr (.slice la ln lc) (tabB G.length m) ∧ Below w1.heap.size w1 wr ∧ LoopTo G ps k 0 m) (fun kv _ => G.length - (intOf kv).toNat)
    case atStart => exact ⟨0, _, by omega, rfl, hl2.out, hb2, hz0.out⟩
    case round =>
      clear hl2
      obtain ⟨k, m, hk, rfl, hlo, b3, hm⟩ := hrel
      obtain ⟨wo, rfl⟩ : ∃ wo : World, wo = wr := ⟨_, rfl⟩
      by_cases hlt : k < G.length
      · obtain ⟨mv, iR, cR0, hM0⟩ := h.out.row k hlt
        have hbw : Below w.heap.size w wo := b1.trans (b3.mono b1.size)
        have cR := (hbw.cell (World.block_lt_of_cell? _ _ cR0)).trans cR0
        have hM := hM0.below hbw
        have hgp := hok.out k hlt
        have hal := adjOf_len G k
        have hag : ∀ j (hj : j < (G.getD k []).length), (adjOf G k)[j]? = some ((G.getD k [])[j]).toNat := fun j hj => by
          show ((G.getD k []).map Int.toNat)[j]? = _
          rw [List.getElem?_map, List.getElem?_eq_getElem hj]; rfl
        have hglen := hsz.out k hlt
        generalize G.getD k [] = gk at *
        have lM := hM.len
        generalize valAt (.slice na G.length nc) k = ra at *
        replace hm := Lib.hid hm
        replace hlo := Lib.hid hlo
        replace hM := Lib.hid hM
        replace hM0 := Lib.hid hM0
        replace hgp := Lib.hid hgp
        replace hag := Lib.hid hag
        replace hal := Lib.hid hal
        go_wp2_with fail
        clear iR cR cR0 lM hbw
        go_loopw [35] (fun jv wr => ∃ (j : Nat) (m : Nat → Bool), j ≤ gk.length ∧ jv = .int .i64 j ∧ OwnV 4 w1.heap.size wr (.slice la ln lc) (tabB G.length m) ∧ Below w1.heap.size w1 wr ∧ LoopTo G ps k j m) (fun jv _ => gk.length - (intOf jv).toNat)
        case atStart => exact ⟨0, m, by omega, rfl, hlo.out, b3, hm.out⟩
        case round =>
          clear hlo b3 hm hM
          obtain ⟨j, m, hj, rfl, hlo, b3, hm⟩ := hrel
          obtain ⟨wo, rfl⟩ : ∃ wo : World, wo = wr := ⟨_, rfl⟩
          by_cases hjl : j < gk.length
          · have hMj := hM0.out.below (b1.trans (b3.mono b1.size))
            have hgj := hgp.out gk[j] (List.getElem_mem hjl)
            obtain ⟨t, hu⟩ : ∃ t : Nat, gk[j] = t := Int.eq_ofNat_of_zero_le hgj.1
            have htn : t < G.length := by rw [hu] at hgj; omega
            have hgd : gk.getD j 0 = (t : Int) := by rw [List.getD_eq_getElem?_getD, List.getElem?_eq_getElem hjl, hu]; rfl
            have hta : (adjOf G k)[j]? = some t := by rw [hag.out j hjl, hu]; rfl
            have iJ := fun w' => hMj.idx j hjl w'
            have cJ := hMj.cellD j hjl
            rw [hgd] at cJ
            have hPt := hp1.out.below b3
            have iT := fun w' => hPt.idx t (by rw [hpl.out]; exact htn) w'
            have cT := hPt.cellD t (by rw [hpl.out]; exact htn)
            have iK := fun w' => hPt.idx k (by rw [hpl.out]; exact hlt) w'
            have cK := hPt.cellD k (by rw [hpl.out]; exact hlt)
            have hadd := hm.add hta
            have iL := fun w' => hlo.at.idx oneBoolG k (by rw [tabB_len]; exact hlt) w'
            have cL := hlo.at.cellV k (by rw [tabB_len]; exact hlt)
            rw [tabB_get _ _ _ hlt] at cL
            have fL := hlo.frz k (by rw [tabB_len]; exact hlt)
            have kL := (hlo.blkB k (by rw [tabB_len]; exact hlt)).2
            have hset := hlo.set k (by rw [tabB_len]; exact hlt) (.bool true)
            rw [tabB_upd] at hset
            generalize valAt mv j = ja at *
            generalize valAt (.slice pa pn pc) t = ta at *
            generalize valAt (.slice pa pn pc) k = ka at *
            generalize valAt (.slice la ln lc) k = qa at *
            obtain ⟨pt, hpt⟩ : ∃ pt, ps.getD t 0 = pt := ⟨_, rfl⟩
            obtain ⟨pk, hpk⟩ : ∃ pk, ps.getD k 0 = pk := ⟨_, rfl⟩
            rw [hpt] at cT hadd
            rw [hpk] at cK hadd
            generalize m k = mk at cL
            replace hm := Lib.hid hm
            replace hlo := Lib.hid hlo
            replace hset := Lib.hid hset
            replace hPt := Lib.hid hPt
            replace hMj := Lib.hid hMj
            replace hpt := Lib.hid hpt
            replace hpk := Lib.hid hpk
            replace hgd := Lib.hid hgd
            replace hgj := Lib.hid hgj
            replace hu := Lib.hid hu
            replace hta := Lib.hid hta
            by_cases he : pt = pk
            · have hq : (pt == pk) = true := by simp [he]
              have hn2 := hadd _ (if_pos he).symm
              replace hn2 := Lib.hid hn2
              replace he := Lib.hid he
              clear hadd
              go_upto_region 11 with fail
              go_quiet (fail)
              go_wp2
              go_roundw
              case measure => simp [intOf]; omega
              case rel =>
                refine ⟨j + 1, _, by omega, by go_num, ?_, ?_, hn2.out⟩
                · exact hset.out
                · exact (below_drewN b3 nq).setCell kL _
            · have hq : (pt == pk) = false := by simp [he]
              have hn2 := hadd _ (if_neg he).symm
              replace hn2 := Lib.hid hn2
              replace he := Lib.hid he
              clear hadd
              go_upto_region 11 with fail
              go_quiet (fail)
              go_wp2
              go_roundw
              case measure => simp [intOf]; omega
              case rel => exact ⟨j + 1, m, by omega, by go_num, hlo.out, b3.trans ⟨rfl, rfl, rfl, Nat.le_refl _, fun _ _ => rfl⟩, hn2.out⟩
          · obtain rfl : j = gk.length := by omega
            have hnext := (hal.out ▸ hm : LoopTo G ps k (adjOf G k).length m).next
            replace hnext := Lib.hid hnext
            replace hm := Lib.hid hm
            replace hlo := Lib.hid hlo
            go_wp2
            go_roundw
            case measure => simp [intOf]; omega
            case rel => exact ⟨k + 1, m, by omega, by go_num, hlo.out, b3, hnext.out⟩
      · obtain rfl : k = G.length := by omega
        have hbw : Below w.heap.size w wo := b1.trans (b3.mono b1.size)
        have hR1 := reach_any na nc G (.slice la ln lc) m wo (h.out.below hbw) hok.out (by omega) hlo.at
        have hon : ∀ x, x < G.length → (m x = true ↔ OnLoop (adjOf G) x) := fun x hx => by
          rw [hm x hx, onLoop_parts hok.out hps.out hx]
          constructor
          · rintro (⟨_, q⟩ | ⟨e, _⟩)
            · exact q
            · omega
          · intro q; exact .inl ⟨hx, q⟩
        replace hm := Lib.hid hm
        replace hon := Lib.hid hon
        replace hR1 := Lib.hid hR1
        have hlo' := Lib.hid hlo
        clear hlo
        go_wp2_with fail
        refine hR1.out.mono ?_
        rintro e w4 ⟨bv, rfl, b4, bm, hbo, hbm⟩
        have hb4 := Below.step hbw b4
        have hBk := graph_back na nc G w4 (h.out.below hb4) hok.out (by omega) harr
        replace hBk := Lib.hid hBk
        go_wp2_with fail
        refine hBk.out.mono ?_
        rintro e w5 ⟨hv, rfl, b5, H, hT, hHl⟩
        obtain ⟨ha, hc, rfl⟩ := hHl.shape
        have hHn := hT.1
        have hR2 := reach_any ha hc H (.slice la ln lc) m w5 hHl (turned_ok hT) (by omega) (by rw [hHn]; exact (hlo'.out.at.below b4).below b5)
        replace hR2 := Lib.hid hR2
        replace hHn := Lib.hid hHn
        replace hT := Lib.hid hT
        replace hHl := Lib.hid hHl
        go_wp2_with fail
        refine hR2.out.mono ?_
        rintro e w6 ⟨av, rfl, b6, am, hao, ham⟩
        rw [hHn.out] at hao ham
        have hboth : ∀ x, x < G.length → ((bm x && am x) = true ↔ IsLive G.length (adjOf G) x) := fun x hx => by
          rw [Bool.and_eq_true, hbm x hx, ham x hx]
          unfold IsLive
          constructor
          · rintro ⟨⟨u, hu, h1, h2⟩, v, hv, h3, h4⟩
            exact ⟨⟨u, hu, (hon.out u hu).1 h1, h2⟩, v, hv, (hon.out v hv).1 h3, turned_goes hT.out hok.out h4 hv⟩
          · rintro ⟨⟨u, hu, h1, h2⟩, v, hv, h3, h4⟩
            exact ⟨⟨u, hu, (hon.out u hu).2 h1, h2⟩, v, hv, (hon.out v hv).2 h3, goes_turned hT.out hok.out h4 hx⟩
        have hbv := hbo.at.below (Below.step b5 b6)
        have hav := hao.at
        have hw6 := Below.step hb4 (Below.step b5 b6)
        replace hboth := Lib.hid hboth
        replace hbm := Lib.hid hbm
        replace ham := Lib.hid ham
        replace hbv := Lib.hid hbv
        replace hav := Lib.hid hav
        replace hbo := Lib.hid hbo
        replace hao := Lib.hid hao
        clear hR1 hR2 hBk
        go_wp2_with fail
        go_loopw [13, 62] (fun qv kv wr => ∃ (k : Nat) (L : List Nat) (qw : Value), qw = qv ∧ kv = .int .i64 k ∧ k ≤ G.length ∧ L.length ≤ k ∧ OwnI w6.heap.size wr qw (castI L) ∧ Below w6.heap.size w6 wr ∧ L.Pairwise (· < ·) ∧ ∀ v, v ∈ L ↔ (v < k ∧ (bm v && am v) = true)) (fun _ kv _ => G.length - (intOf kv).toNat)
        case atStart => exact ⟨0, [], _, rfl, rfl, by omega, by simp, OwnI.nil _ _, Below.refl _ _, List.Pairwise.nil, fun v => ⟨fun q => (by cases q), fun q => by omega⟩⟩
        case round =>
          obtain ⟨k, L, qv, rfl, rfl, hk, hLk, hLo, b7, hLs, hLm⟩ := hrel
          obtain ⟨wo, rfl⟩ : ∃ wo : World, wo = wr := ⟨_, rfl⟩
          by_cases hlt : k < G.length
          · have hB := hbv.out.below b7
            have hA := hav.out.below b7
            have iB := fun w' => hB.idx oneBoolG k (by rw [tabB_len]; exact hlt) w'
            have cB := hB.cellV k (by rw [tabB_len]; exact hlt)
            rw [tabB_get _ _ _ hlt] at cB
            have iA := fun w' => hA.idx oneBoolG k (by rw [tabB_len]; exact hlt) w'
            have cA := hA.cellV k (by rw [tabB_len]; exact hlt)
            rw [tabB_get _ _ _ hlt] at cA
            generalize valAt bv k = qb at *
            generalize valAt av k = qa at *
            have hyes : (bm k && am k) = true → ∀ v, v ∈ L ++ [k] ↔ (v < k + 1 ∧ (bm v && am v) = true) := fun hq v => by
              rw [List.mem_append, hLm v, List.mem_singleton]
              constructor
              · rintro (⟨a, b⟩ | rfl)
                · exact ⟨by omega, b⟩
                · exact ⟨by omega, hq⟩
              · rintro ⟨a, b⟩
                by_cases e : v = k
                · exact .inr e
                · exact .inl ⟨by omega, b⟩
            have hno : (bm k && am k) = false → ∀ v, v ∈ L ↔ (v < k + 1 ∧ (bm v && am v) = true) := fun hq v => by
              rw [hLm v]
              constructor
              · rintro ⟨a, b⟩; exact ⟨by omega, b⟩
              · rintro ⟨a, b⟩
                by_cases e : v = k
                · subst e; rw [hq] at b; cases b
                · exact ⟨by omega, b⟩
            have hsrt2 : (L ++ [k]).Pairwise (· < ·) := by
              rw [List.pairwise_append]
              refine ⟨hLs, List.pairwise_singleton _ _, fun x hx y hy => ?_⟩
              cases List.mem_singleton.1 hy
              exact ((hLm x).1 hx).1
            obtain ⟨bk, hbk⟩ : ∃ bk, bm k = bk := ⟨_, rfl⟩
            obtain ⟨ak, hak⟩ : ∃ ak, am k = ak := ⟨_, rfl⟩
            rw [hbk] at cB hyes hno
            rw [hak] at cA hyes hno
            replace hB := Lib.hid hB
            replace hA := Lib.hid hA
            replace hLm := Lib.hid hLm
            replace hLs := Lib.hid hLs
            replace hsrt2 := Lib.hid hsrt2
            replace hbk := Lib.hid hbk
            replace hak := Lib.hid hak
            cases bk with
            | false =>
              have hn := hno rfl
              replace hn := Lib.hid hn
              replace hLo := Lib.hid hLo
              clear hyes hno
              go_wp2
              go_roundw
              case measure => simp [intOf]; omega
              case rel => exact ⟨k + 1, L, qv, rfl, by go_num, by omega, by omega, hLo.out, b7, hLs.out, hn.out⟩
            | true =>
              cases ak with
              | false =>
                have hn := hno rfl
                replace hn := Lib.hid hn
                replace hLo := Lib.hid hLo
                clear hyes hno
                go_wp2
                go_roundw
                case measure => simp [intOf]; omega
                case rel => exact ⟨k + 1, L, qv, rfl, by go_num, by omega, by omega, hLo.out, b7, hLs.out, hn.out⟩
              | true =>
                have hy := hyes rfl
                replace hy := Lib.hid hy
                clear hyes hno
                have hB7 : w6.heap.size ≤ wo.heap.size := b7.size
                go_wp2_with (at_builtin; refine wpl_app1 rfl _ _ rfl w6.heap.size qv (castI L) k hLo rfl rfl (by rw [castI_len]; omega) hB7 ?_)
                intro qv' w8 ho8 b8 hal8
                replace ho8 := Lib.hid ho8
                clear hal8 hLo
                go_wp2
                go_roundw
                case measure => simp [intOf]; omega
                case rel => exact ⟨k + 1, L ++ [k], qv', rfl, by go_num, by omega, by rw [List.length_append]; simp only [List.length_cons, List.length_nil]; omega, by rw [castI_snoc]; exact ho8.out, b7.trans b8, hsrt2.out, hy.out⟩
          · obtain rfl : k = G.length := by omega
            have hLL : LiveList G.length (adjOf G) L := ⟨hLs, fun v => by
              rw [hLm v]
              constructor
              · rintro ⟨a, b⟩; exact ⟨a, (hboth.out v a).1 b⟩
              · rintro ⟨a, b⟩; exact ⟨a, (hboth.out v a).2 b⟩⟩
            obtain ⟨qa, qn, qc, rfl⟩ := hLo.at.shape
            replace hLL := Lib.hid hLL
            replace hLo := Lib.hid hLo
            replace hLm := Lib.hid hLm
            replace hLs := Lib.hid hLs
            go_wp2
            go_ret2
            exact ⟨_, _, rfl, Below.step hw6 b7, ⟨by rw [hck.out]; rfl, ⟨fun _ => ⟨L, hLL.out, hLo.out.mono hw6.size⟩, fun q => absurd hck.out q⟩⟩⟩
end Go.Proofs.YtilpckngghffoaaGreatDoor

namespace Go.Proofs.YtilpckngghffoaaGreatDoor
open Go.RowKit
set_option maxRecDepth 100000

/-- The least of the first k neighbours that are nearer by one. -/
def BestTo (l : List Nat) (D : Nat → Int) (d : Int) (k : Nat) (b : Int) : Prop :=
  (b = -1 ∧ ∀ t ∈ l.take k, D t ≠ d) ∨ ∃ m : Nat, b = m ∧ m ∈ l.take k ∧ D m = d ∧ ∀ t ∈ l.take k, D t = d → m ≤ t
theorem BestTo.zero (l : List Nat) (D : Nat → Int) (d : Int) : BestTo l D d 0 (-1) := .inl ⟨rfl, fun t ht => by simp at ht⟩
theorem BestTo.low {l : List Nat} {D : Nat → Int} {d : Int} {k : Nat} {b : Int} (h : BestTo l D d k b) : -1 ≤ b := by
  rcases h with ⟨h, _⟩ | ⟨m, h, _⟩ <;> omega
theorem take_mem {l : List Nat} {k t : Nat} (ht : l[k]? = some t) (x : Nat) : x ∈ l.take (k + 1) ↔ x ∈ l.take k ∨ x = t := by
  rw [List.take_add_one, ht]; simp
theorem BestTo.take {l : List Nat} {D : Nat → Int} {d : Int} {k : Nat} {b : Int} (h : BestTo l D d k b) {t : Nat} (ht : l[k]? = some t) (hd : D t = d) (hb : b < 0 ∨ (t : Int) < b) : BestTo l D d (k + 1) t := by
  refine .inr ⟨t, rfl, (take_mem ht t).2 (.inr rfl), hd, fun x hx hxd => ?_⟩
  rcases (take_mem ht x).1 hx with hx | rfl
  · rcases h with ⟨h1, h2⟩ | ⟨m, h1, h2, h3, h4⟩
    · exact absurd hxd (h2 x hx)
    · have := h4 x hx hxd; omega
  · exact Nat.le_refl _
theorem BestTo.stay {l : List Nat} {D : Nat → Int} {d : Int} {k : Nat} {b : Int} (h : BestTo l D d k b) {t : Nat} (ht : l[k]? = some t) (hb : 0 ≤ b) (hbt : b ≤ t) : BestTo l D d (k + 1) b := by
  rcases h with ⟨h1, h2⟩ | ⟨m, h1, h2, h3, h4⟩
  · omega
  · refine .inr ⟨m, h1, (take_mem ht m).2 (.inl h2), h3, fun x hx hxd => ?_⟩
    rcases (take_mem ht x).1 hx with hx | rfl
    · exact h4 x hx hxd
    · omega

/-- Where the way stands. -/
structure Down (n : Nat) (adj : Nat → List Nat) (x y : Nat) (D : Nat → Int) (out : List Nat) (v : Nat) : Prop where
  low : v < n
  there : 0 ≤ D v
  len : (out.length : Int) + D v = D x + 1
  last : ∃ pre, out = pre ++ [v]
  ext : ∀ u, IsFirst adj v y u → ∀ pre, out = pre ++ [v] → IsFirst adj x y (pre ++ u)
theorem Down.start {n : Nat} {adj : Nat → List Nat} {x y : Nat} {D : Nat → Int} (hx : x < n) (h0 : 0 ≤ D x) : Down n adj x y D [x] x :=
  ⟨hx, h0, by simp; omega, ⟨[], rfl⟩, fun u hu pre hp => by
    cases pre with
    | nil => exact hu
    | cons a pre => simp at hp⟩
theorem Down.next {n : Nat} {adj : Nat → List Nat} {x y : Nat} {D : Nat → Int} {out : List Nat} {v m : Nat} (h : Down n adj x y D out v) (hT : ToOf n adj y D) (hlt : ∀ v, v < n → ∀ t ∈ adj v, t < n) (hm : m ∈ adj v) (hd : D m = D v - 1) (h1 : 1 ≤ D v)
    (hmin : ∀ t ∈ adj v, D t = D v - 1 → m ≤ t) : Down n adj x y D (out ++ [m]) m := by
  refine ⟨hlt v h.low m hm, by omega, by rw [List.length_append, List.length_singleton]; have := h.len; omega, ⟨out, rfl⟩, fun u hu pre hp => ?_⟩
  have hp2 : out = pre := List.append_inj_left' hp rfl
  subst hp2
  obtain ⟨pre, hpre⟩ := h.last
  have := h.ext (v :: u) (step_first hT hlt h.low hm hd (by omega) hmin hu) pre hpre
  rw [hpre, List.append_assoc]
  exact this
theorem IsFirst.one (adj : Nat → List Nat) (y : Nat) : IsFirst adj y y [y] := by
  refine ⟨.one y, fun u hu => hu.pos, fun u hu hl => ?_⟩
  obtain ⟨w, rfl⟩ := hu.ne
  cases w with
  | nil => exact lexLe_refl _
  | cons a w => simp at hl
theorem Down.stop {n : Nat} {adj : Nat → List Nat} {x y : Nat} {D : Nat → Int} {out : List Nat} (h : Down n adj x y D out y) : IsFirst adj x y out := by
  obtain ⟨pre, hpre⟩ := h.last
  rw [hpre]
  exact h.ext [y] (IsFirst.one adj y) pre hpre

theorem row_push {B : Nat} {w w1 : World} {f : Names} {i : Nat × Nat} {qv qv' : Value} {q : List Nat} (hr : Rows B w f) (hf : f i = some (rowI qv (castI q))) (t : Nat) (ho : OwnI B w1 qv' (castI q ++ [(t : Int)]))
    (hal : (roomOf qv' = roomOf qv ∧ w.grownBy w1 qv.ownBlock) ∨ (∃ k, qv'.ownBlock = some k ∧ w.heap.size ≤ k ∧ w.grownBy w1 none)) : Rows B w1 (upd f i (some (rowI qv' (castI (q ++ [t]))))) := by
  have hO := hr.ownI hf
  have hg : w.grownBy w1 qv.ownBlock := grown_via (hal.imp (·.2) (fun ⟨_, _, _, q⟩ => q))
  have hob : qv'.ownBlock = qv.ownBlock ∨ ∃ k, qv'.ownBlock = some k ∧ w.heap.size ≤ k := by
    rcases hal with ⟨q, _⟩ | ⟨k, h1, h2, _⟩
    · obtain ⟨a1, n1, c1, e1⟩ := hO.at.shape
      obtain ⟨a2, n2, c2, e2⟩ := ho.at.shape
      exact .inl (ownBlock_of_room e1 e2 q)
    · exact .inr ⟨k, h1, h2⟩
  have := hr.grown (r' := rowI qv' (castI q ++ [(t : Int)])) hf hg ho hob
  rwa [← castI_snoc] at this

end Go.Proofs.YtilpckngghffoaaGreatDoor

namespace Go.Proofs.YtilpckngghffoaaGreatDoor
open Go.RowKit
set_option maxRecDepth 100000

end Go.Proofs.YtilpckngghffoaaGreatDoor

namespace Go.Proofs.YtilpckngghffoaaGreatDoor
theorem Goes.loop {adj : Nat → List Nat} {x y : Nat} (h : Goes adj x y) (ha : x ∈ adj y) : OnLoop adj x := by
  obtain ⟨w, hw⟩ := h.way
  cases hw with
  | one => exact ⟨x, ha, .refl x⟩
  | @cons _ t _ w ht hw => exact ⟨t, ht, .step hw.goes ha⟩
end Go.Proofs.YtilpckngghffoaaGreatDoor

namespace Go.Proofs.YtilpckngghffoaaGreatDoor

/-- Between two rounds. -/
structure PS (n : Nat) (A B : Nat → List Nat) (inn out c d : Nat → Nat) (gone : Nat → Bool) (q : List Nat) (lives : Nat → Prop) (i : Nat) : Prop where
  peel : Peel n A B inn out c d gone q lives
  pos : ∀ t, t < n → gone t = false → 0 < inn t ∧ 0 < out t
  done : ∀ j x, j < i → q[j]? = some x → c x = (A x).length ∧ d x = (B x).length
  rest : ∀ j x, i ≤ j → q[j]? = some x → c x = 0 ∧ d x = 0
/-- Within a round. -/
structure Mid (n : Nat) (A B : Nat → List Nat) (inn out c d : Nat → Nat) (gone : Nat → Bool) (q : List Nat) (lives : Nat → Prop) (i v : Nat) : Prop where
  peel : Peel n A B inn out c d gone q lives
  pos : ∀ t, t < n → gone t = false → 0 < inn t ∧ 0 < out t
  cur : q[i]? = some v
  done : ∀ j x, j < i → q[j]? = some x → c x = (A x).length ∧ d x = (B x).length
  rest : ∀ j x, i < j → q[j]? = some x → c x = 0 ∧ d x = 0
section
variable {n : Nat} {A B : Nat → List Nat} {inn out c d : Nat → Nat} {gone : Nat → Bool} {q : List Nat} {lives : Nat → Prop} {i v : Nat}
theorem PS.enter (h : PS n A B inn out c d gone q lives i) (hv : q[i]? = some v) : Mid n A B inn out c d gone q lives i v ∧ c v = 0 ∧ d v = 0 ∧ v < n :=
  ⟨⟨h.peel, h.pos, hv, h.done, fun j x hj hx => h.rest j x (by omega) hx⟩, (h.rest i v (Nat.le_refl _) hv).1, (h.rest i v (Nat.le_refl _) hv).2, h.peel.low v (List.mem_of_getElem? hv)⟩
theorem Mid.leave (h : Mid n A B inn out c d gone q lives i v) (hc : c v = (A v).length) (hd : d v = (B v).length) : PS n A B inn out c d gone q lives (i + 1) := by
  refine ⟨h.peel, h.pos, fun j x hj hx => ?_, fun j x hj hx => h.rest j x (by omega) hx⟩
  by_cases e : j = i
  · subst e
    rw [h.cur] at hx; cases hx
    exact ⟨hc, hd⟩
  · exact h.done j x (by omega) hx
/-- An arrow of v is gone through. -/
theorem Mid.step (h : Mid n A B inn out c d gone q lives i v) (hL : LiveSet n A B lives) {k t : Nat} (hk : c v = k) (ht : (A v)[k]? = some t) (htn : t < n) :
    0 < inn t ∧ (inn t = 1 → gone t = false → Mid n A B (updN inn t (inn t - 1)) out (updN c v (k + 1)) d (updN gone t true) (q ++ [t]) lives i v) ∧
    ((inn t = 1 → gone t = true) → Mid n A B (updN inn t (inn t - 1)) out (updN c v (k + 1)) d gone q lives i v) := by
  have hvq := List.mem_of_getElem? h.cur
  obtain ⟨h0, hp⟩ := h.peel.arrow1 hvq hk ht htn
  have hne : ∀ j x, j ≠ i → q[j]? = some x → x ≠ v := fun j x hj hx e => hj (get_inj h.peel.nodup (by rw [hx, e]) h.cur)
  have hdone : ∀ j x, j < i → q[j]? = some x → updN c v (k + 1) x = (A x).length ∧ d x = (B x).length := fun j x hj hx => by
    rw [updN_other _ _ _ (hne j x (by omega) hx)]; exact h.done j x hj hx
  have hrest : ∀ j x, i < j → q[j]? = some x → updN c v (k + 1) x = 0 ∧ d x = 0 := fun j x hj hx => by
    rw [updN_other _ _ _ (hne j x (by omega) hx)]; exact h.rest j x hj hx
  refine ⟨h0, fun h1 hg => ?_, fun h1 => ?_⟩
  · have htq : t ∉ q := fun hm => by have := (h.peel.goneq t).2 hm; rw [hg] at this; cases this
    have htv : t ≠ v := fun e => htq (by rw [e]; exact hvq)
    have hil := get_of h.cur
    have hga : ∀ j x, (q ++ [t])[j]? = some x → q[j]? = some x ∨ j = q.length ∧ x = t := fun j x hx => by
      by_cases e : j < q.length
      · rw [List.getElem?_append_left e] at hx; exact .inl hx
      · rw [List.getElem?_append_right (by omega)] at hx
        by_cases e2 : j = q.length
        · rw [e2] at hx; simp at hx; exact .inr ⟨e2, hx.symm⟩
        · rw [List.getElem?_eq_none (by simp; omega)] at hx; cases hx
    refine ⟨hp.goes hL htn hg (.inl (by rw [updN_same]; omega)), fun x hx hgx => ?_, by rw [List.getElem?_append_left hil]; exact h.cur, fun j x hj hx => ?_, fun j x hj hx => ?_⟩
    · by_cases e : x = t
      · subst e; rw [updN_same] at hgx; cases hgx
      · rw [updN_other _ _ _ e] at hgx ⊢; exact h.pos x hx hgx
    · rcases hga j x hx with hx | ⟨hj2, _⟩
      · exact hdone j x hj hx
      · omega
    · rcases hga j x hx with hx | ⟨_, rfl⟩
      · exact hrest j x hj hx
      · rw [updN_other _ _ _ htv]; exact h.peel.fresh x htq
  · refine ⟨hp, fun x hx hgx => ?_, h.cur, hdone, hrest⟩
    by_cases e : x = t
    · subst e
      rw [updN_same]
      have := (h.pos x hx hgx).2
      have : inn x ≠ 1 := fun e => by have := h1 e; rw [hgx] at this; cases this
      omega
    · rw [updN_other _ _ _ e]; exact h.pos x hx hgx
end
/-- The beginning: the first k have been looked at. -/
structure PStart (n : Nat) (A B : Nat → List Nat) (gone : Nat → Bool) (q : List Nat) (lives : Nat → Prop) (k : Nat) : Prop where
  peel : Peel n A B (fun t => (B t).length) (fun t => (A t).length) (fun _ => 0) (fun _ => 0) gone q lives
  pos : ∀ t, t < k → gone t = false → 0 < (B t).length ∧ 0 < (A t).length
  below : ∀ x ∈ q, x < k
section
variable {n : Nat} {A B : Nat → List Nat} {gone : Nat → Bool} {q : List Nat} {lives : Nat → Prop} {k : Nat}
theorem PStart.zero (hA : ∀ t, t < n → ∀ x ∈ A t, x < n) (hB : ∀ t, t < n → ∀ x ∈ B t, x < n) (hc : ∀ t v, t < n → v < n → (B t).count v = (A v).count t) : PStart n A B (fun _ => false) [] lives 0 :=
  ⟨⟨Deg.init hB (fun v t hv ht => hc t v ht hv), Deg.init hA (fun v t hv ht => (hc v t hv ht).symm), by simp, fun x => by simp, fun x hx => by simp at hx, fun _ _ => ⟨rfl, rfl⟩, fun _ _ _ => rfl⟩, fun t ht => by omega, fun x hx => by simp at hx⟩
theorem PStart.take (h : PStart n A B gone q lives k) (hL : LiveSet n A B lives) (hk : k < n) (h0 : (A k).length = 0 ∨ (B k).length = 0) : PStart n A B (updN gone k true) (q ++ [k]) lives (k + 1) := by
  have hg : gone k = false := by
    cases hgk : gone k with
    | false => rfl
    | true => have := h.below k ((h.peel.goneq k).1 hgk); omega
  refine ⟨h.peel.goes hL hk hg h0.symm, fun t ht hgt => ?_, fun x hx => ?_⟩
  · by_cases e : t = k
    · subst e; rw [updN_same] at hgt; cases hgt
    · rw [updN_other _ _ _ e] at hgt; exact h.pos t (by omega) hgt
  · rcases List.mem_append.1 hx with hx | hx
    · have := h.below x hx; omega
    · cases List.mem_singleton.1 hx; omega
theorem PStart.all (h : PStart n A B gone q lives n) : PS n A B (fun t => (B t).length) (fun t => (A t).length) (fun _ => 0) (fun _ => 0) gone q lives 0 :=
  ⟨h.peel, h.pos, fun j x hj => by omega, fun _ _ _ _ => ⟨rfl, rfl⟩⟩
end
end Go.Proofs.YtilpckngghffoaaGreatDoor

namespace Go.Proofs.YtilpckngghffoaaGreatDoor
open Go.RowKit
set_option maxRecDepth 100000

/-- The memory of the peeling. -/
structure LvN (f : Names) (ov iv gv qv : Value) (n : Nat) (out inn : Nat → Nat) (gone : Nat → Bool) (q : List Nat) : Prop where
  outs : f (1, 0) = some (rowI ov (tab n out))
  inns : f (2, 0) = some (rowI iv (tab n inn))
  gones : f (3, 0) = some (rowV 4 gv (tabB n gone))
  queue : f (4, 0) = some (rowI qv (castI q))
section
variable {B : Nat} {w : World} {f : Names} {ov iv gv qv : Value} {n : Nat} {out inn : Nat → Nat} {gone : Nat → Bool} {q : List Nat}
theorem LvN.mark (h : LvN f ov iv gv qv n out inn gone q) (hr : Rows B w f) (t : Nat) (ht : t < n) : ∃ f', Rows B (w.setCell (valAt gv t) (.bool true)) f' ∧ LvN f' ov iv gv qv n out inn (updN gone t true) q := by
  have hs := hr.setV h.gones t (by rw [tabB_len]; exact ht) (.bool true)
  rw [tabB_upd] at hs
  exact ⟨_, hs, ⟨by rw [upd_ne _ _ (by simp)]; exact h.outs, by rw [upd_ne _ _ (by simp)]; exact h.inns, upd_same _ _ _, by rw [upd_ne _ _ (by simp)]; exact h.queue⟩⟩
theorem LvN.push (h : LvN f ov iv gv qv n out inn gone q) (hr : Rows B w f) {w1 : World} {qv' : Value} (t : Nat) (ho : OwnI B w1 qv' (castI q ++ [(t : Int)]))
    (hal : (roomOf qv' = roomOf qv ∧ w.grownBy w1 qv.ownBlock) ∨ (∃ k, qv'.ownBlock = some k ∧ w.heap.size ≤ k ∧ w.grownBy w1 none)) : ∃ f', Rows B w1 f' ∧ LvN f' ov iv gv qv' n out inn gone (q ++ [t]) :=
  ⟨_, row_push hr h.queue t ho hal, ⟨by rw [upd_ne _ _ (by simp)]; exact h.outs, by rw [upd_ne _ _ (by simp)]; exact h.inns, by rw [upd_ne _ _ (by simp)]; exact h.gones, upd_same _ _ _⟩⟩
end
theorem tabB_none (n : Nat) : tabB n (fun _ => false) = List.replicate n (.bool false) := by
  unfold tabB; apply List.ext_getElem <;> simp
/-- Box3 below another block. -/
theorem Box3.keep {B : Nat} {w w' : World} {b : Nat} {x0 x1 x2 : Value} (h : Box3 w b x0 x1 x2) (hb : Below B w w') (hlt : b < B) : Box3 w' b x0 x1 x2 := h.belowB hb hlt

end Go.Proofs.YtilpckngghffoaaGreatDoor

namespace Go.Proofs.YtilpckngghffoaaGreatDoor
open Go.RowKit Go.Shelf Go.Sort
set_option maxRecDepth 100000

def Tryz.laysDel_ren : Go.Shelf.Ren := ⟨fun | 10 => 101 | 6 => 97 | n => n, fun | 22 => 22 | 23 => 3 | 25 => 106 | 3 => 3 | 4 => 4 | 0 => 0 | n => n, fun | n => n⟩
theorem Tryz.laysDel : Go.Proofs.SlLaysH.n10 Tryz.prog Tryz.laysDel_ren := {
  mixed := by kernel_rfl
  f6 := ⟨Tryz.f97.name, by decide, Tryz.func97.trans (congrArg some (by kernel_rfl))⟩
  f10 := ⟨Tryz.f101.name, by decide, Tryz.func101.trans (congrArg some (by kernel_rfl))⟩
  t0 := Tryz.underlying0
  a0 := Tryz.isAgg0
  z0 := Tryz.sizeOf0
  v0 := Tryz.zeroValue0
  t3 := Tryz.underlying3
  a3 := Tryz.isAgg3
  z3 := Tryz.sizeOf3
  v3 := Tryz.zeroValue3
  t4 := Tryz.underlying4
  a4 := Tryz.isAgg4
  z4 := Tryz.sizeOf4
  v4 := Tryz.zeroValue4
  t22 := Tryz.underlying22
  a22 := Tryz.isAgg22
  z22 := Tryz.sizeOf22
  v22 := Tryz.zeroValue22
  a23 := Tryz.isAgg3
  z23 := Tryz.sizeOf3
  t25 := Tryz.underlying106
  a25 := Tryz.isAgg106
  z25 := Tryz.sizeOf106
  v25 := Tryz.zeroValue106 }

/-- Are quotient and rest one? -/
def dgI (N : Nat) (x : Int) : Bool := IntKind.i64.wrap (x.tdiv N) == x.tmod N
theorem dgI_aux (a c : Nat) (ha : a ≤ 100000) : (IntKind.i64.wrap (a : Int) == (c : Int)) = decide (a = c) := by
  rw [wrapK (x := (a : Int)) (by omega) (by omega)]
  by_cases e : a = c
  · simp [e]
  · rw [decide_eq_false e, beq_eq_false_iff_ne]; omega
theorem dgI_nat {N p : Nat} (hp : p ≤ 100000) : dgI N p = decide (Diag N p) := by
  unfold dgI
  have h1 : p / N ≤ 100000 := Nat.le_trans (Nat.div_le_self _ _) hp
  have e1 : (p : Int).tdiv (N : Int) = ((p / N : Nat) : Int) := by rw [Int.tdiv_eq_ediv_of_nonneg (by omega)]; simp
  have e2 : (p : Int).tmod (N : Int) = ((p % N : Nat) : Int) := by rw [Int.tmod_eq_emod_of_nonneg (by omega)]; simp
  rw [e1, e2, dgI_aux _ _ h1, decide_eq_decide]
  exact Iff.rfl

theorem apart1_any (x : Int) (b N : Nat) (w : World) (hN : 1 ≤ N) (hb : w.cell? ⟨b, 0, none⟩ = some (.int .i64 N)) :
    Calls Tryz.prog 102 #[.int .i64 x, .pointer (some ⟨b, 0, none⟩)] w (RetB (dgI N x) w) := by
  have h1 : ¬ (N : Int) = 0 := by omega
  have h2 : ((N : Int) == 0) = false := by rw [beq_eq_false_iff_ne]; omega
  have h3 : ¬ N = 0 := by omega
  go_enter Tryz.func102, Tryz.ntmps102
  go_upto_region 1 with fail
  refine wp_region_plan (fun w' => w'.cell? ⟨b, 0, none⟩ = some (.int .i64 N)) 7 [(0, true), (1, true), (2, true), (3, true), (4, true), (5, true), (6, true)] (by kernel_rfl) (by kernel_rfl) ?_
  have hS : w.drew.cell? ⟨b, 0, none⟩ = some (.int .i64 N) := hb
  refine headY (v := ?_) (some 4) rfl rfl (Or.inl ⟨by rfl, ?_⟩) hS ?_
  rotate_left
  · rintro W' s0; go_simp; try with_reducible rfl
  simp only [Act.put, List.setIfInBounds_toArray, List.set_cons_zero, List.set_cons_succ]
  refine headY (v := ?_) (some 5) rfl rfl (Or.inl ⟨by rfl, ?_⟩) hS ?_
  rotate_left
  · rintro W' s0; go_simp; try with_reducible rfl
  simp only [Act.put, List.setIfInBounds_toArray, List.set_cons_zero, List.set_cons_succ]
  refine headY (v := ?_) (some 6) rfl rfl (Or.inl ⟨by rfl, ?_⟩) hS ?_
  rotate_left
  · rintro W' s0; go_simp; try with_reducible rfl
  simp only [Act.put, List.setIfInBounds_toArray, List.set_cons_zero, List.set_cons_succ]
  refine headY (v := ?_) (some 7) rfl rfl (Or.inl ⟨by rfl, ?_⟩) hS ?_
  rotate_left
  · rintro W' s0; go_simp; try with_reducible rfl
  simp only [Act.put, List.setIfInBounds_toArray, List.set_cons_zero, List.set_cons_succ]
  refine headY (v := ?_) (some 8) rfl rfl (Or.inl ⟨by rfl, ?_⟩) hS ?_
  rotate_left
  · rintro W' s0; go_simp; try with_reducible rfl
  simp only [Act.put, List.setIfInBounds_toArray, List.set_cons_zero, List.set_cons_succ]
  refine headY (v := ?_) (some 9) rfl rfl (Or.inl ⟨by rfl, ?_⟩) hS ?_
  rotate_left
  · rintro W' s0; go_simp; try with_reducible rfl
  simp only [Act.put, List.setIfInBounds_toArray, List.set_cons_zero, List.set_cons_succ]
  refine headY (v := ?_) (some 10) rfl rfl (Or.inl ⟨by rfl, ?_⟩) hS ?_
  rotate_left
  · rintro W' s0; go_simp; try with_reducible rfl
  simp only [Act.put, List.setIfInBounds_toArray, List.set_cons_zero, List.set_cons_succ]
  refine head0 ?_
  simp only [List.drop_succ_cons, List.drop_zero]
  clear hS
  go_wp2
  refine NoPanic.normal ?_
  go_wp2
  go_ret
  exact ⟨1, rfl, rfl⟩
theorem eg_apart1 (args : Array Value) (w : World) : (callFunc 102 args).run Tryz.prog w = .ok (.enter 102 args) w := by kernel_rfl

theorem gives1 (x : Int) (b N : Nat) (w : World) (hN : 1 ≤ N) (hb : w.cell? ⟨b, 0, none⟩ = some (.int .i64 N)) : FnGives Tryz.prog 102 #[.pointer (some ⟨b, 0, none⟩)] #[.int .i64 x] (.bool (dgI N x)) w := by
  refine (apart1_any x b N w hN hb).mono ?_
  rintro e w' ⟨n, rfl, rfl⟩
  exact ⟨rfl, n, rfl⟩
theorem delete_own (B : Nat) (v : Value) (xs : List Int) (b N : Nat) (w : World) (h : OwnI B w v xs) (hx : xs ≠ []) (hN : 1 ≤ N) (hb : w.cell? ⟨b, 0, none⟩ = some (.int .i64 N)) (hne : v.ownBlock ≠ some b) :
    Calls Tryz.prog 101 #[v, .func (.func 102) #[] #[.pointer (some ⟨b, 0, none⟩)]] w fun e w' => ∃ x, e = .returned x ∧ x.ownBlock = v.ownBlock ∧ OwnI B w' x (xs.filter fun x => !dgI N x) ∧ Below B w w' := by
  have hbl := World.block_lt_of_cell? _ _ hb
  rcases h.2 with ⟨rfl, hn⟩ | ⟨g, cap, cur, rfl, hB, hg, hn, hm, hs, ht⟩
  · exact absurd (List.length_eq_zero_iff.1 hn) hx
  · have hne' : b ≠ g := fun e => hne (by rw [e]; rfl)
    have hcon := AnyE.slices_DeleteFunc Tryz.laysDel (Value.int .i64) (fun _ => rfl) (dgI N) 102 #[.pointer (some ⟨b, 0, none⟩)] (fun args w' => eg_apart1 args w') 0 (fun w => by kernel_rfl) g 0 cap xs.toArray w
      (fun W x hb' => gives1 x b N W hN ((hb'.cell (p := ⟨b, 0, none⟩) hbl).trans hb))
      (fun n os dk x _ => gives1 x b N _ hN (by
        unfold sortWorld
        rw [cell?_grow _ _ _ (by show b < (putRow _ _ _ _ _).heap.size; rw [size_putRow]; exact hbl), cell?_putRow_other _ _ g 0 _ _ (Or.inl hne')]
        exact hb))
      (holds_of_block_i hg (by simpa using ht)) (by have := h.at.len_le; simpa using this) (by simpa using hn)
    refine Calls.mono hcon ?_
    rintro e w' ⟨rfl, q, rfl⟩
    have hfl : (xs.toArray.toList.filter fun x => !dgI N x) = xs.filter fun x => !dgI N x := rfl
    rw [hfl]
    have hle := List.length_filter_le (fun x => !dgI N x) xs
    generalize hF : (xs.filter fun x => !dgI N x) = F at *
    have hL : (F ++ List.replicate (xs.toArray.size - F.length) 0).length = xs.length := by simp; omega
    have ho := ownsRow_sorted_i (w := w) (n := q) (os := #[]) (ss := xs) (ts := F ++ List.replicate (xs.toArray.size - F.length) 0) hL hB hg hn hm hs
    have hgr := grownBy_sorted_i (w := w) (g := g) (n := q) (os := #[]) (F ++ List.replicate (xs.toArray.size - F.length) 0).toArray
    rw [grow_empty] at ho hgr
    have hO : OwnI B (putRow (Value.int .i64) (Sort.ahead w q) g 0 (F ++ List.replicate (xs.toArray.size - F.length) 0).toArray) (.slice (some ⟨g, 0, none⟩) xs.length cap) (F ++ List.replicate (xs.toArray.size - F.length) 0) := by
      unfold OwnI; rw [hL]; exact ho
    have ho2 := hO.cutTo F.length (by rw [hL]; exact hle)
    rw [List.take_left' rfl] at ho2
    exact ⟨_, rfl, rfl, ho2, (Below.refl _ _).grown hgr (by have := (Array.getElem?_eq_some_iff.1 hg).1; omega) (fun k hk => by cases hk; exact hB)⟩
end Go.Proofs.YtilpckngghffoaaGreatDoor

namespace Go.Proofs.YtilpckngghffoaaGreatDoor

/-- The search: the levels D, the queue q; the first i of it have been gone through, and of the next, v, the arrows to pre. -/
structure MIn (N : Nat) (adj : Nat → List Nat) (D : Nat → Nat) (q : List Nat) (i v : Nat) (pre : List Nat) : Prop where
  at_ : q[i]? = some v
  nodup : q.Nodup
  low : ∀ x ∈ q, x < N * N
  diag : ∀ x, x < N * N → Diag N x → x ∈ q ∧ D x = 0
  old : ∀ x, x < N * N → ¬ Diag N x → (x ∈ q ↔ 0 < D x)
  mono : ∀ (j k x y : Nat), j ≤ k → q[j]? = some x → q[k]? = some y → D x ≤ D y
  top : ∀ x ∈ q, D x ≤ D v + 1
  bnd : ∀ x ∈ q, D x ≤ q.length
  done : ∀ (k x : Nat), k < i → q[k]? = some x → ∀ t ∈ adj x, (¬ Diag N t → t ∈ q ∧ D t ≤ D x + 1) ∧ (Diag N t → Diag N x)
  now : ∀ t ∈ pre, (¬ Diag N t → t ∈ q ∧ D t ≤ D v + 1) ∧ (Diag N t → Diag N v)
/-- Between two of the queue: the first i have been gone through. -/
structure MOut (N : Nat) (adj : Nat → List Nat) (D : Nat → Nat) (q : List Nat) (i : Nat) : Prop where
  nodup : q.Nodup
  low : ∀ x ∈ q, x < N * N
  diag : ∀ x, x < N * N → Diag N x → x ∈ q ∧ D x = 0
  old : ∀ x, x < N * N → ¬ Diag N x → (x ∈ q ↔ 0 < D x)
  mono : ∀ (j k x y : Nat), j ≤ k → q[j]? = some x → q[k]? = some y → D x ≤ D y
  top : ∀ v : Nat, q[i]? = some v → ∀ x ∈ q, D x ≤ D v + 1
  bnd : ∀ x ∈ q, D x ≤ q.length
  done : ∀ (k x : Nat), k < i → q[k]? = some x → ∀ t ∈ adj x, (¬ Diag N t → t ∈ q ∧ D t ≤ D x + 1) ∧ (Diag N t → Diag N x)
section
variable {N : Nat} {adj : Nat → List Nat} {D : Nat → Nat} {q : List Nat} {i v : Nat} {pre : List Nat}
/-- The pairs of equal nodes, in order. -/
def diags (N : Nat) : List Nat := (List.range N).map fun u => u * N + u
theorem mem_diags {N x : Nat} : x ∈ diags N ↔ ∃ u, u < N ∧ x = u * N + u := by
  unfold diags; rw [List.mem_map]
  constructor
  · rintro ⟨u, h, rfl⟩; exact ⟨u, List.mem_range.1 h, rfl⟩
  · rintro ⟨u, h, rfl⟩; exact ⟨u, List.mem_range.2 h, rfl⟩
theorem MOut.init (N : Nat) (adj : Nat → List Nat) : MOut N adj (fun _ => 0) (diags N) 0 := by
  refine ⟨?_, fun x hx => ?_, fun x hx hd => ⟨mem_diags.2 ⟨x / N, div_lt_of hx, hd.eq⟩, rfl⟩, fun x hx hd => ⟨fun h => ?_, fun h => absurd h (by simp)⟩, fun _ _ _ _ _ _ _ => Nat.le_refl _, fun _ _ _ _ => by simp, fun _ _ => Nat.zero_le _, fun k x hk => by omega⟩
  · unfold diags
    rw [List.nodup_iff_pairwise_ne, List.pairwise_map]
    refine List.pairwise_lt_range.imp_of_mem fun {a b} ha hb h e => ?_
    have hb := List.mem_range.1 hb
    have := Nat.mul_le_mul_right N (show a + 1 ≤ b by omega)
    rw [Nat.add_mul] at this
    omega
  · obtain ⟨u, hu, rfl⟩ := mem_diags.1 hx
    exact pair_lt hu hu
  · obtain ⟨u, hu, rfl⟩ := mem_diags.1 h
    exact absurd (diag_mk hu) hd
theorem MOut.enter (h : MOut N adj D q i) (hv : q[i]? = some v) : MIn N adj D q i v [] :=
  ⟨hv, h.nodup, h.low, h.diag, h.old, h.mono, h.top v hv, h.bnd, h.done, fun _ ht => by cases ht⟩
theorem MIn.leave (h : MIn N adj D q i v pre) (hp : pre = adj v) : MOut N adj D q (i + 1) := by
  subst hp
  refine ⟨h.nodup, h.low, h.diag, h.old, h.mono, fun y hy x hx => ?_, h.bnd, fun k x hk hx => ?_⟩
  · have := h.mono i (i + 1) v y (by omega) h.at_ hy
    have := h.top x hx
    omega
  · by_cases e : k = i
    · subst e
      rw [h.at_] at hx; cases hx
      exact h.now
    · exact h.done k x (by omega) hx
/-- A new one. -/
theorem MIn.add (h : MIn N adj D q i v pre) {t : Nat} (htl : t < N * N) (ht : ¬ Diag N t) (hq : t ∉ q) : MIn N adj (updN D t (D v + 1)) (q ++ [t]) i v (pre ++ [t]) := by
  have hi : i < q.length := (List.getElem?_eq_some_iff.1 h.at_).1
  have hvq : v ∈ q := List.mem_of_getElem? h.at_
  have hvt : v ≠ t := fun e => hq (by rw [← e]; exact hvq)
  have hD : ∀ x, x ∈ q → updN D t (D v + 1) x = D x := fun x hx => updN_other _ _ _ (fun e => hq (by rw [← e]; exact hx))
  have hget : ∀ k x, (q ++ [t])[k]? = some x → (q[k]? = some x ∧ k < q.length) ∨ (k = q.length ∧ x = t) := fun k x hx => by
    rw [List.getElem?_append] at hx
    split at hx
    · exact .inl ⟨hx, by assumption⟩
    · right
      cases hk : k - q.length with
      | zero => rw [hk] at hx; simp at hx; exact ⟨by omega, hx.symm⟩
      | succ n => rw [hk] at hx; simp at hx
  refine ⟨by rw [List.getElem?_append_left hi]; exact h.at_, List.nodup_append.2 ⟨h.nodup, by simp, fun a ha b hb e => by cases List.mem_singleton.1 hb; subst e; exact hq ha⟩, fun x hx => ?_, fun x hx hd => ?_, fun x hx hd => ?_, fun j k x y hjk hx hy => ?_, fun x hx => ?_, fun x hx => ?_, fun k x hk hx s hs => ?_, fun s hs => ?_⟩
  · rcases List.mem_append.1 hx with hx | hx
    · exact h.low x hx
    · cases List.mem_singleton.1 hx; exact htl
  · obtain ⟨h1, h2⟩ := h.diag x hx hd
    exact ⟨List.mem_append_left _ h1, by rw [hD x h1]; exact h2⟩
  · by_cases e : x = t
    · subst e; rw [updN_same]; simp
    · rw [updN_other _ _ _ e, ← h.old x hx hd]; simp [e]
  · rcases hget j x hx with ⟨a1, _⟩ | ⟨a1, rfl⟩
    · rw [hD x (List.mem_of_getElem? a1)]
      rcases hget k y hy with ⟨b1, _⟩ | ⟨b1, rfl⟩
      · rw [hD y (List.mem_of_getElem? b1)]; exact h.mono j k x y hjk a1 b1
      · rw [updN_same]; exact h.top x (List.mem_of_getElem? a1)
    · rcases hget k y hy with ⟨b1, b2⟩ | ⟨b1, rfl⟩
      · omega
      · exact Nat.le_refl _
  · rw [updN_other D t (D v + 1) hvt]
    rcases List.mem_append.1 hx with hx | hx
    · rw [hD x hx]; exact h.top x hx
    · cases List.mem_singleton.1 hx; rw [updN_same]; exact Nat.le_refl _
  · rw [List.length_append, List.length_singleton]
    rcases List.mem_append.1 hx with hx | hx
    · rw [hD x hx]; have := h.bnd x hx; omega
    · cases List.mem_singleton.1 hx; rw [updN_same]; have := h.bnd v hvq; omega
  · rcases hget k x hx with ⟨a1, _⟩ | ⟨a1, rfl⟩
    · rw [hD x (List.mem_of_getElem? a1)]
      obtain ⟨c1, c2⟩ := h.done k x hk a1 s hs
      exact ⟨fun q' => by
        obtain ⟨d1, d2⟩ := c1 q'
        exact ⟨List.mem_append_left _ d1, by rw [hD s d1]; exact d2⟩, c2⟩
    · omega
  · rw [updN_other D t (D v + 1) hvt]
    rcases List.mem_append.1 hs with hs | hs
    · obtain ⟨c1, c2⟩ := h.now s hs
      exact ⟨fun q' => by
        obtain ⟨d1, d2⟩ := c1 q'
        exact ⟨List.mem_append_left _ d1, by rw [hD s d1]; exact d2⟩, c2⟩
    · cases List.mem_singleton.1 hs
      exact ⟨fun _ => ⟨List.mem_append_right _ (by simp), by rw [updN_same]; exact Nat.le_refl _⟩, fun q' => absurd q' ht⟩
/-- Of a way, whose vertices are gone through as far as j, the next one lies in the queue. -/
theorem MOut.along (h : MOut N adj D q i) {u : List Nat} (hu : ApartWay N adj u) : ∀ j, j + 1 < u.length →
    (∃ k, k ≤ j ∧ u.getD k 0 ∈ q ∧ D (u.getD k 0) ≤ k ∧ ∀ m, m < i → q[m]? ≠ some (u.getD k 0)) ∨ (u.getD j 0 ∈ q ∧ D (u.getD j 0) ≤ j ∧ ∃ m, m < i ∧ q[m]? = some (u.getD j 0))
  | 0, h1 => by
    obtain ⟨a, b⟩ := h.diag _ (hu.low 0 (by omega)) hu.fst
    by_cases q' : ∃ m, m < i ∧ q[m]? = some (u.getD 0 0)
    · exact .inr ⟨a, by omega, q'⟩
    · exact .inl ⟨0, Nat.le_refl _, a, by omega, fun m hm e => q' ⟨m, hm, e⟩⟩
  | j + 1, h1 => by
    rcases h.along hu j (by omega) with ⟨k, k1, k2, k3, k4⟩ | ⟨_, a2, m, m1, m2⟩
    · exact .inl ⟨k, by omega, k2, k3, k4⟩
    · obtain ⟨c1, _⟩ := h.done m _ m1 m2 _ (hu.arr j (by omega))
      obtain ⟨d1, d2⟩ := c1 (hu.inn (j + 1) (by omega) h1)
      by_cases q' : ∃ m, m < i ∧ q[m]? = some (u.getD (j + 1) 0)
      · exact .inr ⟨d1, by omega, q'⟩
      · exact .inl ⟨j + 1, Nat.le_refl _, d1, by omega, fun m hm e => q' ⟨m, hm, e⟩⟩
/-- At the end of the queue: there is no such way. -/
theorem MOut.none (h : MOut N adj D q i) (hi : q.length ≤ i) (u : List Nat) : ¬ ApartWay N adj u := fun hu => by
  have h3 := hu.len
  rcases h.along hu (u.length - 2) (by omega) with ⟨k, _, k2, _, k4⟩ | ⟨_, _, m, m1, m2⟩
  · obtain ⟨m, hm⟩ := List.mem_iff_getElem?.1 k2
    have := (List.getElem?_eq_some_iff.1 hm).1
    exact k4 m (by omega) hm
  · obtain ⟨_, c2⟩ := h.done m _ m1 m2 _ (hu.arr (u.length - 2) (by omega))
    refine hu.inn (u.length - 2) (by omega) (by omega) (c2 ?_)
    rw [show u.length - 2 + 1 = u.length - 1 by omega]
    exact hu.lst
/-- Whoever is met from v: no way is shorter. -/
theorem MIn.best (h : MIn N adj D q i v pre) {u : List Nat} (hu : ApartWay N adj u) : D v + 3 ≤ u.length + 1 := by
  have h3 := hu.len
  have ho : MOut N adj D q i := ⟨h.nodup, h.low, h.diag, h.old, h.mono, fun y hy => by rw [h.at_] at hy; cases hy; exact h.top, h.bnd, h.done⟩
  rcases ho.along hu (u.length - 2) (by omega) with ⟨k, k1, k2, k3, k4⟩ | ⟨_, _, m, m1, m2⟩
  · obtain ⟨m, hm⟩ := List.mem_iff_getElem?.1 k2
    have hmi : i ≤ m := Nat.le_of_not_lt fun q' => k4 m q' hm
    have := h.mono i m v _ hmi h.at_ hm
    omega
  · obtain ⟨_, c2⟩ := h.done m _ m1 m2 _ (hu.arr (u.length - 2) (by omega))
    refine absurd (c2 ?_) (hu.inn (u.length - 2) (by omega) (by omega))
    rw [show u.length - 2 + 1 = u.length - 1 by omega]
    exact hu.lst

/-- From whom each came. -/
def CameOf (N : Nat) (adj : Nat → List Nat) (D : Nat → Nat) (q : List Nat) (came : Nat → Int) : Prop :=
  (∀ x, x < N * N → ((came x < 0 ↔ Diag N x ∨ x ∉ q) ∧ (came x < 0 → came x = -1))) ∧ ∀ x, x < N * N → 0 ≤ came x → ∃ p : Nat, came x = p ∧ p ∈ q ∧ x ∈ adj p ∧ D x = D p + 1
theorem CameOf.init (N : Nat) (adj : Nat → List Nat) : CameOf N adj (fun _ => 0) (diags N) (fun _ => -1) := by
  refine ⟨fun x hx => ⟨⟨fun _ => ?_, fun _ => (by show (-1 : Int) < 0; decide)⟩, fun _ => rfl⟩, fun x _ h => by simp at h⟩
  by_cases hd : Diag N x
  · exact .inl hd
  · right
    intro hm
    obtain ⟨u, hu, rfl⟩ := mem_diags.1 hm
    exact hd (diag_mk hu)
theorem CameOf.add (h : MIn N adj D q i v pre) {came : Nat → Int} (hc : CameOf N adj D q came) {t : Nat} (ht : ¬ Diag N t) (hq : t ∉ q) (ha : t ∈ adj v) : CameOf N adj (updN D t (D v + 1)) (q ++ [t]) (updN came t (v : Int)) := by
  have hvq : v ∈ q := List.mem_of_getElem? h.at_
  have hvt : v ≠ t := fun e => hq (by rw [← e]; exact hvq)
  refine ⟨fun x hx => ?_, fun x hx h0 => ?_⟩
  · by_cases e : x = t
    · subst e; rw [updN_same]
      exact ⟨⟨fun q' => by omega, fun q' => by rcases q' with q' | q'; exact absurd q' ht; exact absurd (List.mem_append_right _ (by simp)) q'⟩, fun q' => by omega⟩
    · rw [updN_other _ _ _ e]
      obtain ⟨a, b⟩ := hc.1 x hx
      refine ⟨?_, b⟩
      rw [a]; simp [e]
  · by_cases e : x = t
    · subst e
      refine ⟨v, updN_same .., List.mem_append_left _ hvq, ha, ?_⟩
      rw [updN_same, updN_other _ _ _ hvt]
    · rw [updN_other _ _ _ e] at h0 ⊢
      obtain ⟨p, p1, p2, p3, p4⟩ := hc.2 x hx h0
      refine ⟨p, p1, List.mem_append_left _ p2, p3, ?_⟩
      rw [updN_other _ _ _ e, updN_other _ _ _ (fun e' => hq (by rw [← e']; exact p2))]
      exact p4
/-- The way back from u to a pair of equal nodes. -/
inductive BackWay (N : Nat) (adj : Nat → List Nat) (came : Nat → Int) : Nat → List Nat → Prop
  | stop (x : Nat) (h : came x = -1) (hd : Diag N x) : BackWay N adj came x [x]
  | step (x p : Nat) (c : List Nat) (h : came x = p) (hd : ¬ Diag N x) (ha : x ∈ adj p) (hp : p < N * N) (hc : BackWay N adj came p c) : BackWay N adj came x (x :: c)
theorem CameOf.back {came : Nat → Int} (hq : ∀ x ∈ q, x < N * N) (h0 : ∀ x ∈ q, ¬ Diag N x → 0 < D x) (hc : CameOf N adj D q came) : ∀ n x, D x = n → x ∈ q → ∃ c, BackWay N adj came x c ∧ c.length ≤ n + 1
  | n, x, hn, hx => by
    obtain ⟨a, b⟩ := hc.1 x (hq x hx)
    by_cases hd : Diag N x
    · exact ⟨[x], .stop x (b (a.2 (.inl hd))) hd, by simp⟩
    · have h1 : 0 ≤ came x := by
        apply Classical.byContradiction
        intro q'
        rcases a.1 (by omega) with q' | q'
        · exact hd q'
        · exact q' hx
      obtain ⟨p, p1, p2, p3, p4⟩ := hc.2 x (hq x hx) h1
      obtain ⟨c, c1, c2⟩ := CameOf.back hq h0 hc (n - 1) p (by omega) p2
      exact ⟨x :: c, .step x p c p1 hd p3 (hq p p2) c1, by simp; omega⟩
termination_by n => n
decreasing_by all_goals (have := h0 x hx hd; omega)
theorem BackWay.ne {came : Nat → Int} {x : Nat} {c : List Nat} (h : BackWay N adj came x c) : ∃ c', c = x :: c' := by cases h <;> exact ⟨_, rfl⟩
theorem BackWay.next {came : Nat → Int} {x : Nat} {c : List Nat} (h : BackWay N adj came x c) (hx : x < N * N) : ∀ k y, c[k]? = some y → y < N * N ∧ ((k + 1 < c.length ∧ ∃ z, c[k + 1]? = some z ∧ came y = z) ∨ (k + 1 = c.length ∧ came y = -1)) := by
  induction h with
  | stop x h hd =>
    intro k y hy
    cases k with
    | zero => simp at hy; subst hy; exact ⟨hx, .inr ⟨rfl, h⟩⟩
    | succ k => simp at hy
  | step x p c hcm hnd ha hp hc ih =>
    intro k y hy
    obtain ⟨c', rfl⟩ := hc.ne
    cases k with
    | zero => simp at hy; subst hy; exact ⟨hx, .inl ⟨by simp, p, rfl, hcm⟩⟩
    | succ k =>
      have hy : (p :: c')[k]? = some y := by simpa using hy
      obtain ⟨h1, h2⟩ := ih hp k y hy
      refine ⟨h1, h2.imp ?_ ?_⟩
      · rintro ⟨a, z, b, d⟩; exact ⟨by simpa using a, z, by simpa using b, d⟩
      · rintro ⟨a, b⟩; exact ⟨by simpa using a, b⟩
/-- The whole way, from its first vertex on. -/
theorem BackWay.way {came : Nat → Int} {x : Nat} {c : List Nat} (h : BackWay N adj came x c) (hx : x < N * N) :
    (∀ i, i < c.length → c.reverse.getD i 0 < N * N) ∧ (∀ i, i + 1 < c.length → c.reverse.getD (i + 1) 0 ∈ adj (c.reverse.getD i 0)) ∧ Diag N (c.reverse.getD 0 0) ∧ (∀ i, 0 < i → i < c.length → ¬ Diag N (c.reverse.getD i 0)) ∧ c.reverse.getD (c.length - 1) 0 = x ∧ 0 < c.length := by
  induction h with
  | stop x _ hd => exact ⟨fun i hi => by simp at hi; subst hi; simpa using hx, fun i hi => by simp at hi, by simpa using hd, fun i h1 h2 => by simp at h2; omega, by simp, by simp⟩
  | step x p c hcm hnd ha hp hc ih =>
    obtain ⟨i1, i2, i3, i4, i5, i6⟩ := ih hp
    have g1 : ∀ i, i < c.length → (x :: c).reverse.getD i 0 = c.reverse.getD i 0 := fun i hi => by
      rw [List.reverse_cons, List.getD_eq_getElem?_getD, List.getElem?_append_left (by simpa using hi)]; rfl
    have g2 : (x :: c).reverse.getD c.length 0 = x := by
      rw [List.reverse_cons, List.getD_eq_getElem?_getD, List.getElem?_append_right (by simp)]; simp
    refine ⟨fun i hi => ?_, fun i hi => ?_, ?_, fun i h1 h2 => ?_, ?_, by simp⟩
    · by_cases e : i < c.length
      · rw [g1 i e]; exact i1 i e
      · obtain rfl : i = c.length := by simp at hi; omega
        rw [g2]; exact hx
    · have hi : i + 1 < c.length + 1 := by simpa using hi
      rw [g1 i (by omega)]
      by_cases e : i + 1 < c.length
      · rw [g1 _ e]; exact i2 i e
      · obtain rfl : i = c.length - 1 := by omega
        rw [i5, show c.length - 1 + 1 = c.length by omega, g2]; exact ha
    · rw [g1 0 i6]; exact i3
    · by_cases e : i < c.length
      · rw [g1 i e]; exact i4 i h1 e
      · obtain rfl : i = c.length := by simp at h2; omega
        rw [g2]; exact hnd
    · rw [List.length_cons, Nat.add_sub_cancel, g2]
/-- What is met: a way of the kind, and none is shorter. -/
theorem MIn.met (h : MIn N adj D q i v pre) {came : Nat → Int} (hc : CameOf N adj D q came) {t : Nat} (hv : ¬ Diag N v) (ht : Diag N t) (htl : t < N * N) (ha : t ∈ adj v) :
    ∃ c, BackWay N adj came v c ∧ ApartWay N adj (c.reverse ++ [t]) ∧ (c.reverse ++ [t]).length = D v + 2 ∧ ∀ u, ApartWay N adj u → (c.reverse ++ [t]).length ≤ u.length := by
  have hvq : v ∈ q := List.mem_of_getElem? h.at_
  obtain ⟨c, hb, hl⟩ := hc.back h.low (fun x hx hd => (h.old x (h.low x hx) hd).1 hx) (D v) v rfl hvq
  obtain ⟨w1, w2, w3, w4, w5, w6⟩ := hb.way (h.low v hvq)
  have h2 : 2 ≤ c.length := by
    obtain ⟨c', rfl⟩ := hb.ne
    cases hb with
    | stop _ _ hd => exact absurd hd hv
    | step _ p _ _ _ _ _ hc' => obtain ⟨_, rfl⟩ := hc'.ne; simp
  have g1 : ∀ i, i < c.length → (c.reverse ++ [t]).getD i 0 = c.reverse.getD i 0 := fun i hi => by
    rw [List.getD_eq_getElem?_getD, List.getElem?_append_left (by simpa using hi)]; rfl
  have g2 : (c.reverse ++ [t]).getD c.length 0 = t := by
    rw [List.getD_eq_getElem?_getD, List.getElem?_append_right (by simp)]; simp
  have hL : (c.reverse ++ [t]).length = c.length + 1 := by simp
  have hw : ApartWay N adj (c.reverse ++ [t]) := by
    refine ⟨by omega, fun i hi => ?_, fun i hi => ?_, ?_, ?_, fun i h1 h2 => ?_⟩
    · by_cases e : i < c.length
      · rw [g1 i e]; exact w1 i e
      · obtain rfl : i = c.length := by omega
        rw [g2]; exact htl
    · rw [g1 i (by omega)]
      by_cases e : i + 1 < c.length
      · rw [g1 _ e]; exact w2 i e
      · obtain rfl : i = c.length - 1 := by omega
        rw [w5, show c.length - 1 + 1 = c.length by omega, g2]; exact ha
    · rw [g1 0 (by omega)]; exact w3
    · rw [hL, Nat.add_sub_cancel, g2]; exact ht
    · rw [g1 i (by omega)]; exact w4 i h1 (by omega)
  have hmin : ∀ u, ApartWay N adj u → D v + 2 ≤ u.length := fun u hu => by have := h.best hu; omega
  have := hmin _ hw
  refine ⟨c, hb, hw, by omega, fun u hu => ?_⟩
  have := hmin u hu
  omega
end
end Go.Proofs.YtilpckngghffoaaGreatDoor

namespace Go.Proofs.YtilpckngghffoaaGreatDoor

theorem diag_arr {K N : Nat} {T : List Int} {u s : Nat} (hu : u < N) (hs : s < K) : toN K N u s * N + toN K N u s ∈ pairL K N T (u * N + u) := by
  rw [mem_pairL (by omega), pair_div hu, pair_mod hu]
  exact ⟨s, s, hs, hs, rfl, rfl⟩
/-- Where a word leads from a node. -/
theorem diag_word {K N : Nat} {T : List Int} {u : Nat} (hu : u < N) : ∀ (n : Nat) (xs : List Int), xs.length = n → Syms K xs → Goes (pairL K N T) (u * N + u) ((u * pw K xs.length + numW K xs) % N * N + (u * pw K xs.length + numW K xs) % N)
  | 0, xs, hn, _ => by
    obtain rfl := List.length_eq_zero_iff.1 hn
    rw [show u * pw K ([] : List Int).length + numW K [] = u by simp [pw, numW], Nat.mod_eq_of_lt hu]
    exact .refl _
  | n + 1, xs, hn, hx => by
    have hne : xs ≠ [] := by intro e; subst e; simp at hn
    obtain ⟨b, x, rfl⟩ : ∃ b x, xs = b ++ [x] := ⟨xs.dropLast, xs.getLast hne, (List.dropLast_concat_getLast hne).symm⟩
    have hb : b.length = n := by simpa using hn
    have ih := diag_word (T := T) hu n b hb (fun y hy => hx y (List.mem_append_left _ hy))
    have hxs := hx x (by simp)
    refine .step ih ?_
    have := diag_arr (T := T) (u := (u * pw K b.length + numW K b) % N) (s := x.toNat) (Nat.mod_lt _ (by omega)) (show x.toNat < K by omega)
    have e : toN K N ((u * pw K b.length + numW K b) % N) x.toNat = (u * pw K (b ++ [x]).length + numW K (b ++ [x])) % N := by
      unfold toN
      rw [numW_snoc, List.length_append, List.length_singleton, pw_succ, ← Nat.mul_assoc, show u * pw K b.length * K + (numW K b * K + x.toNat) = (u * pw K b.length + numW K b) * K + x.toNat by rw [Nat.add_mul]; omega]
      rw [Nat.add_mod, Nat.mul_mod, Nat.mod_mod, ← Nat.mul_mod, ← Nat.add_mod]
    rw [e] at this
    exact this
theorem diag_goes {K R : Nat} {T : List Int} {u v : Nat} (hK : 1 ≤ K) (hu : u < pw K (2 * R)) (hv : v < pw K (2 * R)) : Goes (pairL K (pw K (2 * R)) T) (u * pw K (2 * R) + u) (v * pw K (2 * R) + v) := by
  have := diag_word (T := T) hu (2 * R) (digs K (2 * R) v) (digs_length ..) (digs_syms hK _ _)
  rw [digs_length, numW_digs hK _ _ hv, show u * pw K (2 * R) + v = pw K (2 * R) * u + v by rw [Nat.mul_comm], Nat.mul_add_mod, Nat.mod_eq_of_lt hv] at this
  exact this
end Go.Proofs.YtilpckngghffoaaGreatDoor

namespace Go.Proofs.YtilpckngghffoaaGreatDoor
open Go.RowKit
set_option maxRecDepth 100000

theorem oddTo_ok {G : List (List Int)} (hok : GraphOk G) : ∀ k, k ≤ G.length → oddTo G k < 0
  | 0, _ => by simp [oddTo]
  | k + 1, hk => oddTo_miss (oddTo_ok hok k (by omega)) fun t ht => by
    have := hok k (by omega) t ht
    simp [oddT]; omega
theorem checkG_ok {G : List (List Int)} (h1 : G.length ≤ 8192) (h2 : arrowsTo G G.length ≤ 262144) (hok : GraphOk G) : checkG G = none := by
  unfold checkG
  rw [if_neg (by omega), if_neg (by omega), if_neg (by have := oddTo_ok hok G.length (Nat.le_refl _); omega)]
section
variable {K N : Nat} {T : List Int}
theorem pairG_len : (pairG K N T).length = N * N := rowsOf_len _ _
theorem pairG_row {p : Nat} (hp : p < N * N) : (pairG K N T).getD p [] = castI (pairL K N T p) := rowsOf_get _ _ _ hp
theorem pairG_adj {p : Nat} (hp : p < N * N) : adjOf (pairG K N T) p = pairL K N T p := by
  unfold adjOf
  rw [pairG_row hp, castI, List.map_map]
  exact List.map_id _
theorem pairG_ok (hN : 0 < N) : GraphOk (pairG K N T) := by
  intro v hv t ht
  rw [pairG_len] at hv
  rw [pairG_row hv] at ht
  obtain ⟨q, hq, rfl⟩ := List.mem_map.1 ht
  have := ((mem_pairL hN).1 hq).lt hN
  rw [pairG_len]
  omega
theorem pairG_arrows : ∀ k, k ≤ N * N → arrowsTo (pairG K N T) k ≤ k * (K * K)
  | 0, _ => by simp [arrowsTo]
  | k + 1, hk => by
    have := pairG_arrows k (by omega)
    simp only [arrowsTo]
    rw [pairG_row (by omega), castI_len, Nat.add_mul]
    have := pairL_len K N T k
    omega
theorem pairG_check (hN : 0 < N) (hN81 : N ≤ 81) (hNK : N * K ≤ 256) : checkG (pairG K N T) = none := by
  refine checkG_ok ?_ ?_ (pairG_ok hN)
  · rw [pairG_len]; have := Nat.mul_le_mul hN81 hN81; omega
  · rw [pairG_len]
    have := pairG_arrows (K := K) (N := N) (T := T) (N * N) (Nat.le_refl _)
    have h2 := Nat.mul_le_mul hNK hNK
    rw [show N * K * (N * K) = N * N * (K * K) by rw [Nat.mul_assoc, Nat.mul_left_comm K, ← Nat.mul_assoc]] at h2
    omega
theorem pairG_goes (hN : 0 < N) {x y : Nat} (h : Goes (pairL K N T) x y) (hx : x < N * N) : Goes (adjOf (pairG K N T)) x y ∧ y < N * N := by
  induction h with
  | refl => exact ⟨.refl _, hx⟩
  | step h hz ih =>
    exact ⟨.step ih.1 (by rw [pairG_adj ih.2]; exact hz), ((mem_pairL hN).1 hz).lt hN⟩
end
/-- The pairs of equal nodes are live. -/
theorem diag_live {K R : Nat} {T : List Int} {u : Nat} (hK : 1 ≤ K) (hu : u < pw K (2 * R)) : IsLive (pw K (2 * R) * pw K (2 * R)) (adjOf (pairG K (pw K (2 * R)) T)) (u * pw K (2 * R) + u) := by
  have hp := pair_lt hu hu
  have hN : 0 < pw K (2 * R) := by omega
  have ht := toN_lt (K := K) (u := u) (s := 0) hN
  have hl : OnLoop (adjOf (pairG K (pw K (2 * R)) T)) (u * pw K (2 * R) + u) :=
    ⟨toN K (pw K (2 * R)) u 0 * pw K (2 * R) + toN K (pw K (2 * R)) u 0, by rw [pairG_adj hp]; exact diag_arr hu hK, (pairG_goes hN (diag_goes hK ht hu) (pair_lt ht ht)).1⟩
  exact ⟨⟨_, hp, hl, .refl _⟩, ⟨_, hp, hl, .refl _⟩⟩

theorem pgraph_bad (r : Nat → Addr) (k R : Int) (va : Option Addr) (vn vc : Nat) (T : List Int) (t : Int × List (ByteArray × Int)) (w : World) (hg : Glob r w) (h : IntsAt w (.slice va vn vc) T) (hc : smallP k R T = some t) :
    Calls Tryz.prog 35 #[.agg #[.int .i64 k, .int .i64 R, .slice va vn vc]] w (Ret2 (fun x y w' => x = .slice none 0 0 ∧ ErrIs r w' (under sPairs 0 (some t)) y) w) := by
  have b0 := belowAlloc w (.cells #[.int .i64 k, .int .i64 R, .slice va vn vc] 24)
  replace hg := Lib.hid (hg.below b0)
  replace h := Lib.hid (h.below b0)
  replace hc := Lib.hid hc
  go_enter Tryz.func35, Tryz.ntmps35
  go_wp2_with fail
  refine (working_bad r k R va vn vc T t _ hg.out h.out hc.out).mono ?_
  rintro e w1 ⟨x, y, rfl, b1, rfl, hy⟩
  obtain ⟨T2, a2, rfl⟩ : ∃ T a, y = .iface T (.pointer (some a)) := by
    unfold under at hy
    exact ErrIs.some_shape hy
  have ba := belowAlloc w1 (.cells #[.int .i64 0, .int .i64 0, .slice none 0 0] 24)
  have hy2 := hy.below ba
  replace hy := Lib.hid hy
  replace hy2 := Lib.hid hy2
  go_wp2
  go_ret2
  exact ⟨_, _, rfl, Below.step b0 (Below.step b1 ba), rfl, hy2.out⟩

set_option maxHeartbeats 1000000 in
theorem papart_ok (r : Nat → Addr) (K R : Nat) (va : Option Addr) (vn vc : Nat) (T : List Int) (w : World) (hg : Glob r w) (h : IntsAt w (.slice va vn vc) T) (hr : RuleOk K R T) (hl : T.length ≤ 256) :
    Calls Tryz.prog 55 #[.agg #[.int .i64 K, .int .i64 R, .slice va vn vc]] w (Ret2 (fun x y w' => y = .nilIface ∧ ∃ L, LiveList (pw K (2 * wkR R) * pw K (2 * wkR R)) (adjOf (pairG K (pw K (2 * wkR R)) (wkT K R T))) L ∧ OwnI w.heap.size w' x (castI (L.filter fun p => !decide (Diag (pw K (2 * wkR R)) p)))) w) := by
  have b0 := belowAlloc w (.cells #[.int .i64 K, .int .i64 R, .slice va vn vc] 24)
  have q : Box3 (w.alloc (.cells #[.int .i64 K, .int .i64 R, .slice va vn vc] 24)) w.heap.size (.int .i64 K) (.int .i64 R) (.slice va vn vc) := by simp [Box3, go_sem]
  have hk1 := hr.k1
  have hk4 := hr.k4
  have hokW := wk_ok hr
  have hlW := wk_small hr hl
  have hRW := wk_pos R
  have hN81 := nodes_le hokW hRW hlW
  obtain ⟨hdiv, hlen⟩ := hokW.half
  have hN1 := pw_pos (K := K) (2 * wkR R) hk1
  have hNK : pw K (2 * wkR R) * K ≤ 256 := by rw [← hlen]; exact hlW
  have hck := pairG_check (K := K) (N := pw K (2 * wkR R)) (T := wkT K R T) (by omega) hN81 hNK
  have hlive0 := diag_live (K := K) (R := wkR R) (T := wkT K R T) (u := 0) hk1 (by omega)
  have hgraph := fun (w' : World) (hgl : Glob r w') (hT : IntsAt w' (.slice va vn vc) T) => pgraph_ok r K R va vn vc T w' hgl hT hr hl
  have hwork := fun (w' : World) (hgl : Glob r w') (hT : IntsAt w' (.slice va vn vc) T) => working_ok r K R va vn vc T w' hgl hT hr hl
  have hNodes := fun (a : Option Addr) (n c : Nat) (w' : World) (hgl : Glob r w') (hT : IntsAt w' (.slice a n c) (wkT K R T)) => over_Nodes r K (wkR R) a n c (wkT K R T) w' hgl hT hokW hlW
  rw [hdiv] at hNodes
  generalize pw K (2 * wkR R) = N at *
  generalize wkT K R T = T' at *
  generalize wkR R = R' at *
  rw [Nat.zero_mul, Nat.zero_add] at hlive0
  replace hgraph := Lib.hid hgraph
  replace hwork := Lib.hid hwork
  replace hNodes := Lib.hid hNodes
  replace hck := Lib.hid hck
  replace hlive0 := Lib.hid hlive0
  replace hg := Lib.hid (hg.below b0)
  replace h := Lib.hid (h.below b0)
  replace hokW := Lib.hid hokW
  replace hr := Lib.hid hr
  replace hdiv := Lib.hid hdiv
  replace hlen := Lib.hid hlen
  go_enter Tryz.func55, Tryz.ntmps55
  go_wp2_with fail
  refine (hgraph.out _ hg.out h.out).mono ?_
  rintro e w1 ⟨gv, y, rfl, b1, rfl, f, vals, hrows, hwn⟩
  have hL : ListsAt w1 gv (pairG K N T') := hwn.lists hrows
  obtain ⟨ga, gc, rfl⟩ := hL.shape
  have hsz : ∀ k, k < (pairG K N T').length → ((pairG K N T').getD k []).length ≤ 17592186044416 := fun k hk => by
    rw [pairG_len] at hk
    rw [pairG_row hk, castI_len]
    have := pairL_len K N T' k
    have := Nat.mul_le_mul hk4 hk4
    omega
  have hM6 : N * N ≤ 6561 := Nat.mul_le_mul hN81 hN81
  replace hrows := Lib.hid hrows
  replace hwn := Lib.hid hwn
  replace hL := Lib.hid hL
  replace hsz := Lib.hid hsz
  go_wp2_with fail
  refine (live_any r ga gc (pairG K N T') w1 (hg.out.below b1) hL.out hsz.out).mono ?_
  rintro e w2 ⟨lv, y, rfl, b2, he, hls, _⟩
  rw [hck.out] at he hls
  obtain rfl := he.none_eq
  obtain ⟨L, hLL, ho⟩ := hls rfl
  rw [pairG_len] at hLL
  clear hls he
  have b12 := Below.step b1 b2
  have q2 := q.below b12
  obtain ⟨⟨z0, z1, z2⟩, -, -, -⟩ := q2
  replace hLL := Lib.hid hLL
  replace ho := Lib.hid ho
  go_wp2_with fail
  refine (hwork.out w2 (hg.out.below b12) (h.out.below b12)).mono ?_
  rintro e w3 ⟨x, y, rfl, b3, rfl, a, n, c, rfl, hT3⟩
  clear z0 z1 z2
  have b13 := Below.step b12 b3
  have ba := belowAlloc w3 (.cells #[.int .i64 K, .int .i64 R', .slice a n c] 24)
  have b14 := Below.step b13 ba
  have hT4 := hT3.below ba
  replace hT3 := Lib.hid hT3
  replace hT4 := Lib.hid hT4
  go_wp2_with fail
  refine (hNodes.out a n c _ (hg.out.below b14) hT4.out).mono ?_
  rintro e w5 ⟨x, y, rfl, b5, rfl, rfl⟩
  have b15 := Below.step b14 b5
  have bb := belowAlloc w5 (.cells #[.int .i64 N] 3)
  have b16 := Below.step b15 bb
  have b26 := Below.step b3 (Below.step ba (Below.step b5 bb))
  have ho6 := ho.out.below b26
  have cN : (w5.alloc (.cells #[.int .i64 N] 3)).cell? ⟨w5.heap.size, 0, none⟩ = some (.int .i64 N) := by simp [go_sem]
  have hne : lv.ownBlock ≠ some w5.heap.size := fun e => by
    have h1 := (ho.out.lt _ e).2
    have h2 := (Below.step b3 (Below.step ba b5)).size
    omega
  have hLne : castI L ≠ [] := fun e => by
    have : L = [] := by cases L with | nil => rfl | cons a l => simp [castI] at e
    have h0 := (hLL.out.mem 0).2 ⟨by have := Nat.mul_le_mul hN1 hN1; omega, hlive0.out⟩
    rw [this] at h0; cases h0
  replace ho6 := Lib.hid ho6
  replace hne := Lib.hid hne
  replace hLne := Lib.hid hLne
  replace cN := Lib.hid cN
  go_wp2_with fail
  refine (delete_own w1.heap.size lv (castI L) w5.heap.size N _ ho6.out hLne.out hN1 cN.out hne.out).mono ?_
  rintro e w7 ⟨x, rfl, _, ho7, b7⟩
  have hF : (castI L).filter (fun x => !dgI N x) = castI (L.filter fun p => !decide (Diag N p)) := by
    unfold castI
    rw [List.filter_map]
    congr 1
    refine List.filter_congr fun p hp => ?_
    have := ((hLL.out.mem p).1 hp).1
    show (!dgI N (p : Int)) = _
    rw [dgI_nat (by omega)]
  rw [hF] at ho7
  obtain ⟨xa, xn, xc, rfl⟩ := ho7.at.shape
  have ho8 := ho7.mono (B' := w.heap.size) (Nat.le_trans b0.size b1.size)
  have bE := (Below.step b0 b1).trans ((Below.step b2 b26).trans b7 |>.mono (Nat.le_trans b0.size b1.size))
  replace ho7 := Lib.hid ho7
  replace ho8 := Lib.hid ho8
  replace hF := Lib.hid hF
  go_wp2
  go_ret2
  exact ⟨_, _, rfl, bE, rfl, L, hLL.out, ho8.out⟩
end Go.Proofs.YtilpckngghffoaaGreatDoor

namespace Go.Proofs.YtilpckngghffoaaGreatDoor
open Go.RowKit
set_option maxRecDepth 100000

theorem ListsFrom.shape {B : Nat} {w : World} {v : Value} {G : List (List Int)} (h : ListsFrom B w v G) : ∃ a c, v = .slice a G.length c := h.at.shape
theorem ListsFrom.mono {B B' : Nat} {w : World} {v : Value} {G : List (List Int)} (h : ListsFrom B w v G) (hB : B' ≤ B) : ListsFrom B' w v G := by
  obtain ⟨vs, h1, h2, h3⟩ := h
  exact ⟨vs, h1.mono hB, h2, fun i hi => (h3 i hi).mono hB⟩
end Go.Proofs.YtilpckngghffoaaGreatDoor

namespace Go.Proofs.YtilpckngghffoaaGreatDoor
open Go.RowKit
set_option maxRecDepth 100000

theorem ring_check1 (x K : Int) (b : Addr) (w : World) (hb : w.cell? (b.add 0) = some (.int .i64 K)) (hb2 : b.add 0 = b) :
    Calls Tryz.prog 124 #[.int .i64 x, .pointer (some b)] w fun e w' => e = .returned (.bool (odd1 K x)) ∧ w = w' := by
  rw [hb2] at hb
  by_cases h : x < 0
  · have e : odd1 K x = true := by simp [odd1, h]
    rw [e]
    go_enter Tryz.func124, Tryz.ntmps124
    go_wp2
    go_ret
    exact ⟨rfl, rfl⟩
  · have e : odd1 K x = decide (K ≤ x) := by simp [odd1, h]
    rw [e]
    go_enter Tryz.func124, Tryz.ntmps124
    go_wp2
    go_ret
    exact ⟨rfl, rfl⟩
theorem eg_ring_check1 (args : Array Value) (w : World) : (callFunc 124 args).run Tryz.prog w = .ok (.enter 124 args) w := by kernel_rfl

theorem ring_check (K R : Nat) (va : Option Addr) (vn vc : Nat) (T : List Int) (u : Value) (xs : List Int) (w : World) (h : IntsAt w (.slice va vn vc) T) (hr : RuleOk K R T) (hu : IntsAt w u xs) (hs : Syms K xs) (h1 : 1 ≤ xs.length) (hl : xs.length ≤ 4096) :
    Calls Tryz.prog 77 #[.agg #[.int .i64 K, .int .i64 R, .slice va vn vc], u] w (Ret1 (fun x _ => x = .nilIface) w) := by
  have b0 := belowAlloc w (.cells #[.int .i64 K, .int .i64 R, .slice va vn vc] 24)
  have q : Box3 (w.alloc (.cells #[.int .i64 K, .int .i64 R, .slice va vn vc] 24)) w.heap.size (.int .i64 K) (.int .i64 R) (.slice va vn vc) := by simp [Box3, go_sem]
  have lX := hu.len
  obtain ⟨ua, un, uc, rfl⟩ := hu.shape
  have hn3 : ¬ xs.length = 0 := by omega
  have hn4 : ((xs.length : Int) == 0) = false := by rw [beq_eq_false_iff_ne]; omega
  have d2 : decide ((4096 : Int) < (xs.length : Int)) = false := decide_eq_false (by omega)
  have hodd := Lib.hid hs.odd
  replace h := Lib.hid (h.below b0)
  replace hu := Lib.hid (hu.below b0)
  replace hr := Lib.hid hr
  replace hs := Lib.hid hs
  have q0 := q
  obtain ⟨⟨z0, z1, z2⟩, -, -, -⟩ := q0
  go_enter Tryz.func77, Tryz.ntmps77
  go_wp2_with fail
  refine (check_ok K R _ T _ h.out hr.out).mono ?_
  rintro e w1 ⟨_, rfl, b1, rfl⟩
  have b01 := Below.step b0 b1
  clear z0 z1 z2
  obtain ⟨⟨z0, z1, z2⟩, -, -, -⟩ := q.below b1
  go_wp2_with fail
  refine (indexFunc_any _ _ 124 xs (odd1 K) _ (hu.out.below b1) eg_ring_check1 (fun x _ => ring_check1 x K _ _ z0 rfl)).mono ?_
  rintro e w' ⟨rfl, rfl⟩
  rw [hodd.out]
  go_wp2
  go_ret
  exact ⟨_, rfl, b01, rfl⟩

set_option maxHeartbeats 2000000 in
theorem ring_image (K R : Nat) (va : Option Addr) (vn vc : Nat) (T : List Int) (u : Value) (xs : List Int) (w : World) (h : IntsAt w (.slice va vn vc) T) (hr : RuleOk K R T) (hu : IntsAt w u xs) (hs : Syms K xs) (h1 : 1 ≤ xs.length) (hl : xs.length ≤ 4096) :
    Calls Tryz.prog 78 #[.agg #[.int .i64 K, .int .i64 R, .slice va vn vc], u] w (Ret1 (fun x w' => OwnI w.heap.size w' x (ringI K R T xs)) w) := by
  have b0 := belowAlloc w (.cells #[.int .i64 K, .int .i64 R, .slice va vn vc] 24)
  have q : Box3 (w.alloc (.cells #[.int .i64 K, .int .i64 R, .slice va vn vc] 24)) w.heap.size (.int .i64 K) (.int .i64 R) (.slice va vn vc) := by simp [Box3, go_sem]
  obtain ⟨w0, hw0⟩ : ∃ W : World, w.alloc (.cells #[.int .i64 K, .int .i64 R, .slice va vn vc] 24) = W := ⟨_, rfl⟩
  rw [hw0] at b0 q
  replace h := h.below b0
  replace hu := hu.below b0
  have lT := h.len
  have lX := hu.len
  have s0 := b0.size
  have hk1 := hr.k1
  have hk4 := hr.k4
  have hR3 := hr.r3
  have hTl := hr.len
  have hTb : T.length ≤ 16384 := by rw [hTl]; exact pw_le hk1 hk4 (by omega)
  have hT0 : 0 < T.length := by rw [hTl]; exact pw_pos _ hk1
  obtain ⟨ua, un, uc, rfl⟩ := hu.shape
  obtain ⟨n, hn⟩ : ∃ n, xs.length = n := ⟨_, rfl⟩
  rw [hn] at lX h1 hl
  obtain ⟨ov, w1, mk, ho, b1⟩ := run_makeI (n : Int) n w0 rfl (by omega)
  obtain ⟨oa, on, oc, rfl⟩ := ho.at.shape
  have hi0 : OwnI w0.heap.size w1 (.slice oa on oc) ((ringI K R T xs).take 0 ++ List.replicate (n - 0) 0) := ho
  have hnz : ¬ n = 0 := by omega
  have hnz2 : ((n : Int) == 0) = false := by rw [beq_eq_false_iff_ne]; omega
  have hTz : ¬ T.length = 0 := by omega
  have hTz2 : ((T.length : Int) == 0) = false := by rw [beq_eq_false_iff_ne]; omega
  replace hn := Lib.hid hn
  replace h := Lib.hid h
  replace hu := Lib.hid hu
  replace hr := Lib.hid hr
  replace hs := Lib.hid hs
  replace hTl := Lib.hid hTl
  replace ho := Lib.hid ho
  replace hi0 := Lib.hid hi0
  replace hw0 := Lib.hid hw0
  have qh := Lib.hid q
  obtain ⟨⟨z0, z1, z2⟩, -, -, -⟩ := q.below b1
  go_enter Tryz.func78, Tryz.ntmps78
  go_upto_region 1 with fail
  rw [hw0.out]
  go_wp2_with fail
  clear mk z0 z1 z2
  go_loopw [7, 8] (fun vv iv wr => ∃ (t : Nat) (i : Int), t ≤ n + 2 * R ∧ iv = .int .i64 i ∧ i = (t : Int) - 2 * (R : Int) ∧ vv = .int .i64 ((numW K ((ringX R xs).take t) % T.length : Nat) : Int) ∧ OwnI w0.heap.size wr (.slice oa on oc) ((ringI K R T xs).take (t - 2 * R) ++ List.replicate (n - (t - 2 * R)) 0) ∧ Below w0.heap.size w0 wr) (fun _ iv _ => ((n : Int) - intOf iv).toNat)
  case atStart => exact ⟨0, _, Nat.zero_le _, rfl, by omega, by simp [numW], by rw [Nat.zero_sub]; exact hi0.out, b1⟩
  case round =>
    obtain ⟨t, i, ht, rfl, hit, rfl, hO, hB⟩ := hrel
    obtain ⟨wo, rfl⟩ : ∃ wo : World, wo = wr := ⟨_, rfl⟩
    obtain ⟨⟨z0, z1, z2⟩, -, -, -⟩ := qh.out.below hB
    by_cases hin : i < n
    · have di : decide (i < (n : Int)) = true := decide_eq_true hin
      obtain ⟨c1, c2, r, e1, e2, e3, e4, e5, e6, e7, e8⟩ := ring_mod (a := i + (R : Int)) (show 1 ≤ n by omega)
      have e6' : (c2 : Int).tmod (n : Int) = (r : Int) := by rw [Int.tmod_eq_emod_of_nonneg (by omega), ← Int.natCast_emod, e6]
      have e6b : (c2 : Int) % (n : Int) = (r : Int) := by rw [← Int.natCast_emod, e6]
      have hxo := hu.out.below hB
      have iX := fun w' => hxo.idx r (by rw [hn.out]; exact e7) w'
      have cX := hxo.cellD r (by rw [hn.out]; exact e7)
      have hsx := getD_syms hs.out (i := r) (by rw [hn.out]; exact e7)
      have htk : (ringX R xs).take (t + 1) = (ringX R xs).take t ++ [xs.getD r 0] := by
        rw [ringX_take (by rw [hn.out]; omega), hn.out, show (t : Int) - R = i + R by omega, e8, Int.toNat_natCast]
      have hst := numW_step K ((ringX R xs).take t) (xs.getD r 0) T.length
      rw [← htk] at hst
      obtain ⟨x, hx⟩ : ∃ x, xs.getD r 0 = x := ⟨_, rfl⟩
      rw [hx] at cX hsx hst
      obtain ⟨xn, rfl⟩ : ∃ m : Nat, x = (m : Int) := ⟨x.toNat, by omega⟩
      rw [Int.toNat_natCast] at hst
      obtain ⟨v, hv⟩ : ∃ v, numW K ((ringX R xs).take t) % T.length = v := ⟨_, rfl⟩
      have hvl : v < T.length := by rw [← hv]; exact Nat.mod_lt _ hT0
      rw [hv] at hst
      rw [hv]
      obtain ⟨s, hs9⟩ : ∃ s, v * K + xn = s := ⟨_, rfl⟩
      have hs2 : (v : Int) * (K : Int) + (xn : Int) = (s : Int) := by rw [← hs9]; simp
      have hvk : v * K ≤ 65536 := Nat.le_trans (Nat.mul_le_mul (show v ≤ 16384 by omega) hk4) (by decide)
      have hvk0 : (v : Int) * (K : Int) = ((v * K : Nat) : Int) := by simp
      have hsl : s ≤ 65540 := by omega
      rw [hs9] at hst
      obtain ⟨v2, hv2⟩ : ∃ v2, s % T.length = v2 := ⟨_, rfl⟩
      have hv2l : v2 < T.length := by rw [← hv2]; exact Nat.mod_lt _ hT0
      rw [hv2] at hst
      have f1 : (s : Int).tmod (T.length : Int) = (v2 : Int) := by rw [Int.tmod_eq_emod_of_nonneg (by omega), ← Int.natCast_emod, hv2]
      have f2 : (s : Int) % (T.length : Int) = (v2 : Int) := by rw [← Int.natCast_emod, hv2]
      obtain ⟨vk, hvk9⟩ : ∃ z, v * K = z := ⟨_, rfl⟩
      rw [hvk9] at hvk hvk0 hs9
      have hs3 : (vk : Int) + (xn : Int) = (s : Int) := by omega
      have hto := h.out.below hB
      have iT := fun w' => hto.idx v2 hv2l w'
      have cT := hto.cellD v2 hv2l
      obtain ⟨ta, hta⟩ : ∃ ta, valAt (.slice va vn vc) v2 = ta := ⟨_, rfl⟩
      obtain ⟨xa, hxa⟩ : ∃ xa, valAt (.slice ua un uc) r = xa := ⟨_, rfl⟩
      rw [hta] at iT cT
      rw [hxa] at iX cX
      obtain ⟨y, hy⟩ : ∃ y, T.getD v2 0 = y := ⟨_, rfl⟩
      rw [hy] at cT
      replace hta := Lib.hid hta
      replace hxa := Lib.hid hxa
      have hib : -10 ≤ i ∧ i ≤ 4096 := by omega
      replace hit := Lib.hid hit
      replace hv := Lib.hid hv
      replace hst := Lib.hid hst
      replace hv2 := Lib.hid hv2
      replace hs9 := Lib.hid hs9
      replace hvk9 := Lib.hid hvk9
      replace hx := Lib.hid hx
      replace hy := Lib.hid hy
      replace hxo := Lib.hid hxo
      replace hto := Lib.hid hto
      replace htk := Lib.hid htk
      replace e6 := Lib.hid e6
      replace e8 := Lib.hid e8
      replace hs2 := Lib.hid hs2
      by_cases h0 : 0 ≤ i
      · have d0 : decide ((0 : Int) ≤ i) = true := decide_eq_true h0
        obtain ⟨j, hj⟩ : ∃ j : Nat, i = (j : Int) := ⟨i.toNat, by omega⟩
        subst hj
        have htj : t = j + 2 * R := by have := hit.out; omega
        have hjn : j < n := by omega
        have hval : (ringI K R T xs).getD j 0 = y := by
          rw [ringI_get (by rw [hn.out]; exact hjn), ← ringX_win hs.out (by rw [hn.out]; exact hjn), ← hTl.out, show j + (2 * R + 1) = t + 1 by omega, hst.out, hy.out]
        have hlen : (ringI K R T xs).length = n := by rw [ringI_len, hn.out]
        have hOl : ((ringI K R T xs).take (t - 2 * R) ++ List.replicate (n - (t - 2 * R)) 0).length = n := by rw [List.length_append, List.length_take, List.length_replicate, hlen]; omega
        have hset : ((ringI K R T xs).take (t - 2 * R) ++ List.replicate (n - (t - 2 * R)) 0).set j y = (ringI K R T xs).take (t + 1 - 2 * R) ++ List.replicate (n - (t + 1 - 2 * R)) 0 := by
          rw [show t - 2 * R = j by omega, show t + 1 - 2 * R = j + 1 by omega, show n - j = (n - (j + 1)) + 1 by omega, List.replicate_succ, List.set_append_right _ _ (by rw [List.length_take, hlen]; omega), show j - (List.take j (ringI K R T xs)).length = 0 by rw [List.length_take, hlen]; omega, List.set_cons_zero]
          rw [List.take_add_one, List.getElem?_eq_getElem (by rw [hlen]; exact hjn), List.append_assoc]
          have : (ringI K R T xs)[j]'(by rw [hlen]; exact hjn) = y := by rw [← hval]; simp [List.getD, hlen, hjn]
          rw [this]; rfl
        have iO := fun w' => hO.at.idx j (by rw [hOl]; exact hjn) w'
        have cO := hO.at.cell j (by rw [hOl]; exact hjn)
        have fO := hO.frz j (by rw [hOl]; exact hjn)
        have kO := hO.blkB j (by rw [hOl]; exact hjn)
        have hS := hO.set j (by rw [hOl]; exact hjn) y
        rw [hset] at hS
        have hBS := hB.setCell kO (.int .i64 y)
        obtain ⟨oj, hoj⟩ : ∃ oj, valAt (.slice oa on oc) j = oj := ⟨_, rfl⟩
        rw [hoj] at iO cO fO hS hBS
        replace hoj := Lib.hid hoj
        replace hS := Lib.hid hS
        replace hO := Lib.hid hO
        replace hset := Lib.hid hset
        replace hOl := Lib.hid hOl
        replace hval := Lib.hid hval
        replace hlen := Lib.hid hlen
        clear kO
        go_wp2
        go_roundw
        case measure => simp [intOf]; omega
        case rel => exact ⟨t + 1, _, by omega, rfl, by have := hit.out; omega, by rw [hst.out], hS.out, hBS⟩
      · have d0 : decide ((0 : Int) ≤ i) = false := decide_eq_false h0
        have hO2 : OwnI w0.heap.size wo (.slice oa on oc) ((ringI K R T xs).take (t + 1 - 2 * R) ++ List.replicate (n - (t + 1 - 2 * R)) 0) := by
          rw [show t + 1 - 2 * R = t - 2 * R by have := hit.out; omega]; exact hO
        replace hO := Lib.hid hO
        replace hO2 := Lib.hid hO2
        go_wp2
        go_roundw
        case measure => simp [intOf]; omega
        case rel => exact ⟨t + 1, _, by have := hit.out; omega, rfl, by have := hit.out; omega, by rw [hst.out], hO2.out, hB⟩
    · have di : decide (i < (n : Int)) = false := decide_eq_false hin
      have hE : OwnI w.heap.size wo (.slice oa on oc) (ringI K R T xs) := by
        have := hO.mono s0
        rwa [show t - 2 * R = n by omega, Nat.sub_self, List.replicate_zero, List.append_nil, List.take_of_length_le (by rw [ringI_len, hn.out]; exact Nat.le_refl _)] at this
      have bE := Below.step b0 hB
      replace hO := Lib.hid hO
      replace hE := Lib.hid hE
      go_wp2
      go_ret
      exact ⟨_, rfl, bE, hE.out⟩

theorem ring_step (K R : Nat) (va : Option Addr) (vn vc : Nat) (T : List Int) (u : Value) (xs : List Int) (w : World) (h : IntsAt w (.slice va vn vc) T) (hr : RuleOk K R T) (hu : IntsAt w u xs) (hs : Syms K xs) (h1 : 1 ≤ xs.length) (hl : xs.length ≤ 4096) :
    Calls Tryz.prog 34 #[.agg #[.int .i64 K, .int .i64 R, .slice va vn vc], u] w (Ret2 (fun x y w' => y = .nilIface ∧ OwnI w.heap.size w' x (ringI K R T xs)) w) := by
  have b0 := belowAlloc w (.cells #[.int .i64 K, .int .i64 R, .slice va vn vc] 24)
  have q : Box3 (w.alloc (.cells #[.int .i64 K, .int .i64 R, .slice va vn vc] 24)) w.heap.size (.int .i64 K) (.int .i64 R) (.slice va vn vc) := by simp [Box3, go_sem]
  obtain ⟨ua, un, uc, rfl⟩ := hu.shape
  replace h := Lib.hid (h.below b0)
  replace hu := Lib.hid (hu.below b0)
  replace hr := Lib.hid hr
  replace hs := Lib.hid hs
  have q0 := q
  obtain ⟨⟨z0, z1, z2⟩, -, -, -⟩ := q0
  go_enter Tryz.func34, Tryz.ntmps34
  go_wp2_with fail
  refine (ring_check K R va vn vc T _ xs _ h.out hr.out hu.out hs.out h1 hl).mono ?_
  rintro e w1 ⟨_, rfl, b1, rfl⟩
  have b01 := Below.step b0 b1
  clear z0 z1 z2
  obtain ⟨⟨z0, z1, z2⟩, -, -, -⟩ := q.below b1
  go_wp2_with fail
  refine (ring_image K R va vn vc T _ xs w1 (h.out.below b1) hr.out (hu.out.below b1) hs.out h1 hl).mono ?_
  rintro e w2 ⟨z, rfl, b2, hz⟩
  have hz9 := hz.mono (B' := w.heap.size) b01.size
  have bE := Below.step b01 b2
  obtain ⟨za, zn, zc, rfl⟩ := hz.at.shape
  replace hz := Lib.hid hz
  replace hz9 := Lib.hid hz9
  go_wp2
  go_ret2
  exact ⟨_, _, rfl, bE, rfl, hz9.out⟩
end Go.Proofs.YtilpckngghffoaaGreatDoor

namespace Go.Proofs.YtilpckngghffoaaGreatDoor
open Go.RowKit
set_option maxRecDepth 100000

theorem LentI.setBelow {B : Nat} {w : World} {m : Value} {xs : List Int} (h : LentI B w m xs) {a : Addr} (ha : a.block < B) (u : Value) : LentI B (w.setCell a u) m xs := by
  obtain ⟨v, e, ho⟩ := h
  exact ⟨v, e, ho.setBelowBase ha u⟩
theorem LentI.mono {B B' : Nat} {w : World} {m : Value} {xs : List Int} (h : LentI B w m xs) (hB : B' ≤ B) : LentI B' w m xs := by
  obtain ⟨v, e, ho⟩ := h
  exact ⟨v, e, ho.mono hB⟩

end Go.Proofs.YtilpckngghffoaaGreatDoor

namespace Go.Proofs.YtilpckngghffoaaGreatDoor
open Go.RowKit
set_option maxRecDepth 100000

theorem cell_far {w : World} {b i : Nat} {a : Addr} (h : a.block ≠ b) (u : Value) : (w.setCell ⟨b, i, none⟩ u).cell? a = w.cell? a :=
  World.cell?_setCell_other _ _ _ _ (by intro e; rw [← e] at h; exact h rfl)

theorem ErrAt.set {r : Nat → Addr} {w : World} {n : Int} {b i : Nat} (hs : ∀ s, w.cell? ⟨b, 0, none⟩ ≠ some (.string s)) (u : Value) :
    ∀ {l : List (ByteArray × Int)} {v : Value}, ErrAt r w n l v → ErrAt r (w.setCell ⟨b, i, none⟩ u) n l v
  | [], _, h => h
  | (op, at_) :: rest, v, ⟨p, u', e, c0, c1, c2, h⟩ => by
    have hp : p ≠ b := by rintro rfl; exact hs _ c0
    exact ⟨p, u', e, by rw [cell_far hp]; exact c0, by rw [cell_far hp]; exact c1, by rw [cell_far hp]; exact c2, ErrAt.set hs u h⟩
theorem ErrIs.set {r : Nat → Addr} {w : World} {t : PErr} {v : Value} {b i : Nat} (h : ErrIs r w t v) (hs : ∀ s, w.cell? ⟨b, 0, none⟩ ≠ some (.string s)) (u : Value) : ErrIs r (w.setCell ⟨b, i, none⟩ u) t v := by
  match t, h with
  | none, h => exact h
  | some (n, l), h => exact ErrAt.set hs u h

end Go.Proofs.YtilpckngghffoaaGreatDoor

namespace Go.Proofs.YtilpckngghffoaaGreatDoor
open Go.RowKit
set_option maxRecDepth 100000

/-- Two new rows, made by one call. -/
theorem Rows.add2 {B : Nat} {w w' : World} {f : Names} {i j : Nat × Nat} {r' s' : Row} (h : Rows B w f) (hb : Below w.heap.size w w') (ho : r'.own B w') (hn : ∀ k, r'.v.ownBlock = some k → w.heap.size ≤ k) (ho2 : s'.own B w') (hn2 : ∀ k, s'.v.ownBlock = some k → w.heap.size ≤ k)
    (hne : r'.v.ownBlock = Option.none ∨ r'.v.ownBlock ≠ s'.v.ownBlock) (hij : i ≠ j) : Rows B w' (upd (upd f i (some r')) j (some s')) := by
  have h1 := h.add (i := i) hb ho hn
  have far : ∀ k t, upd f i (some r') k = some t → k ≠ j → t.v.ownBlock = Option.none ∨ t.v.ownBlock ≠ s'.v.ownBlock := fun k t hk hkj => by
    by_cases e : k = i
    · subst e
      rw [upd_same] at hk; cases hk
      exact hne
    · rw [upd_ne _ _ e] at hk
      cases hs : t.v.ownBlock with
      | none => exact .inl rfl
      | some m =>
        right; intro e2
        have := hn2 m e2.symm
        have := (h.lt hk m hs).2
        omega
  refine ⟨fun k t hk => ?_, fun k l s t hk hl hkl => ?_⟩
  · by_cases e : k = j
    · subst e; rw [upd_same] at hk; cases hk; exact ho2
    · rw [upd_ne _ _ e] at hk
      exact h1.1 k t hk
  · by_cases e : k = j
    · subst e
      rw [upd_same] at hk; cases hk
      rw [upd_ne _ _ (Ne.symm hkl)] at hl
      rcases far l t hl (Ne.symm hkl) with e2 | e2
      · cases hr : s'.v.ownBlock with
        | none => exact .inl rfl
        | some m => right; rw [e2]; simp
      · exact .inr (Ne.symm e2)
    · rw [upd_ne _ _ e] at hk
      by_cases e' : l = j
      · subst e'; rw [upd_same] at hl; cases hl
        exact far k s hk e
      · rw [upd_ne _ _ e'] at hl
        exact h1.2 k l s t hk hl hkl
theorem Rows.addE {B : Nat} {w w' : World} {f : Names} (i : Nat × Nat) {r' : Row} (h : Rows B w f) (hb : Below w.heap.size w w') (ho : r'.own B w') (hn : ∀ k, r'.v.ownBlock = some k → w.heap.size ≤ k) :
    ∃ f', Rows B w' f' ∧ f' i = some r' ∧ ∀ j, j ≠ i → f' j = f j :=
  ⟨_, h.add (i := i) hb ho hn, upd_same _ _ _, fun _ e => upd_ne _ _ e⟩
theorem Rows.add2E {B : Nat} {w w' : World} {f : Names} (i j : Nat × Nat) (hij : i ≠ j) {r' s' : Row} (h : Rows B w f) (hb : Below w.heap.size w w') (ho : r'.own B w') (hn : ∀ k, r'.v.ownBlock = some k → w.heap.size ≤ k) (ho2 : s'.own B w') (hn2 : ∀ k, s'.v.ownBlock = some k → w.heap.size ≤ k)
    (hne : r'.v.ownBlock = Option.none ∨ r'.v.ownBlock ≠ s'.v.ownBlock) : ∃ f', Rows B w' f' ∧ f' i = some r' ∧ f' j = some s' ∧ ∀ k, k ≠ i → k ≠ j → f' k = f k :=
  ⟨_, h.add2 hb ho hn ho2 hn2 hne hij, by rw [upd_ne _ _ hij, upd_same], upd_same _ _ _, fun k e1 e2 => by rw [upd_ne _ _ e2, upd_ne _ _ e1]⟩
/-- A row is given up: whatever is done in its block. -/
theorem Rows.lose {B : Nat} {w w' : World} {f : Names} {i : Nat × Nat} {r : Row} (h : Rows B w f) (hi : f i = some r) (hg : w.grownBy w' r.v.ownBlock) : ∃ f', Rows B w' f' ∧ ∀ j, j ≠ i → f' j = f j :=
  ⟨upd f i Option.none, ⟨fun j s hj => by
    by_cases e : j = i
    · subst e; rw [upd_same] at hj; cases hj
    · rw [upd_ne _ _ e] at hj
      exact World.ownsRow.kept (h.1 j s hj) hg (h.2 j i s r hj hi e), (h.drop i).2⟩, fun _ e => upd_ne _ _ e⟩
/-- A struct of four cells in a block of its own. -/
abbrev box4 (T : TypeId) (g : Nat) (cs : List Value) : Row := ⟨T, 4, .slice (some ⟨g, 0, none⟩) 1 1, 1, cs⟩
theorem Rows.box4 {B : Nat} {w : World} {f : Names} (i : Nat × Nat) (h : Rows B w f) (hB : B ≤ w.heap.size) (T : TypeId) (a b c d : Value) :
    ∃ f', Rows B (w.alloc (.cells #[a, b, c, d] T)) f' ∧ f' i = some (Go.Proofs.YtilpckngghffoaaGreatDoor.box4 T w.heap.size [a, b, c, d]) ∧ ∀ j, j ≠ i → f' j = f j :=
  h.addE i (r' := Go.Proofs.YtilpckngghffoaaGreatDoor.box4 T w.heap.size [a, b, c, d]) (belowAlloc w _) (World.ownsRow_lit (base := B) (e := T) (size := 4) w #[a, b, c, d] 1 hB (by decide) rfl) (fun k hk => by cases hk; exact Nat.le_refl _)
/-- A struct's cells. -/
structure Cells4 (w : World) (g : Nat) (a b c d : Value) : Prop where
  c0 : w.cell? ⟨g, 0, none⟩ = some a
  c1 : w.cell? ⟨g, 1, none⟩ = some b
  c2 : w.cell? ⟨g, 2, none⟩ = some c
  c3 : w.cell? ⟨g, 3, none⟩ = some d
theorem Cells4.below {w w' : World} {g : Nat} {a b c d : Value} (h : Cells4 w g a b c d) (hb : Below w.heap.size w w') : Cells4 w' g a b c d := by
  have k : ∀ {i x}, w.cell? ⟨g, i, none⟩ = some x → w'.cell? ⟨g, i, none⟩ = some x := fun {i x} hc => by
    rw [hb.cell (World.block_lt_of_cell? _ _ hc)]; exact hc
  exact ⟨k h.c0, k h.c1, k h.c2, k h.c3⟩
theorem Cells4.belowB {B : Nat} {w w' : World} {g : Nat} {a b c d : Value} (h : Cells4 w g a b c d) (hb : Below B w w') (hg : g < B) : Cells4 w' g a b c d := by
  have k : ∀ {i x}, w.cell? ⟨g, i, none⟩ = some x → w'.cell? ⟨g, i, none⟩ = some x := fun {i x} hc => by
    rw [hb.cell hg]; exact hc
  exact ⟨k h.c0, k h.c1, k h.c2, k h.c3⟩
theorem Cells4.alloc (w : World) (T : TypeId) (a b c d : Value) : Cells4 (w.alloc (.cells #[a, b, c, d] T)) w.heap.size a b c d := by
  refine ⟨?_, ?_, ?_, ?_⟩ <;> simp [go_sem]
theorem Rows.cells4 {B : Nat} {w : World} {f : Names} {i : Nat × Nat} {T : TypeId} {g : Nat} {a b c d : Value} (h : Rows B w f) (hi : f i = some (Go.Proofs.YtilpckngghffoaaGreatDoor.box4 T g [a, b, c, d])) : Cells4 w g a b c d :=
  ⟨h.cell hi (g := g) (cap := 1) rfl 0 (show 0 < 1 * 4 by decide), h.cell hi (g := g) (cap := 1) rfl 1 (show 1 < 1 * 4 by decide), h.cell hi (g := g) (cap := 1) rfl 2 (show 2 < 1 * 4 by decide), h.cell hi (g := g) (cap := 1) rfl 3 (show 3 < 1 * 4 by decide)⟩
theorem Rows.frz4 {B : Nat} {w : World} {f : Names} {i : Nat × Nat} {T : TypeId} {g : Nat} {cs : List Value} (h : Rows B w f) (hi : f i = some (Go.Proofs.YtilpckngghffoaaGreatDoor.box4 T g cs)) (k : Nat) : w.frozen? ⟨g, k, none⟩ = false :=
  h.frozen hi (g := g) (cap := 1) rfl k
theorem Rows.low4 {B : Nat} {w : World} {f : Names} {i : Nat × Nat} {T : TypeId} {g : Nat} {cs : List Value} (h : Rows B w f) (hi : f i = some (Go.Proofs.YtilpckngghffoaaGreatDoor.box4 T g cs)) : B ≤ g ∧ g < w.heap.size :=
  h.lt hi g rfl
theorem Rows.st4 {B : Nat} {w : World} {f : Names} {i : Nat × Nat} {T : TypeId} {g : Nat} {cs : List Value} (h : Rows B w f) (hi : f i = some (Go.Proofs.YtilpckngghffoaaGreatDoor.box4 T g cs)) (k : Nat) (y : Value) :
    ∃ f', Rows B (w.setCell ⟨g, k, none⟩ y) f' ∧ f' i = some (Go.Proofs.YtilpckngghffoaaGreatDoor.box4 T g (cs.set k y)) ∧ ∀ j, j ≠ i → f' j = f j :=
  ⟨_, h.set hi (g := g) (cap := 1) rfl k y, upd_same _ _ _, fun _ e => upd_ne _ _ e⟩
theorem Rows.all4 {B : Nat} {w : World} {f : Names} {i : Nat × Nat} {T : TypeId} {g : Nat} {x0 x1 x2 x3 : Value} (h : Rows B w f) (hi : f i = some (Go.Proofs.YtilpckngghffoaaGreatDoor.box4 T g [x0, x1, x2, x3])) (a b c d : Value) :
    ∃ f', Rows B ((((w.setCell ⟨g, 0, none⟩ a).setCell ⟨g, 1, none⟩ b).setCell ⟨g, 2, none⟩ c).setCell ⟨g, 3, none⟩ d) f' ∧ f' i = some (Go.Proofs.YtilpckngghffoaaGreatDoor.box4 T g [a, b, c, d]) ∧ ∀ j, j ≠ i → f' j = f j := by
  obtain ⟨f1, h1, i1, o1⟩ := h.st4 hi 0 a
  obtain ⟨f2, h2, i2, o2⟩ := h1.st4 i1 1 b
  obtain ⟨f3, h3, i3, o3⟩ := h2.st4 i2 2 c
  obtain ⟨f4, h4, i4, o4⟩ := h3.st4 i3 3 d
  exact ⟨f4, h4, i4, fun j e => by rw [o4 j e, o3 j e, o2 j e, o1 j e]⟩
theorem Below.all4 {B g : Nat} {w0 w : World} (h : Below B w0 w) (hb : B ≤ g) (a b c d : Value) : Below B w0 ((((w.setCell ⟨g, 0, none⟩ a).setCell ⟨g, 1, none⟩ b).setCell ⟨g, 2, none⟩ c).setCell ⟨g, 3, none⟩ d) :=
  (((h.setCell (show B ≤ (⟨g, 0, Option.none⟩ : Addr).block from hb) _).setCell (show B ≤ (⟨g, 1, Option.none⟩ : Addr).block from hb) _).setCell (show B ≤ (⟨g, 2, Option.none⟩ : Addr).block from hb) _).setCell (show B ≤ (⟨g, 3, Option.none⟩ : Addr).block from hb) _
/-- Rows of a callee's beside one's own: those names that p chooses. -/
theorem Rows.merge {B : Nat} {w w' : World} {f g : Names} (p : Nat × Nat → Bool) (h : Rows B w f) (hb : Below w.heap.size w w') (hg : Rows w.heap.size w' g) (hB : B ≤ w.heap.size) : ∃ f', Rows B w' f' ∧ (∀ i, p i = true → f' i = g i) ∧ ∀ i, p i = false → f' i = f i := by
  have hf := h.below hb
  refine ⟨fun i => if p i = true then g i else f i, ⟨fun i r hi => ?_, fun i j r s hi hj hne => ?_⟩, fun i hi => by simp [hi], fun i hi => by simp [hi]⟩
  · dsimp only at hi
    split at hi
    · have ho := hg.1 i r hi
      refine ⟨ho.1, ?_⟩
      rcases ho.2 with h2 | ⟨b, cap, cur, e, hB', rest⟩
      · exact .inl h2
      · exact .inr ⟨b, cap, cur, e, Nat.le_trans hB hB', rest⟩
    · exact hf.1 i r hi
  · dsimp only at hi hj
    have far : ∀ (k l : Nat × Nat) (r s : Row), f k = some r → g l = some s → r.v.ownBlock = Option.none ∨ r.v.ownBlock ≠ s.v.ownBlock := fun k l r s hk hl => by
      cases hr : r.v.ownBlock with
      | none => exact .inl rfl
      | some m =>
        right
        intro e
        have h1 := (h.lt hk m hr).2
        have h2 := (hg.lt hl m e.symm).1
        omega
    split at hi
    · split at hj
      · exact hg.2 i j r s hi hj hne
      · rcases far j i s r hj hi with e | e
        · cases hr : r.v.ownBlock with
          | none => exact .inl rfl
          | some m => right; rw [e]; simp
        · exact .inr (Ne.symm e)
    · split at hj
      · exact far i j r s hi hj
      · exact hf.2 i j r s hi hj hne
theorem ErrIs.all4 {r : Nat → Addr} {w : World} {t : PErr} {v : Value} {g : Nat} {n : Int} {b c d : Value} (h : ErrIs r w t v) (hc : Cells4 w g (.int .i64 n) b c d) (x y z : Value) :
    ErrIs r ((((w.setCell ⟨g, 0, none⟩ (.int .i64 0)).setCell ⟨g, 1, none⟩ x).setCell ⟨g, 2, none⟩ y).setCell ⟨g, 3, none⟩ z) t v := by
  have k1 : (w.setCell ⟨g, 0, none⟩ (.int .i64 0)).cell? ⟨g, 0, none⟩ = some (.int .i64 0) := World.cell?_setCell_same _ _ _ hc.c0
  have k2 : ((w.setCell ⟨g, 0, none⟩ (.int .i64 0)).setCell ⟨g, 1, none⟩ x).cell? ⟨g, 0, none⟩ = some (.int .i64 0) := by
    rw [World.cell?_setCell_other _ _ _ _ (by intro e; cases e)]; exact k1
  have k3 : (((w.setCell ⟨g, 0, none⟩ (.int .i64 0)).setCell ⟨g, 1, none⟩ x).setCell ⟨g, 2, none⟩ y).cell? ⟨g, 0, none⟩ = some (.int .i64 0) := by
    rw [World.cell?_setCell_other _ _ _ _ (by intro e; cases e)]; exact k2
  exact (((h.set (b := g) (i := 0) (fun s e => by rw [hc.c0] at e; cases e) _).set (b := g) (i := 1) (fun s e => by rw [k1] at e; cases e) _).set (b := g) (i := 2) (fun s e => by rw [k2] at e; cases e) _).set (b := g) (i := 3) (fun s e => by rw [k3] at e; cases e) _
end Go.Proofs.YtilpckngghffoaaGreatDoor

namespace Go.Proofs.YtilpckngghffoaaGreatDoor
open Go.RowKit
set_option maxRecDepth 100000

/-- Quotient and rest of small numbers, as the machine reckons them. -/
theorem dm (p N : Nat) (hp : p ≤ 100000000) : (p : Int).tdiv (N : Int) = ((p / N : Nat) : Int) ∧ (p : Int).tmod (N : Int) = ((p % N : Nat) : Int) ∧ (p : Int) / (N : Int) = ((p / N : Nat) : Int) ∧ (p : Int) % (N : Int) = ((p % N : Nat) : Int) ∧
    IntKind.i64.wrap ((p / N : Nat) : Int) = ((p / N : Nat) : Int) ∧ IntKind.i64.wrap ((p % N : Nat) : Int) = ((p % N : Nat) : Int) := by
  have h1 : p / N ≤ p := Nat.div_le_self _ _
  have h2 : p % N ≤ p := Nat.mod_le _ _
  refine ⟨by rw [Int.tdiv_eq_ediv_of_nonneg (by omega)]; simp, by rw [Int.tmod_eq_emod_of_nonneg (by omega)]; simp, by simp, by simp, ?_, ?_⟩
  · generalize p / N = a at *; exact wrapK (by omega) (by omega)
  · generalize p % N = a at *; exact wrapK (by omega) (by omega)

end Go.Proofs.YtilpckngghffoaaGreatDoor

namespace Go.Proofs.YtilpckngghffoaaGreatDoor
open Go.RowKit
set_option maxRecDepth 100000

theorem Rows.void (B : Nat) (w : World) : Rows B w (fun _ => Option.none) := by
  refine ⟨?_, ?_⟩
  · intro i r h; cases h
  · intro i j r s h; cases h
theorem Rows.push {B : Nat} {w w1 : World} {f : Names} {i : Nat × Nat} {v v' : Value} {xs : List Int} (h : Rows B w f) (hi : f i = some (rowI v xs)) (x : Int) (ho : OwnI B w1 v' (xs ++ [x]))
    (hg : w.grownBy w1 v.ownBlock) (hal : v'.ownBlock = v.ownBlock ∨ ∃ k, v'.ownBlock = some k ∧ w.heap.size ≤ k) : Rows B w1 (upd f i (some (rowI v' (xs ++ [x])))) :=
  h.grown (r' := rowI v' (xs ++ [x])) hi hg ho hal
end Go.Proofs.YtilpckngghffoaaGreatDoor

namespace Go.Proofs.YtilpckngghffoaaGreatDoor
open Go.RowKit
set_option maxRecDepth 100000

/-- slices.IndexFunc at a function value that only looks, with two captured variables. -/
theorem indexFunc2_any (v b c : Value) (F : Nat) (xs : List Int) (p : Int → Bool) (w : World) (h : IntsAt w v xs)
    (eg : ∀ args w, (callFunc F args).run Tryz.prog w = .ok (.enter F args) w)
    (hF : ∀ x : Int, x ∈ xs → ∀ n, Calls Tryz.prog F #[.int .i64 x, b, c] (w.drewN n) (RetB (p x) (w.drewN n))) :
    Calls Tryz.prog 97 #[v, .func (.func F) #[] #[b, c]] w fun e w' => ∃ n, e = .returned (.int .i64 (idxOf p xs)) ∧ w' = w.drewN n := by
  have hlen := h.len
  have hm := h.len_le
  replace hF := Lib.hid hF
  go_enter Tryz.func97, Tryz.ntmps97
  go_wp2
  go_loopw [8] (fun i wr => (∃ k : Nat, k ≤ xs.length ∧ i = .int .i64 k ∧ ∀ j (hj : j < xs.length), j < k → p xs[j] = false) ∧ ∃ n, wr = w.drewN n) (fun i _ => xs.length - (intOf i).toNat)
  case atStart => exact ⟨⟨0, by omega, rfl, by intro t _ h; omega⟩, 0, rfl⟩
  case round =>
    obtain ⟨⟨k, hk, rfl, hp⟩, n, rfl⟩ := hrel
    replace hp := Lib.hid hp
    by_cases hlt : k < xs.length
    · have hi := h.idx k hlt
      have hc : (w.drewN n).cell? (valAt v k) = some (.int .i64 xs[k]) := h.cell k hlt
      have hf := Lib.hid (hF.out xs[k] (by simp) n)
      go_wp2_with fail
      refine hf.out.mono ?_
      rintro e w' ⟨n2, rfl, rfl⟩
      cases hpk : p xs[k]
      · have HP := Lib.hid hpk
        go_wp2
        go_roundw
        case rel =>
          refine ⟨⟨k+1, by omega, by go_num, ?_⟩, _, rfl⟩
          intro j hj hjk
          by_cases e : j = k
          · subst e; exact HP.out
          · exact hp.out j hj (by omega)
        case measure => simp [intOf]; omega
      · have HP := Lib.hid hpk
        go_wp2
        go_ret
        exact ⟨_, ret_int (idxOf_at k hlt HP.out fun j hj h => hp.out j hj h).symm, rfl⟩
    · go_wp2
      go_ret
      refine ⟨n, ret_int (idxOf_neg fun x hx => ?_).symm, rfl⟩
      obtain ⟨j, hj, rfl⟩ := List.mem_iff_getElem.1 hx
      exact hp.out j hj (by omega)
theorem idxOf_any (p : Int → Bool) (xs : List Int) : (0 ≤ idxOf p xs) ↔ ∃ x ∈ xs, p x = true := by
  rcases idxOf_cases p xs with ⟨h1, h2⟩ | ⟨k, h1, h2, h3, _⟩
  · rw [h1]
    exact ⟨fun h => by omega, fun ⟨x, hx, hp⟩ => by rw [h2 x hx] at hp; cases hp⟩
  · rw [h1]
    exact ⟨fun _ => ⟨_, List.getElem_mem h2, h3⟩, fun _ => by omega⟩
theorem containsFunc2_any (v b c : Value) (F : Nat) (xs : List Int) (p : Int → Bool) (w : World) (h : IntsAt w v xs)
    (eg : ∀ args w, (callFunc F args).run Tryz.prog w = .ok (.enter F args) w)
    (hF : ∀ x : Int, x ∈ xs → ∀ n, Calls Tryz.prog F #[.int .i64 x, b, c] (w.drewN n) (RetB (p x) (w.drewN n))) :
    Calls Tryz.prog 61 #[v, .func (.func F) #[] #[b, c]] w (RetB (decide (0 ≤ idxOf p xs)) w) := by
  have hI := indexFunc2_any v b c F xs p w h eg hF
  clear hF eg
  go_enter Tryz.func61, Tryz.ntmps61
  go_wp2_with fail
  refine hI.mono ?_
  rintro e w' ⟨n, rfl, rfl⟩
  go_wp2
  go_ret
  exact ⟨n, ret_bool (by simp), rfl⟩

set_option maxHeartbeats 1000000 in
theorem loops1_any (t v bp bv : Nat) (pv : Value) (ps : List Int) (w : World) (hp : IntsAt w pv ps) (c1 : w.cell? ⟨bp, 0, none⟩ = some pv) (c2 : w.cell? ⟨bv, 0, none⟩ = some (.int .i64 v)) (ht : t < ps.length) (hv : v < ps.length) :
    Calls Tryz.prog 137 #[.int .i64 t, .pointer (some ⟨bp, 0, none⟩), .pointer (some ⟨bv, 0, none⟩)] w (RetB (decide (ps.getD t 0 = ps.getD v 0)) w) := by
  have iT := fun w' => hp.idx t ht w'
  have cT := hp.cellD t ht
  have iV := fun w' => hp.idx v hv w'
  have cV := hp.cellD v hv
  generalize ps.getD t 0 = a at *
  generalize ps.getD v 0 = b at *
  have heq : (a == b) = decide (a = b) := by by_cases e : a = b <;> simp [e]
  generalize valAt pv t = ta at *
  generalize valAt pv v = va at *
  replace hp := Lib.hid hp
  replace heq := Lib.hid heq
  generalize hd : decide (a = b) = d at *
  go_enter Tryz.func137, Tryz.ntmps137
  go_upto_region 1 with fail
  refine wp_region_plan (fun w' => w'.cell? ⟨bp, 0, none⟩ = some pv ∧ w'.cell? ⟨bv, 0, none⟩ = some (.int .i64 v) ∧ w'.cell? ta = some (.int .i64 a) ∧ w'.cell? va = some (.int .i64 b)) 9 [(0, true), (1, true), (2, true), (3, true), (4, true), (5, true), (6, true), (7, true), (8, true)] (by kernel_rfl) (by kernel_rfl) ?_
  have hS : w.drew.cell? ⟨bp, 0, none⟩ = some pv ∧ w.drew.cell? ⟨bv, 0, none⟩ = some (.int .i64 v) ∧ w.drew.cell? ta = some (.int .i64 a) ∧ w.drew.cell? va = some (.int .i64 b) := ⟨c1, c2, cT, cV⟩
  refine headY (v := ?_) (some 5) rfl rfl (Or.inl ⟨by rfl, ?_⟩) hS ?_
  rotate_left
  · rintro W' ⟨s0, s1, s2, s3⟩; go_simp; try with_reducible rfl
  simp only [Act.put, List.setIfInBounds_toArray, List.set_cons_zero, List.set_cons_succ]
  refine headY (v := ?_) (some 6) rfl rfl (Or.inl ⟨by rfl, ?_⟩) hS ?_
  rotate_left
  · rintro W' ⟨s0, s1, s2, s3⟩; go_simp; try with_reducible rfl
  simp only [Act.put, List.setIfInBounds_toArray, List.set_cons_zero, List.set_cons_succ]
  refine headY (v := ?_) (some 7) rfl rfl (Or.inl ⟨by rfl, ?_⟩) hS ?_
  rotate_left
  · rintro W' ⟨s0, s1, s2, s3⟩; go_simp; try with_reducible rfl
  simp only [Act.put, List.setIfInBounds_toArray, List.set_cons_zero, List.set_cons_succ]
  refine headY (v := ?_) (some 8) rfl rfl (Or.inl ⟨by rfl, ?_⟩) hS ?_
  rotate_left
  · rintro W' ⟨s0, s1, s2, s3⟩; go_simp; try with_reducible rfl
  simp only [Act.put, List.setIfInBounds_toArray, List.set_cons_zero, List.set_cons_succ]
  refine headY (v := ?_) (some 9) rfl rfl (Or.inl ⟨by rfl, ?_⟩) hS ?_
  rotate_left
  · rintro W' ⟨s0, s1, s2, s3⟩; go_simp; try with_reducible rfl
  simp only [Act.put, List.setIfInBounds_toArray, List.set_cons_zero, List.set_cons_succ]
  refine headY (v := ?_) (some 10) rfl rfl (Or.inl ⟨by rfl, ?_⟩) hS ?_
  rotate_left
  · rintro W' ⟨s0, s1, s2, s3⟩; go_simp; try with_reducible rfl
  simp only [Act.put, List.setIfInBounds_toArray, List.set_cons_zero, List.set_cons_succ]
  refine headY (v := ?_) (some 11) rfl rfl (Or.inl ⟨by rfl, ?_⟩) hS ?_
  rotate_left
  · rintro W' ⟨s0, s1, s2, s3⟩; go_simp; try with_reducible rfl
  simp only [Act.put, List.setIfInBounds_toArray, List.set_cons_zero, List.set_cons_succ]
  refine headY (v := ?_) (some 12) rfl rfl (Or.inl ⟨by rfl, ?_⟩) hS ?_
  rotate_left
  · rintro W' ⟨s0, s1, s2, s3⟩; go_simp; try with_reducible rfl
  simp only [Act.put, List.setIfInBounds_toArray, List.set_cons_zero, List.set_cons_succ]
  refine headY (v := ?_) (some 13) rfl rfl (Or.inl ⟨by rfl, ?_⟩) hS ?_
  rotate_left
  · rintro W' ⟨s0, s1, s2, s3⟩; go_simp; try with_reducible rfl
  simp only [Act.put, List.setIfInBounds_toArray, List.set_cons_zero, List.set_cons_succ]
  refine head0 ?_
  simp only [List.drop_succ_cons, List.drop_zero]
  clear hS
  go_wp2
  refine NoPanic.normal ?_
  go_wp2
  go_ret
  exact ⟨1, ret_bool heq.out, rfl⟩
theorem eg_loops1 (args : Array Value) (w : World) : (callFunc 137 args).run Tryz.prog w = .ok (.enter 137 args) w := by kernel_rfl

set_option maxHeartbeats 4000000 in
theorem loops14_any (r : Nat → Addr) (na : Option Addr) (nc : Nat) (G : List (List Int)) (w : World) (hg : Glob r w) (h : ListsAt w (.slice na G.length nc) G) (hsz : ∀ k, k < G.length → (G.getD k []).length ≤ 17592186044416) (hck : checkG G = none) (hok : GraphOk G) (hn : G.length ≤ 8200) :
    Calls Tryz.prog 103 #[.slice na G.length nc] w (Ret2 (fun x y w' => y = .nilIface ∧ ∃ on : Nat → Bool, OwnV 4 w.heap.size w' x (tabB G.length on) ∧ ∀ v, v < G.length → (on v = true ↔ OnLoop (adjOf G) v)) w) := by
  have hP := parts_any r na nc G w hg h hsz
  have hlg := h.len 3 w
  replace h := Lib.hid h
  replace hok := Lib.hid hok
  replace hck := Lib.hid hck
  go_enter Tryz.func103, Tryz.ntmps103
  go_wp2_with fail
  refine hP.mono ?_
  rintro e w1 ⟨pv, y, rfl, b1, hE, hps, -⟩
  rw [hck.out] at hE
  obtain rfl := hE.none_eq
  obtain ⟨ps, hpo, ho⟩ := hps hck.out
  have hpl := hpo.len
  obtain ⟨pa, pn, pc, rfl⟩ := ho.at.shape
  have b1a := belowAlloc w1 (.cells #[.slice pa pn pc] 22)
  obtain ⟨W1, hW1⟩ : ∃ W1 : World, W1 = w1.alloc (.cells #[.slice pa pn pc] 22) := ⟨_, rfl⟩
  have R1 := (Rows.void w.heap.size w).add (i := (2, 0)) (r' := rowI (.slice pa pn pc) ps) b1 ho (fun k hk => (ho.lt k hk).1)
  have hbx : OwnV 22 w1.heap.size (w1.alloc (.cells #[.slice pa pn pc] 22)) (.slice (some ⟨w1.heap.size, 0, none⟩) 1 1) [.slice pa pn pc] :=
    World.ownsRow_lit (base := w1.heap.size) (e := 22) (size := 1) w1 #[.slice pa pn pc] 1 (Nat.le_refl _) (by decide) rfl
  have R2 := R1.add (i := (3, 0)) (r' := rowV 22 (.slice (some ⟨w1.heap.size, 0, none⟩) 1 1) [.slice pa pn pc]) b1a (hbx.mono b1.size) (fun k hk => by cases hk; exact Nat.le_refl _)
  rw [← hW1] at R2 b1a
  have bW1 := Below.step b1 b1a
  obtain ⟨ov, w2, mk, hin, hb2⟩ := run_makeW oneBoolG (G.length : Int) G.length W1 rfl (by omega)
  obtain ⟨oa, on', oc, rfl⟩ := hin.shape
  rw [← tabB_none] at hin
  have R3 := R2.add (i := (1, 0)) (r' := rowV 4 (.slice oa on' oc) (tabB G.length fun _ => false)) hb2 (hin.mono bW1.size) (fun k hk => (hin.lt k hk).1)
  have bW2 := Below.step bW1 hb2
  have hf1 : upd (upd (upd (fun _ => Option.none) (2, 0) (some (rowI (.slice pa pn pc) ps))) (3, 0) (some (rowV 22 (.slice (some ⟨w1.heap.size, 0, none⟩) 1 1) [.slice pa pn pc]))) (1, 0) (some (rowV 4 (.slice oa on' oc) (tabB G.length fun _ => false))) (2, 0) = some (rowI (.slice pa pn pc) ps) := by rw [upd_ne _ _ (by simp), upd_ne _ _ (by simp), upd_same]
  have hf2 : upd (upd (upd (fun _ => Option.none) (2, 0) (some (rowI (.slice pa pn pc) ps))) (3, 0) (some (rowV 22 (.slice (some ⟨w1.heap.size, 0, none⟩) 1 1) [.slice pa pn pc]))) (1, 0) (some (rowV 4 (.slice oa on' oc) (tabB G.length fun _ => false))) (3, 0) = some (rowV 22 (.slice (some ⟨w1.heap.size, 0, none⟩) 1 1) [.slice pa pn pc]) := by rw [upd_ne _ _ (by simp), upd_same]
  have hf3 : upd (upd (upd (fun _ => Option.none) (2, 0) (some (rowI (.slice pa pn pc) ps))) (3, 0) (some (rowV 22 (.slice (some ⟨w1.heap.size, 0, none⟩) 1 1) [.slice pa pn pc]))) (1, 0) (some (rowV 4 (.slice oa on' oc) (tabB G.length fun _ => false))) (1, 0) = some (rowV 4 (.slice oa on' oc) (tabB G.length fun _ => false)) := by rw [upd_same]
  generalize upd (upd (upd (fun _ => Option.none) (2, 0) (some (rowI (.slice pa pn pc) ps))) (3, 0) (some (rowV 22 (.slice (some ⟨w1.heap.size, 0, none⟩) 1 1) [.slice pa pn pc]))) (1, 0) (some (rowV 4 (.slice oa on' oc) (tabB G.length fun _ => false))) = f1 at *
  replace hf1 := Lib.hid hf1
  replace hf2 := Lib.hid hf2
  replace hf3 := Lib.hid hf3
  replace R3 := Lib.hid R3
  replace hpo := Lib.hid hpo
  replace hpl := Lib.hid hpl
  clear hE hps ho R1 R2 hbx hin hP
  go_upto_region 4 with fail
  rw [← hW1]
  replace hW1 := Lib.hid hW1
  go_wp2_with fail
  clear mk
  go_loopw [22] (fun kv wr => ∃ (k : Nat) (F : Nat → Bool) (f : Names), k ≤ G.length ∧ kv = .int .i64 k ∧ Rows w.heap.size wr f ∧ Below w.heap.size w wr ∧ f (2, 0) = some (rowI (.slice pa pn pc) ps) ∧ f (3, 0) = some (rowV 22 (.slice (some ⟨w1.heap.size, 0, none⟩) 1 1) [.slice pa pn pc]) ∧ f (1, 0) = some (rowV 4 (.slice oa on' oc) (tabB G.length F)) ∧ ∀ x, x < k → (F x = true ↔ OnLoop (adjOf G) x)) (fun kv _ => G.length - (intOf kv).toNat)
  case atStart => exact ⟨0, _, f1, Nat.zero_le _, rfl, R3.out, bW2, hf1.out, hf2.out, hf3.out, fun x hx => by omega⟩
  case round =>
    clear R3 hf1 hf2 hf3
    obtain ⟨k, F, f2, hk, rfl, hR, hB, g2, g3, g1, hF⟩ := hrel
    obtain ⟨wo, rfl⟩ : ∃ wo : World, wo = wr := ⟨_, rfl⟩
    by_cases hlt : k < G.length
    · obtain ⟨mv, iR, cR0, hM0⟩ := h.out.row k hlt
      have cR := (hB.cell (World.block_lt_of_cell? _ _ cR0)).trans cR0
      have hM := hM0.below hB
      have hgp := hok.out k hlt
      have hon := onLoop_parts hok.out hpo.out hlt
      have hadj : adjOf G k = (G.getD k []).map Int.toNat := rfl
      rw [hadj] at hon
      generalize G.getD k [] = gx at *
      generalize valAt (.slice na G.length nc) k = ra at *
      obtain ⟨ma, mn, mc, rfl⟩ := hM.shape
      have ba := belowAlloc wo (.cells #[.int .i64 (k : Int)] 3)
      have cV : (wo.alloc (.cells #[.int .i64 (k : Int)] 3)).cell? ⟨wo.heap.size, 0, none⟩ = some (.int .i64 k) := by simp [go_sem]
      obtain ⟨W, hW⟩ : ∃ W : World, W = (wo.alloc (.cells #[.int .i64 (k : Int)] 3)).drew := ⟨_, rfl⟩
      have bW : Below wo.heap.size wo W := by rw [hW]; exact ba.drew
      have cVW : W.cell? ⟨wo.heap.size, 0, none⟩ = some (.int .i64 k) := by rw [hW]; exact cV
      have hRW := hR.below bW
      have hpW := (hRW.ownI g2).at
      have hMW := hM.below bW
      have cP : W.cell? ⟨w1.heap.size, 0, none⟩ = some (.slice pa pn pc) := by
        have := hRW.cell g3 (g := w1.heap.size) (cap := 1) rfl 0 (by simp)
        simpa using this
      have hcl : ∀ x : Int, x ∈ gx → ∀ n, Calls Tryz.prog 137 #[.int .i64 x, .pointer (some ⟨w1.heap.size, 0, none⟩), .pointer (some ⟨wo.heap.size, 0, none⟩)] (W.drewN n) (RetB (decide (ps.getD x.toNat 0 = ps.getD k 0)) (W.drewN n)) := fun x hx n => by
        obtain ⟨p1, p2⟩ := hgp x hx
        obtain ⟨t, rfl⟩ : ∃ t : Nat, x = t := Int.eq_ofNat_of_zero_le p1
        rw [Int.toNat_natCast]
        exact loops1_any t k w1.heap.size wo.heap.size (.slice pa pn pc) ps (W.drewN n) (hpW.drewN n) cP cVW (by rw [hpl.out]; omega) (by rw [hpl.out]; exact hlt)
      have hcf := containsFunc2_any (.slice ma mn mc) (.pointer (some ⟨w1.heap.size, 0, none⟩)) (.pointer (some ⟨wo.heap.size, 0, none⟩)) 137 gx (fun x => decide (ps.getD x.toNat 0 = ps.getD k 0)) W hMW eg_loops1 hcl
      obtain ⟨bb, hbb⟩ : ∃ bb, decide (0 ≤ idxOf (fun x => decide (ps.getD x.toNat 0 = ps.getD k 0)) gx) = bb := ⟨_, rfl⟩
      rw [hbb] at hcf
      have hF2 : ∀ x, x < k + 1 → (updN F k bb x = true ↔ OnLoop (adjOf G) x) := fun x hx => by
        by_cases e : x = k
        · subst e
          rw [updN_same, hon, ← hbb, decide_eq_true_iff, idxOf_any]
          constructor
          · rintro ⟨z, hz, hzp⟩
            exact ⟨z.toNat, List.mem_map.2 ⟨z, hz, rfl⟩, of_decide_eq_true hzp⟩
          · rintro ⟨t, ht, htp⟩
            obtain ⟨z, hz, rfl⟩ := List.mem_map.1 ht
            exact ⟨z, hz, decide_eq_true htp⟩
        · rw [updN_other _ _ _ e]; exact hF x (by omega)
      have hOV0 := hRW.ownV g1
      have iO := fun w' => hOV0.at.idx oneBoolG k (by rw [tabB_len]; exact hlt) w'
      replace hbb := Lib.hid hbb
      replace hF2 := Lib.hid hF2
      replace hF := Lib.hid hF
      replace hcf := Lib.hid hcf
      replace hcl := Lib.hid hcl
      replace hon := Lib.hid hon
      replace hgp := Lib.hid hgp
      replace hadj := Lib.hid hadj
      replace hR := Lib.hid hR
      replace hRW := Lib.hid hRW
      replace hOV0 := Lib.hid hOV0
      replace hM := Lib.hid hM
      replace hM0 := Lib.hid hM0
      replace hMW := Lib.hid hMW
      replace hpW := Lib.hid hpW
      replace g1 := Lib.hid g1
      replace g2 := Lib.hid g2
      replace g3 := Lib.hid g3
      clear cR0 cP
      go_upto_region 8 with fail
      refine wp_region_plan (fun w' => w'.cell? ⟨wo.heap.size, 0, none⟩ = some (.int .i64 k)) 6 [(0, true), (1, true), (2, true), (3, true), (4, false), (5, true)] (by kernel_rfl) (by kernel_rfl) ?_
      rw [← hW]
      replace hW := Lib.hid hW
      have hS : W.cell? ⟨wo.heap.size, 0, none⟩ = some (.int .i64 k) := cVW
      refine headY (v := ?_) (some 27) rfl rfl (Or.inl ⟨by rfl, ?_⟩) hS ?_
      rotate_left
      · rintro W' s0; go_simp; try with_reducible rfl
      simp only [Act.put, List.setIfInBounds_toArray, List.set_cons_zero, List.set_cons_succ]
      refine headY (v := ?_) (some 28) rfl rfl (Or.inl ⟨by rfl, ?_⟩) hS ?_
      rotate_left
      · rintro W' s0; go_simp; try with_reducible rfl
      simp only [Act.put, List.setIfInBounds_toArray, List.set_cons_zero, List.set_cons_succ]
      refine headY (v := ?_) (some 29) rfl rfl (Or.inl ⟨by rfl, ?_⟩) hS ?_
      rotate_left
      · rintro W' s0; go_simp; try with_reducible rfl
      simp only [Act.put, List.setIfInBounds_toArray, List.set_cons_zero, List.set_cons_succ]
      refine headY (v := ?_) (some 30) rfl rfl (Or.inl ⟨by rfl, ?_⟩) hS ?_
      rotate_left
      · rintro W' s0; go_simp; try with_reducible rfl
      simp only [Act.put, List.setIfInBounds_toArray, List.set_cons_zero, List.set_cons_succ]
      refine headC rfl (fun KK hK => ?_)
      go_simp
      refine hcf.out.mono ?_
      rintro e w5 h5
      obtain ⟨n5, rfl, rfl⟩ := h5
      have hS5 : (W.drewN n5).cell? ⟨wo.heap.size, 0, none⟩ = some (.int .i64 k) := cVW
      refine hK _ _ hS5 ?_
      clear hK KK
      refine headY (v := ?_) (some 32) rfl rfl (Or.inl ⟨by rfl, ?_⟩) hS5 ?_
      rotate_left
      · rintro W' s0; go_simp; try with_reducible rfl
      simp only [Act.put, List.setIfInBounds_toArray, List.set_cons_zero, List.set_cons_succ]
      refine head0 ?_
      simp only [List.drop_succ_cons, List.drop_zero]
      clear hS hS5
      have b5 : Below wo.heap.size wo (W.drewN n5) := below_drewN bW n5
      have hR5 := hRW.out.drewN n5
      have hOV := hR5.ownV g1.out
      have cT := hOV.at.cellV k (by rw [tabB_len]; exact hlt)
      rw [tabB_get _ _ _ hlt] at cT
      have fT := hOV.frz k (by rw [tabB_len]; exact hlt)
      have kT := (hOV.blkB k (by rw [tabB_len]; exact hlt)).2
      have hR6 := hR5.setV g1.out k (by rw [tabB_len]; exact hlt) (.bool bb)
      rw [tabB_upd] at hR6
      have b6 : Below w.heap.size w ((W.drewN n5).setCell (valAt (.slice oa on' oc) k) (.bool bb)) := (hB.trans (b5.mono hB.size)).setCell kT _
      generalize valAt (.slice oa on' oc) k = ta at *
      replace hR5 := Lib.hid hR5
      replace hR6 := Lib.hid hR6
      replace hOV := Lib.hid hOV
      clear iO
      go_wp2
      refine NoPanic.normal ?_
      go_wp2
      go_roundw
      case measure => simp [intOf]; omega
      case rel => exact ⟨k + 1, _, _, by omega, by go_num, hR6.out, b6, by rw [upd_ne _ _ (by simp)]; exact g2.out, by rw [upd_ne _ _ (by simp)]; exact g3.out, by rw [upd_same], hF2.out⟩
    · obtain rfl : k = G.length := by omega
      have hres := hR.ownV g1
      replace hres := Lib.hid hres
      replace hF := Lib.hid hF
      replace hR := Lib.hid hR
      replace g1 := Lib.hid g1
      replace g2 := Lib.hid g2
      replace g3 := Lib.hid g3
      go_wp2
      go_ret2
      exact ⟨_, _, rfl, hB, rfl, F, hres.out, hF.out⟩
end Go.Proofs.YtilpckngghffoaaGreatDoor

namespace Go.Proofs.YtilpckngghffoaaGreatDoor

/-- The queue behind the arrows of one vertex. -/
def extQ (q : List Nat) (l : List Nat) : List Nat := l.foldl (fun q t => if t ∈ q then q else q ++ [t]) q
theorem extQ_nil (q : List Nat) : extQ q [] = q := rfl
theorem extQ_snoc (q l : List Nat) (t : Nat) : extQ q (l ++ [t]) = if t ∈ extQ q l then extQ q l else extQ q l ++ [t] := by
  unfold extQ; rw [List.foldl_append]; rfl
/-- The queue when i of its vertices are gone through. -/
def runQ (adj : Nat → List Nat) (v : Nat) : Nat → List Nat
  | 0 => [v]
  | i + 1 => match (runQ adj v i)[i]? with
    | some u => extQ (runQ adj v i) (adj u)
    | none => runQ adj v i
theorem runQ_succ {adj : Nat → List Nat} {v i u : Nat} (h : (runQ adj v i)[i]? = some u) : runQ adj v (i + 1) = extQ (runQ adj v i) (adj u) := by
  rw [runQ, h]
/-- The first in the queue that is wanted. -/
def NearIs (adj : Nat → List Nat) (P : Nat → Prop) (v u : Nat) : Prop := ∃ i, (runQ adj v i)[i]? = some u ∧ P u ∧ ∀ j, j < i → ∀ x, (runQ adj v j)[j]? = some x → ¬ P x
theorem NearIs.unique {adj : Nat → List Nat} {P : Nat → Prop} {v u w : Nat} (h : NearIs adj P v u) (k : NearIs adj P v w) : u = w := by
  obtain ⟨i, h1, h2, h3⟩ := h
  obtain ⟨j, k1, k2, k3⟩ := k
  rcases Nat.lt_trichotomy i j with e | e | e
  · exact absurd h2 (k3 i e u h1)
  · subst e; rw [h1] at k1; exact Option.some.inj k1
  · exact absurd k2 (h3 j e w k1)
/-- The search so far: i vertices gone through, none of them wanted, j arrows of the next. -/
def NRun (adj : Nat → List Nat) (P : Nat → Prop) (v : Nat) (q : List Nat) (i : Nat) : Prop := q = runQ adj v i ∧ ∀ j, j < i → ∀ x, (runQ adj v j)[j]? = some x → ¬ P x
def NRunIn (adj : Nat → List Nat) (P : Nat → Prop) (v : Nat) (q : List Nat) (i u j : Nat) : Prop := q = extQ (runQ adj v i) ((adj u).take j) ∧ (runQ adj v i)[i]? = some u ∧ ¬ P u ∧ ∀ j, j < i → ∀ x, (runQ adj v j)[j]? = some x → ¬ P x
theorem NRun.start (adj : Nat → List Nat) (P : Nat → Prop) (v : Nat) : NRun adj P v [v] 0 := ⟨rfl, fun _ h => absurd h (Nat.not_lt_zero _)⟩
theorem NRun.hit {adj : Nat → List Nat} {P : Nat → Prop} {v : Nat} {q : List Nat} {i u : Nat} (h : NRun adj P v q i) (hu : q[i]? = some u) (hp : P u) : NearIs adj P v u := ⟨i, by rw [← h.1]; exact hu, hp, h.2⟩
theorem NRun.enter {adj : Nat → List Nat} {P : Nat → Prop} {v : Nat} {q : List Nat} {i u : Nat} (h : NRun adj P v q i) (hu : q[i]? = some u) (hp : ¬ P u) : NRunIn adj P v q i u 0 := ⟨by rw [List.take_zero, extQ_nil]; exact h.1, by rw [← h.1]; exact hu, hp, h.2⟩
theorem NRunIn.push {adj : Nat → List Nat} {P : Nat → Prop} {v : Nat} {q : List Nat} {i u j t : Nat} (h : NRunIn adj P v q i u j) (ht : (adj u)[j]? = some t) (hq : t ∉ q) : NRunIn adj P v (q ++ [t]) i u (j + 1) := by
  refine ⟨?_, h.2⟩
  rw [List.take_add_one, ht, Option.toList_some, extQ_snoc, ← h.1, if_neg hq]
theorem NRunIn.old {adj : Nat → List Nat} {P : Nat → Prop} {v : Nat} {q : List Nat} {i u j t : Nat} (h : NRunIn adj P v q i u j) (ht : (adj u)[j]? = some t) (hq : t ∈ q) : NRunIn adj P v q i u (j + 1) := by
  refine ⟨?_, h.2⟩
  rw [List.take_add_one, ht, Option.toList_some, extQ_snoc, ← h.1, if_pos hq]
theorem NRunIn.leave {adj : Nat → List Nat} {P : Nat → Prop} {v : Nat} {q : List Nat} {i u : Nat} (h : NRunIn adj P v q i u (adj u).length) : NRun adj P v q (i + 1) := by
  refine ⟨?_, fun j hj x hx => ?_⟩
  · rw [runQ_succ h.2.1, h.1, List.take_length]
  · by_cases e : j = i
    · subst e
      rw [h.2.1] at hx
      obtain rfl := Option.some.inj hx
      exact h.2.2.1
    · exact h.2.2.2 j (by omega) x hx
end Go.Proofs.YtilpckngghffoaaGreatDoor

namespace Go.Proofs.YtilpckngghffoaaGreatDoor
open Go.RowKit
set_option maxRecDepth 100000

/-- The search: the queue's vertices are those that are seen; behind the first i all arrows have been followed. -/
structure NInv (n : Nat) (adj : Nat → List Nat) (v : Nat) (on m : Nat → Bool) (q : List Nat) (i : Nat) : Prop where
  nd : q.Nodup
  low : ∀ x ∈ q, x < n ∧ Goes adj v x
  seen : ∀ x, x < n → (m x = true ↔ x ∈ q)
  st : v ∈ q
  dn : ∀ j x, j < i → q[j]? = some x → on x = false ∧ ∀ t ∈ adj x, t ∈ q
theorem NInv.start {n : Nat} {adj : Nat → List Nat} {v : Nat} {on : Nat → Bool} (hv : v < n) : NInv n adj v on (updN (fun _ => false) v true) [v] 0 :=
  ⟨by simp, fun x hx => by rw [List.mem_singleton] at hx; subst hx; exact ⟨hv, .refl _⟩, fun x _ => by
    by_cases e : x = v
    · subst e; simp [updN_same]
    · rw [updN_other _ _ _ e]; simp [e], by simp, fun j x h => absurd h (Nat.not_lt_zero _)⟩
theorem NInv.len {n : Nat} {adj : Nat → List Nat} {v : Nat} {on m : Nat → Bool} {q : List Nat} {i : Nat} (h : NInv n adj v on m q i) : q.length ≤ n := nodup_len n q h.nd fun x hx => (h.low x hx).1
theorem NInv.push {n : Nat} {adj : Nat → List Nat} {v : Nat} {on m : Nat → Bool} {q : List Nat} {i u t : Nat} (h : NInv n adj v on m q i) (hu : u ∈ q) (ht : t ∈ adj u) (htn : t < n) (hm : m t = false) (hi : i ≤ q.length) : NInv n adj v on (updN m t true) (q ++ [t]) i := by
  have hnt : t ∉ q := fun e => by have := (h.seen t htn).2 e; rw [hm] at this; cases this
  refine ⟨List.nodup_append.2 ⟨h.nd, by simp, fun a ha b hb e => by rw [List.mem_singleton] at hb; subst hb; subst e; exact hnt ha⟩, fun x hx => ?_, fun x hx => ?_, List.mem_append_left _ h.st, fun j x hj hx => ?_⟩
  · rcases List.mem_append.1 hx with hx | hx
    · exact h.low x hx
    · rw [List.mem_singleton] at hx; subst hx; exact ⟨htn, (h.low u hu).2.step ht⟩
  · rw [List.mem_append, List.mem_singleton]
    by_cases e : x = t
    · subst e; simp [updN_same]
    · rw [updN_other _ _ _ e, h.seen x hx]; simp [e]
  · rw [List.getElem?_append_left (by omega)] at hx
    obtain ⟨h1, h2⟩ := h.dn j x hj hx
    exact ⟨h1, fun s hs => List.mem_append_left _ (h2 s hs)⟩
theorem NInv.next {n : Nat} {adj : Nat → List Nat} {v : Nat} {on m : Nat → Bool} {q : List Nat} {i u : Nat} (h : NInv n adj v on m q i) (hu : q[i]? = some u) (ho : on u = false) (ha : ∀ t ∈ adj u, t ∈ q) : NInv n adj v on m q (i + 1) :=
  ⟨h.nd, h.low, h.seen, h.st, fun j x hj hx => by
    by_cases e : j = i
    · subst e; rw [hu] at hx; cases hx; exact ⟨ho, ha⟩
    · exact h.dn j x (by omega) hx⟩
theorem NInv.stop {n : Nat} {adj : Nat → List Nat} {v : Nat} {on m : Nat → Bool} {q : List Nat} (h : NInv n adj v on m q q.length) {u : Nat} (ho : on u = true) (hg : Goes adj v u) : False := by
  have hc : u ∈ q := Goes.closed (P := fun x => x ∈ q) (fun x hx t ht => by
    obtain ⟨j, hj, e⟩ := List.mem_iff_getElem.1 hx
    exact (h.dn j x hj (by rw [List.getElem?_eq_getElem hj, e])).2 t ht) hg h.st
  obtain ⟨j, hj, e⟩ := List.mem_iff_getElem.1 hc
  have := (h.dn j u hj (by rw [List.getElem?_eq_getElem hj, e])).1
  rw [ho] at this; cases this

/-- The search's memory. -/
structure NB (f : Names) (sv qv : Value) (n : Nat) (m : Nat → Bool) (q : List Nat) : Prop where
  outs : f (1, 0) = some (rowV 4 sv (tabB n m))
  queue : f (2, 0) = some (rowI qv (castI q))
section
variable {B : Nat} {w : World} {f : Names} {ov qv : Value} {n : Nat} {m : Nat → Bool} {q : List Nat}
theorem NB.mark (h : NB f ov qv n m q) (hr : Rows B w f) (t : Nat) (ht : t < n) : ∃ f', Rows B (w.setCell (valAt ov t) (.bool true)) f' ∧ NB f' ov qv n (updN m t true) q := by
  have hs := hr.setV h.outs t (by rw [tabB_len]; exact ht) (.bool true)
  rw [tabB_upd] at hs
  exact ⟨_, hs, ⟨upd_same _ _ _, by rw [upd_ne _ _ (by simp)]; exact h.queue⟩⟩
theorem NB.push (h : NB f ov qv n m q) (hr : Rows B w f) {w1 : World} {qv' : Value} (t : Nat) (ho : OwnI B w1 qv' (castI q ++ [(t : Int)]))
    (hal : (roomOf qv' = roomOf qv ∧ w.grownBy w1 qv.ownBlock) ∨ (∃ k, qv'.ownBlock = some k ∧ w.heap.size ≤ k ∧ w.grownBy w1 none)) : ∃ f', Rows B w1 f' ∧ NB f' ov qv' n m (q ++ [t]) := by
  have hO := hr.ownI h.queue
  have hg : w.grownBy w1 qv.ownBlock := grown_via (hal.imp (·.2) (fun ⟨_, _, _, q⟩ => q))
  have hob : qv'.ownBlock = qv.ownBlock ∨ ∃ k, qv'.ownBlock = some k ∧ w.heap.size ≤ k := by
    rcases hal with ⟨q, _⟩ | ⟨k, h1, h2, _⟩
    · obtain ⟨a1, n1, c1, e1⟩ := hO.at.shape
      obtain ⟨a2, n2, c2, e2⟩ := ho.at.shape
      exact .inl (ownBlock_of_room e1 e2 q)
    · exact .inr ⟨k, h1, h2⟩
  exact ⟨_, hr.grown (r' := rowI qv' (castI q ++ [(t : Int)])) h.queue hg ho hob, ⟨by rw [upd_ne _ _ (by simp)]; exact h.outs, by rw [upd_same, castI_snoc]⟩⟩
end

set_option maxHeartbeats 4000000 in
theorem near_any (na : Option Addr) (nc : Nat) (G : List (List Int)) (bv : Value) (on : Nat → Bool) (v : Nat) (w : World) (h : ListsAt w (.slice na G.length nc) G) (hok : GraphOk G) (hn : G.length ≤ 8200) (hb : ValsAt w bv (tabB G.length on)) (hv : v < G.length)
    (hex : ∃ u, on u = true ∧ Goes (adjOf G) v u) (P : Nat → Prop) (hP : ∀ x, x < G.length → (on x = true ↔ P x)) :
    Calls Tryz.prog 104 #[.slice na G.length nc, bv, .int .i64 v] w (Ret1 (fun x _ => ∃ u, x = .int .i64 ((u : Nat) : Int) ∧ u < G.length ∧ on u = true ∧ Goes (adjOf G) v u ∧ NearIs (adjOf G) P v u) w) := by
  obtain ⟨sv, w1, mk, hin, hb1⟩ := run_makeW oneBoolG (G.length : Int) G.length w rfl (by omega)
  obtain ⟨sa, sn, sc, rfl⟩ := hin.shape
  rw [← tabB_none] at hin
  have R1 := (Rows.void w.heap.size w).add (i := (1, 0)) (r' := rowV 4 (.slice sa sn sc) (tabB G.length fun _ => false)) hb1 hin (fun k hk => (hin.lt k hk).1)
  have hOV := R1.ownV (upd_same _ _ _)
  have iV := fun w' => hOV.at.idx oneBoolG v (by rw [tabB_len]; exact hv) w'
  have cV := hOV.at.cellV v (by rw [tabB_len]; exact hv)
  have fV := hOV.frz v (by rw [tabB_len]; exact hv)
  have kV := (hOV.blkB v (by rw [tabB_len]; exact hv)).2
  rw [tabB_get _ _ _ hv] at cV
  have R2 := R1.setV (upd_same _ _ _) v (by rw [tabB_len]; exact hv) (.bool true)
  rw [tabB_upd] at R2
  have b2 : Below w.heap.size w (w1.setCell (valAt (.slice sa sn sc) v) (.bool true)) := hb1.setCell kV _
  generalize valAt (.slice sa sn sc) v = va at *
  obtain ⟨W2, hW2⟩ : ∃ W2 : World, W2 = w1.setCell va (.bool true) := ⟨_, rfl⟩
  rw [← hW2] at R2 b2
  have hB2 := b2.size
  have bL := belowAlloc W2 (.cells #[.int .i64 (v : Int)] 3)
  have R3 := R2.add (i := (2, 0)) (r' := rowI (.slice (some ⟨W2.heap.size, 0, none⟩) 1 1) (castI [v])) bL (OwnI.lit w.heap.size W2 hB2 (castI [v]) (by simp [maxLen, castI]) #[.int .i64 (v : Int)] rfl 1 rfl) (fun k hk => by cases hk; exact Nat.le_refl _)
  have h3 : NB (upd (upd (upd (fun _ => Option.none) (1, 0) (some (rowV 4 (.slice sa sn sc) (tabB G.length fun _ => false)))) (1, 0) (some (rowV 4 (.slice sa sn sc) (tabB G.length (updN (fun _ => false) v true))))) (2, 0) (some (rowI (.slice (some ⟨W2.heap.size, 0, none⟩) 1 1) (castI [v])))) (.slice sa sn sc) (.slice (some ⟨W2.heap.size, 0, none⟩) 1 1) G.length (updN (fun _ => false) v true) [v] := ⟨by rw [upd_ne _ _ (by simp), upd_same], by rw [upd_same]⟩
  generalize upd (upd (upd (fun _ => Option.none) (1, 0) (some (rowV 4 (.slice sa sn sc) (tabB G.length fun _ => false)))) (1, 0) (some (rowV 4 (.slice sa sn sc) (tabB G.length (updN (fun _ => false) v true))))) (2, 0) (some (rowI (.slice (some ⟨W2.heap.size, 0, none⟩) 1 1) (castI [v]))) = f3 at *
  have b3 := b2.trans (bL.mono hB2)
  replace hex := Lib.hid hex
  replace hP := Lib.hid hP
  replace h := Lib.hid h
  replace hok := Lib.hid hok
  replace hb := Lib.hid hb
  replace R3 := Lib.hid R3
  replace h3 := Lib.hid h3
  replace hW2 := Lib.hid hW2
  have hlg := h.out.len 3 w
  clear R1 R2 hOV hin
  go_enter Tryz.func104, Tryz.ntmps104
  go_upto_region 3 with fail
  rw [← hW2.out]
  clear mk iV cV fV
  go_wp2_with fail
  go_loopw [8, 9] (fun qv iv wr => ∃ (i : Nat) (m : Nat → Bool) (q : List Nat) (f : Names) (qw : Value), qw = qv ∧ iv = .int .i64 i ∧ i ≤ q.length ∧ Rows w.heap.size wr f ∧ Below w.heap.size w wr ∧ NB f (.slice sa sn sc) qw G.length m q ∧ NInv G.length (adjOf G) v on m q i ∧ NRun (adjOf G) P v q i) (fun _ iv _ => G.length - (intOf iv).toNat)
  case atStart => exact ⟨0, _, _, f3, _, rfl, rfl, Nat.zero_le _, R3.out, b3, h3.out, NInv.start hv, NRun.start _ _ _⟩
  case round =>
    clear h3 R3 b3
    obtain ⟨i, m, q, f4, qv, rfl, rfl, hi, hr4, b4, h4, hI, hN⟩ := hrel
    obtain ⟨wo, rfl⟩ : ∃ wo : World, wo = wr := ⟨_, rfl⟩
    have hql := hI.len
    have hOQ := hr4.ownI h4.queue
    have lQ := hOQ.at.len
    rw [castI_len] at lQ
    by_cases hil : i < q.length
    · obtain ⟨u, hu⟩ : ∃ u, q[i]? = some u := ⟨_, List.getElem?_eq_getElem hil⟩
      have hum := List.mem_of_getElem? hu
      obtain ⟨hun, hug⟩ := hI.low u hum
      have iQ := fun w' => hOQ.at.idx i (by rw [castI_len]; exact hil) w'
      have cQ := hOQ.at.cellD i (by rw [castI_len]; exact hil)
      rw [castI_get hu] at cQ
      have hbo := hb.out.below b4
      have iB := fun w' => hbo.idx oneBoolG u (by rw [tabB_len]; exact hun) w'
      have cB := hbo.cellV u (by rw [tabB_len]; exact hun)
      rw [tabB_get _ _ _ hun] at cB
      generalize valAt qv i = qa at *
      generalize valAt bv u = ba at *
      obtain ⟨bo, hbo2⟩ : ∃ bo, on u = bo := ⟨_, rfl⟩
      rw [hbo2] at cB
      replace hOQ := Lib.hid hOQ
      replace hbo := Lib.hid hbo
      cases bo with
      | true =>
        have hnr := hN.hit hu ((hP.out u hun).1 hbo2)
        replace hnr := Lib.hid hnr
        replace hN := Lib.hid hN
        replace hI := Lib.hid hI
        replace hr4 := Lib.hid hr4
        replace hu := Lib.hid hu
        replace hum := Lib.hid hum
        replace hbo2 := Lib.hid hbo2
        replace hug := Lib.hid hug
        go_wp2
        go_ret
        exact ⟨_, rfl, b4, u, rfl, hun, hbo2.out, hug.out, hnr.out⟩
      | false =>
        have hent := hN.enter hu (fun e => by have := (hP.out u hun).2 e; rw [hbo2] at this; cases this)
        replace hent := Lib.hid hent
        replace hN := Lib.hid hN
        obtain ⟨xv, iR, cR0, hM0⟩ := h.out.row u hun
        have cR := (b4.cell (World.block_lt_of_cell? _ _ cR0)).trans cR0
        have hM := hM0.below b4
        have hgp := hok.out u hun
        have hadj : adjOf G u = (G.getD u []).map Int.toNat := rfl
        generalize G.getD u [] = gx at *
        have lM := hM.len
        have hglen := hM.len_le
        generalize valAt (.slice na G.length nc) u = ra at *
        replace hM := Lib.hid hM
        replace hM0 := Lib.hid hM0
        replace hgp := Lib.hid hgp
        replace hadj := Lib.hid hadj
        replace hI := Lib.hid hI
        replace hr4 := Lib.hid hr4
        replace hu := Lib.hid hu
        replace hum := Lib.hid hum
        replace hbo2 := Lib.hid hbo2
        replace hug := Lib.hid hug
        have hil2 := Lib.hid hil
        go_wp2_with fail
        clear iQ cQ iB cB iR cR lM lQ
        go_loopw [8, 41] (fun qv jv wr => ∃ (j : Nat) (m : Nat → Bool) (q : List Nat) (f : Names) (qw : Value), qw = qv ∧ jv = .int .i64 j ∧ j ≤ gx.length ∧ Rows w.heap.size wr f ∧ Below w.heap.size w wr ∧ NB f (.slice sa sn sc) qw G.length m q ∧ NInv G.length (adjOf G) v on m q i ∧ q[i]? = some u ∧ (∀ s, s < j → (gx.getD s 0).toNat ∈ q) ∧ NRunIn (adjOf G) P v q i u j) (fun _ jv _ => gx.length - (intOf jv).toNat)
        case atStart => exact ⟨0, m, q, f4, _, rfl, rfl, by omega, hr4.out, b4, h4, hI.out, hu.out, (fun s hs => by omega), hent.out⟩
        case round =>
          clear hr4 h4 b4 hI hu hum hi hil hil2 hql hOQ hbo hM hN hent
          obtain ⟨j, m, q, f5, qv, rfl, rfl, hj, hr5, b5, h5, hI, hu, hdone, hNI⟩ := hrel
          obtain ⟨wo, rfl⟩ : ∃ wo : World, wo = wr := ⟨_, rfl⟩
          have hum := List.mem_of_getElem? hu
          have hil : i < q.length := (List.getElem?_eq_some_iff.1 hu).1
          have hql := hI.len
          by_cases hjl : j < gx.length
          · have hMj := hM0.out.below b5
            have hgj := hgp.out gx[j] (List.getElem_mem hjl)
            obtain ⟨t, hu2⟩ : ∃ t : Nat, gx[j] = t := Int.eq_ofNat_of_zero_le hgj.1
            have htn : t < G.length := by rw [hu2] at hgj; omega
            have hgd : gx.getD j 0 = (t : Int) := by rw [List.getD_eq_getElem?_getD, List.getElem?_eq_getElem hjl, hu2]; rfl
            have hta : t ∈ adjOf G u := by
              rw [hadj.out]
              exact List.mem_map.2 ⟨gx[j], List.getElem_mem hjl, by rw [hu2]; rfl⟩
            have htj : (adjOf G u)[j]? = some t := by
              rw [hadj.out, List.getElem?_map, List.getElem?_eq_getElem hjl, hu2]; rfl
            have iJ := fun w' => hMj.idx j hjl w'
            have cJ := hMj.cellD j hjl
            rw [hgd] at cJ
            have hOV := (hr5.ownV h5.outs)
            have iT := fun w' => hOV.at.idx oneBoolG t (by rw [tabB_len]; exact htn) w'
            have cT := hOV.at.cellV t (by rw [tabB_len]; exact htn)
            rw [tabB_get _ _ _ htn] at cT
            have fT := hOV.frz t (by rw [tabB_len]; exact htn)
            have kT := (hOV.blkB t (by rw [tabB_len]; exact htn)).2
            obtain ⟨f6, hr6, h6⟩ := h5.mark hr5 t htn
            have b6 : Below w.heap.size w (wo.setCell (valAt (.slice sa sn sc) t) (.bool true)) := b5.setCell kT _
            generalize valAt xv j = ja at *
            generalize valAt (.slice sa sn sc) t = ta at *
            obtain ⟨bt, hbt⟩ : ∃ bt, m t = bt := ⟨_, rfl⟩
            rw [hbt] at cT
            cases bt with
            | false =>
              have hpush := hI.push hum hta htn hbt (by omega)
              have hnp := hNI.push htj (fun e => by have := (hI.seen t htn).2 e; rw [hbt] at this; cases this)
              replace hnp := Lib.hid hnp
              replace hNI := Lib.hid hNI
              replace htj := Lib.hid htj
              have hu3 : (q ++ [t])[i]? = some u := by rw [List.getElem?_append_left hil]; exact hu
              have hdone2 : ∀ s, s < j + 1 → (gx.getD s 0).toNat ∈ q ++ [t] := fun s hs => by
                by_cases e : s = j
                · subst e; rw [hgd]; simp
                · exact List.mem_append_left _ (hdone s (by omega))
              replace hpush := Lib.hid hpush
              replace hu3 := Lib.hid hu3
              replace hdone2 := Lib.hid hdone2
              replace hdone := Lib.hid hdone
              replace hI := Lib.hid hI
              replace hbt := Lib.hid hbt
              replace hr5 := Lib.hid hr5
              replace hr6 := Lib.hid hr6
              replace hOV := Lib.hid hOV
              replace hMj := Lib.hid hMj
              replace hgd := Lib.hid hgd
              replace hgj := Lib.hid hgj
              replace hu2 := Lib.hid hu2
              replace hu := Lib.hid hu
              replace hum := Lib.hid hum
              replace hta := Lib.hid hta
              go_upto_region 15 with fail
              obtain ⟨W6, hW6⟩ : ∃ W6 : World, W6 = wo.setCell ta (.bool true) := ⟨_, rfl⟩
              rw [← hW6]
              rw [← hW6] at hr6 b6
              clear hW6 iJ cJ iT cT fT
              have hOQ := hr6.out.ownI h6.queue
              have hB6 : w.heap.size ≤ W6.heap.size := b6.size
              go_wp2_with (at_builtin; refine wpl_app1 rfl _ _ rfl w.heap.size qv (castI q) t hOQ rfl rfl (by rw [castI_len]; omega) hB6 ?_)
              intro qv' w7 ho7 b7 hal7
              obtain ⟨f7, hr7, h7⟩ := h6.push hr6.out t ho7 hal7
              replace hr7 := Lib.hid hr7
              replace ho7 := Lib.hid ho7
              clear hal7
              go_wp2
              go_roundw
              case measure => simp [intOf]; omega
              case rel => exact ⟨j + 1, updN m t true, q ++ [t], f7, qv', rfl, by go_num, by omega, hr7.out, b6.trans b7, h7, hpush.out, hu3.out, hdone2.out, hnp.out⟩
            | true =>
              have hnp := hNI.old htj ((hI.seen t htn).1 hbt)
              replace hnp := Lib.hid hnp
              replace hNI := Lib.hid hNI
              replace htj := Lib.hid htj
              have hdone2 : ∀ s, s < j + 1 → (gx.getD s 0).toNat ∈ q := fun s hs => by
                by_cases e : s = j
                · subst e; rw [hgd]; exact (hI.seen t htn).1 hbt
                · exact hdone s (by omega)
              replace hdone2 := Lib.hid hdone2
              replace hdone := Lib.hid hdone
              replace hI := Lib.hid hI
              replace hbt := Lib.hid hbt
              replace hr5 := Lib.hid hr5
              replace hr6 := Lib.hid hr6
              replace hOV := Lib.hid hOV
              replace hMj := Lib.hid hMj
              replace hgd := Lib.hid hgd
              replace hgj := Lib.hid hgj
              replace hu2 := Lib.hid hu2
              replace hu := Lib.hid hu
              replace hum := Lib.hid hum
              replace hta := Lib.hid hta
              go_wp2
              go_roundw
              case measure => simp [intOf]; omega
              case rel => exact ⟨j + 1, m, q, f5, qv, rfl, by go_num, by omega, hr5.out, b5, h5, hI.out, hu.out, hdone2.out, hnp.out⟩
          · obtain rfl : j = gx.length := by omega
            have hfin := hI.next hu hbo2.out (fun t ht => by
              rw [hadj.out] at ht
              obtain ⟨x, hx, rfl⟩ := List.mem_map.1 ht
              obtain ⟨s, hs, rfl⟩ := List.mem_iff_getElem.1 hx
              have := hdone s hs
              rw [List.getD_eq_getElem?_getD, List.getElem?_eq_getElem hs] at this
              exact this)
            have hnl : NRun (adjOf G) P v q (i + 1) := by
              have hl : gx.length = (adjOf G u).length := by rw [hadj.out, List.length_map]
              rw [hl] at hNI
              exact hNI.leave
            replace hnl := Lib.hid hnl
            replace hNI := Lib.hid hNI
            replace hfin := Lib.hid hfin
            replace hdone := Lib.hid hdone
            replace hI := Lib.hid hI
            replace hr5 := Lib.hid hr5
            replace hu := Lib.hid hu
            replace hum := Lib.hid hum
            go_wp2
            go_roundw
            case measure => simp [intOf]; omega
            case rel => exact ⟨i + 1, m, q, f5, qv, rfl, by go_num, by omega, hr5.out, b5, h5, hfin.out, hnl.out⟩
    · obtain rfl : i = q.length := by omega
      obtain ⟨u, ho, hg⟩ := hex.out
      exact absurd hg (fun hg => hI.stop ho hg)
end Go.Proofs.YtilpckngghffoaaGreatDoor
