/-
  Walk: graph.Live.
  Walk: edenref12.Check.
  Walks: pairs.Graph at what is no small rule; pairs.Apart.
  Walk: graph.Path.
  Walk: graph.Loop.
  The chapter's graph: its parts, its live vertices, its way from 0 to 4, as plain mathematics; the walk that makes it.
  Walks: the helpers of edenlaw12: awake, heavy, vertex, leads, goes.
  Walk: edenlaw12.goes at a way.
  Walks: the two functions within pairs.Words.
-/
import Derived.Test.YtdldadgnggaopaaDoorMTk6
namespace Go.Proofs.YtdldadgnggaopaaDoor
open Go.RowKit
set_option maxRecDepth 100000

/-- u stands on a loop. -/
def OnLoop (adj : Nat → List Nat) (u : Nat) : Prop := ∃ t ∈ adj u, Goes adj t u
/-- v stands between two loops. -/
def IsLive (n : Nat) (adj : Nat → List Nat) (v : Nat) : Prop := (∃ u, u < n ∧ OnLoop adj u ∧ Goes adj u v) ∧ ∃ u, u < n ∧ OnLoop adj u ∧ Goes adj v u
structure LiveList (n : Nat) (adj : Nat → List Nat) (L : List Nat) : Prop where
  sorted : L.Pairwise (· < ·)
  mem : ∀ v, v ∈ L ↔ v < n ∧ IsLive n adj v
theorem sorted_eq : ∀ {L M : List Nat}, L.Pairwise (· < ·) → M.Pairwise (· < ·) → (∀ v, v ∈ L ↔ v ∈ M) → L = M
  | [], [], _, _, _ => rfl
  | [], b :: M, _, _, h => absurd ((h b).2 List.mem_cons_self) (by simp)
  | a :: L, [], _, _, h => absurd ((h a).1 List.mem_cons_self) (by simp)
  | a :: L, b :: M, hL, hM, h => by
    obtain ⟨a1, a2⟩ := List.pairwise_cons.1 hL
    obtain ⟨b1, b2⟩ := List.pairwise_cons.1 hM
    have hab : a = b := by
      rcases List.mem_cons.1 ((h a).1 List.mem_cons_self) with e | e
      · exact e
      · rcases List.mem_cons.1 ((h b).2 List.mem_cons_self) with e2 | e2
        · exact e2.symm
        · have := b1 a e; have := a1 b e2; omega
    subst hab
    rw [sorted_eq a2 b2 fun v => ?_]
    have := h v
    simp only [List.mem_cons] at this
    constructor
    · intro hv
      rcases this.1 (.inr hv) with e | e
      · subst e; exact absurd (a1 v hv) (Nat.lt_irrefl _)
      · exact e
    · intro hv
      rcases this.2 (.inr hv) with e | e
      · subst e; exact absurd (b1 v hv) (Nat.lt_irrefl _)
      · exact e
theorem LiveList.unique {n : Nat} {adj : Nat → List Nat} {L M : List Nat} (h : LiveList n adj L) (k : LiveList n adj M) : L = M := sorted_eq h.sorted k.sorted fun v => by rw [h.mem, k.mem]
theorem turned_adj {G H : List (List Int)} (h : TurnedOf G H) (hok : GraphOk G) {t v : Nat} (ht : t < G.length) : v ∈ adjOf H t ↔ v < G.length ∧ t ∈ adjOf G v := by
  unfold adjOf
  simp only [List.mem_map]
  constructor
  · rintro ⟨y, hy, rfl⟩
    obtain ⟨x, rfl, hx, hm⟩ := (h.2.2 t ht y).1 hy
    exact ⟨by simpa using hx, (t : Int), by simpa using hm, by simp⟩
  · rintro ⟨hv, y, hy, rfl⟩
    have := hok v hv y hy
    exact ⟨(v : Int), (h.2.2 y.toNat ht v).2 ⟨v, rfl, hv, by rw [Int.toNat_of_nonneg this.1]; exact hy⟩, by simp⟩
theorem turned_ok {G H : List (List Int)} (h : TurnedOf G H) : GraphOk H := by
  intro t ht y hy
  rw [h.1] at ht ⊢
  obtain ⟨x, rfl, hx, _⟩ := (h.2.2 t ht y).1 hy
  omega
theorem goes_lt {G : List (List Int)} (hok : GraphOk G) {x y : Nat} (h : Goes (adjOf G) x y) (hx : x < G.length) : y < G.length :=
  Goes.closed (P := fun z => z < G.length) (fun z hz t ht => hok.lt z hz t ht) h hx
theorem turned_goes {G H : List (List Int)} (h : TurnedOf G H) (hok : GraphOk G) {x y : Nat} (hg : Goes (adjOf H) x y) (hx : x < G.length) : Goes (adjOf G) y x := by
  induction hg with
  | refl => exact .refl _
  | @step y z hg hz ih =>
    have hy : y < G.length := by have := goes_lt (turned_ok h) hg (by rw [h.1]; exact hx); rwa [h.1] at this
    exact (Goes.one ((turned_adj h hok hy).1 hz).2).trans ih
theorem goes_turned {G H : List (List Int)} (h : TurnedOf G H) (hok : GraphOk G) {x y : Nat} (hg : Goes (adjOf G) x y) (hx : x < G.length) : Goes (adjOf H) y x := by
  induction hg with
  | refl => exact .refl _
  | @step y z hg hz ih =>
    have hy := goes_lt hok hg hx
    exact (Goes.one ((turned_adj h hok (hok.lt y hy z hz)).2 ⟨hy, hz⟩)).trans ih
theorem onLoop_parts {G : List (List Int)} (hok : GraphOk G) {ps : List Int} (hp : PartsOf G.length (adjOf G) ps) {x : Nat} (hx : x < G.length) : OnLoop (adjOf G) x ↔ ∃ t ∈ adjOf G x, ps.getD t 0 = ps.getD x 0 := by
  constructor
  · rintro ⟨t, ht, hg⟩
    exact ⟨t, ht, (hp.eq (hok.lt x hx t ht) hx).2 ⟨hg, .one ht⟩⟩
  · rintro ⟨t, ht, he⟩
    exact ⟨t, ht, ((hp.eq (hok.lt x hx t ht) hx).1 he).1⟩
/-- What Live leaves. -/
def LivePost (r : Nat → Addr) (w : World) (G : List (List Int)) (x y : Value) (w' : World) : Prop :=
  ErrIs r w' (checkG G) y ∧ (checkG G = none → ∃ L, LiveList G.length (adjOf G) L ∧ OwnI w.heap.size w' x (castI L)) ∧ (checkG G ≠ none → x = .slice none 0 0)
/-- The marks of the vertices on loops: of the first k, and of the next by its first j arrows. -/
def LoopTo (G : List (List Int)) (ps : List Int) (k j : Nat) (m : Nat → Bool) : Prop :=
  ∀ x, x < G.length → (m x = true ↔ (x < k ∧ ∃ t ∈ adjOf G x, ps.getD t 0 = ps.getD x 0) ∨ (x = k ∧ ∃ t ∈ (adjOf G k).take j, ps.getD t 0 = ps.getD k 0))
theorem LoopTo.next {G : List (List Int)} {ps : List Int} {k : Nat} {m : Nat → Bool} (h : LoopTo G ps k (adjOf G k).length m) : LoopTo G ps (k + 1) 0 m := by
  intro x hx
  rw [h x hx, List.take_length]
  constructor
  · rintro (⟨a, b⟩ | ⟨rfl, b⟩)
    · exact .inl ⟨by omega, b⟩
    · exact .inl ⟨by omega, b⟩
  · rintro (⟨a, b⟩ | ⟨_, t, ht, _⟩)
    · by_cases e : x = k
      · subst e; exact .inr ⟨rfl, b⟩
      · exact .inl ⟨by omega, b⟩
    · simp at ht
theorem LoopTo.add {G : List (List Int)} {ps : List Int} {k j t : Nat} {m : Nat → Bool} (h : LoopTo G ps k j m) (ht : (adjOf G k)[j]? = some t) (m' : Nat → Bool)
    (hm : m' = if ps.getD t 0 = ps.getD k 0 then updN m k true else m) : LoopTo G ps k (j + 1) m' := by
  intro x hx
  have htk : (adjOf G k).take (j + 1) = (adjOf G k).take j ++ [t] := by rw [List.take_add_one, ht]; rfl
  by_cases hp : ps.getD t 0 = ps.getD k 0
  · rw [if_pos hp] at hm
    subst hm
    by_cases e : x = k
    · subst e
      rw [updN_same]
      exact ⟨fun _ => .inr ⟨rfl, t, by rw [htk]; simp, hp⟩, fun _ => rfl⟩
    · rw [updN_other _ _ _ e, h x hx]
      exact ⟨fun q => q.imp id (fun q => absurd q.1 e), fun q => q.imp id (fun q => absurd q.1 e)⟩
  · rw [if_neg hp] at hm
    subst hm
    rw [h x hx, htk]
    constructor
    · rintro (q | ⟨e, s, hs, hq⟩)
      · exact .inl q
      · exact .inr ⟨e, s, List.mem_append_left _ hs, hq⟩
    · rintro (q | ⟨e, s, hs, hq⟩)
      · exact .inl q
      · rcases List.mem_append.1 hs with hs | hs
        · exact .inr ⟨e, s, hs, hq⟩
        · cases List.mem_singleton.1 hs; exact absurd hq hp

set_option maxHeartbeats 4000000 in
theorem live_any (r : Nat → Addr) (na : Option Addr) (nc : Nat) (G : List (List Int)) (w : World) (hg : Glob r w) (h : ListsAt w (.slice na G.length nc) G) (hsz : ∀ k, k < G.length → (G.getD k []).length ≤ 17592186044416) :
    Calls Tryd.prog 18 #[.slice na G.length nc] w (Ret2 (LivePost r w G) w) := by
  have hP := parts_any r na nc G w hg h hsz
  replace h := Lib.hid h
  replace hg := Lib.hid hg
  replace hsz := Lib.hid hsz
  cases hck : checkG G with
  | some t =>
    replace hck := Lib.hid hck
    go_enter Tryd.func18, Tryd.ntmps18
    go_wp2_with fail
    refine hP.mono ?_
    rintro e w1 ⟨x, y, rfl, b1, he, _, hx⟩
    rw [hck.out] at he hx
    obtain rfl := hx (by simp)
    obtain ⟨T, a, rfl⟩ := he.some_shape
    replace he := Lib.hid he
    clear hx hP
    go_wp2
    go_ret2
    exact ⟨_, _, rfl, b1, ⟨by rw [hck.out]; exact he.out, ⟨fun q => (by rw [hck.out] at q; cases q), fun _ => rfl⟩⟩⟩
  | none =>
    obtain ⟨hn, harr, hok⟩ := checkG_none hck
    replace hck := Lib.hid hck
    replace hok := Lib.hid hok
    go_enter Tryd.func18, Tryd.ntmps18
    go_wp2_with fail
    refine hP.mono ?_
    rintro e w1 ⟨pv, y, rfl, b1, he, hps0, _⟩
    rw [hck.out] at he hps0
    obtain rfl := he.none_eq
    obtain ⟨ps, hps, hpo⟩ := hps0 rfl
    clear hps0
    have hpl := hps.len
    obtain ⟨pa, pn, pc, rfl⟩ := hpo.at.shape
    have hp1 := hpo.at
    clear he hP hpo
    obtain ⟨lv, w2, mk, hl2, hb2⟩ := run_makeW oneBoolG (G.length : Int) G.length w1 rfl (by omega)
    have hz : tabB G.length (fun _ => false) = List.replicate G.length (.bool false) := by
      unfold tabB; apply List.ext_getElem <;> simp
    rw [← hz] at hl2
    obtain ⟨la, ln, lc, rfl⟩ := hl2.shape
    have hz0 : LoopTo G ps 0 0 (fun _ => false) := by
      intro x hx
      simp
    replace hz0 := Lib.hid hz0
    replace hz := Lib.hid hz
    replace hl2 := Lib.hid hl2
    replace hp1 := Lib.hid hp1
    replace hps := Lib.hid hps
    replace hpl := Lib.hid hpl
    go_wp2_with fail
    clear mk
    go_loopw [28] (fun kv wr => ∃ (k : Nat) (m : Nat → Bool), k ≤ G.length ∧ kv = .int .i64 k ∧ OwnV 4 w1.heap.size wr (.slice la ln lc) (tabB G.length m) ∧ Below w1.heap.size w1 wr ∧ LoopTo G ps k 0 m) (fun kv _ => G.length - (intOf kv).toNat)
    case atStart => exact ⟨0, _, by omega, rfl, hl2.out, hb2, hz0.out⟩
    case round =>
      clear hl2
      obtain ⟨k, m, hk, rfl, hlo, b3, hm⟩ := hrel
      obtain ⟨wo, rfl⟩ : ∃ wo : World, wo = wr := ⟨_, rfl⟩
      by_cases hlt : k < G.length
      · obtain ⟨mv, iR, cR0, hM0⟩ := h.out.row k hlt
        have hbw : Below w.heap.size w wo := b1.trans (b3.mono b1.size)
        have cR := (hbw.cell (World.block_lt_of_cell? _ _ cR0)).trans cR0
        have hM := hM0.below hbw
        have hgp := hok.out k hlt
        have hal := adjOf_len G k
        have hag : ∀ j (hj : j < (G.getD k []).length), (adjOf G k)[j]? = some ((G.getD k [])[j]).toNat := fun j hj => by
          show ((G.getD k []).map Int.toNat)[j]? = _
          rw [List.getElem?_map, List.getElem?_eq_getElem hj]; rfl
        have hglen := hsz.out k hlt
        generalize G.getD k [] = gk at *
        have lM := hM.len
        generalize valAt (.slice na G.length nc) k = ra at *
        replace hm := Lib.hid hm
        replace hlo := Lib.hid hlo
        replace hM := Lib.hid hM
        replace hM0 := Lib.hid hM0
        replace hgp := Lib.hid hgp
        replace hag := Lib.hid hag
        replace hal := Lib.hid hal
        go_wp2_with fail
        clear iR cR cR0 lM hbw
        go_loopw [35] (fun jv wr => ∃ (j : Nat) (m : Nat → Bool), j ≤ gk.length ∧ jv = .int .i64 j ∧ OwnV 4 w1.heap.size wr (.slice la ln lc) (tabB G.length m) ∧ Below w1.heap.size w1 wr ∧ LoopTo G ps k j m) (fun jv _ => gk.length - (intOf jv).toNat)
        case atStart => exact ⟨0, m, by omega, rfl, hlo.out, b3, hm.out⟩
        case round =>
          clear hlo b3 hm hM
          obtain ⟨j, m, hj, rfl, hlo, b3, hm⟩ := hrel
          obtain ⟨wo, rfl⟩ : ∃ wo : World, wo = wr := ⟨_, rfl⟩
          by_cases hjl : j < gk.length
          · have hMj := hM0.out.below (b1.trans (b3.mono b1.size))
            have hgj := hgp.out gk[j] (List.getElem_mem hjl)
            obtain ⟨t, hu⟩ : ∃ t : Nat, gk[j] = t := Int.eq_ofNat_of_zero_le hgj.1
            have htn : t < G.length := by rw [hu] at hgj; omega
            have hgd : gk.getD j 0 = (t : Int) := by rw [List.getD_eq_getElem?_getD, List.getElem?_eq_getElem hjl, hu]; rfl
            have hta : (adjOf G k)[j]? = some t := by rw [hag.out j hjl, hu]; rfl
            have iJ := fun w' => hMj.idx j hjl w'
            have cJ := hMj.cellD j hjl
            rw [hgd] at cJ
            have hPt := hp1.out.below b3
            have iT := fun w' => hPt.idx t (by rw [hpl.out]; exact htn) w'
            have cT := hPt.cellD t (by rw [hpl.out]; exact htn)
            have iK := fun w' => hPt.idx k (by rw [hpl.out]; exact hlt) w'
            have cK := hPt.cellD k (by rw [hpl.out]; exact hlt)
            have hadd := hm.add hta
            have iL := fun w' => hlo.at.idx oneBoolG k (by rw [tabB_len]; exact hlt) w'
            have cL := hlo.at.cellV k (by rw [tabB_len]; exact hlt)
            rw [tabB_get _ _ _ hlt] at cL
            have fL := hlo.frz k (by rw [tabB_len]; exact hlt)
            have kL := (hlo.blkB k (by rw [tabB_len]; exact hlt)).2
            have hset := hlo.set k (by rw [tabB_len]; exact hlt) (.bool true)
            rw [tabB_upd] at hset
            generalize valAt mv j = ja at *
            generalize valAt (.slice pa pn pc) t = ta at *
            generalize valAt (.slice pa pn pc) k = ka at *
            generalize valAt (.slice la ln lc) k = qa at *
            obtain ⟨pt, hpt⟩ : ∃ pt, ps.getD t 0 = pt := ⟨_, rfl⟩
            obtain ⟨pk, hpk⟩ : ∃ pk, ps.getD k 0 = pk := ⟨_, rfl⟩
            rw [hpt] at cT hadd
            rw [hpk] at cK hadd
            generalize m k = mk at cL
            replace hm := Lib.hid hm
            replace hlo := Lib.hid hlo
            replace hset := Lib.hid hset
            replace hPt := Lib.hid hPt
            replace hMj := Lib.hid hMj
            replace hpt := Lib.hid hpt
            replace hpk := Lib.hid hpk
            replace hgd := Lib.hid hgd
            replace hgj := Lib.hid hgj
            replace hu := Lib.hid hu
            replace hta := Lib.hid hta
            by_cases he : pt = pk
            · have hq : (pt == pk) = true := by simp [he]
              have hn2 := hadd _ (if_pos he).symm
              replace hn2 := Lib.hid hn2
              replace he := Lib.hid he
              clear hadd
              go_upto_region 11 with fail
              go_quiet (fail)
              go_wp2
              go_roundw
              case measure => simp [intOf]; omega
              case rel =>
                refine ⟨j + 1, _, by omega, by go_num, ?_, ?_, hn2.out⟩
                · exact hset.out
                · exact (below_drewN b3 nq).setCell kL _
            · have hq : (pt == pk) = false := by simp [he]
              have hn2 := hadd _ (if_neg he).symm
              replace hn2 := Lib.hid hn2
              replace he := Lib.hid he
              clear hadd
              go_upto_region 11 with fail
              go_quiet (fail)
              go_wp2
              go_roundw
              case measure => simp [intOf]; omega
              case rel => exact ⟨j + 1, m, by omega, by go_num, hlo.out, b3.trans ⟨rfl, rfl, rfl, Nat.le_refl _, fun _ _ => rfl⟩, hn2.out⟩
          · obtain rfl : j = gk.length := by omega
            have hnext := (hal.out ▸ hm : LoopTo G ps k (adjOf G k).length m).next
            replace hnext := Lib.hid hnext
            replace hm := Lib.hid hm
            replace hlo := Lib.hid hlo
            go_wp2
            go_roundw
            case measure => simp [intOf]; omega
            case rel => exact ⟨k + 1, m, by omega, by go_num, hlo.out, b3, hnext.out⟩
      · obtain rfl : k = G.length := by omega
        have hbw : Below w.heap.size w wo := b1.trans (b3.mono b1.size)
        have hR1 := reach_any na nc G (.slice la ln lc) m wo (h.out.below hbw) hok.out (by omega) hlo.at
        have hon : ∀ x, x < G.length → (m x = true ↔ OnLoop (adjOf G) x) := fun x hx => by
          rw [hm x hx, onLoop_parts hok.out hps.out hx]
          constructor
          · rintro (⟨_, q⟩ | ⟨e, _⟩)
            · exact q
            · omega
          · intro q; exact .inl ⟨hx, q⟩
        replace hm := Lib.hid hm
        replace hon := Lib.hid hon
        replace hR1 := Lib.hid hR1
        have hlo' := Lib.hid hlo
        clear hlo
        go_wp2_with fail
        refine hR1.out.mono ?_
        rintro e w4 ⟨bv, rfl, b4, bm, hbo, hbm⟩
        have hb4 := Below.step hbw b4
        have hBk := graph_back na nc G w4 (h.out.below hb4) hok.out (by omega) harr
        replace hBk := Lib.hid hBk
        go_wp2_with fail
        refine hBk.out.mono ?_
        rintro e w5 ⟨hv, rfl, b5, H, hT, hHl⟩
        obtain ⟨ha, hc, rfl⟩ := hHl.shape
        have hHn := hT.1
        have hR2 := reach_any ha hc H (.slice la ln lc) m w5 hHl (turned_ok hT) (by omega) (by rw [hHn]; exact (hlo'.out.at.below b4).below b5)
        replace hR2 := Lib.hid hR2
        replace hHn := Lib.hid hHn
        replace hT := Lib.hid hT
        replace hHl := Lib.hid hHl
        go_wp2_with fail
        refine hR2.out.mono ?_
        rintro e w6 ⟨av, rfl, b6, am, hao, ham⟩
        rw [hHn.out] at hao ham
        have hboth : ∀ x, x < G.length → ((bm x && am x) = true ↔ IsLive G.length (adjOf G) x) := fun x hx => by
          rw [Bool.and_eq_true, hbm x hx, ham x hx]
          unfold IsLive
          constructor
          · rintro ⟨⟨u, hu, h1, h2⟩, v, hv, h3, h4⟩
            exact ⟨⟨u, hu, (hon.out u hu).1 h1, h2⟩, v, hv, (hon.out v hv).1 h3, turned_goes hT.out hok.out h4 hv⟩
          · rintro ⟨⟨u, hu, h1, h2⟩, v, hv, h3, h4⟩
            exact ⟨⟨u, hu, (hon.out u hu).2 h1, h2⟩, v, hv, (hon.out v hv).2 h3, goes_turned hT.out hok.out h4 hx⟩
        have hbv := hbo.at.below (Below.step b5 b6)
        have hav := hao.at
        have hw6 := Below.step hb4 (Below.step b5 b6)
        replace hboth := Lib.hid hboth
        replace hbm := Lib.hid hbm
        replace ham := Lib.hid ham
        replace hbv := Lib.hid hbv
        replace hav := Lib.hid hav
        replace hbo := Lib.hid hbo
        replace hao := Lib.hid hao
        clear hR1 hR2 hBk
        go_wp2_with fail
        go_loopw [13, 62] (fun qv kv wr => ∃ (k : Nat) (L : List Nat) (qw : Value), qw = qv ∧ kv = .int .i64 k ∧ k ≤ G.length ∧ L.length ≤ k ∧ OwnI w6.heap.size wr qw (castI L) ∧ Below w6.heap.size w6 wr ∧ L.Pairwise (· < ·) ∧ ∀ v, v ∈ L ↔ (v < k ∧ (bm v && am v) = true)) (fun _ kv _ => G.length - (intOf kv).toNat)
        case atStart => exact ⟨0, [], _, rfl, rfl, by omega, by simp, OwnI.nil _ _, Below.refl _ _, List.Pairwise.nil, fun v => ⟨fun q => (by cases q), fun q => by omega⟩⟩
        case round =>
          obtain ⟨k, L, qv, rfl, rfl, hk, hLk, hLo, b7, hLs, hLm⟩ := hrel
          obtain ⟨wo, rfl⟩ : ∃ wo : World, wo = wr := ⟨_, rfl⟩
          by_cases hlt : k < G.length
          · have hB := hbv.out.below b7
            have hA := hav.out.below b7
            have iB := fun w' => hB.idx oneBoolG k (by rw [tabB_len]; exact hlt) w'
            have cB := hB.cellV k (by rw [tabB_len]; exact hlt)
            rw [tabB_get _ _ _ hlt] at cB
            have iA := fun w' => hA.idx oneBoolG k (by rw [tabB_len]; exact hlt) w'
            have cA := hA.cellV k (by rw [tabB_len]; exact hlt)
            rw [tabB_get _ _ _ hlt] at cA
            generalize valAt bv k = qb at *
            generalize valAt av k = qa at *
            have hyes : (bm k && am k) = true → ∀ v, v ∈ L ++ [k] ↔ (v < k + 1 ∧ (bm v && am v) = true) := fun hq v => by
              rw [List.mem_append, hLm v, List.mem_singleton]
              constructor
              · rintro (⟨a, b⟩ | rfl)
                · exact ⟨by omega, b⟩
                · exact ⟨by omega, hq⟩
              · rintro ⟨a, b⟩
                by_cases e : v = k
                · exact .inr e
                · exact .inl ⟨by omega, b⟩
            have hno : (bm k && am k) = false → ∀ v, v ∈ L ↔ (v < k + 1 ∧ (bm v && am v) = true) := fun hq v => by
              rw [hLm v]
              constructor
              · rintro ⟨a, b⟩; exact ⟨by omega, b⟩
              · rintro ⟨a, b⟩
                by_cases e : v = k
                · subst e; rw [hq] at b; cases b
                · exact ⟨by omega, b⟩
            have hsrt2 : (L ++ [k]).Pairwise (· < ·) := by
              rw [List.pairwise_append]
              refine ⟨hLs, List.pairwise_singleton _ _, fun x hx y hy => ?_⟩
              cases List.mem_singleton.1 hy
              exact ((hLm x).1 hx).1
            obtain ⟨bk, hbk⟩ : ∃ bk, bm k = bk := ⟨_, rfl⟩
            obtain ⟨ak, hak⟩ : ∃ ak, am k = ak := ⟨_, rfl⟩
            rw [hbk] at cB hyes hno
            rw [hak] at cA hyes hno
            replace hB := Lib.hid hB
            replace hA := Lib.hid hA
            replace hLm := Lib.hid hLm
            replace hLs := Lib.hid hLs
            replace hsrt2 := Lib.hid hsrt2
            replace hbk := Lib.hid hbk
            replace hak := Lib.hid hak
            cases bk with
            | false =>
              have hn := hno rfl
              replace hn := Lib.hid hn
              replace hLo := Lib.hid hLo
              clear hyes hno
              go_wp2
              go_roundw
              case measure => simp [intOf]; omega
              case rel => exact ⟨k + 1, L, qv, rfl, by go_num, by omega, by omega, hLo.out, b7, hLs.out, hn.out⟩
            | true =>
              cases ak with
              | false =>
                have hn := hno rfl
                replace hn := Lib.hid hn
                replace hLo := Lib.hid hLo
                clear hyes hno
                go_wp2
                go_roundw
                case measure => simp [intOf]; omega
                case rel => exact ⟨k + 1, L, qv, rfl, by go_num, by omega, by omega, hLo.out, b7, hLs.out, hn.out⟩
              | true =>
                have hy := hyes rfl
                replace hy := Lib.hid hy
                clear hyes hno
                have hB7 : w6.heap.size ≤ wo.heap.size := b7.size
                go_wp2_with (at_builtin; refine wpl_app1 rfl _ _ rfl w6.heap.size qv (castI L) k hLo rfl rfl (by rw [castI_len]; omega) hB7 ?_)
                intro qv' w8 ho8 b8 hal8
                replace ho8 := Lib.hid ho8
                clear hal8 hLo
                go_wp2
                go_roundw
                case measure => simp [intOf]; omega
                case rel => exact ⟨k + 1, L ++ [k], qv', rfl, by go_num, by omega, by rw [List.length_append]; simp only [List.length_cons, List.length_nil]; omega, by rw [castI_snoc]; exact ho8.out, b7.trans b8, hsrt2.out, hy.out⟩
          · obtain rfl : k = G.length := by omega
            have hLL : LiveList G.length (adjOf G) L := ⟨hLs, fun v => by
              rw [hLm v]
              constructor
              · rintro ⟨a, b⟩; exact ⟨a, (hboth.out v a).1 b⟩
              · rintro ⟨a, b⟩; exact ⟨a, (hboth.out v a).2 b⟩⟩
            obtain ⟨qa, qn, qc, rfl⟩ := hLo.at.shape
            replace hLL := Lib.hid hLL
            replace hLo := Lib.hid hLo
            replace hLm := Lib.hid hLm
            replace hLs := Lib.hid hLs
            go_wp2
            go_ret2
            exact ⟨_, _, rfl, Below.step hw6 b7, ⟨by rw [hck.out]; rfl, ⟨fun _ => ⟨L, hLL.out, hLo.out.mono hw6.size⟩, fun q => absurd hck.out q⟩⟩⟩
end Go.Proofs.YtdldadgnggaopaaDoor

namespace Go.Proofs.YtdldadgnggaopaaDoor
open Go.RowKit
set_option maxRecDepth 100000

theorem oddTo_keep (G : List (List Int)) (k : Nat) (h : 0 ≤ oddTo G k) : ∀ d, oddTo G (k + d) = oddTo G k
  | 0 => rfl
  | d + 1 => by
    have ih := oddTo_keep G k h d
    show oddTo G (k + d + 1) = _
    simp only [oddTo]
    rw [if_neg (by omega), ih]
theorem oddTo_hit {G : List (List Int)} {k : Nat} (hk : oddTo G k < 0) {t : Int} (ht : t ∈ G.getD k []) (ho : oddT G.length t = true) : oddTo G (k + 1) = k := by
  simp only [oddTo]
  rw [if_pos hk, if_pos]
  rcases idxOf_cases (oddT G.length) (G.getD k []) with ⟨_, q⟩ | ⟨i, q, _⟩
  · rw [q t ht] at ho; cases ho
  · omega
theorem oddTo_miss {G : List (List Int)} {k : Nat} (hk : oddTo G k < 0) (h : ∀ t ∈ G.getD k [], oddT G.length t = false) : oddTo G (k + 1) < 0 := by
  simp only [oddTo]
  rw [if_pos hk]
  rcases idxOf_cases (oddT G.length) (G.getD k []) with ⟨q, _⟩ | ⟨i, _, q1, q2⟩
  · rw [if_neg (by omega)]; exact hk
  · exfalso
    simp_all

set_option maxHeartbeats 2000000 in
theorem ref12_check (na : Option Addr) (nc : Nat) (G : List (List Int)) (w : World) (h : ListsAt w (.slice na G.length nc) G) (hsz : ∀ k, k < G.length → (G.getD k []).length ≤ 17592186044416) :
    Calls Tryd.prog 27 #[.slice na G.length nc] w (Ret1 (fun x w' => EOwn w.heap.size w' (checkG G) x) w) := by
  have b0 := belowAlloc w (.cells #[.int .i64 0, .slice none 0 0, .slice none 0 0] 45)
  have bx := cells3 (Below.refl (w.alloc (.cells #[.int .i64 0, .slice none 0 0, .slice none 0 0] 45)).heap.size (w.alloc (.cells #[.int .i64 0, .slice none 0 0, .slice none 0 0] 45)))
  replace h := h.below b0
  have hsW : (w.alloc (.cells #[.int .i64 0, .slice none 0 0, .slice none 0 0] 45)).heap.size = w.heap.size + 1 := by simp
  by_cases h8 : 8192 < G.length
  · have hE : checkG G = fresh sGraph 0 4 := by unfold checkG; rw [if_pos h8]
    clear h hsz bx
    go_enter Tryd.func27, Tryd.ntmps27
    go_wp2_with fail
    refine (raw_new _ _ _ _).mono ?_
    rintro e w1 ⟨x, rfl, b1, he⟩
    obtain ⟨q, a1, n1, c1, a2, n2, c2, rfl⟩ := he.shape
    obtain ⟨y0, y1, y2, f0, f1, f2⟩ := cells3 b1
    replace he := Lib.hid he
    replace hE := Lib.hid hE
    go_wp2
    refine bodyPost_ret (v := .agg #[.int .i64 q, .slice a1 n1 c1, .slice a2 n2 c2]) (by simp [results, Tryd.results27, go_sem, y0, y1, y2]) rfl ⟨_, rfl, below_set3 (Below.step b0 b1) (by simp) _ _ _, ?_⟩
    rw [hE.out]
    exact (he.out.set3 (by simp) _ _ _).mono (by simp)
  · replace h := Lib.hid h
    replace hsz := Lib.hid hsz
    go_enter Tryd.func27, Tryd.ntmps27
    go_wp2_with fail
    obtain ⟨W0, hW0⟩ : ∃ W0 : World, W0 = w.alloc (.cells #[.int .i64 0, .slice none 0 0, .slice none 0 0] 45) := ⟨_, rfl⟩
    rw [← hW0] at b0 bx h hsW ⊢
    clear hW0
    go_loopw [3, 4] (fun nv kv wr => ∃ k : Nat, k ≤ G.length ∧ kv = .int .i64 k ∧ nv = .int .i64 (arrowsTo G k) ∧ arrowsTo G k ≤ 262144 ∧ wr = W0) (fun _ kv _ => G.length - (intOf kv).toNat)
    case atStart => exact ⟨0, by omega, rfl, rfl, by simp [arrowsTo], rfl⟩
    case round =>
      obtain ⟨k, hk, rfl, rfl, hle, rfl⟩ := hrel
      by_cases hlt : k < G.length
      · obtain ⟨mv, iR, cR, hM⟩ := h.out.row k hlt
        have hll := hsz.out k hlt
        have ha1 : arrowsTo G (k + 1) = arrowsTo G k + (G.getD k []).length := rfl
        have lenM := hM.len
        generalize (G.getD k []).length = gl at *
        generalize valAt (.slice na G.length nc) k = ra at *
        have hwr : IntKind.i64.wrap ((arrowsTo G k : Int) + (gl : Int)) = (arrowsTo G k : Int) + (gl : Int) := wrapK (by omega) (by omega)
        by_cases hbig : 262144 < arrowsTo G k + gl
        · have hE : checkG G = fresh sGraph 1 4 := by
            unfold checkG
            rw [if_neg h8, if_pos]
            have := arrowsTo_mono G (show k + 1 ≤ G.length by omega)
            omega
          have hbig2 : decide ((262144 : Int) < (arrowsTo G k : Int) + (gl : Int)) = true := by simp; omega
          obtain ⟨ak, hak⟩ : ∃ ak, arrowsTo G k = ak := ⟨_, rfl⟩
          rw [hak] at hle hwr hbig hbig2 ⊢
          replace hak := Lib.hid hak
          replace ha1 := Lib.hid ha1
          replace hE := Lib.hid hE
          replace hM := Lib.hid hM
          go_wp2_with fail
          refine (raw_new _ _ _ _).mono ?_
          rintro e w1 ⟨x, rfl, b1, he⟩
          obtain ⟨q, a1, n1, c1, a2, n2, c2, rfl⟩ := he.shape
          obtain ⟨y0, y1, y2⟩ := keep3 b1 ⟨bx.1, bx.2.1, bx.2.2.1⟩
          have hlt0 : w.heap.size < wr.heap.size := by omega
          have f0 := (b1.frozen (p := ⟨w.heap.size, 0, none⟩) hlt0).trans bx.2.2.2.1
          have f1 := (b1.frozen (p := ⟨w.heap.size, 1, none⟩) hlt0).trans bx.2.2.2.2.1
          have f2 := (b1.frozen (p := ⟨w.heap.size, 2, none⟩) hlt0).trans bx.2.2.2.2.2
          replace he := Lib.hid he
          clear bx iR cR lenM
          go_wp2
          refine bodyPost_ret (v := .agg #[.int .i64 q, .slice a1 n1 c1, .slice a2 n2 c2]) (by simp [results, Tryd.results27, go_sem, y0, y1, y2]) rfl ⟨_, rfl, below_set3 (Below.step b0 b1) (by omega) _ _ _, ?_⟩
          rw [hE.out]
          exact (he.out.set3 (by omega) _ _ _).mono (by omega)
        · have hbig2 : decide ((262144 : Int) < (arrowsTo G k : Int) + (gl : Int)) = false := by simp; omega
          obtain ⟨ak, hak⟩ : ∃ ak, arrowsTo G k = ak := ⟨_, rfl⟩
          rw [hak] at hle hwr hbig hbig2 ha1 ⊢
          replace hak := Lib.hid hak
          replace ha1 := Lib.hid ha1
          replace hM := Lib.hid hM
          replace bx := Lib.hid bx
          go_wp2
          go_roundw
          case measure => simp [intOf]; omega
          case rel => exact ⟨k + 1, by omega, by go_num, by rw [ha1.out]; go_num, by rw [ha1.out]; omega, by trivial⟩
      · obtain rfl : k = G.length := by omega
        have hE2 : checkG G = if 0 ≤ oddTo G G.length then fresh sGraph (oddTo G G.length) 1 else none := by
          unfold checkG; rw [if_neg h8, if_neg (by omega)]
        replace hE2 := Lib.hid hE2
        generalize arrowsTo G G.length = an at *
        replace bx := Lib.hid bx
        go_wp2_with fail
        go_loopw [5] (fun kv w2 => ∃ k : Nat, k ≤ G.length ∧ kv = .int .i64 k ∧ oddTo G k < 0 ∧ w2 = wr) (fun kv _ => G.length - (intOf kv).toNat)
        case atStart => exact ⟨0, by omega, rfl, by simp [oddTo], rfl⟩
        case round =>
          obtain ⟨k, hk, rfl, hodd, rfl⟩ := hrel
          by_cases hlt : k < G.length
          · obtain ⟨mv, iR, cR, hM⟩ := h.out.row k hlt
            have hll := hsz.out k hlt
            have hhit := fun (t : Int) => oddTo_hit (G := G) (k := k) hodd (t := t)
            have hmiss := oddTo_miss (G := G) (k := k) hodd
            generalize G.getD k [] = gx at *
            have lenM := hM.len
            generalize valAt (.slice na G.length nc) k = ra at *
            replace hodd := Lib.hid hodd
            replace hhit := Lib.hid hhit
            replace hmiss := Lib.hid hmiss
            replace hM := Lib.hid hM
            go_wp2_with fail
            go_loopw [6] (fun jv w2 => ∃ j : Nat, j ≤ gx.length ∧ jv = .int .i64 j ∧ (∀ t ∈ gx.take j, oddT G.length t = false) ∧ w2 = wr) (fun jv _ => gx.length - (intOf jv).toNat)
            case atStart => exact ⟨0, by omega, rfl, fun t ht => by simp at ht, rfl⟩
            case round =>
              obtain ⟨j, hj, rfl, hnot, rfl⟩ := hrel
              by_cases hjl : j < gx.length
              · obtain ⟨t, ht⟩ : ∃ t, gx[j]? = some t := ⟨_, List.getElem?_eq_getElem hjl⟩
                have htm := List.mem_of_getElem? ht
                have htk : gx.take (j + 1) = gx.take j ++ [t] := by rw [List.take_add_one, ht]; rfl
                have iT := fun w' => hM.out.idx j hjl w'
                have cT := hM.out.cellD j hjl
                rw [List.getD_eq_getElem?_getD, ht, Option.getD_some] at cT
                generalize valAt mv j = ja at *
                by_cases hot : oddT G.length t = true
                · have hE : checkG G = fresh sGraph (k : Int) 1 := by
                    have h1 := hhit.out t htm hot
                    have h2 := oddTo_keep G (k + 1) (by omega) (G.length - (k + 1))
                    rw [show k + 1 + (G.length - (k + 1)) = G.length by omega, h1] at h2
                    rw [hE2.out, h2, if_pos (by omega)]
                  replace hE := Lib.hid hE
                  replace hnot := Lib.hid hnot
                  replace htk := Lib.hid htk
                  replace ht := Lib.hid ht
                  obtain ⟨x0, x1, x2, g0, g1, g2⟩ := bx.out
                  by_cases ht0 : t < 0
                  · replace hot := Lib.hid hot
                    go_wp2_with fail
                    refine (raw_new _ _ _ _).mono ?_
                    rintro e w1 ⟨x, rfl, b1, he⟩
                    obtain ⟨q, a1, n1, c1, a2, n2, c2, rfl⟩ := he.shape
                    obtain ⟨y0, y1, y2⟩ := keep3 b1 ⟨x0, x1, x2⟩
                    have hlt0 : w.heap.size < wr.heap.size := by omega
                    have f0 := (b1.frozen (p := ⟨w.heap.size, 0, none⟩) hlt0).trans g0
                    have f1 := (b1.frozen (p := ⟨w.heap.size, 1, none⟩) hlt0).trans g1
                    have f2 := (b1.frozen (p := ⟨w.heap.size, 2, none⟩) hlt0).trans g2
                    replace he := Lib.hid he
                    clear x0 x1 x2 g0 g1 g2 iR cR lenM iT cT
                    go_wp2
                    refine bodyPost_ret (v := .agg #[.int .i64 q, .slice a1 n1 c1, .slice a2 n2 c2]) (by simp [results, Tryd.results27, go_sem, y0, y1, y2]) rfl ⟨_, rfl, below_set3 (Below.step b0 b1) (by omega) _ _ _, ?_⟩
                    rw [hE.out]
                    exact (he.out.set3 (by omega) _ _ _).mono (by omega)
                  · have hge : (G.length : Int) ≤ t := by simp [oddT] at hot; omega
                    replace hot := Lib.hid hot
                    go_wp2_with fail
                    refine (raw_new _ _ _ _).mono ?_
                    rintro e w1 ⟨x, rfl, b1, he⟩
                    obtain ⟨q, a1, n1, c1, a2, n2, c2, rfl⟩ := he.shape
                    obtain ⟨y0, y1, y2⟩ := keep3 b1 ⟨x0, x1, x2⟩
                    have hlt0 : w.heap.size < wr.heap.size := by omega
                    have f0 := (b1.frozen (p := ⟨w.heap.size, 0, none⟩) hlt0).trans g0
                    have f1 := (b1.frozen (p := ⟨w.heap.size, 1, none⟩) hlt0).trans g1
                    have f2 := (b1.frozen (p := ⟨w.heap.size, 2, none⟩) hlt0).trans g2
                    replace he := Lib.hid he
                    clear x0 x1 x2 g0 g1 g2 iR cR lenM iT cT
                    go_wp2
                    refine bodyPost_ret (v := .agg #[.int .i64 q, .slice a1 n1 c1, .slice a2 n2 c2]) (by simp [results, Tryd.results27, go_sem, y0, y1, y2]) rfl ⟨_, rfl, below_set3 (Below.step b0 b1) (by omega) _ _ _, ?_⟩
                    rw [hE.out]
                    exact (he.out.set3 (by omega) _ _ _).mono (by omega)
                · have ht0 : ¬ t < 0 := by simp [oddT] at hot; omega
                  have hge : ¬ (G.length : Int) ≤ t := by simp [oddT] at hot; omega
                  have hnot2 : ∀ x ∈ gx.take (j + 1), oddT G.length x = false := fun x hx => by
                    rw [htk] at hx
                    rcases List.mem_append.1 hx with hx | hx
                    · exact hnot x hx
                    · cases List.mem_singleton.1 hx; simpa using hot
                  replace hnot2 := Lib.hid hnot2
                  replace hnot := Lib.hid hnot
                  replace htk := Lib.hid htk
                  replace ht := Lib.hid ht
                  replace hot := Lib.hid hot
                  go_wp2
                  go_roundw
                  case measure => simp [intOf]; omega
                  case rel => exact ⟨j + 1, by omega, by go_num, hnot2.out, by trivial⟩
              · obtain rfl : j = gx.length := by omega
                rw [List.take_length] at hnot
                have hm := hmiss.out hnot
                replace hm := Lib.hid hm
                replace hnot := Lib.hid hnot
                go_wp2
                go_roundw
                case measure => simp [intOf]; omega
                case rel => exact ⟨k + 1, by omega, by go_num, hm.out, by trivial⟩
          · obtain rfl : k = G.length := by omega
            have hE : checkG G = none := by rw [hE2.out, if_neg (by omega)]
            replace hE := Lib.hid hE
            replace hodd := Lib.hid hodd
            obtain ⟨y0, y1, y2, f0, f1, f2⟩ := bx.out
            go_wp2
            refine bodyPost_ret (v := zErr) (by simp [results, Tryd.results27, go_sem, y0, y1, y2]) rfl ⟨_, rfl, below_set3 b0 (by omega) _ _ _, ?_⟩
            rw [hE.out]
            exact rfl
end Go.Proofs.YtdldadgnggaopaaDoor

namespace Go.Proofs.YtdldadgnggaopaaDoor
open Go.RowKit
set_option maxRecDepth 100000

theorem oddTo_ok {G : List (List Int)} (hok : GraphOk G) : ∀ k, k ≤ G.length → oddTo G k < 0
  | 0, _ => by simp [oddTo]
  | k + 1, hk => oddTo_miss (oddTo_ok hok k (by omega)) fun t ht => by
    have := hok k (by omega) t ht
    simp [oddT]; omega
theorem checkG_ok {G : List (List Int)} (h1 : G.length ≤ 8192) (h2 : arrowsTo G G.length ≤ 262144) (hok : GraphOk G) : checkG G = none := by
  unfold checkG
  rw [if_neg (by omega), if_neg (by omega), if_neg (by have := oddTo_ok hok G.length (Nat.le_refl _); omega)]
section
variable {K N : Nat} {T : List Int}
theorem pairG_len : (pairG K N T).length = N * N := rowsOf_len _ _
theorem pairG_row {p : Nat} (hp : p < N * N) : (pairG K N T).getD p [] = castI (pairL K N T p) := rowsOf_get _ _ _ hp
theorem pairG_adj {p : Nat} (hp : p < N * N) : adjOf (pairG K N T) p = pairL K N T p := by
  unfold adjOf
  rw [pairG_row hp, castI, List.map_map]
  exact List.map_id _
theorem pairG_ok (hN : 0 < N) : GraphOk (pairG K N T) := by
  intro v hv t ht
  rw [pairG_len] at hv
  rw [pairG_row hv] at ht
  obtain ⟨q, hq, rfl⟩ := List.mem_map.1 ht
  have := ((mem_pairL hN).1 hq).lt hN
  rw [pairG_len]
  omega
theorem pairG_arrows : ∀ k, k ≤ N * N → arrowsTo (pairG K N T) k ≤ k * (K * K)
  | 0, _ => by simp [arrowsTo]
  | k + 1, hk => by
    have := pairG_arrows k (by omega)
    simp only [arrowsTo]
    rw [pairG_row (by omega), castI_len, Nat.add_mul]
    have := pairL_len K N T k
    omega
theorem pairG_check (hN : 0 < N) (hN81 : N ≤ 81) (hNK : N * K ≤ 256) : checkG (pairG K N T) = none := by
  refine checkG_ok ?_ ?_ (pairG_ok hN)
  · rw [pairG_len]; have := Nat.mul_le_mul hN81 hN81; omega
  · rw [pairG_len]
    have := pairG_arrows (K := K) (N := N) (T := T) (N * N) (Nat.le_refl _)
    have h2 := Nat.mul_le_mul hNK hNK
    rw [show N * K * (N * K) = N * N * (K * K) by rw [Nat.mul_assoc, Nat.mul_left_comm K, ← Nat.mul_assoc]] at h2
    omega
theorem pairG_goes (hN : 0 < N) {x y : Nat} (h : Goes (pairL K N T) x y) (hx : x < N * N) : Goes (adjOf (pairG K N T)) x y ∧ y < N * N := by
  induction h with
  | refl => exact ⟨.refl _, hx⟩
  | step h hz ih =>
    exact ⟨.step ih.1 (by rw [pairG_adj ih.2]; exact hz), ((mem_pairL hN).1 hz).lt hN⟩
end
/-- The pairs of equal nodes are live. -/
theorem diag_live {K R : Nat} {T : List Int} {u : Nat} (hK : 1 ≤ K) (hu : u < pw K (2 * R)) : IsLive (pw K (2 * R) * pw K (2 * R)) (adjOf (pairG K (pw K (2 * R)) T)) (u * pw K (2 * R) + u) := by
  have hp := pair_lt hu hu
  have hN : 0 < pw K (2 * R) := by omega
  have ht := toN_lt (K := K) (u := u) (s := 0) hN
  have hl : OnLoop (adjOf (pairG K (pw K (2 * R)) T)) (u * pw K (2 * R) + u) :=
    ⟨toN K (pw K (2 * R)) u 0 * pw K (2 * R) + toN K (pw K (2 * R)) u 0, by rw [pairG_adj hp]; exact diag_arr hu hK, (pairG_goes hN (diag_goes hK ht hu) (pair_lt ht ht)).1⟩
  exact ⟨⟨_, hp, hl, .refl _⟩, ⟨_, hp, hl, .refl _⟩⟩

theorem pgraph_bad (r : Nat → Addr) (k R : Int) (va : Option Addr) (vn vc : Nat) (T : List Int) (t : Int × List (ByteArray × Int)) (w : World) (hg : Glob r w) (h : IntsAt w (.slice va vn vc) T) (hc : smallP k R T = some t) :
    Calls Tryd.prog 16 #[.agg #[.int .i64 k, .int .i64 R, .slice va vn vc]] w (Ret2 (fun x y w' => x = .slice none 0 0 ∧ ErrIs r w' (under sPairs 0 (some t)) y) w) := by
  have b0 := belowAlloc w (.cells #[.int .i64 k, .int .i64 R, .slice va vn vc] 24)
  replace hg := Lib.hid (hg.below b0)
  replace h := Lib.hid (h.below b0)
  replace hc := Lib.hid hc
  go_enter Tryd.func16, Tryd.ntmps16
  go_wp2_with fail
  refine (working_bad r k R va vn vc T t _ hg.out h.out hc.out).mono ?_
  rintro e w1 ⟨x, y, rfl, b1, rfl, hy⟩
  obtain ⟨T2, a2, rfl⟩ : ∃ T a, y = .iface T (.pointer (some a)) := by
    unfold under at hy
    exact ErrIs.some_shape hy
  have ba := belowAlloc w1 (.cells #[.int .i64 0, .int .i64 0, .slice none 0 0] 24)
  have hy2 := hy.below ba
  replace hy := Lib.hid hy
  replace hy2 := Lib.hid hy2
  go_wp2
  go_ret2
  exact ⟨_, _, rfl, Below.step b0 (Below.step b1 ba), rfl, hy2.out⟩

theorem papart_bad (r : Nat → Addr) (k R : Int) (va : Option Addr) (vn vc : Nat) (T : List Int) (t : Int × List (ByteArray × Int)) (w : World) (hg : Glob r w) (h : IntsAt w (.slice va vn vc) T) (hc : smallP k R T = some t) :
    Calls Tryd.prog 17 #[.agg #[.int .i64 k, .int .i64 R, .slice va vn vc]] w (Ret2 (fun x y w' => x = .slice none 0 0 ∧ ErrIs r w' (under sPairs 0 (some t)) y) w) := by
  have b0 := belowAlloc w (.cells #[.int .i64 k, .int .i64 R, .slice va vn vc] 24)
  replace hg := Lib.hid (hg.below b0)
  replace h := Lib.hid (h.below b0)
  replace hc := Lib.hid hc
  go_enter Tryd.func17, Tryd.ntmps17
  go_wp2_with fail
  refine (pgraph_bad r k R va vn vc T t _ hg.out h.out hc.out).mono ?_
  rintro e w1 ⟨x, y, rfl, b1, rfl, hy⟩
  obtain ⟨T2, a2, rfl⟩ : ∃ T a, y = .iface T (.pointer (some a)) := by
    unfold under at hy
    exact ErrIs.some_shape hy
  replace hy := Lib.hid hy
  go_wp2
  go_ret2
  exact ⟨_, _, rfl, Below.step b0 b1, rfl, hy.out⟩

set_option maxHeartbeats 1000000 in
theorem papart_ok (r : Nat → Addr) (K R : Nat) (va : Option Addr) (vn vc : Nat) (T : List Int) (w : World) (hg : Glob r w) (h : IntsAt w (.slice va vn vc) T) (hr : RuleOk K R T) (hl : T.length ≤ 256) :
    Calls Tryd.prog 17 #[.agg #[.int .i64 K, .int .i64 R, .slice va vn vc]] w (Ret2 (fun x y w' => y = .nilIface ∧ ∃ L, LiveList (pw K (2 * wkR R) * pw K (2 * wkR R)) (adjOf (pairG K (pw K (2 * wkR R)) (wkT K R T))) L ∧ OwnI w.heap.size w' x (castI (L.filter fun p => !decide (Diag (pw K (2 * wkR R)) p)))) w) := by
  have b0 := belowAlloc w (.cells #[.int .i64 K, .int .i64 R, .slice va vn vc] 24)
  have q : Box3 (w.alloc (.cells #[.int .i64 K, .int .i64 R, .slice va vn vc] 24)) w.heap.size (.int .i64 K) (.int .i64 R) (.slice va vn vc) := by simp [Box3, go_sem]
  have hk1 := hr.k1
  have hk4 := hr.k4
  have hokW := wk_ok hr
  have hlW := wk_small hr hl
  have hRW := wk_pos R
  have hN81 := nodes_le hokW hRW hlW
  obtain ⟨hdiv, hlen⟩ := hokW.half
  have hN1 := pw_pos (K := K) (2 * wkR R) hk1
  have hNK : pw K (2 * wkR R) * K ≤ 256 := by rw [← hlen]; exact hlW
  have hck := pairG_check (K := K) (N := pw K (2 * wkR R)) (T := wkT K R T) (by omega) hN81 hNK
  have hlive0 := diag_live (K := K) (R := wkR R) (T := wkT K R T) (u := 0) hk1 (by omega)
  have hgraph := fun (w' : World) (hgl : Glob r w') (hT : IntsAt w' (.slice va vn vc) T) => pgraph_ok r K R va vn vc T w' hgl hT hr hl
  have hwork := fun (w' : World) (hgl : Glob r w') (hT : IntsAt w' (.slice va vn vc) T) => working_ok r K R va vn vc T w' hgl hT hr hl
  have hNodes := fun (a : Option Addr) (n c : Nat) (w' : World) (hgl : Glob r w') (hT : IntsAt w' (.slice a n c) (wkT K R T)) => over_Nodes r K (wkR R) a n c (wkT K R T) w' hgl hT hokW hlW
  rw [hdiv] at hNodes
  generalize pw K (2 * wkR R) = N at *
  generalize wkT K R T = T' at *
  generalize wkR R = R' at *
  rw [Nat.zero_mul, Nat.zero_add] at hlive0
  replace hgraph := Lib.hid hgraph
  replace hwork := Lib.hid hwork
  replace hNodes := Lib.hid hNodes
  replace hck := Lib.hid hck
  replace hlive0 := Lib.hid hlive0
  replace hg := Lib.hid (hg.below b0)
  replace h := Lib.hid (h.below b0)
  replace hokW := Lib.hid hokW
  replace hr := Lib.hid hr
  replace hdiv := Lib.hid hdiv
  replace hlen := Lib.hid hlen
  go_enter Tryd.func17, Tryd.ntmps17
  go_wp2_with fail
  refine (hgraph.out _ hg.out h.out).mono ?_
  rintro e w1 ⟨gv, y, rfl, b1, rfl, f, vals, hrows, hwn⟩
  have hL : ListsAt w1 gv (pairG K N T') := hwn.lists hrows
  obtain ⟨ga, gc, rfl⟩ := hL.shape
  have hsz : ∀ k, k < (pairG K N T').length → ((pairG K N T').getD k []).length ≤ 17592186044416 := fun k hk => by
    rw [pairG_len] at hk
    rw [pairG_row hk, castI_len]
    have := pairL_len K N T' k
    have := Nat.mul_le_mul hk4 hk4
    omega
  have hM6 : N * N ≤ 6561 := Nat.mul_le_mul hN81 hN81
  replace hrows := Lib.hid hrows
  replace hwn := Lib.hid hwn
  replace hL := Lib.hid hL
  replace hsz := Lib.hid hsz
  go_wp2_with fail
  refine (live_any r ga gc (pairG K N T') w1 (hg.out.below b1) hL.out hsz.out).mono ?_
  rintro e w2 ⟨lv, y, rfl, b2, he, hls, _⟩
  rw [hck.out] at he hls
  obtain rfl := he.none_eq
  obtain ⟨L, hLL, ho⟩ := hls rfl
  rw [pairG_len] at hLL
  clear hls he
  have b12 := Below.step b1 b2
  have q2 := q.below b12
  obtain ⟨⟨z0, z1, z2⟩, -, -, -⟩ := q2
  replace hLL := Lib.hid hLL
  replace ho := Lib.hid ho
  go_wp2_with fail
  refine (hwork.out w2 (hg.out.below b12) (h.out.below b12)).mono ?_
  rintro e w3 ⟨x, y, rfl, b3, rfl, a, n, c, rfl, hT3⟩
  clear z0 z1 z2
  have b13 := Below.step b12 b3
  have ba := belowAlloc w3 (.cells #[.int .i64 K, .int .i64 R', .slice a n c] 24)
  have b14 := Below.step b13 ba
  have hT4 := hT3.below ba
  replace hT3 := Lib.hid hT3
  replace hT4 := Lib.hid hT4
  go_wp2_with fail
  refine (hNodes.out a n c _ (hg.out.below b14) hT4.out).mono ?_
  rintro e w5 ⟨x, y, rfl, b5, rfl, rfl⟩
  have b15 := Below.step b14 b5
  have bb := belowAlloc w5 (.cells #[.int .i64 N] 3)
  have b16 := Below.step b15 bb
  have b26 := Below.step b3 (Below.step ba (Below.step b5 bb))
  have ho6 := ho.out.below b26
  have cN : (w5.alloc (.cells #[.int .i64 N] 3)).cell? ⟨w5.heap.size, 0, none⟩ = some (.int .i64 N) := by simp [go_sem]
  have hne : lv.ownBlock ≠ some w5.heap.size := fun e => by
    have h1 := (ho.out.lt _ e).2
    have h2 := (Below.step b3 (Below.step ba b5)).size
    omega
  have hLne : castI L ≠ [] := fun e => by
    have : L = [] := by cases L with | nil => rfl | cons a l => simp [castI] at e
    have h0 := (hLL.out.mem 0).2 ⟨by have := Nat.mul_le_mul hN1 hN1; omega, hlive0.out⟩
    rw [this] at h0; cases h0
  replace ho6 := Lib.hid ho6
  replace hne := Lib.hid hne
  replace hLne := Lib.hid hLne
  replace cN := Lib.hid cN
  go_wp2_with fail
  refine (delete_own w1.heap.size lv (castI L) w5.heap.size N _ ho6.out hLne.out hN1 cN.out hne.out).mono ?_
  rintro e w7 ⟨x, rfl, _, ho7, b7⟩
  have hF : (castI L).filter (fun x => !dgI N x) = castI (L.filter fun p => !decide (Diag N p)) := by
    unfold castI
    rw [List.filter_map]
    congr 1
    refine List.filter_congr fun p hp => ?_
    have := ((hLL.out.mem p).1 hp).1
    show (!dgI N (p : Int)) = _
    rw [dgI_nat (by omega)]
  rw [hF] at ho7
  obtain ⟨xa, xn, xc, rfl⟩ := ho7.at.shape
  have ho8 := ho7.mono (B' := w.heap.size) (Nat.le_trans b0.size b1.size)
  have bE := (Below.step b0 b1).trans ((Below.step b2 b26).trans b7 |>.mono (Nat.le_trans b0.size b1.size))
  replace ho7 := Lib.hid ho7
  replace ho8 := Lib.hid ho8
  replace hF := Lib.hid hF
  go_wp2
  go_ret2
  exact ⟨_, _, rfl, bE, rfl, L, hLL.out, ho8.out⟩
end Go.Proofs.YtdldadgnggaopaaDoor

namespace Go.Proofs.YtdldadgnggaopaaDoor
open Go.RowKit
set_option maxRecDepth 100000

/-- No vertex of G. -/
def outG (G : List (List Int)) (a : Int) : Prop := a < 0 ∨ (G.length : Int) ≤ a
instance (G : List (List Int)) (a : Int) : Decidable (outG G a) := by unfold outG; infer_instance
/-- What Path tells of its arguments. -/
def pathE (G : List (List Int)) (a b : Int) : PErr :=
  match checkG G with
  | some t => some t
  | none => if outG G a then fresh sGraph 1 3 else if outG G b then fresh sGraph 2 3 else none
theorem pathE_none {G : List (List Int)} {a b : Int} (h : pathE G a b = none) : checkG G = none ∧ ∃ x y : Nat, a = x ∧ b = y ∧ x < G.length ∧ y < G.length := by
  unfold pathE at h
  cases hc : checkG G with
  | some t => rw [hc] at h; cases h
  | none =>
    rw [hc] at h
    dsimp only at h
    by_cases ha : outG G a
    · rw [if_pos ha] at h; cases h
    rw [if_neg ha] at h
    by_cases hb : outG G b
    · rw [if_pos hb] at h; cases h
    unfold outG at ha hb
    exact ⟨rfl, a.toNat, b.toNat, by omega, by omega, by omega, by omega⟩
theorem pathE_ok {G : List (List Int)} {x y : Nat} (hc : checkG G = none) (hx : x < G.length) (hy : y < G.length) : pathE G x y = none := by
  unfold pathE
  rw [hc]
  dsimp only
  rw [if_neg (by unfold outG; omega), if_neg (by unfold outG; omega)]
/-- What Path leaves. -/
def PathPost (r : Nat → Addr) (w : World) (G : List (List Int)) (a b : Int) (x y : Value) (w' : World) : Prop :=
  ErrIs r w' (pathE G a b) y ∧ (pathE G a b = none → FirstPost w (adjOf G) a.toNat b.toNat x w') ∧ (pathE G a b ≠ none → x = .slice none 0 0)
theorem FirstPost.step {w1 w2 w3 : World} {adj : Nat → List Nat} {a b : Nat} {x : Value} (h : FirstPost w2 adj a b x w3) (hs : w1.heap.size ≤ w2.heap.size) : FirstPost w1 adj a b x w3 := by
  rcases h with ⟨u, h1, h2⟩ | h
  · exact .inl ⟨u, h1, h2.mono hs⟩
  · exact .inr h
theorem FirstPost.shape {w w' : World} {adj : Nat → List Nat} {a b : Nat} {x : Value} (h : FirstPost w adj a b x w') : ∃ p n c, x = .slice p n c := by
  rcases h with ⟨u, _, h2⟩ | ⟨_, h⟩
  · exact h2.at.shape
  · exact ⟨_, _, _, h⟩

set_option maxHeartbeats 4000000 in
theorem path_any (r : Nat → Addr) (na : Option Addr) (nc : Nat) (G : List (List Int)) (a b : Int) (w : World) (hg : Glob r w) (h : ListsAt w (.slice na G.length nc) G) (hsz : ∀ k, k < G.length → (G.getD k []).length ≤ 17592186044416) :
    Calls Tryd.prog 29 #[.slice na G.length nc, .int .i64 a, .int .i64 b] w (Ret2 (PathPost r w G a b) w) := by
  have hC := graph_check r na nc G w hg h hsz
  cases hck : checkG G with
  | some t =>
    rw [hck] at hC
    have hp : pathE G a b = some t := by unfold pathE; rw [hck]
    replace hp := Lib.hid hp
    replace hck := Lib.hid hck
    replace h := Lib.hid h
    replace hg := Lib.hid hg
    replace hsz := Lib.hid hsz
    go_enter Tryd.func29, Tryd.ntmps29
    go_wp2_with fail
    refine hC.mono ?_
    rintro e w1 ⟨y, rfl, b1, he⟩
    obtain ⟨T, p, rfl⟩ := he.some_shape
    replace he := Lib.hid he
    go_wp2
    go_ret2
    exact ⟨_, _, rfl, b1, ⟨by rw [hp.out]; exact he.out, ⟨fun q => (by rw [hp.out] at q; cases q), fun _ => rfl⟩⟩⟩
  | none =>
    rw [hck] at hC
    obtain ⟨hn, harr, hok⟩ := checkG_none hck
    by_cases ha : outG G a
    · have hp : pathE G a b = fresh sGraph 1 3 := by unfold pathE; rw [hck]; dsimp only; rw [if_pos ha]
      replace hp := Lib.hid hp
      replace hck := Lib.hid hck
      replace h := Lib.hid h
      replace hg := Lib.hid hg
      replace hsz := Lib.hid hsz
      replace hok := Lib.hid hok
      rcases ha with ha | ha
      · go_enter Tryd.func29, Tryd.ntmps29
        go_wp2_with fail
        refine hC.mono ?_
        rintro e w1 ⟨y, rfl, b1, he⟩
        obtain rfl := he.none_eq
        clear he hC
        go_wp2_with fail
        refine (graph_wrong r _ _ _ (hg.out.below b1) (by decide) (by decide)).mono ?_
        rintro e w2 ⟨y, rfl, b2, he⟩
        replace he := Lib.hid he
        go_wp2
        go_ret2
        exact ⟨_, _, rfl, Below.step b1 b2, ⟨by rw [hp.out]; exact he.out, ⟨fun q => (by rw [hp.out] at q; cases q), fun _ => rfl⟩⟩⟩
      · have ha0 : ¬ a < 0 := by omega
        go_enter Tryd.func29, Tryd.ntmps29
        go_wp2_with fail
        refine hC.mono ?_
        rintro e w1 ⟨y, rfl, b1, he⟩
        obtain rfl := he.none_eq
        clear he hC
        go_wp2_with fail
        refine (graph_wrong r _ _ _ (hg.out.below b1) (by decide) (by decide)).mono ?_
        rintro e w2 ⟨y, rfl, b2, he⟩
        replace he := Lib.hid he
        go_wp2
        go_ret2
        exact ⟨_, _, rfl, Below.step b1 b2, ⟨by rw [hp.out]; exact he.out, ⟨fun q => (by rw [hp.out] at q; cases q), fun _ => rfl⟩⟩⟩
    · have ha1 : 0 ≤ a ∧ a < G.length := by unfold outG at ha; omega
      obtain ⟨ha1, ha2⟩ := ha1
      by_cases hb : outG G b
      · have hp : pathE G a b = fresh sGraph 2 3 := by unfold pathE; rw [hck]; dsimp only; rw [if_neg ha, if_pos hb]
        replace hp := Lib.hid hp
        replace hck := Lib.hid hck
        replace h := Lib.hid h
        replace hg := Lib.hid hg
        replace hsz := Lib.hid hsz
        replace hok := Lib.hid hok
        clear ha
        rcases hb with hb | hb
        · go_enter Tryd.func29, Tryd.ntmps29
          go_wp2_with fail
          refine hC.mono ?_
          rintro e w1 ⟨y, rfl, b1, he⟩
          obtain rfl := he.none_eq
          clear he hC
          go_wp2_with fail
          refine (graph_wrong r _ _ _ (hg.out.below b1) (by decide) (by decide)).mono ?_
          rintro e w2 ⟨y, rfl, b2, he⟩
          replace he := Lib.hid he
          go_wp2
          go_ret2
          exact ⟨_, _, rfl, Below.step b1 b2, ⟨by rw [hp.out]; exact he.out, ⟨fun q => (by rw [hp.out] at q; cases q), fun _ => rfl⟩⟩⟩
        · have hb0 : ¬ b < 0 := by omega
          go_enter Tryd.func29, Tryd.ntmps29
          go_wp2_with fail
          refine hC.mono ?_
          rintro e w1 ⟨y, rfl, b1, he⟩
          obtain rfl := he.none_eq
          clear he hC
          go_wp2_with fail
          refine (graph_wrong r _ _ _ (hg.out.below b1) (by decide) (by decide)).mono ?_
          rintro e w2 ⟨y, rfl, b2, he⟩
          replace he := Lib.hid he
          go_wp2
          go_ret2
          exact ⟨_, _, rfl, Below.step b1 b2, ⟨by rw [hp.out]; exact he.out, ⟨fun q => (by rw [hp.out] at q; cases q), fun _ => rfl⟩⟩⟩
      · have hb1 : 0 ≤ b ∧ b < G.length := by unfold outG at hb; omega
        obtain ⟨hb1, hb2⟩ := hb1
        have hp : pathE G a b = none := by unfold pathE; rw [hck]; dsimp only; rw [if_neg ha, if_neg hb]
        obtain ⟨x, rfl⟩ := Int.eq_ofNat_of_zero_le ha1
        obtain ⟨y, rfl⟩ := Int.eq_ofNat_of_zero_le hb1
        have hx : x < G.length := by omega
        have hy : y < G.length := by omega
        clear ha hb ha1 hb1 ha2 hb2
        replace hp := Lib.hid hp
        replace hck := Lib.hid hck
        replace h := Lib.hid h
        replace hg := Lib.hid hg
        replace hsz := Lib.hid hsz
        replace hok := Lib.hid hok
        go_enter Tryd.func29, Tryd.ntmps29
        go_wp2_with fail
        refine hC.mono ?_
        rintro e w1 ⟨y', rfl, b1, he⟩
        obtain rfl := he.none_eq
        clear he hC
        go_wp2_with fail
        refine (first_any na nc G x y _ (h.out.below b1) hok.out (by omega) hx hy hsz.out).mono ?_
        rintro e w2 ⟨z, rfl, b2, hz⟩
        obtain ⟨zp, zn, zc, rfl⟩ := hz.shape
        replace hz := Lib.hid hz
        go_wp2
        go_ret2
        exact ⟨_, _, rfl, Below.step b1 b2, ⟨by rw [hp.out]; rfl, ⟨fun _ => by rw [Int.toNat_natCast, Int.toNat_natCast]; exact hz.out.step b1.size, fun q => absurd hp.out q⟩⟩⟩
end Go.Proofs.YtdldadgnggaopaaDoor

namespace Go.Proofs.YtdldadgnggaopaaDoor
open Go.RowKit
set_option maxRecDepth 100000

/-- Arrows to v now lead to n. -/
def mapW (v n : Nat) (l : List Int) : List Int := l.map fun t => if t = (v : Int) then (n : Int) else t
theorem mapW_len (v n : Nat) (l : List Int) : (mapW v n l).length = l.length := by simp [mapW]
/-- The lists behind the first k. -/
def wideTo (G : List (List Int)) (v k : Nat) : Nat → List Int := fun u => if u < k then mapW v G.length (G.getD u []) else []
def wideG (G : List (List Int)) (v : Nat) : List (List Int) := rowsOf (G.length + 1) (wideTo G v G.length)
/-- Within a list: the first j. -/
def midW (v n : Nat) (l : List Int) (j : Nat) : List Int := mapW v n (l.take j) ++ l.drop j
theorem midW_zero (v n : Nat) (l : List Int) : midW v n l 0 = l := by simp [midW, mapW]
theorem midW_full (v n : Nat) (l : List Int) : midW v n l l.length = mapW v n l := by simp [midW]
theorem midW_len (v n : Nat) (l : List Int) (j : Nat) (hj : j ≤ l.length) : (midW v n l j).length = l.length := by simp [midW, mapW_len]; omega
theorem mapW_append (v n : Nat) (a b : List Int) : mapW v n (a ++ b) = mapW v n a ++ mapW v n b := by unfold mapW; exact List.map_append
theorem midW_next (v n : Nat) (l : List Int) (j : Nat) (hj : j < l.length) : midW v n l (j + 1) = mapW v n (l.take j) ++ (if l[j] = (v : Int) then (n : Int) else l[j]) :: l.drop (j + 1) := by
  unfold midW
  rw [take_snoc l j hj, mapW_append, List.append_assoc]
  rfl
theorem midW_now (v n : Nat) (l : List Int) (j : Nat) (hj : j < l.length) : midW v n l j = mapW v n (l.take j) ++ l[j] :: l.drop (j + 1) := by
  unfold midW
  rw [← List.drop_eq_getElem_cons hj]
theorem midW_step (v n : Nat) (l : List Int) (j : Nat) (hj : j < l.length) : midW v n l (j + 1) = (midW v n l j).set j (if l[j] = (v : Int) then (n : Int) else l[j]) := by
  have hl : (mapW v n (l.take j)).length = j := by rw [mapW_len, List.length_take]; omega
  rw [midW_next v n l j hj, midW_now v n l j hj, List.set_append_right _ _ (by omega), hl, Nat.sub_self, List.set_cons_zero]
theorem midW_same (v n : Nat) (l : List Int) (j : Nat) (hj : j < l.length) (he : l[j] ≠ (v : Int)) : midW v n l (j + 1) = midW v n l j := by
  rw [midW_next v n l j hj, midW_now v n l j hj, if_neg he]
theorem updN_updN {α : Type} (f : Nat → α) (k : Nat) (a b : α) : updN (updN f k a) k b = updN f k b := by
  funext x
  by_cases e : x = k
  · subst e; rw [updN_same, updN_same]
  · rw [updN_other _ _ _ e, updN_other _ _ _ e, updN_other _ _ _ e]
theorem wideTo_succ (G : List (List Int)) (v k : Nat) : updN (wideTo G v k) k (mapW v G.length (G.getD k [])) = wideTo G v (k + 1) := by
  funext u
  unfold wideTo
  by_cases e : u = k
  · subst e; rw [updN_same, if_pos (by omega)]
  · rw [updN_other _ _ _ e]
    by_cases q : u < k
    · rw [if_pos q, if_pos (by omega)]
    · rw [if_neg q, if_neg (by omega)]
theorem wideG_len (G : List (List Int)) (v : Nat) : (wideG G v).length = G.length + 1 := rowsOf_len _ _
theorem wideG_row (G : List (List Int)) (v u : Nat) (hu : u < G.length) : (wideG G v).getD u [] = mapW v G.length (G.getD u []) := by
  unfold wideG
  rw [rowsOf_get _ _ _ (by omega)]
  exact if_pos hu
theorem wideG_last (G : List (List Int)) (v : Nat) : (wideG G v).getD G.length [] = [] := by
  unfold wideG
  rw [rowsOf_get _ _ _ (by omega)]
  exact if_neg (by omega)
theorem wideG_ok {G : List (List Int)} (hok : GraphOk G) (v : Nat) : GraphOk (wideG G v) := by
  intro u hu t ht
  rw [wideG_len] at hu ⊢
  by_cases e : u < G.length
  · rw [wideG_row G v u e] at ht
    obtain ⟨x, hx, rfl⟩ := List.mem_map.1 ht
    have := hok u e x hx
    split <;> omega
  · obtain rfl : u = G.length := by omega
    rw [wideG_last] at ht; cases ht
theorem wide_adj {G : List (List Int)} (hok : GraphOk G) (v : Nat) {u : Nat} (hu : u < G.length) (t : Nat) : t ∈ adjOf (wideG G v) u ↔ (t ≠ v ∧ t ∈ adjOf G u ∧ t < G.length) ∨ (t = G.length ∧ v ∈ adjOf G u) := by
  unfold adjOf
  rw [wideG_row G v u hu]
  simp only [List.mem_map, mapW]
  constructor
  · rintro ⟨y, ⟨x, hx, rfl⟩, rfl⟩
    have := hok u hu x hx
    by_cases e : x = (v : Int)
    · rw [if_pos e]; exact .inr ⟨by simp, x, hx, by rw [e]; simp⟩
    · rw [if_neg e]; exact .inl ⟨by omega, ⟨x, hx, rfl⟩, by omega⟩
  · rintro (⟨h1, ⟨x, hx, rfl⟩, _⟩ | ⟨rfl, x, hx, he⟩)
    · have := hok u hu x hx
      exact ⟨x, ⟨x, hx, if_neg (by omega)⟩, rfl⟩
    · have := hok u hu x hx
      exact ⟨(G.length : Int), ⟨x, hx, if_pos (by omega)⟩, by simp⟩
theorem wide_end (G : List (List Int)) (v : Nat) : adjOf (wideG G v) G.length = [] := by unfold adjOf; rw [wideG_last]; rfl
/-- What Loop tells of its arguments. -/
def loopE (G : List (List Int)) (a : Int) : PErr :=
  match checkG G with
  | some t => some t
  | none => if outG G a then fresh sGraph 1 3 else none
theorem loopE_ok {G : List (List Int)} {x : Nat} (hc : checkG G = none) (hx : x < G.length) : loopE G x = none := by
  unfold loopE
  rw [hc]
  dsimp only
  rw [if_neg (by unfold outG; omega)]
def LoopWay (w : World) (G : List (List Int)) (v : Nat) (x : Value) (w' : World) : Prop :=
  (∃ u, IsFirst (adjOf (wideG G v)) v G.length u ∧ OwnI w.heap.size w' x (castI u.dropLast)) ∨ (¬ Goes (adjOf (wideG G v)) v G.length ∧ x = .slice none 0 0)
/-- What Loop leaves. -/
def LoopPost (r : Nat → Addr) (w : World) (G : List (List Int)) (a : Int) (x y : Value) (w' : World) : Prop :=
  ErrIs r w' (loopE G a) y ∧ (loopE G a = none → LoopWay w G a.toNat x w') ∧ (loopE G a ≠ none → x = .slice none 0 0)
/-- One's own slice, cut at its end. -/
theorem OwnI.cut {B : Nat} {w : World} {g m c : Nat} {xs : List Int} (h : OwnI B w (.slice (some ⟨g, 0, none⟩) (m + 1) c) xs) (hl : xs.length = m + 1) : OwnI B w (.slice (some ⟨g, 0, none⟩) m c) (xs.take m) := by
  rcases h.2 with ⟨e, _⟩ | ⟨g', cap', cur, e, hB, hg, hn, hm, hs, ht⟩
  · cases e
  · injection e with e1 e2 e3
    injection e1 with e1
    injection e1 with e1
    subst e1; subst e3
    have hml : (xs.take m).length = m := by simp; omega
    refine ⟨by simp, .inr ⟨g, c, cur, by rw [hml], hB, hg, by rw [hml]; omega, hm, hs, ?_⟩⟩
    rw [hml]
    rw [hl] at ht
    have := congrArg (List.take m) ht
    rw [List.take_take] at this
    simp only [Nat.mul_one] at this ⊢
    rw [Nat.min_eq_left (by omega)] at this
    rw [this, List.map_take]

set_option maxHeartbeats 1000000 in
theorem loopG_any (r : Nat → Addr) (na : Option Addr) (nc : Nat) (G : List (List Int)) (a : Int) (w : World) (hg : Glob r w) (h : ListsAt w (.slice na G.length nc) G) (hsz : ∀ k, k < G.length → (G.getD k []).length ≤ 17592186044416) :
    Calls Tryd.prog 31 #[.slice na G.length nc, .int .i64 a] w (Ret2 (LoopPost r w G a) w) := by
  have hC := graph_check r na nc G w hg h hsz
  cases hck : checkG G with
  | some t =>
    rw [hck] at hC
    have hp : loopE G a = some t := by unfold loopE; rw [hck]
    replace hp := Lib.hid hp
    replace hck := Lib.hid hck
    replace h := Lib.hid h
    replace hg := Lib.hid hg
    replace hsz := Lib.hid hsz
    go_enter Tryd.func31, Tryd.ntmps31
    go_wp2_with fail
    refine hC.mono ?_
    rintro e w1 ⟨y, rfl, b1, he⟩
    obtain ⟨T, p, rfl⟩ := he.some_shape
    replace he := Lib.hid he
    go_wp2
    go_ret2
    exact ⟨_, _, rfl, b1, ⟨by rw [hp.out]; exact he.out, ⟨fun q => (by rw [hp.out] at q; cases q), fun _ => rfl⟩⟩⟩
  | none =>
    rw [hck] at hC
    obtain ⟨hn, harr, hok⟩ := checkG_none hck
    by_cases ha : outG G a
    · have hp : loopE G a = fresh sGraph 1 3 := by unfold loopE; rw [hck]; dsimp only; rw [if_pos ha]
      replace hp := Lib.hid hp
      replace hck := Lib.hid hck
      replace h := Lib.hid h
      replace hg := Lib.hid hg
      replace hsz := Lib.hid hsz
      replace hok := Lib.hid hok
      rcases ha with ha | ha
      · go_enter Tryd.func31, Tryd.ntmps31
        go_wp2_with fail
        refine hC.mono ?_
        rintro e w1 ⟨y, rfl, b1, he⟩
        obtain rfl := he.none_eq
        clear he hC
        go_wp2_with fail
        refine (graph_wrong r _ _ _ (hg.out.below b1) (by decide) (by decide)).mono ?_
        rintro e w2 ⟨y, rfl, b2, he⟩
        replace he := Lib.hid he
        go_wp2
        go_ret2
        exact ⟨_, _, rfl, Below.step b1 b2, ⟨by rw [hp.out]; exact he.out, ⟨fun q => (by rw [hp.out] at q; cases q), fun _ => rfl⟩⟩⟩
      · have ha0 : ¬ a < 0 := by omega
        go_enter Tryd.func31, Tryd.ntmps31
        go_wp2_with fail
        refine hC.mono ?_
        rintro e w1 ⟨y, rfl, b1, he⟩
        obtain rfl := he.none_eq
        clear he hC
        go_wp2_with fail
        refine (graph_wrong r _ _ _ (hg.out.below b1) (by decide) (by decide)).mono ?_
        rintro e w2 ⟨y, rfl, b2, he⟩
        replace he := Lib.hid he
        go_wp2
        go_ret2
        exact ⟨_, _, rfl, Below.step b1 b2, ⟨by rw [hp.out]; exact he.out, ⟨fun q => (by rw [hp.out] at q; cases q), fun _ => rfl⟩⟩⟩
    · have ha1 : 0 ≤ a ∧ a < G.length := by unfold outG at ha; omega
      obtain ⟨ha1, ha2⟩ := ha1
      obtain ⟨v, rfl⟩ := Int.eq_ofNat_of_zero_le ha1
      have hv : v < G.length := by omega
      have hp : loopE G (v : Int) = none := loopE_ok hck hv
      have hd1 : decide ((v : Int) < 0) = false := by simp
      have hd2 : decide (G.length ≤ v) = false := by simp; omega
      clear ha ha1 ha2
      replace hp := Lib.hid hp
      replace hck := Lib.hid hck
      replace h := Lib.hid h
      replace hg := Lib.hid hg
      replace hsz := Lib.hid hsz
      replace hok := Lib.hid hok
      go_enter Tryd.func31, Tryd.ntmps31
      go_wp2_with fail
      refine hC.mono ?_
      rintro e w1 ⟨y', rfl, b1, he⟩
      obtain rfl := he.none_eq
      clear he hC
      obtain ⟨ov, w2, mk, ho, hb2⟩ := run_makeW oneLists ((G.length : Int) + 1) (G.length + 1) w1 (by omega) (by omega)
      obtain ⟨f1, hr1, h1⟩ := WN.made (G.length + 1) hb2 (Nat.le_refl _) ho
      have h1 : WN f1 ov (List.replicate (G.length + 1) (.slice none 0 0)) (G.length + 1) (wideTo G v 0) := by
        have : (fun _ : Nat => ([] : List Int)) = wideTo G v 0 := by funext u; unfold wideTo; rw [if_neg (by omega)]
        rw [← this]; exact h1
      obtain ⟨oa, on, oc, rfl⟩ := ho.shape
      replace ho := Lib.hid ho
      replace hr1 := Lib.hid hr1
      go_wp2_with fail
      clear mk
      go_loopw [35] (fun kv wr => ∃ (k : Nat) (f : Names) (vals : List Value), k ≤ G.length ∧ kv = .int .i64 k ∧ Rows w1.heap.size wr f ∧ Below w1.heap.size w1 wr ∧ WN f (.slice oa on oc) vals (G.length + 1) (wideTo G v k)) (fun kv _ => G.length - (intOf kv).toNat)
      case atStart => exact ⟨0, f1, _, by omega, rfl, hr1.out, hb2, h1⟩
      case round =>
        clear h1 ho hr1
        obtain ⟨k, f2, vals, hk, rfl, hr2, b2, h2⟩ := hrel
        obtain ⟨wo, rfl⟩ : ∃ wo : World, wo = wr := ⟨_, rfl⟩
        by_cases hlt : k < G.length
        · obtain ⟨mv, iR, cR0, hM0⟩ := h.out.row k hlt
          have hbw : Below w.heap.size w wo := b1.trans (b2.mono b1.size)
          have cR := (hbw.cell (World.block_lt_of_cell? _ _ cR0)).trans cR0
          have hM := hM0.below hbw
          have hglen := hsz.out k hlt
          have hsucc := wideTo_succ G v k
          generalize G.getD k [] = gk at *
          have hcl := clone_any mv gk wo hM hglen
          have hOV := (hr2.ownV h2.outer).at
          have iO := fun w' => hOV.idx oneLists k (by rw [h2.len]; omega) w'
          have hput := fun (w1' : World) (v' : Value) (xs : List Int) => h2.put (B := w1.heap.size) (w1 := w1') (u := k) (by omega) (v' := v') (xs := xs)
          have hnew := fun (w1' : World) (v' : Value) (xs : List Int) => h2.new (B := w1.heap.size) hr2 (w1 := w1') k (v' := v') (xs := xs)
          have hBo := b2.size
          generalize valAt (.slice na G.length nc) k = ra at *
          obtain ⟨ua, hua⟩ : ∃ ua, valAt (.slice oa on oc) k = ua := ⟨_, rfl⟩
          rw [hua] at iO
          simp only [hua] at hput
          replace hua := Lib.hid hua
          replace hput := Lib.hid hput
          replace hnew := Lib.hid hnew
          replace hOV := Lib.hid hOV
          replace hr2 := Lib.hid hr2
          replace hM := Lib.hid hM
          replace hM0 := Lib.hid hM0
          replace hcl := Lib.hid hcl
          replace hsucc := Lib.hid hsucc
          go_wp2_with fail
          clear cR cR0 iR hbw
          refine hcl.out.mono ?_
          rintro e w3 ⟨cv, rfl, b3, hcv⟩
          have hR3 := hnew.out w3 cv gk b3 hBo hcv
          obtain ⟨y1, y2, y3, f4, hr4, h4, _⟩ := hput.out w3 cv gk hR3
          obtain ⟨va, vn, vc, rfl⟩ := hcv.at.shape
          have b4 : Below w1.heap.size w1 (w3.setCell ua (.slice va vn vc)) := (b2.trans (b3.mono hBo)).setCell y3 _
          have h4 : WN f4 (.slice oa on oc) (vals.set k (.slice va vn vc)) (G.length + 1) (updN (wideTo G v k) k (midW v G.length gk 0)) := by rw [midW_zero]; exact h4
          have lM := (hM0.out.below (b1.trans (b4.mono b1.size))).len
          obtain ⟨W4, hW4⟩ : ∃ W4 : World, W4 = w3.setCell ua (.slice va vn vc) := ⟨_, rfl⟩
          rw [← hW4] at hr4 b4
          replace hr4 := Lib.hid hr4
          replace hR3 := Lib.hid hR3
          replace hcv := Lib.hid hcv
          clear hcl
          go_upto_region 12 with fail
          rw [← hW4]
          clear hW4 y1 y2 iO
          go_wp2_with fail
          clear lM
          generalize vals.set k (.slice va vn vc) = vals at *
          go_loopw [47] (fun jv wr => ∃ (j : Nat) (f : Names) (vals : List Value), j ≤ gk.length ∧ jv = .int .i64 j ∧ Rows w1.heap.size wr f ∧ Below w1.heap.size w1 wr ∧ WN f (.slice oa on oc) vals (G.length + 1) (updN (wideTo G v k) k (midW v G.length gk j))) (fun jv _ => gk.length - (intOf jv).toNat)
          case atStart => exact ⟨0, f4, _, by omega, rfl, hr4.out, b4, h4⟩
          case round =>
            clear hr4 h4 b4 hR3 hcv hM hr2 hnew hput hOV y3
            obtain ⟨j, f5, vals, hj, rfl, hr5, b5, h5⟩ := hrel
            obtain ⟨wo, rfl⟩ : ∃ wo : World, wo = wr := ⟨_, rfl⟩
            by_cases hjl : j < gk.length
            · have hMj := hM0.out.below (b1.trans (b5.mono b1.size))
              have iJ := fun w' => hMj.idx j hjl w'
              have cJ := hMj.cell j hjl
              generalize valAt mv j = ja at *
              have hstep := midW_step v G.length gk j hjl
              have hsame := midW_same v G.length gk j hjl
              obtain ⟨t, ht⟩ : ∃ t, gk[j] = t := ⟨_, rfl⟩
              rw [ht] at cJ hstep hsame
              replace hMj := Lib.hid hMj
              replace ht := Lib.hid ht
              by_cases htv : t = (v : Int)
              · have hq : (t == (v : Int)) = true := by simp [htv]
                rw [if_pos htv] at hstep
                have hOV := (hr5.ownV h5.outer).at
                have iO := fun w' => hOV.idx oneLists k (by rw [h5.len]; omega) w'
                have cO := hOV.cellV k (by rw [h5.len]; omega)
                have hrow := hr5.ownI (h5.rows k (by omega))
                rw [updN_same] at hrow
                have hml : (midW v G.length gk j).length = gk.length := midW_len _ _ _ _ hj
                have iE := fun w' => hrow.at.idx j (by rw [hml]; exact hjl) w'
                have cE := hrow.at.cellD j (by rw [hml]; exact hjl)
                have fE := hrow.frz j (by rw [hml]; exact hjl)
                have kE := (hrow.toV.blkB j (by rw [List.length_map, hml]; exact hjl)).2
                obtain ⟨f6, hr6, h6⟩ := h5.elem hr5 k (by omega) j (by rw [updN_same, hml]; exact hjl) (G.length : Int)
                rw [updN_same, ← hstep, updN_updN] at h6
                have b6 : Below w1.heap.size w1 (wo.setCell (valAt (vAt vals k) j) (.int .i64 (G.length : Int))) := b5.setCell kE _
                generalize valAt (vAt vals k) j = ea at *
                generalize vAt vals k = ev at *
                generalize valAt (.slice oa on oc) k = ua at *
                generalize (midW v G.length gk j).getD j 0 = eo at *
                subst htv
                replace hr6 := Lib.hid hr6
                replace hr5 := Lib.hid hr5
                replace hOV := Lib.hid hOV
                replace hrow := Lib.hid hrow
                replace hstep := Lib.hid hstep
                replace hsame := Lib.hid hsame
                replace hml := Lib.hid hml
                go_wp2
                go_roundw
                case measure => simp [intOf]; omega
                case rel => exact ⟨j + 1, f6, vals, by omega, by go_num, hr6.out, b6, h6⟩
              · have hq : (t == (v : Int)) = false := by simp [htv]
                have h6 := h5
                rw [← hsame htv] at h6
                replace hr5 := Lib.hid hr5
                replace hstep := Lib.hid hstep
                replace hsame := Lib.hid hsame
                go_wp2
                go_roundw
                case measure => simp [intOf]; omega
                case rel => exact ⟨j + 1, f5, vals, by omega, by go_num, hr5.out, b5, h6⟩
            · obtain rfl : j = gk.length := by omega
              rw [midW_full, hsucc.out] at h5
              replace hr5 := Lib.hid hr5
              go_wp2
              go_roundw
              case measure => simp [intOf]; omega
              case rel => exact ⟨k + 1, f5, vals, by omega, by go_num, hr5.out, b5, h5⟩
        · obtain rfl : k = G.length := by omega
          have hWL := h2.lists hr2
          have hWL : ListsAt wo (.slice oa on oc) (wideG G v) := hWL
          obtain ⟨oa', oc', he⟩ := hWL.shape
          injection he with he1 he2 he3
          clear he1 he3
          rw [he2] at hWL
          have hF := first_any oa oc (wideG G v) v G.length wo hWL (wideG_ok hok.out v) (by rw [wideG_len]; omega) (by rw [wideG_len]; omega) (by rw [wideG_len]; omega) (fun u hu => by
            rw [wideG_len] at hu
            by_cases e : u < G.length
            · rw [wideG_row G v u e, mapW_len]; exact hsz.out u e
            · obtain rfl : u = G.length := by omega
              rw [wideG_last]; exact Nat.zero_le _)
          rw [← he2] at hF
          replace hF := Lib.hid hF
          replace he2 := Lib.hid he2
          replace hWL := Lib.hid hWL
          replace hr2 := Lib.hid hr2
          go_wp2_with fail
          refine hF.out.mono ?_
          rintro e w5 ⟨xv, rfl, b5, hx⟩
          have hbw : Below w.heap.size w wo := b1.trans (b2.mono b1.size)
          rcases hx with ⟨u, hu, hxo⟩ | ⟨hno, rfl⟩
          · have hul := hu.way.pos
            obtain ⟨g, c, e1, e2⟩ := row_shape (show w5.ownsRow wo.heap.size 3 1 xv (castI u).length ((castI u).map (Value.int .i64)) from hxo) (by rw [castI_len]; exact hul)
            obtain ⟨m, hm⟩ : ∃ m, u.length = m + 1 := ⟨u.length - 1, by omega⟩
            rw [castI_len, hm] at e1 e2
            subst e1
            have hcut := hxo.cut (by rw [castI_len, hm])
            have hdl : (castI u).take m = castI u.dropLast := by
              unfold castI
              rw [List.dropLast_eq_take, hm, ← List.map_take]; rfl
            rw [hdl] at hcut
            have hmb : m ≤ 9223372036854775806 := by
              have := hxo.at.len_le
              rw [castI_len, hm] at this; omega
            have hwr : IntKind.i64.wrap (m : Int) = m := wrapK (by omega) (by omega)
            have hsl : (0 ≤ (m : Int) ∧ (m : Int) ≤ (c : Int)) := ⟨by omega, by omega⟩
            have hne : (((m : Int) + 1) == 0) = false := by rw [beq_eq_false_iff_ne]; omega
            replace hcut := Lib.hid hcut
            replace hxo := Lib.hid hxo
            replace hdl := Lib.hid hdl
            replace hm := Lib.hid hm
            go_wp2
            go_ret2
            exact ⟨_, _, rfl, Below.step hbw b5, ⟨by rw [hp.out]; rfl, ⟨fun _ => by rw [Int.toNat_natCast]; exact .inl ⟨u, hu, hcut.out.mono hbw.size⟩, fun q => absurd hp.out q⟩⟩⟩
          · replace hno := Lib.hid hno
            go_wp2
            go_ret2
            exact ⟨_, _, rfl, Below.step hbw b5, ⟨by rw [hp.out]; rfl, ⟨fun _ => by rw [Int.toNat_natCast]; exact .inr ⟨hno.out, rfl⟩, fun q => absurd hp.out q⟩⟩⟩
end Go.Proofs.YtdldadgnggaopaaDoor

namespace Go.Proofs.YtdldadgnggaopaaDoor
open Go.RowKit
set_option maxRecDepth 100000

def sixG : List (List Int) := [[1], [2], [1, 3], [4], [4], [0]]
theorem six_check : checkG sixG = none := by rfl
theorem six_ok : GraphOk sixG := (checkG_none six_check).2.2
theorem six_sz : ∀ k, k < sixG.length → (sixG.getD k []).length ≤ 17592186044416 := by
  intro k hk
  have : k < 6 := hk
  match k, this with
  | 0, _ => decide
  | 1, _ => decide
  | 2, _ => decide
  | 3, _ => decide
  | 4, _ => decide
  | 5, _ => decide
/-- A number for each vertex that no arrow lowers. -/
def rk6 (v : Nat) : Nat := [1, 2, 2, 3, 4, 0].getD v 9
theorem adj6 (v : Nat) : adjOf sixG v = [[1], [2], [1, 3], [4], [4], [0]].getD v [] := by
  match v with
  | 0 => rfl
  | 1 => rfl
  | 2 => rfl
  | 3 => rfl
  | 4 => rfl
  | 5 => rfl
  | n + 6 => rfl
theorem rk6_step {x t : Nat} (ht : t ∈ adjOf sixG x) : rk6 x ≤ rk6 t := by
  rw [adj6] at ht
  match x, ht with
  | 0, ht => simp at ht; subst ht; decide
  | 1, ht => simp at ht; subst ht; decide
  | 2, ht => simp at ht; rcases ht with rfl | rfl <;> decide
  | 3, ht => simp at ht; subst ht; decide
  | 4, ht => simp at ht; subst ht; decide
  | 5, ht => simp at ht; subst ht; decide
  | n + 6, ht => simp at ht
theorem rk6_goes {x y : Nat} (h : Goes (adjOf sixG) x y) : rk6 x ≤ rk6 y := by
  induction h with
  | refl => exact Nat.le_refl _
  | step _ hz ih => exact Nat.le_trans ih (rk6_step hz)
theorem g01 : Goes (adjOf sixG) 0 1 := .one (by rw [adj6]; decide)
theorem g12 : Goes (adjOf sixG) 1 2 := .one (by rw [adj6]; decide)
theorem g21 : Goes (adjOf sixG) 2 1 := .one (by rw [adj6]; decide)
theorem g23 : Goes (adjOf sixG) 2 3 := .one (by rw [adj6]; decide)
theorem g34 : Goes (adjOf sixG) 3 4 := .one (by rw [adj6]; decide)
theorem six_parts {ps : List Int} (h : PartsOf sixG.length (adjOf sixG) ps) : ps = [0, 1, 1, 2, 3, 4] := by
  obtain ⟨p, hp, rfl⟩ := h
  have ne : ∀ x y, x < 6 → y < 6 → rk6 x ≠ rk6 y → p x ≠ p y := fun x y hx hy hr he => by
    obtain ⟨a, b⟩ := (hp x y hx hy).1 he
    have := rk6_goes a
    have := rk6_goes b
    omega
  have e12 : p 2 = p 1 := (hp 2 1 (by decide) (by decide)).2 ⟨g21, g12⟩
  have h10 := ne 1 0 (by decide) (by decide) (by decide)
  have h30 := ne 3 0 (by decide) (by decide) (by decide)
  have h31 := ne 3 1 (by decide) (by decide) (by decide)
  have h40 := ne 4 0 (by decide) (by decide) (by decide)
  have h41 := ne 4 1 (by decide) (by decide) (by decide)
  have h43 := ne 4 3 (by decide) (by decide) (by decide)
  have h50 := ne 5 0 (by decide) (by decide) (by decide)
  have h51 := ne 5 1 (by decide) (by decide) (by decide)
  have h53 := ne 5 3 (by decide) (by decide) (by decide)
  have h54 := ne 5 4 (by decide) (by decide) (by decide)
  have o0 : numO p 0 = 0 := by simp [numO, numM, updM]
  have o1 : numO p 1 = 1 := by simp [numO, numM, updM, h10]
  have o2 : numO p 2 = 1 := by rw [(numO_eq p 2 1).2 e12]; exact o1
  have m2 : numM p 3 = numM p 2 := by
    show (if _ then _ else _) = _
    rw [if_pos]
    rw [e12]
    have := numM_own p 1
    rw [this]; rfl
  have m2s : (numM p 2).2 = 2 := by simp [numM, updM, h10]
  have m2n : ∀ q, q ≠ p 0 → q ≠ p 1 → (numM p 2).1 q = none := fun q h0 h1 => by simp [numM, updM, h10, h0, h1]
  have m3 : numM p 4 = (updM (numM p 2).1 (p 3) 2, 3) := by
    show (if ((numM p 3).1 (p 3)).isSome then _ else _) = _
    rw [m2, m2n _ h30 h31, m2s]; rfl
  have o3 : numO p 3 = 2 := by unfold numO; rw [m3]; simp [updM]
  have m4 : numM p 5 = (updM (updM (numM p 2).1 (p 3) 2) (p 4) 3, 4) := by
    have e : (updM (numM p 2).1 (p 3) 2) (p 4) = none := by unfold updM; rw [if_neg h43]; exact m2n _ h40 h41
    show (if ((numM p 4).1 (p 4)).isSome then _ else _) = _
    rw [if_neg (by rw [m3]; show ¬ ((updM (numM p 2).1 (p 3) 2) (p 4)).isSome = true; rw [e]; decide), m3]; rfl
  have o4 : numO p 4 = 3 := by unfold numO; rw [m4]; simp [updM]
  have m5 : numM p 6 = (updM (updM (updM (numM p 2).1 (p 3) 2) (p 4) 3) (p 5) 4, 5) := by
    have e : (updM (updM (numM p 2).1 (p 3) 2) (p 4) 3) (p 5) = none := by unfold updM; rw [if_neg h54, if_neg h53]; exact m2n _ h50 h51
    show (if ((numM p 5).1 (p 5)).isSome then _ else _) = _
    rw [if_neg (by rw [m4]; show ¬ ((updM (updM (numM p 2).1 (p 3) 2) (p 4) 3) (p 5)).isSome = true; rw [e]; decide), m4]; rfl
  have o5 : numO p 5 = 4 := by unfold numO; rw [m5]; simp [updM]
  show [numO p 0, numO p 1, numO p 2, numO p 3, numO p 4, numO p 5] = _
  rw [o0, o1, o2, o3, o4, o5]
theorem six_live {L : List Nat} (h : LiveList sixG.length (adjOf sixG) L) : L = [1, 2, 3, 4] := by
  refine h.unique ⟨by decide, fun v => ?_⟩
  have l1 : OnLoop (adjOf sixG) 1 := ⟨2, by rw [adj6]; decide, g21⟩
  have l4 : OnLoop (adjOf sixG) 4 := ⟨4, by rw [adj6]; decide, .refl 4⟩
  have onl : ∀ u, OnLoop (adjOf sixG) u → u < 6 → 2 ≤ rk6 u := fun u ⟨t, ht, hg⟩ hu => by
    rw [adj6] at ht
    match u, ht, hu with
    | 0, ht, _ => simp at ht; subst ht; have := rk6_goes hg; exact absurd this (by decide)
    | 1, _, _ => decide
    | 2, _, _ => decide
    | 3, _, _ => decide
    | 4, _, _ => decide
    | 5, ht, _ => simp at ht; subst ht; have := rk6_goes hg; exact absurd this (by decide)
    | n + 6, _, hu => omega
  constructor
  · intro hv
    simp at hv
    rcases hv with rfl | rfl | rfl | rfl
    · exact ⟨by decide, ⟨1, by decide, l1, .refl 1⟩, 4, by decide, l4, g12.trans (g23.trans g34)⟩
    · exact ⟨by decide, ⟨1, by decide, l1, g12⟩, 4, by decide, l4, g23.trans g34⟩
    · exact ⟨by decide, ⟨1, by decide, l1, g12.trans g23⟩, 4, by decide, l4, g34⟩
    · exact ⟨by decide, ⟨1, by decide, l1, g12.trans (g23.trans g34)⟩, 4, by decide, l4, .refl 4⟩
  · rintro ⟨hv, ⟨u, hu, h1, h2⟩, _⟩
    have a := onl u h1 hu
    have b := rk6_goes h2
    have hv : v < 6 := hv
    match v, hv, b with
    | 0, _, b => exact absurd (Nat.le_trans a b) (by decide)
    | 1, _, _ => decide
    | 2, _, _ => decide
    | 3, _, _ => decide
    | 4, _, _ => decide
    | 5, _, b => exact absurd (Nat.le_trans a b) (by decide)
    | n + 6, hv, _ => omega
/-- How many arrows to 4, at the least. -/
def ds6 (v : Nat) : Nat := [4, 3, 2, 1, 0, 5].getD v 9
theorem ds6_way {x y : Nat} {w : List Nat} (h : Way (adjOf sixG) x y w) : y = 4 → ds6 x + 1 ≤ w.length := by
  induction h with
  | one x => intro h; subst h; decide
  | @cons x t y w ht h ih =>
    intro hy
    have := ih hy
    have hx : ds6 x ≤ ds6 t + 1 := by
      rw [adj6] at ht
      match x, ht with
      | 0, ht => simp at ht; subst ht; decide
      | 1, ht => simp at ht; subst ht; decide
      | 2, ht => simp at ht; rcases ht with rfl | rfl <;> decide
      | 3, ht => simp at ht; subst ht; decide
      | 4, ht => simp at ht; subst ht; decide
      | 5, ht => simp at ht; subst ht; decide
      | n + 6, ht => simp at ht
    simp only [List.length_cons]; omega
theorem six_path {u : List Nat} (h : IsFirst (adjOf sixG) 0 4 u) : u = [0, 1, 2, 3, 4] := by
  have hw : Way (adjOf sixG) 0 4 [0, 1, 2, 3, 4] := .cons (by rw [adj6]; decide) (.cons (by rw [adj6]; decide) (.cons (by rw [adj6]; decide) (.cons (by rw [adj6]; decide) (.one 4))))
  have h5 := h.short _ hw
  have hu := h.way
  cases hu with
  | cons ht h1 =>
    rw [adj6] at ht; simp at ht; subst ht
    cases h1 with
    | cons ht h2 =>
      rw [adj6] at ht; simp at ht; subst ht
      cases h2 with
      | cons ht h3 =>
        rw [adj6] at ht; simp at ht
        rcases ht with rfl | rfl
        · have := ds6_way h3 rfl
          simp only [List.length_cons] at h5
          have e : ds6 1 = 3 := rfl
          simp at h5
          omega
        · cases h3 with
          | cons ht h4 =>
            rw [adj6] at ht; simp at ht; subst ht
            cases h4 with
            | one => rfl
            | cons ht h6 =>
              have := h6.pos
              simp only [List.length_cons, List.length_nil] at h5
              omega
theorem six_goes : Goes (adjOf sixG) 0 4 := g01.trans (g12.trans (g23.trans g34))

set_option maxHeartbeats 1000000 in
theorem six_any (w : World) : Calls Tryd.prog 57 #[] w (Ret1 (fun x w' => ∃ na nc, x = .slice na sixG.length nc ∧ ListsAt w' x sixG) w) := by
  go_enter Tryd.func57, Tryd.ntmps57
  go_wp2
  go_ret
  have hr : ∀ W' : World, W' = (((((((w.alloc (.cells #[.int .i64 1] 3)).alloc (.cells #[.int .i64 2] 3)).alloc (.cells #[.int .i64 1, .int .i64 3] 3)).alloc (.cells #[.int .i64 4] 3)).alloc (.cells #[.int .i64 4] 3)).alloc (.cells #[.int .i64 0] 3)).alloc
      (.cells #[.slice (some ⟨w.heap.size, 0, none⟩) 1 1, .slice (some ⟨w.heap.size + 1, 0, none⟩) 1 1, .slice (some ⟨w.heap.size + 1 + 1, 0, none⟩) 2 2, .slice (some ⟨w.heap.size + 1 + 1 + 1, 0, none⟩) 1 1, .slice (some ⟨w.heap.size + 1 + 1 + 1 + 1, 0, none⟩) 1 1, .slice (some ⟨w.heap.size + 1 + 1 + 1 + 1 + 1, 0, none⟩) 1 1] 22)) →
      Below w.heap.size w W' ∧ ListsAt W' (.slice (some ⟨w.heap.size + 1 + 1 + 1 + 1 + 1 + 1, 0, none⟩) 6 6) sixG := by
    intro W' hW'
    obtain ⟨W1, e1⟩ : ∃ W1 : World, W1 = w.alloc (.cells #[.int .i64 1] 3) := ⟨_, rfl⟩
    rw [← e1] at hW'
    obtain ⟨W2, e2⟩ : ∃ W2 : World, W2 = W1.alloc (.cells #[.int .i64 2] 3) := ⟨_, rfl⟩
    rw [← e2] at hW'
    obtain ⟨W3, e3⟩ : ∃ W3 : World, W3 = W2.alloc (.cells #[.int .i64 1, .int .i64 3] 3) := ⟨_, rfl⟩
    rw [← e3] at hW'
    obtain ⟨W4, e4⟩ : ∃ W4 : World, W4 = W3.alloc (.cells #[.int .i64 4] 3) := ⟨_, rfl⟩
    rw [← e4] at hW'
    obtain ⟨W5, e5⟩ : ∃ W5 : World, W5 = W4.alloc (.cells #[.int .i64 4] 3) := ⟨_, rfl⟩
    rw [← e5] at hW'
    obtain ⟨W6, e6⟩ : ∃ W6 : World, W6 = W5.alloc (.cells #[.int .i64 0] 3) := ⟨_, rfl⟩
    rw [← e6] at hW'
    have s1 : W1.heap.size = w.heap.size + 1 := by rw [e1]; simp
    have s2 : W2.heap.size = W1.heap.size + 1 := by rw [e2]; simp
    have s3 : W3.heap.size = W2.heap.size + 1 := by rw [e3]; simp
    have s4 : W4.heap.size = W3.heap.size + 1 := by rw [e4]; simp
    have s5 : W5.heap.size = W4.heap.size + 1 := by rw [e5]; simp
    have s6 : W6.heap.size = W5.heap.size + 1 := by rw [e6]; simp
    rw [← s1, ← s2, ← s3, ← s4, ← s5] at hW'
    rw [← s1, ← s2, ← s3, ← s4, ← s5, ← s6]
    have lit : ∀ (W V : World) (xs : List Int) (cs : Array Value), V = W.alloc (.cells cs 3) → cs.toList = xs.map (Value.int .i64) → xs.length ≤ 10 → Below W.heap.size W V ∧ IntsAt V (.slice (some ⟨W.heap.size, 0, none⟩) xs.length xs.length) xs := by
      intro W V xs cs hV hc hl
      subst hV
      exact ⟨belowAlloc W _, (OwnI.lit W.heap.size W (Nat.le_refl _) xs (by unfold maxLen; omega) cs hc xs.length rfl).at⟩
    obtain ⟨b1, i1⟩ := lit w W1 [1] _ e1 rfl (by decide)
    obtain ⟨b2, i2⟩ := lit W1 W2 [2] _ e2 rfl (by decide)
    obtain ⟨b3, i3⟩ := lit W2 W3 [1, 3] _ e3 rfl (by decide)
    obtain ⟨b4, i4⟩ := lit W3 W4 [4] _ e4 rfl (by decide)
    obtain ⟨b5, i5⟩ := lit W4 W5 [4] _ e5 rfl (by decide)
    obtain ⟨b6, i6⟩ := lit W5 W6 [0] _ e6 rfl (by decide)
    have b7 : Below W6.heap.size W6 W' := by rw [hW']; exact belowAlloc W6 _
    have b26 := Below.step b3 (Below.step b4 (Below.step b5 b6))
    refine ⟨Below.step b1 (Below.step b2 (Below.step b26 b7)), [.slice (some ⟨w.heap.size, 0, none⟩) 1 1, .slice (some ⟨W1.heap.size, 0, none⟩) 1 1, .slice (some ⟨W2.heap.size, 0, none⟩) 2 2, .slice (some ⟨W3.heap.size, 0, none⟩) 1 1, .slice (some ⟨W4.heap.size, 0, none⟩) 1 1, .slice (some ⟨W5.heap.size, 0, none⟩) 1 1], ?_, rfl, fun i hi => ?_⟩
    · have hown : OwnV 22 W6.heap.size W' (.slice (some ⟨W6.heap.size, 0, none⟩) 6 6) [.slice (some ⟨w.heap.size, 0, none⟩) 1 1, .slice (some ⟨W1.heap.size, 0, none⟩) 1 1, .slice (some ⟨W2.heap.size, 0, none⟩) 2 2, .slice (some ⟨W3.heap.size, 0, none⟩) 1 1, .slice (some ⟨W4.heap.size, 0, none⟩) 1 1, .slice (some ⟨W5.heap.size, 0, none⟩) 1 1] := by
        rw [hW']
        exact ⟨rfl, .inr ⟨W6.heap.size, 6, _, rfl, Nat.le_refl _, heap_alloc_new W6 _, Nat.le_refl _, by unfold maxLen; omega, rfl, rfl⟩⟩
      exact hown.at
    · have hi : i < 6 := hi
      match i, hi with
      | 0, _ => exact ((i1.below b2).below b26).below b7
      | 1, _ => exact (i2.below b26).below b7
      | 2, _ => exact (i3.below (Below.step b4 (Below.step b5 b6))).below b7
      | 3, _ => exact (i4.below (Below.step b5 b6)).below b7
      | 4, _ => exact (i5.below b6).below b7
      | 5, _ => exact i6.below b7
      | n + 6, hi => omega
  have := hr _ rfl
  exact ⟨_, rfl, this.1, _, _, rfl, this.2⟩
end Go.Proofs.YtdldadgnggaopaaDoor

namespace Go.Proofs.YtdldadgnggaopaaDoor
open Go.RowKit
set_option maxRecDepth 100000

theorem lit_ints (w : World) (xs : List Int) (cs : Array Value) (hc : cs.toList = xs.map (Value.int .i64)) (hl : xs.length ≤ 10) : IntsAt (w.alloc (.cells cs 3)) (.slice (some ⟨w.heap.size, 0, none⟩) xs.length xs.length) xs :=
  (OwnI.lit w.heap.size w (Nat.le_refl _) xs (by unfold maxLen; omega) cs hc xs.length rfl).at

set_option maxHeartbeats 2000000 in
theorem awake12 (r : Nat → Addr) (w : World) (hg : Glob r w) : Calls Tryd.prog 19 #[] w (Ret1 (fun x _ => x = .bool true) w) := by
  replace hg := Lib.hid hg
  go_enter Tryd.func19, Tryd.ntmps19
  go_wp2_with fail
  refine (six_any _).mono ?_
  rintro e w1 ⟨x, rfl, b1, na, nc, rfl, hL⟩
  go_wp2_with fail
  refine (parts_any r na nc sixG w1 (hg.out.below b1) hL six_sz).mono ?_
  rintro e w2 ⟨pv, y, rfl, b2, he, hps, _⟩
  rw [six_check] at he
  obtain rfl := he.none_eq
  obtain ⟨ps, hps1, hpo⟩ := hps six_check
  obtain rfl := six_parts hps1
  have b02 := Below.step b1 b2
  clear he hps hps1 hL
  replace hpo := Lib.hid hpo
  go_wp2_with fail
  refine (six_any _).mono ?_
  rintro e w3 ⟨x, rfl, b3, ma, mc, rfl, hL⟩
  have b03 := Below.step b02 b3
  go_wp2_with fail
  refine (live_any r ma mc sixG w3 (hg.out.below b03) hL six_sz).mono ?_
  rintro e w4 ⟨lv, y, rfl, b4, he, hls, _⟩
  rw [six_check] at he
  obtain rfl := he.none_eq
  obtain ⟨L, hL1, hlo⟩ := hls six_check
  obtain rfl := six_live hL1
  have b04 := Below.step b03 b4
  clear he hls hL1 hL
  replace hlo := Lib.hid hlo
  go_wp2_with fail
  refine (six_any _).mono ?_
  rintro e w5 ⟨x, rfl, b5, qa, qc, rfl, hL⟩
  have b05 := Below.step b04 b5
  go_wp2_with fail
  refine (path_any r qa qc sixG 0 4 w5 (hg.out.below b05) hL six_sz).mono ?_
  rintro e w6 ⟨wv, y, rfl, b6, he, hfs, _⟩
  have hpe : pathE sixG 0 4 = none := pathE_ok (x := 0) (y := 4) six_check (by decide) (by decide)
  rw [hpe] at he
  obtain rfl := he.none_eq
  have b06 := Below.step b05 b6
  obtain ⟨u, hu, huo⟩ : ∃ u, IsFirst (adjOf sixG) 0 4 u ∧ OwnI w5.heap.size w6 wv (castI u) := by
    rcases hfs hpe with h | ⟨h, _⟩
    · exact h
    · exact absurd six_goes h
  obtain rfl := six_path hu
  clear he hfs hu hL hpe
  have hp6 := hpo.out.at.below (Below.step b3 (Below.step b4 (Below.step b5 b6)))
  have hl6 := hlo.out.at.below (Below.step b5 b6)
  have hw6 := huo.at
  replace hp6 := Lib.hid hp6
  replace hl6 := Lib.hid hl6
  replace hw6 := Lib.hid hw6
  replace huo := Lib.hid huo
  have bl1 := belowAlloc w6 (.cells #[.int .i64 0, .int .i64 1, .int .i64 1, .int .i64 2, .int .i64 3, .int .i64 4] 3)
  have hlit1 := lit_ints w6 [0, 1, 1, 2, 3, 4] #[.int .i64 0, .int .i64 1, .int .i64 1, .int .i64 2, .int .i64 3, .int .i64 4] rfl (by decide)
  replace hlit1 := Lib.hid hlit1
  go_wp2_with fail
  refine (ints_any pv _ _ _ _ (hp6.out.below bl1) hlit1.out).mono ?_
  rintro e w7 h7
  obtain ⟨rfl, b7⟩ := h7.below
  clear h7
  rw [show decide (([0, 1, 1, 2, 3, 4] : List Int) = [0, 1, 1, 2, 3, 4]) = true by decide]
  have b67 := Below.step bl1 b7
  have bl2 := belowAlloc w7 (.cells #[.int .i64 1, .int .i64 2, .int .i64 3, .int .i64 4] 3)
  have hlit2 := lit_ints w7 [1, 2, 3, 4] #[.int .i64 1, .int .i64 2, .int .i64 3, .int .i64 4] rfl (by decide)
  replace hlit2 := Lib.hid hlit2
  go_wp2_with fail
  refine (ints_any lv _ _ _ _ ((hl6.out.below b67).below bl2) hlit2.out).mono ?_
  rintro e w8 h8
  obtain ⟨rfl, b8⟩ := h8.below
  clear h8
  rw [show decide (castI [1, 2, 3, 4] = [1, 2, 3, 4]) = true by decide]
  have b68 := Below.step b67 (Below.step bl2 b8)
  have bl3 := belowAlloc w8 (.cells #[.int .i64 0, .int .i64 1, .int .i64 2, .int .i64 3, .int .i64 4] 3)
  have hlit3 := lit_ints w8 [0, 1, 2, 3, 4] #[.int .i64 0, .int .i64 1, .int .i64 2, .int .i64 3, .int .i64 4] rfl (by decide)
  replace hlit3 := Lib.hid hlit3
  go_wp2_with fail
  refine (ints_any wv _ _ _ _ ((hw6.out.below b68).below bl3) hlit3.out).mono ?_
  rintro e w9 h9
  obtain ⟨rfl, b9⟩ := h9.below
  clear h9
  rw [show decide (castI [0, 1, 2, 3, 4] = [0, 1, 2, 3, 4]) = true by decide]
  go_wp2
  go_ret
  exact ⟨_, rfl, Below.step b06 (Below.step b68 (Below.step bl3 b9)), rfl⟩

/-- heavy: what it tells of lists that are not. -/
def HeavyPost (G : List (List Int)) (x : Value) : Prop := ∃ b : Bool, x = .bool b ∧ (b = false → G.length ≤ 300 ∧ arrowsTo G G.length ≤ 4000)
set_option maxHeartbeats 1000000 in
theorem heavy_any (na : Option Addr) (nc : Nat) (G : List (List Int)) (w : World) (h : ListsAt w (.slice na G.length nc) G) (hsz : ∀ k, k < G.length → (G.getD k []).length ≤ 17592186044416) :
    Calls Tryd.prog 20 #[.slice na G.length nc] w (Ret1 (fun x _ => HeavyPost G x) w) := by
  have hn63 : G.length ≤ 9223372036854775807 := by
    obtain ⟨vs, h1, h2, _⟩ := h
    have := h1.len_le; omega
  replace h := Lib.hid h
  replace hsz := Lib.hid hsz
  go_enter Tryd.func20, Tryd.ntmps20
  go_wp2_with fail
  go_loopw [3, 4] (fun nv kv wr => ∃ k n : Nat, k ≤ G.length ∧ kv = .int .i64 k ∧ nv = .int .i64 (arrowsTo G k) ∧ arrowsTo G k ≤ 17592186054416 ∧ wr = w.drewN n) (fun _ kv _ => G.length - (intOf kv).toNat)
  case atStart => exact ⟨0, 0, by omega, rfl, rfl, by simp [arrowsTo], rfl⟩
  case round =>
    obtain ⟨k, n, hk, rfl, rfl, hle, rfl⟩ := hrel
    by_cases hlt : k < G.length
    · by_cases hbig : 4000 < arrowsTo G k
      · by_cases h300 : 300 < G.length
        · go_wp2
          go_ret
          exact ⟨_, rfl, below_drewN (Below.refl _ _) n, _, rfl, fun q => by simp at q <;> omega⟩
        · go_wp2
          go_ret
          exact ⟨_, rfl, below_drewN (Below.refl _ _) n, _, rfl, fun q => by simp at q <;> omega⟩
      · obtain ⟨mv, iR, cR, hM⟩ := h.out.row k hlt
        have hll := hsz.out k hlt
        have ha1 : arrowsTo G (k + 1) = arrowsTo G k + (G.getD k []).length := rfl
        generalize G.getD k [] = gk at *
        have lenM := hM.len
        generalize valAt (.slice na G.length nc) k = ra at *
        replace hM := Lib.hid hM
        replace ha1 := Lib.hid ha1
        go_wp2
        go_roundw
        case measure => simp [intOf]; omega
        case rel => exact ⟨k + 1, _, by omega, by go_num, by rw [ha1.out]; go_num, by rw [ha1.out]; omega, rfl⟩
    · obtain rfl : k = G.length := by omega
      by_cases h300 : 300 < G.length
      · go_wp2
        go_ret
        exact ⟨_, rfl, below_drewN (Below.refl _ _) n, _, rfl, fun q => by simp at q <;> omega⟩
      · by_cases hbig : 4000 < arrowsTo G G.length
        · go_wp2
          go_ret
          exact ⟨_, rfl, below_drewN (Below.refl _ _) n, _, rfl, fun q => by simp at q <;> omega⟩
        · go_wp2
          go_ret
          exact ⟨_, rfl, below_drewN (Below.refl _ _) n, _, rfl, fun _ => ⟨by omega, by omega⟩⟩

/-- vertex: what it tells where it says yes. -/
def VertexPost (G : List (List Int)) (a : Int) (x : Value) : Prop := ∃ b : Bool, x = .bool b ∧ (b = true → G.length ≤ 300 ∧ arrowsTo G G.length ≤ 4000 ∧ checkG G = none ∧ ∃ v : Nat, a = v ∧ v < G.length)
end Go.Proofs.YtdldadgnggaopaaDoor

namespace Go.Proofs.YtdldadgnggaopaaDoor
open Go.RowKit
set_option maxRecDepth 100000

/-- Vertices, each led to by an arrow from the one ahead. -/
def ChainOk (G : List (List Int)) (u : List Nat) : Prop := ∀ i x, u[i]? = some x → x < G.length ∧ ∀ j y, i = j + 1 → u[j]? = some y → (x : Int) ∈ G.getD y []
theorem adj_mem {G : List (List Int)} (hok : GraphOk G) {y x : Nat} (hy : y < G.length) (h : x ∈ adjOf G y) : (x : Int) ∈ G.getD y [] := by
  obtain ⟨z, hz, rfl⟩ := List.mem_map.1 h
  have := hok y hy z hz
  rwa [Int.toNat_of_nonneg this.1]
theorem way_chain {G : List (List Int)} (hok : GraphOk G) {x y : Nat} {w : List Nat} (h : Way (adjOf G) x y w) (hx : x < G.length) : ChainOk G w := by
  induction h with
  | one x =>
    intro i z hz
    have hi := get_of hz
    simp only [List.length_cons, List.length_nil] at hi
    obtain rfl : i = 0 := by omega
    injection hz with hz; subst hz
    exact ⟨hx, fun j y e => by omega⟩
  | @cons x t y w ht h ih =>
    have htn := hok.lt x hx t ht
    have ih := ih htn
    intro i z hz
    cases i with
    | zero => injection hz with hz; subst hz; exact ⟨hx, fun j y e => by omega⟩
    | succ i =>
      have hz' : w[i]? = some z := hz
      refine ⟨(ih i z hz').1, fun j y e hy => ?_⟩
      have e : j = i := by omega
      subst e
      cases j with
      | zero =>
        injection hy with hy; subst hy
        obtain ⟨w', rfl⟩ := h.ne
        injection hz' with hz'; subst hz'
        exact adj_mem hok hx ht
      | succ j => exact (ih (j + 1) z hz').2 j y rfl hy
theorem ChainOk.dropLast {G : List (List Int)} {u : List Nat} (h : ChainOk G u) : ChainOk G u.dropLast := by
  have up : ∀ i x, u.dropLast[i]? = some x → u[i]? = some x := fun i x hx => by
    rw [List.getElem?_dropLast] at hx
    split at hx
    · exact hx
    · cases hx
  intro i x hx
  exact ⟨(h i x (up i x hx)).1, fun j y e hy => (h i x (up i x hx)).2 j y e (up j y hy)⟩
theorem ChainOk.nil (G : List (List Int)) : ChainOk G [] := fun i x hx => by simp at hx

end Go.Proofs.YtdldadgnggaopaaDoor

namespace Go.Proofs.YtdldadgnggaopaaDoor
open Go.RowKit
set_option maxRecDepth 100000

/-- Quotient and rest of small numbers, as the machine reckons them. -/
theorem dm (p N : Nat) (hp : p ≤ 100000000) : (p : Int).tdiv (N : Int) = ((p / N : Nat) : Int) ∧ (p : Int).tmod (N : Int) = ((p % N : Nat) : Int) ∧ (p : Int) / (N : Int) = ((p / N : Nat) : Int) ∧ (p : Int) % (N : Int) = ((p % N : Nat) : Int) ∧
    IntKind.i64.wrap ((p / N : Nat) : Int) = ((p / N : Nat) : Int) ∧ IntKind.i64.wrap ((p % N : Nat) : Int) = ((p % N : Nat) : Int) := by
  have h1 : p / N ≤ p := Nat.div_le_self _ _
  have h2 : p % N ≤ p := Nat.mod_le _ _
  refine ⟨by rw [Int.tdiv_eq_ediv_of_nonneg (by omega)]; simp, by rw [Int.tmod_eq_emod_of_nonneg (by omega)]; simp, by simp, by simp, ?_, ?_⟩
  · generalize p / N = a at *; exact wrapK (by omega) (by omega)
  · generalize p % N = a at *; exact wrapK (by omega) (by omega)

theorem words1_any (x : Int) (b N : Nat) (w : World) (hN : N ≤ 10000) (hb : w.cell? ⟨b, 0, none⟩ = some (.int .i64 N)) :
    Calls Tryd.prog 99 #[.int .i64 x, .pointer (some ⟨b, 0, none⟩)] w fun e w' => e = .returned (.bool (odd1 ((N * N : Nat) : Int) x)) ∧ w = w' := by
  have hM : (N : Int) * (N : Int) = ((N * N : Nat) : Int) := by simp
  have hM2 := Nat.mul_le_mul hN hN
  by_cases h : x < 0
  · have e : odd1 ((N * N : Nat) : Int) x = true := by simp [odd1, h]
    rw [e]
    clear hM hM2
    go_enter Tryd.func99, Tryd.ntmps99
    go_wp2
    go_ret
    exact ⟨rfl, rfl⟩
  · have e : odd1 ((N * N : Nat) : Int) x = decide (((N * N : Nat) : Int) ≤ x) := by simp [odd1, h]
    rw [e]
    generalize N * N = M at *
    clear e
    go_enter Tryd.func99, Tryd.ntmps99
    go_wp2
    go_ret
    exact ⟨ret_bool (by simp), rfl⟩
theorem eg_words1 (args : Array Value) (w : World) : (callFunc 99 args).run Tryd.prog w = .ok (.enter 99 args) w := by kernel_rfl

set_option maxHeartbeats 1000000 in
theorem words2_any (K R x q : Nat) (w : World) (hk1 : 1 ≤ K) (hk4 : K ≤ 4) (hR : R ≤ 3) (hx : x ≤ 100000) (q0 : w.cell? ⟨q, 0, none⟩ = some (.int .i64 K)) (q1 : w.cell? ⟨q, 1, none⟩ = some (.int .i64 R)) :
    Calls Tryd.prog 100 #[.int .i64 x, .pointer (some ⟨q, 0, none⟩)] w (Ret1 (fun y w' => OwnI w.heap.size w' y (digs K (2 * R) x)) w) := by
  obtain ⟨ov, w1, mk, ho, hb1⟩ := run_makeI (2 * (R : Int)) (2 * R) w (by omega) (by omega)
  have lo := ho.at.len
  rw [List.length_replicate] at lo
  obtain ⟨oa, on, oc, rfl⟩ := ho.at.shape
  have hql := World.block_lt_of_cell? _ _ q0
  have hK0 : ((K : Int) == 0) = false := by rw [beq_eq_false_iff_ne]; omega
  have hK1 : ¬ (K : Int) = 0 := by omega
  have hK2 : (0 : Int) < K := by omega
  have hK3 : ¬ K = 0 := by omega
  obtain ⟨N, hN⟩ : ∃ N, 2 * R = N := ⟨_, rfl⟩
  have hN6 : N ≤ 6 := by omega
  rw [hN] at ho lo ⊢
  have hNi : 2 * (R : Int) = (N : Int) := by omega
  have hNw : IntKind.i64.wrap (N : Int) = N := wrapK (by omega) (by omega)
  rw [hNi] at mk
  replace ho := Lib.hid ho
  replace hN := Lib.hid hN
  go_enter Tryd.func100, Tryd.ntmps100
  go_wp2_with fail
  clear mk
  go_loopw [0, 12] (fun xv jv wr => ∃ j : Nat, j ≤ N ∧ jv = .int .i64 j ∧ xv = .int .i64 (x / pw K j : Nat) ∧ OwnI w.heap.size wr (.slice oa on oc) ((List.replicate N (0 : Int)).take (N - j) ++ (digs K N x).drop (N - j)) ∧ Below w.heap.size w wr) (fun _ jv _ => N - (intOf jv).toNat)
  case atStart => exact ⟨0, by omega, rfl, by simp [pw], by rw [Nat.sub_zero, List.drop_of_length_le (by rw [digs_length]; exact Nat.le_refl _), List.append_nil, List.take_of_length_le (by simp)]; exact ho.out, hb1⟩
  case round =>
    obtain ⟨j, hj, rfl, rfl, hO, hbI⟩ := hrel
    obtain ⟨wi, rfl⟩ : ∃ wi : World, wi = wr := ⟨_, rfl⟩
    by_cases hjl : j < N
    · have hXl : ((List.replicate N (0 : Int)).take (N - j) ++ (digs K N x).drop (N - j)).length = N := by simp only [List.length_append, List.length_take, List.length_replicate, List.length_drop, digs_length]; omega
      have i1 : ∀ w', (Instr.indexAt 22 (.slice oa on oc) (.int .i64 ((N : Int) - 1 - (j : Int)))).run Tryd.prog w' = .ok (.pointer (some (valAt (.slice oa on oc) (N - 1 - j)))) w' := by
        intro w'
        have := hO.at.idxI ((N : Int) - 1 - (j : Int)) (by omega) (by rw [hXl]; omega) w'
        rwa [show ((N : Int) - 1 - (j : Int)).toNat = N - 1 - j by omega] at this
      have c1 := hO.at.cellD (N - 1 - j) (by rw [hXl]; omega)
      have f1 := hO.frz (N - 1 - j) (by rw [hXl]; omega)
      have hS := hO.set (N - 1 - j) (by rw [hXl]; omega) ((x / pw K j % K : Nat) : Int)
      have hbS := hO.setBelow hbI (N - 1 - j) (by rw [hXl]; omega) (.int .i64 ((x / pw K j % K : Nat) : Int))
      rw [digs_fill K N x j hjl _ (by simp)] at hS
      have hqd : x / pw K j / K = x / pw K (j + 1) := by rw [Nat.div_div_eq_div_mul, ← pw_succ]
      have hql : x / pw K j ≤ 100000 := Nat.le_trans (Nat.div_le_self _ _) hx
      have y0 := (hbI.cell (p := ⟨q, 0, none⟩) (World.block_lt_of_cell? _ _ q0)).trans q0
      have hbe := hO.blkB (N - 1 - j) (by rw [hXl]; omega)
      generalize ((List.replicate N (0 : Int)).take (N - j) ++ (digs K N x).drop (N - j)).getD (N - 1 - j) 0 = y at c1
      have y0' : (wi.setCell (valAt (.slice oa on oc) (N - 1 - j)) (.int .i64 ((x / pw K j % K : Nat) : Int))).cell? ⟨q, 0, none⟩ = some (.int .i64 K) := (hbS.cell (p := ⟨q, 0, none⟩) (World.block_lt_of_cell? _ _ q0)).trans q0
      have hlen' := lo
      generalize valAt (.slice oa on oc) (N - 1 - j) = ya at *
      generalize x / pw K j = z at *
      obtain ⟨a1, a2, a3, a4, a5, a6⟩ := dm z K (by omega)
      obtain ⟨d, hd⟩ : ∃ d, z % K = d := ⟨_, rfl⟩
      obtain ⟨e, he⟩ : ∃ e, z / K = e := ⟨_, rfl⟩
      rw [hd] at a2 a4 a6 hS hbS y0'
      rw [he] at a1 a3 a5 hqd
      replace hS := Lib.hid hS
      replace hbS := Lib.hid hbS
      replace hqd := Lib.hid hqd
      replace hO := Lib.hid hO
      replace hd := Lib.hid hd
      replace he := Lib.hid he
      clear hXl
      go_wp2
      go_roundw
      case rel => exact ⟨j + 1, by omega, by go_num, by rw [← hqd.out], hS.out, hbS.out⟩
      case measure => simp [intOf]; omega
    · obtain rfl : j = N := by omega
      rw [Nat.sub_self, List.take_zero, List.drop_zero, List.nil_append] at hO
      replace hO := Lib.hid hO
      go_wp2
      go_ret
      exact ⟨_, rfl, hbI, hO.out⟩
theorem eg_words2 (args : Array Value) (w : World) : (callFunc 100 args).run Tryd.prog w = .ok (.enter 100 args) w := by kernel_rfl
end Go.Proofs.YtdldadgnggaopaaDoor
