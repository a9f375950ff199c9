/-
  Walk: graph.first: breadth first.
  Walk: pairs.Graph.
  Walks: slices.DeleteFunc (its contract off the shelf) at the function that pairs.Apart hands it.
  Plain mathematics: breadth first from the pairs of equal nodes through the pairs that are apart; the first that is met again is met by a shortest way.
  Plain mathematics: among the pairs of equal nodes there is a way from each to each.
  Walk: graph's search begins a vertex.
  Walk: graph's search ends a vertex.
  Walk: graph's search goes through all that a vertex reaches.
  Plain mathematics: numbers given one after another, as new ones come.
-/
import Derived.Test.YtmhiambkfdkkbaaDoorMPm4
import Derived.Deep.LoopGhost
import Derived.Deep.DeepCutAuto
import Derived.Ground.SlgfProg
import Derived.Shelf.SlGeneric
import Derived.Shelf.SlicesE.DeleteFunc
import Derived.Lib.SliceRun
namespace Go.Proofs.YtmhiambkfdkkbaaDoor
open Go.RowKit
set_option maxRecDepth 100000

/-- Plain numbers as ints. -/
def castI (l : List Nat) : List Int := l.map fun (x : Nat) => (x : Int)
theorem castI_len (l : List Nat) : (castI l).length = l.length := by simp [castI]
theorem castI_snoc (l : List Nat) (x : Nat) : castI (l ++ [x]) = castI l ++ [(x : Int)] := by simp [castI]
theorem castI_get {l : List Nat} {i x : Nat} (h : l[i]? = some x) : (castI l).getD i 0 = (x : Int) := by simp [castI, List.getD, h]
theorem castI_reverse (l : List Nat) : castI l.reverse = (castI l).reverse := by simp [castI]
theorem nodup_len : ∀ (n : Nat) (l : List Nat), l.Nodup → (∀ x ∈ l, x < n) → l.length ≤ n
  | 0, l, _, h => by
    cases l with
    | nil => exact Nat.le_refl _
    | cons a l => have := h a List.mem_cons_self; omega
  | n + 1, l, hn, h => by
    have hsub := nodup_len n (l.erase n) (hn.erase n) (fun x hx => by
      have h1 := h x (List.mem_of_mem_erase hx)
      have h2 : x ≠ n := fun e => by subst e; exact (List.Nodup.not_mem_erase hn) hx
      omega)
    have : l.length ≤ (l.erase n).length + 1 := by
      by_cases hm : n ∈ l
      · have := List.length_erase_of_mem hm; omega
      · rw [List.erase_of_not_mem hm]; omega
    omega
/-- The arrows from the least on, as plain numbers. -/
def srtN (l : List Int) : List Nat := (srt l).map Int.toNat
theorem srt_mem (l : List Int) (x : Int) : x ∈ srt l ↔ x ∈ l := by unfold srt; exact (List.mergeSort_perm l _).mem_iff
theorem srt_sorted (l : List Int) : (srt l).Pairwise (· ≤ ·) := by
  have := List.pairwise_mergeSort (le := fun (x y : Int) => decide (x ≤ y)) (fun a b c h1 h2 => by simp at *; omega) (fun a b => by simp; omega) l
  unfold srt
  exact this.imp (fun h => by simpa using h)
theorem srtN_sorted (l : List Int) (hp : ∀ x ∈ l, 0 ≤ x) : (srtN l).Pairwise (· ≤ ·) := by
  unfold srtN
  rw [List.pairwise_map]
  refine (srt_sorted l).imp_of_mem fun {a b} ha hb h => ?_
  have := hp a ((srt_mem l a).1 ha)
  omega
theorem srtN_mem (l : List Int) (t : Nat) : t ∈ srtN l ↔ t ∈ l.map Int.toNat := by
  unfold srtN
  simp only [List.mem_map, srt_mem]
theorem srtN_len (l : List Int) : (srtN l).length = l.length := by simp [srtN, srt_length]
theorem srtN_get (l : List Int) (hp : ∀ x ∈ l, 0 ≤ x) (j : Nat) (hj : j < l.length) : (srt l).getD j 0 = ((srtN l).getD j 0 : Int) := by
  have hj' : j < (srt l).length := by rw [srt_length]; exact hj
  have h0 := hp _ ((srt_mem l _).1 (List.getElem_mem hj'))
  simp only [srtN, List.getD_eq_getElem?_getD, List.getElem?_map, List.getElem?_eq_getElem hj', Option.map_some, Option.getD_some]
  omega

theorem tabI_neg1 (n : Nat) : tabI n (fun _ => -1) = List.replicate n (-1) := by
  unfold tabI; apply List.ext_getElem <;> simp
theorem rowsE (B : Nat) (w : World) : Rows B w (fun _ => none) := ⟨fun _ _ h => (by cases h), fun _ _ _ _ h => (by cases h)⟩
/-- What first leaves. -/
def FirstPost (w : World) (adj : Nat → List Nat) (a b : Nat) (x : Value) (w' : World) : Prop :=
  (∃ u, IsFirst adj a b u ∧ OwnI w.heap.size w' x (castI u)) ∨ (¬ Goes adj a b ∧ x = .slice none 0 0)
/-- The search's memory. -/
structure FN (f : Names) (cv qv : Value) (n : Nat) (came : Nat → Int) (q : List Nat) : Prop where
  came : f (1, 0) = some (rowI cv (tabI n came))
  queue : f (2, 0) = some (rowI qv (castI q))
section
variable {B : Nat} {w : World} {f : Names} {cv qv : Value} {n : Nat} {came : Nat → Int} {q : List Nat}
theorem FN.congr {f' : Names} (h : FN f cv qv n came q) (e1 : f' (1, 0) = f (1, 0)) (e2 : f' (2, 0) = f (2, 0)) : FN f' cv qv n came q := ⟨e1.trans h.came, e2.trans h.queue⟩
/-- came[t] = v. -/
theorem FN.set (h : FN f cv qv n came q) (hr : Rows B w f) (t : Nat) (ht : t < n) (v : Int) : ∃ f', Rows B (w.setCell (valAt cv t) (.int .i64 v)) f' ∧ FN f' cv qv n (updN came t v) q ∧ ∀ i, i ≠ (1, 0) → f' i = f i := by
  have hs := hr.setI h.came t (by rw [tabI_len]; exact ht) v
  rw [tabI_upd] at hs
  exact ⟨_, hs, ⟨upd_same _ _ _, by rw [upd_ne _ _ (by simp)]; exact h.queue⟩, fun i hi => upd_ne _ _ hi⟩
/-- queue = append(queue, t). -/
theorem FN.push (h : FN f cv qv n came q) (hr : Rows B w f) {w1 : World} {qv' : Value} (t : Nat) (ho : OwnI B w1 qv' (castI q ++ [(t : Int)]))
    (hal : (roomOf qv' = roomOf qv ∧ w.grownBy w1 qv.ownBlock) ∨ (∃ k, qv'.ownBlock = some k ∧ w.heap.size ≤ k ∧ w.grownBy w1 none)) : ∃ f', Rows B w1 f' ∧ FN f' cv qv' n came (q ++ [t]) ∧ ∀ i, i ≠ (2, 0) → f' i = f i := by
  have hO := hr.ownI h.queue
  have hg : w.grownBy w1 qv.ownBlock := grown_via (hal.imp (·.2) (fun ⟨_, _, _, q⟩ => q))
  have hob : qv'.ownBlock = qv.ownBlock ∨ ∃ k, qv'.ownBlock = some k ∧ w.heap.size ≤ k := by
    rcases hal with ⟨q, _⟩ | ⟨k, h1, h2, _⟩
    · obtain ⟨a1, n1, c1, e1⟩ := hO.at.shape
      obtain ⟨a2, n2, c2, e2⟩ := ho.at.shape
      exact .inl (ownBlock_of_room e1 e2 q)
    · exact .inr ⟨k, h1, h2⟩
  exact ⟨_, hr.grown (r' := rowI qv' (castI q ++ [(t : Int)])) h.queue hg ho hob, ⟨by rw [upd_ne _ _ (by simp)]; exact h.came, by rw [upd_same, castI_snoc]⟩, fun i hi => upd_ne _ _ hi⟩
end

set_option maxHeartbeats 4000000 in
theorem first_any (na : Option Addr) (nc : Nat) (G : List (List Int)) (a b : Nat) (w : World) (h : ListsAt w (.slice na G.length nc) G) (hok : GraphOk G) (hn : G.length ≤ 8200) (ha : a < G.length) (hb : b < G.length) (hsz : ∀ k, k < G.length → (G.getD k []).length ≤ 17592186044416) :
    Calls Tryd.prog 118 #[.slice na G.length nc, .int .i64 a, .int .i64 b] w (Ret1 (FirstPost w (adjOf G) a b) w) := by
  have b0 := belowAlloc w (.cells #[.int .i64 (-1)] 3)
  have hI := (OwnI.lit w.heap.size w (Nat.le_refl _) [-1] (by simp [maxLen]) #[.int .i64 (-1)] rfl 1 rfl).at
  have hRep := repeat_any _ (-1) G.length _ hI (by omega)
  have hinit := BBase.init (adjOf G) a
  replace hI := Lib.hid hI
  replace h := Lib.hid h
  replace hok := Lib.hid hok
  replace hsz := Lib.hid hsz
  replace hinit := Lib.hid hinit
  replace hRep := Lib.hid hRep
  go_enter Tryd.func118, Tryd.ntmps118
  go_wp2_with fail
  refine hRep.out.mono ?_
  rintro e w1 ⟨cv, rfl, b1, hcv⟩
  obtain ⟨w0, hw0⟩ : ∃ w0 : World, w0 = w.alloc (.cells #[.int .i64 (-1)] 3) := ⟨_, rfl⟩
  rw [← hw0] at b0 b1 hcv
  rw [← tabI_neg1] at hcv
  clear hRep hI hw0
  have b01 := Below.step b0 b1
  have R1 := (rowsE w.heap.size w0).add (i := (1, 0)) (r' := rowI cv (tabI G.length fun _ => -1)) b1 (hcv.mono b0.size) (fun k hk => (hcv.lt k hk).1)
  have iA := fun w' => hcv.at.idx a (by rw [tabI_len]; exact ha) w'
  have cA := hcv.at.cellD a (by rw [tabI_len]; exact ha)
  have fA := hcv.frz a (by rw [tabI_len]; exact ha)
  have kA := (hcv.toV.blkB a (by rw [List.length_map, tabI_len]; exact ha)).2
  have R2 := R1.setI (upd_same _ _ _) a (by rw [tabI_len]; exact ha) (a : Int)
  rw [tabI_upd] at R2
  have b2 : Below w.heap.size w (w1.setCell (valAt cv a) (.int .i64 (a : Int))) := b01.setCell (Nat.le_trans b0.size kA) _
  generalize valAt cv a = ca at *
  generalize (tabI G.length fun _ => -1).getD a 0 = oa at cA
  obtain ⟨W2, hW2⟩ : ∃ W2 : World, W2 = w1.setCell ca (.int .i64 (a : Int)) := ⟨_, rfl⟩
  rw [← hW2] at R2 b2
  replace R2 := Lib.hid R2
  replace R1 := Lib.hid R1
  replace hcv := Lib.hid hcv
  go_upto_region 3 with fail
  rw [← hW2]
  clear hW2 iA cA fA
  have hB2 := b2.size
  have hal2 := belowAlloc W2 (.cells #[.int .i64 (a : Int)] 3)
  have hq2 := OwnI.lit W2.heap.size W2 (Nat.le_refl _) [(a : Int)] (by simp [maxLen]) #[.int .i64 (a : Int)] rfl 1 rfl
  have R3 := R2.out.add (i := (2, 0)) (r' := rowI (.slice (some ⟨W2.heap.size, 0, none⟩) 1 1) [(a : Int)]) hal2 (hq2.mono hB2) (fun k hk => (hq2.lt k hk).1)
  have b3 := b2.trans (hal2.mono hB2)
  obtain ⟨W3, hW3⟩ : ∃ W3 : World, W3 = W2.alloc (.cells #[.int .i64 (a : Int)] 3) := ⟨_, rfl⟩
  rw [← hW3] at R3 b3
  obtain ⟨q2, hq2e⟩ : ∃ q2, q2 = W2.heap.size := ⟨_, rfl⟩
  rw [← hq2e] at R3
  have hF0 : FN (upd (upd (upd (fun _ => none) (1, 0) (some (rowI cv (tabI G.length fun _ => -1)))) (1, 0) (some (rowI cv (tabI G.length (updN (fun _ => (-1 : Int)) a (a : Int)))))) (2, 0) (some (rowI (.slice (some ⟨q2, 0, none⟩) 1 1) [(a : Int)]))) cv (.slice (some ⟨q2, 0, none⟩) 1 1) G.length (updN (fun _ => (-1 : Int)) a (a : Int)) [a] :=
    ⟨by rw [upd_ne _ _ (by simp), upd_same], by rw [upd_same]; rfl⟩
  replace R3 := Lib.hid R3
  replace hq2 := Lib.hid hq2
  go_wp2_with fail
  rw [← hW3, ← hq2e]
  clear hW3 hq2e R2 R1 hal2 hq2
  go_loopw [8, 9] (fun qv iv wr => ∃ (i : Nat) (came : Nat → Int) (q : List Nat) (par dist : Nat → Nat) (f' : Names) (qw : Value), qw = qv ∧ iv = .int .i64 i ∧ i ≤ q.length ∧ Rows w.heap.size wr f' ∧ Below w.heap.size w wr ∧ FN f' cv qw G.length came q ∧ BOut (adjOf G) a came q par dist i ∧ ∀ x ∈ q, x < G.length) (fun _ iv _ => G.length + 1 - (intOf iv).toNat)
  case atStart => exact ⟨0, _, [a], _, _, _, _, rfl, rfl, by omega, R3.out, b3, hF0, hinit.out, fun x hx => by cases List.mem_singleton.1 hx; exact ha⟩
  case round =>
    obtain ⟨i, came, q, par, dist, f1, qv, rfl, rfl, hi, hr1, b1', h1, hO, hqn⟩ := hrel
    obtain ⟨wo, rfl⟩ : ∃ wo : World, wo = wr := ⟨_, rfl⟩
    have hql := nodup_len G.length q hO.nodup hqn
    have hOQ := hr1.ownI h1.queue
    have lQ := hOQ.at.len
    rw [castI_len] at lQ
    have hOC := hr1.ownI h1.came
    have iB := fun w' => hOC.at.idx b (by rw [tabI_len]; exact hb) w'
    have cB := hOC.at.cellD b (by rw [tabI_len]; exact hb)
    rw [tabI_get _ _ _ hb] at cB
    generalize valAt cv b = pb at *
    obtain ⟨cb, hcb⟩ : ∃ cb, came b = cb := ⟨_, rfl⟩
    rw [hcb] at cB
    by_cases hil : i < q.length
    · by_cases hneg : cb < 0
      · obtain ⟨v, hv⟩ : ∃ v, q[i]? = some v := ⟨_, List.getElem?_eq_getElem hil⟩
        have hvn := hqn v (List.mem_of_getElem? hv)
        have iV := fun w' => hOQ.at.idx i (by rw [castI_len]; exact hil) w'
        have cV := hOQ.at.cellD i (by rw [castI_len]; exact hil)
        rw [castI_get hv] at cV
        obtain ⟨mv, iR, cR, hM⟩ := (h.out.below (b1' : Below w.heap.size w wo)).row v hvn
        have hgx := hsz.out v hvn
        have hgp : ∀ x ∈ G.getD v [], 0 ≤ x ∧ x < G.length := hok.out v hvn
        have hadj : adjOf G v = (G.getD v []).map Int.toNat := rfl
        generalize G.getD v [] = gx at *
        obtain ⟨ma, mn, mc, rfl⟩ := hM.shape
        generalize valAt qv i = qa at *
        generalize valAt (.slice na G.length nc) v = ra at *
        replace hcb := Lib.hid hcb
        replace hr1 := Lib.hid hr1
        replace hOQ := Lib.hid hOQ
        replace hOC := Lib.hid hOC
        replace hM := Lib.hid hM
        replace hO := Lib.hid hO
        replace hqn := Lib.hid hqn
        replace hgp := Lib.hid hgp
        replace hadj := Lib.hid hadj
        replace hv := Lib.hid hv
        go_wp2_with fail
        refine (vals_any ma mn mc _).mono ?_
        rintro e w2 ⟨rfl, rfl⟩
        have hbv := belowAlloc wo (.cells #[.slice ma mn mc] 22)
        clear iB cB iV cV iR cR
        go_wp2_with fail
        refine (sorted_any wo.heap.size (.slice ma mn mc) gx hgx _ (by simp) (by simp) (hM.out.below hbv)).mono ?_
        rintro e w3 ⟨lv, rfl, b3', hL⟩
        have b4 : Below wo.heap.size wo w3 := hbv.trans (b3'.mono hbv.size)
        have hBo : w.heap.size ≤ wo.heap.size := b1'.size
        have R4 := hr1.out.add (i := (3, 0)) (r' := rowI lv (srt gx)) b4 (hL.mono (Nat.le_trans hBo hbv.size)) (fun k hk => Nat.le_trans hbv.size (hL.lt k hk).1)
        have h4 : FN (upd f1 (3, 0) (some (rowI lv (srt gx)))) cv qv G.length came q := h1.congr (upd_ne _ _ (by simp)) (upd_ne _ _ (by simp))
        have e4 : upd f1 (3, 0) (some (rowI lv (srt gx))) (3, 0) = some (rowI lv (srt gx)) := upd_same _ _ _
        have b5 := b1'.trans (b4.mono hBo)
        have hIn := hO.out.enter hv.out (l := (srtN gx).drop 0) (fun t => by rw [List.drop_zero, hadj.out]; exact srtN_mem gx t) (by rw [List.drop_zero]; exact srtN_sorted gx fun x hx => (hgp.out x hx).1)
        have lL := hL.at.len
        have hsl : (srt gx).length = gx.length := srt_length gx
        generalize upd f1 (3, 0) (some (rowI lv (srt gx))) = f4 at *
        replace R4 := Lib.hid R4
        replace hIn := Lib.hid hIn
        replace hL := Lib.hid hL
        replace e4 := Lib.hid e4
        go_wp2_with fail
        clear lL lQ
        go_loopw [8, 49] (fun qv jv wr => ∃ (j : Nat) (came : Nat → Int) (q : List Nat) (par dist : Nat → Nat) (f' : Names) (qw : Value), qw = qv ∧ jv = .int .i64 j ∧ j ≤ gx.length ∧ Rows w.heap.size wr f' ∧ Below w.heap.size w wr ∧ FN f' cv qw G.length came q ∧ f' (3, 0) = some (rowI lv (srt gx)) ∧ BIn (adjOf G) a came q par dist i v ((srtN gx).drop j) ∧ ∀ x ∈ q, x < G.length) (fun _ jv _ => gx.length - (intOf jv).toNat)
        case atStart => exact ⟨0, came, q, par, dist, f4, qv, rfl, rfl, by omega, R4.out, b5, h4, e4.out, hIn.out, hqn.out⟩
        case round =>
          clear hIn R4 e4 h4 b5 h1 hi hil hO hqn hv hOQ hOC hneg hcb
          obtain ⟨j, came, q, par, dist, f4, qv, rfl, rfl, hj, hr4, b5, h4, e4, hIn, hqn⟩ := hrel
          obtain ⟨wo, rfl⟩ : ∃ wo : World, wo = wr := ⟨_, rfl⟩
          have hOL := hr4.ownI e4
          have lL := hOL.at.len
          rw [hsl] at lL
          by_cases hjl : j < gx.length
          · have hjs : j < (srtN gx).length := by rw [srtN_len]; exact hjl
            obtain ⟨t, ht⟩ : ∃ t, (srtN gx)[j]? = some t := ⟨_, List.getElem?_eq_getElem hjs⟩
            have htd : (srtN gx).getD j 0 = t := by simp [List.getD, ht]
            have hdr : (srtN gx).drop j = t :: (srtN gx).drop (j + 1) := by
              rw [List.drop_eq_getElem_cons hjs]
              rw [List.getElem?_eq_getElem hjs] at ht
              injection ht with ht
              rw [ht]
            have htn : t < G.length := by
              have hm := (srtN_mem gx t).1 (List.mem_of_getElem? ht)
              obtain ⟨x, hx, rfl⟩ := List.mem_map.1 hm
              have := hgp.out x hx
              omega
            have iT := fun w' => hOL.at.idx j (by rw [hsl]; exact hjl) w'
            have cT := hOL.at.cellD j (by rw [hsl]; exact hjl)
            rw [srtN_get gx (fun x hx => (hgp.out x hx).1) j hjl, htd] at cT
            rw [hdr] at hIn
            have hOC := hr4.ownI h4.came
            have iC := fun w' => hOC.at.idx t (by rw [tabI_len]; exact htn) w'
            have cC := hOC.at.cellD t (by rw [tabI_len]; exact htn)
            rw [tabI_get _ _ _ htn] at cC
            have fC := hOC.frz t (by rw [tabI_len]; exact htn)
            have kC := (hOC.toV.blkB t (by rw [List.length_map, tabI_len]; exact htn)).2
            obtain ⟨f5, hr5, h5, k5⟩ := h4.set hr4 t htn (v : Int)
            have e5 : f5 (3, 0) = some (rowI lv (srt gx)) := (k5 _ (by simp)).trans e4
            have b6 : Below w.heap.size w (wo.setCell (valAt cv t) (.int .i64 (v : Int))) := b5.setCell kC _
            generalize valAt lv j = la at *
            generalize valAt cv t = ta at *
            obtain ⟨ct, hct⟩ : ∃ ct, came t = ct := ⟨_, rfl⟩
            rw [hct] at cC
            by_cases htc : ct < 0
            · have hadd := hIn.add (by rw [hct]; exact htc)
              have hqn2 : ∀ x ∈ q ++ [t], x < G.length := fun x hx => by
                rcases List.mem_append.1 hx with hx | hx
                · exact hqn x hx
                · cases List.mem_singleton.1 hx; exact htn
              have hql2 := nodup_len G.length q hIn.base.nodup hqn
              replace hadd := Lib.hid hadd
              replace hqn2 := Lib.hid hqn2
              replace hIn := Lib.hid hIn
              replace hqn := Lib.hid hqn
              replace hr4 := Lib.hid hr4
              replace hr5 := Lib.hid hr5
              replace hOC := Lib.hid hOC
              replace hOL := Lib.hid hOL
              replace hct := Lib.hid hct
              replace hdr := Lib.hid hdr
              replace htd := Lib.hid htd
              replace ht := Lib.hid ht
              replace k5 := Lib.hid k5
              replace e4 := Lib.hid e4
              replace e5 := Lib.hid e5
              go_upto_region 13 with fail
              obtain ⟨W5, hW5⟩ : ∃ W5 : World, W5 = wo.setCell ta (.int .i64 (v : Int)) := ⟨_, rfl⟩
              rw [← hW5]
              rw [← hW5] at hr5 b6
              clear hW5 iT cT iC cC fC lL
              have hOQ5 := hr5.out.ownI h5.queue
              have hB5 : w.heap.size ≤ W5.heap.size := b6.size
              go_wp2_with (at_builtin; refine wpl_app1 rfl _ _ rfl w.heap.size qv (castI q) t hOQ5 rfl rfl (by rw [castI_len]; omega) hB5 ?_)
              intro qv' w7 ho7 b7 hal7
              obtain ⟨f7, hr7, h7, k7⟩ := h5.push hr5.out t ho7 hal7
              replace hr7 := Lib.hid hr7
              replace ho7 := Lib.hid ho7
              replace k7 := Lib.hid k7
              clear hal7
              go_wp2
              go_roundw
              case measure => simp [intOf]; omega
              case rel => exact ⟨j + 1, _, _, _, _, f7, qv', rfl, by go_num, by omega, hr7.out, b6.trans b7, h7, (k7.out _ (by simp)).trans e5.out, hadd.out, hqn2.out⟩
            · have hold := hIn.old (by rw [hct]; omega)
              replace hold := Lib.hid hold
              replace hIn := Lib.hid hIn
              replace hqn := Lib.hid hqn
              replace hr4 := Lib.hid hr4
              replace hr5 := Lib.hid hr5
              replace hOC := Lib.hid hOC
              replace hOL := Lib.hid hOL
              replace hct := Lib.hid hct
              replace hdr := Lib.hid hdr
              replace htd := Lib.hid htd
              replace ht := Lib.hid ht
              replace k5 := Lib.hid k5
              replace e4 := Lib.hid e4
              replace e5 := Lib.hid e5
              go_wp2
              go_roundw
              case measure => simp [intOf]; omega
              case rel => exact ⟨j + 1, came, q, par, dist, f4, qv, rfl, by go_num, by omega, hr4.out, b5, h4, e4.out, hold.out, hqn.out⟩
          · obtain rfl : j = gx.length := by omega
            rw [List.drop_eq_nil_of_le (by rw [srtN_len]; exact Nat.le_refl _)] at hIn
            have hOut := hIn.leave
            have hil := get_of hIn.cur
            have hql2 := nodup_len G.length q hIn.base.nodup hqn
            replace hOut := Lib.hid hOut
            replace hIn := Lib.hid hIn
            replace hqn := Lib.hid hqn
            replace hr4 := Lib.hid hr4
            replace hOL := Lib.hid hOL
            replace e4 := Lib.hid e4
            go_wp2
            go_roundw
            case measure => simp [intOf]; omega
            case rel => exact ⟨i + 1, came, q, par, dist, f4, qv, rfl, by go_num, by omega, hr4.out, b5, h4, hOut.out, hqn.out⟩
      · have hcb0 : ¬ came b < 0 := by rw [hcb]; exact hneg
        have hbq := (hO.cameIff b).1 (by omega)
        obtain ⟨k0, hk0⟩ := List.mem_iff_getElem?.1 hbq
        have hlit := OwnI.lit wo.heap.size wo (Nat.le_refl _) [(b : Int)] (by simp [maxLen]) #[.int .i64 (b : Int)] rfl 1 rfl
        have halw := belowAlloc wo (.cells #[.int .i64 (b : Int)] 3)
        have hBo : w.heap.size ≤ wo.heap.size := b1'.size
        have R8 := hr1.add (i := (4, 0)) (r' := rowI (.slice (some ⟨wo.heap.size, 0, none⟩) 1 1) (castI [b].reverse)) halw (hlit.mono hBo) (fun k hk => (hlit.lt k hk).1)
        have b8 := b1'.trans (halw.mono hBo)
        have hcame8 : (upd f1 (4, 0) (some (rowI (.slice (some ⟨wo.heap.size, 0, none⟩) 1 1) (castI [b].reverse)))) (1, 0) = some (rowI cv (tabI G.length came)) := (upd_ne _ _ (by simp)).trans h1.came
        have hway8 := upd_same f1 (4, 0) (some (rowI (.slice (some ⟨wo.heap.size, 0, none⟩) 1 1) (castI [b].reverse)))
        generalize upd f1 (4, 0) (some (rowI (.slice (some ⟨wo.heap.size, 0, none⟩) 1 1) (castI [b].reverse))) = f8 at *
        obtain ⟨W8, hW8⟩ : ∃ W8 : World, W8 = wo.alloc (.cells #[.int .i64 (b : Int)] 3) := ⟨_, rfl⟩
        obtain ⟨s8, hs8⟩ : ∃ s8, s8 = wo.heap.size := ⟨_, rfl⟩
        rw [← hW8] at R8 b8
        rw [← hs8] at hway8
        have htree : Tree came q (adjOf G) b b [b] := .one b hbq
        replace hcb := Lib.hid hcb
        replace hr1 := Lib.hid hr1
        replace hOQ := Lib.hid hOQ
        replace hOC := Lib.hid hOC
        replace hO := Lib.hid hO
        replace hqn := Lib.hid hqn
        replace hlit := Lib.hid hlit
        replace R8 := Lib.hid R8
        replace hk0 := Lib.hid hk0
        replace hcame8 := Lib.hid hcame8
        replace hway8 := Lib.hid hway8
        replace htree := Lib.hid htree
        clear halw
        go_wp2_with fail
        rw [← hW8, ← hs8]
        clear hW8 hs8 iB cB lQ
        go_loopg [13, 14] k0 (fun k wv vv wr => ∃ (x : Nat) (u : List Nat) (f' : Names) (ww : Value), ww = wv ∧ vv = .int .i64 x ∧ q[k]? = some x ∧ Tree came q (adjOf G) x b u ∧ Rows w.heap.size wr f' ∧ Below w.heap.size w wr ∧ f' (1, 0) = some (rowI cv (tabI G.length came)) ∧ f' (4, 0) = some (rowI ww (castI u.reverse)) ∧ u.length ≤ G.length + 1 - k)
        case atStart => exact ⟨b, [b], f8, _, rfl, rfl, hk0.out, htree.out, R8.out, b8, hcame8.out, hway8.out, by have := get_of hk0.out; simp only [List.length_cons, List.length_nil]; omega⟩
        case round =>
          clear R8 b8 hcame8 hway8 htree hk0
          obtain ⟨x, u, f9, wv, rfl, rfl, hk, hT, hr9, b9, hc9, hw9, hul⟩ := hrel
          obtain ⟨wo, rfl⟩ : ∃ wo : World, wo = wr := ⟨_, rfl⟩
          obtain ⟨k, rfl⟩ : ∃ k : Nat, k = gk := ⟨_, rfl⟩
          have hxn := hqn.out x (List.mem_of_getElem? hk)
          have hkl := get_of hk
          by_cases hxa : x = a
          · subst hxa
            have hfirst := hO.out.first hT
            have hOW := hr9.ownI hw9
            have hrev := reverse_own w.heap.size wv (castI u.reverse) wo hOW (by rw [castI_len, List.length_reverse]; omega)
            have hrr : (castI u.reverse).reverse = castI u := by rw [castI_reverse, List.reverse_reverse]
            rw [hrr] at hrev
            replace hrev := Lib.hid hrev
            replace hfirst := Lib.hid hfirst
            replace hT := Lib.hid hT
            replace hr9 := Lib.hid hr9
            replace hOW := Lib.hid hOW
            replace hc9 := Lib.hid hc9
            replace hw9 := Lib.hid hw9
            replace hk := Lib.hid hk
            replace hrr := Lib.hid hrr
            go_wp2_with fail
            refine hrev.out.mono ?_
            rintro e w10 ⟨rfl, ho10, b10⟩
            replace ho10 := Lib.hid ho10
            go_wp2
            go_ret
            exact ⟨_, rfl, b9.trans b10, .inl ⟨u, hfirst.out, ho10.out⟩⟩
          · have hk1 : 0 < k := by
              by_cases e : 0 < k
              · exact e
              · obtain rfl : k = 0 := by omega
                have := hO.out.hd
                rw [hk] at this
                injection this with this
                exact absurd this hxa
            obtain ⟨p1, p2, p, p3, p4, p5, p6⟩ := hO.out.parLt k x hk1 hk
            have hT2 := Tree.cons _ _ p3 hk hk1 p4 hT
            have hpn := hqn.out p (List.mem_of_getElem? p3)
            have hne : ((x : Int) != (a : Int)) = true := by rw [bne_iff_ne]; omega
            have hOC9 := hr9.ownI hc9
            have iX := fun w' => hOC9.at.idx x (by rw [tabI_len]; exact hxn) w'
            have cX := hOC9.at.cellD x (by rw [tabI_len]; exact hxn)
            rw [tabI_get _ _ _ hxn, p4] at cX
            have hOW := hr9.ownI hw9
            have hB9 : w.heap.size ≤ wo.heap.size := b9.size
            have hlu : (castI u.reverse).length < 4398046511104 := by rw [castI_len, List.length_reverse]; omega
            have hgrow := fun (w' : World) (wv' : Value) (ho : OwnI w.heap.size w' wv' (castI u.reverse ++ [(p : Int)])) (hal : (roomOf wv' = roomOf wv ∧ wo.grownBy w' wv.ownBlock) ∨ (∃ k, wv'.ownBlock = some k ∧ wo.heap.size ≤ k ∧ wo.grownBy w' none)) => show ∃ f', Rows w.heap.size w' f' ∧ f' (1, 0) = some (rowI cv (tabI G.length came)) ∧ f' (4, 0) = some (rowI wv' (castI (p :: u).reverse)) from by
              have hg : wo.grownBy w' wv.ownBlock := grown_via (hal.imp (·.2) (fun ⟨_, _, _, q⟩ => q))
              have hob : wv'.ownBlock = wv.ownBlock ∨ ∃ k, wv'.ownBlock = some k ∧ wo.heap.size ≤ k := by
                rcases hal with ⟨q, _⟩ | ⟨k, h1, h2, _⟩
                · obtain ⟨a1, n1, c1, e1⟩ := hOW.at.shape
                  obtain ⟨a2, n2, c2, e2⟩ := ho.at.shape
                  exact .inl (ownBlock_of_room e1 e2 q)
                · exact .inr ⟨k, h1, h2⟩
              exact ⟨_, hr9.grown (r' := rowI wv' (castI u.reverse ++ [(p : Int)])) hw9 hg ho hob, by rw [upd_ne _ _ (by simp)]; exact hc9, by rw [upd_same, List.reverse_cons, castI_snoc]⟩
            generalize valAt cv x = xa at *
            replace hgrow := Lib.hid hgrow
            replace hT := Lib.hid hT
            replace hT2 := Lib.hid hT2
            replace hr9 := Lib.hid hr9
            replace hOC9 := Lib.hid hOC9
            replace hc9 := Lib.hid hc9
            replace hw9 := Lib.hid hw9
            replace hk := Lib.hid hk
            replace p3 := Lib.hid p3
            replace p4 := Lib.hid p4
            replace p6 := Lib.hid p6
            go_wp2_with (at_builtin; refine wpl_app1 rfl _ _ rfl w.heap.size wv (castI u.reverse) p hOW rfl rfl hlu hB9 ?_)
            intro wv' w11 ho11 b11 hal11
            obtain ⟨f11, hr11, hc11, hw11⟩ := hgrow.out w11 wv' ho11 hal11
            replace ho11 := Lib.hid ho11
            replace hr11 := Lib.hid hr11
            replace hc11 := Lib.hid hc11
            replace hw11 := Lib.hid hw11
            clear hal11
            go_wp2
            go_roundg (par k)
            case measure => exact p2
            case rel => exact ⟨p, p :: u, f11, wv', rfl, rfl, p3.out, hT2.out, hr11.out, b9.trans b11, hc11.out, hw11.out, by simp only [List.length_cons]; omega⟩
    · by_cases hneg : cb < 0
      · have hnone := hO.none (by omega) (by rw [hcb]; exact hneg)
        replace hnone := Lib.hid hnone
        replace hcb := Lib.hid hcb
        replace hr1 := Lib.hid hr1
        replace hOQ := Lib.hid hOQ
        replace hOC := Lib.hid hOC
        replace hO := Lib.hid hO
        replace hqn := Lib.hid hqn
        go_wp2
        go_ret
        exact ⟨_, rfl, b1', .inr ⟨hnone.out, rfl⟩⟩
      · have hcb0 : ¬ came b < 0 := by rw [hcb]; exact hneg
        have hbq := (hO.cameIff b).1 (by omega)
        obtain ⟨k0, hk0⟩ := List.mem_iff_getElem?.1 hbq
        have hlit := OwnI.lit wo.heap.size wo (Nat.le_refl _) [(b : Int)] (by simp [maxLen]) #[.int .i64 (b : Int)] rfl 1 rfl
        have halw := belowAlloc wo (.cells #[.int .i64 (b : Int)] 3)
        have hBo : w.heap.size ≤ wo.heap.size := b1'.size
        have R8 := hr1.add (i := (4, 0)) (r' := rowI (.slice (some ⟨wo.heap.size, 0, none⟩) 1 1) (castI [b].reverse)) halw (hlit.mono hBo) (fun k hk => (hlit.lt k hk).1)
        have b8 := b1'.trans (halw.mono hBo)
        have hcame8 : (upd f1 (4, 0) (some (rowI (.slice (some ⟨wo.heap.size, 0, none⟩) 1 1) (castI [b].reverse)))) (1, 0) = some (rowI cv (tabI G.length came)) := (upd_ne _ _ (by simp)).trans h1.came
        have hway8 := upd_same f1 (4, 0) (some (rowI (.slice (some ⟨wo.heap.size, 0, none⟩) 1 1) (castI [b].reverse)))
        generalize upd f1 (4, 0) (some (rowI (.slice (some ⟨wo.heap.size, 0, none⟩) 1 1) (castI [b].reverse))) = f8 at *
        obtain ⟨W8, hW8⟩ : ∃ W8 : World, W8 = wo.alloc (.cells #[.int .i64 (b : Int)] 3) := ⟨_, rfl⟩
        obtain ⟨s8, hs8⟩ : ∃ s8, s8 = wo.heap.size := ⟨_, rfl⟩
        rw [← hW8] at R8 b8
        rw [← hs8] at hway8
        have htree : Tree came q (adjOf G) b b [b] := .one b hbq
        replace hcb := Lib.hid hcb
        replace hr1 := Lib.hid hr1
        replace hOQ := Lib.hid hOQ
        replace hOC := Lib.hid hOC
        replace hO := Lib.hid hO
        replace hqn := Lib.hid hqn
        replace hlit := Lib.hid hlit
        replace R8 := Lib.hid R8
        replace hk0 := Lib.hid hk0
        replace hcame8 := Lib.hid hcame8
        replace hway8 := Lib.hid hway8
        replace htree := Lib.hid htree
        clear halw
        go_wp2_with fail
        rw [← hW8, ← hs8]
        clear hW8 hs8 iB cB lQ
        go_loopg [13, 14] k0 (fun k wv vv wr => ∃ (x : Nat) (u : List Nat) (f' : Names) (ww : Value), ww = wv ∧ vv = .int .i64 x ∧ q[k]? = some x ∧ Tree came q (adjOf G) x b u ∧ Rows w.heap.size wr f' ∧ Below w.heap.size w wr ∧ f' (1, 0) = some (rowI cv (tabI G.length came)) ∧ f' (4, 0) = some (rowI ww (castI u.reverse)) ∧ u.length ≤ G.length + 1 - k)
        case atStart => exact ⟨b, [b], f8, _, rfl, rfl, hk0.out, htree.out, R8.out, b8, hcame8.out, hway8.out, by have := get_of hk0.out; simp only [List.length_cons, List.length_nil]; omega⟩
        case round =>
          clear R8 b8 hcame8 hway8 htree hk0
          obtain ⟨x, u, f9, wv, rfl, rfl, hk, hT, hr9, b9, hc9, hw9, hul⟩ := hrel
          obtain ⟨wo, rfl⟩ : ∃ wo : World, wo = wr := ⟨_, rfl⟩
          obtain ⟨k, rfl⟩ : ∃ k : Nat, k = gk := ⟨_, rfl⟩
          have hxn := hqn.out x (List.mem_of_getElem? hk)
          have hkl := get_of hk
          by_cases hxa : x = a
          · subst hxa
            have hfirst := hO.out.first hT
            have hOW := hr9.ownI hw9
            have hrev := reverse_own w.heap.size wv (castI u.reverse) wo hOW (by rw [castI_len, List.length_reverse]; omega)
            have hrr : (castI u.reverse).reverse = castI u := by rw [castI_reverse, List.reverse_reverse]
            rw [hrr] at hrev
            replace hrev := Lib.hid hrev
            replace hfirst := Lib.hid hfirst
            replace hT := Lib.hid hT
            replace hr9 := Lib.hid hr9
            replace hOW := Lib.hid hOW
            replace hc9 := Lib.hid hc9
            replace hw9 := Lib.hid hw9
            replace hk := Lib.hid hk
            replace hrr := Lib.hid hrr
            go_wp2_with fail
            refine hrev.out.mono ?_
            rintro e w10 ⟨rfl, ho10, b10⟩
            replace ho10 := Lib.hid ho10
            go_wp2
            go_ret
            exact ⟨_, rfl, b9.trans b10, .inl ⟨u, hfirst.out, ho10.out⟩⟩
          · have hk1 : 0 < k := by
              by_cases e : 0 < k
              · exact e
              · obtain rfl : k = 0 := by omega
                have := hO.out.hd
                rw [hk] at this
                injection this with this
                exact absurd this hxa
            obtain ⟨p1, p2, p, p3, p4, p5, p6⟩ := hO.out.parLt k x hk1 hk
            have hT2 := Tree.cons _ _ p3 hk hk1 p4 hT
            have hpn := hqn.out p (List.mem_of_getElem? p3)
            have hne : ((x : Int) != (a : Int)) = true := by rw [bne_iff_ne]; omega
            have hOC9 := hr9.ownI hc9
            have iX := fun w' => hOC9.at.idx x (by rw [tabI_len]; exact hxn) w'
            have cX := hOC9.at.cellD x (by rw [tabI_len]; exact hxn)
            rw [tabI_get _ _ _ hxn, p4] at cX
            have hOW := hr9.ownI hw9
            have hB9 : w.heap.size ≤ wo.heap.size := b9.size
            have hlu : (castI u.reverse).length < 4398046511104 := by rw [castI_len, List.length_reverse]; omega
            have hgrow := fun (w' : World) (wv' : Value) (ho : OwnI w.heap.size w' wv' (castI u.reverse ++ [(p : Int)])) (hal : (roomOf wv' = roomOf wv ∧ wo.grownBy w' wv.ownBlock) ∨ (∃ k, wv'.ownBlock = some k ∧ wo.heap.size ≤ k ∧ wo.grownBy w' none)) => show ∃ f', Rows w.heap.size w' f' ∧ f' (1, 0) = some (rowI cv (tabI G.length came)) ∧ f' (4, 0) = some (rowI wv' (castI (p :: u).reverse)) from by
              have hg : wo.grownBy w' wv.ownBlock := grown_via (hal.imp (·.2) (fun ⟨_, _, _, q⟩ => q))
              have hob : wv'.ownBlock = wv.ownBlock ∨ ∃ k, wv'.ownBlock = some k ∧ wo.heap.size ≤ k := by
                rcases hal with ⟨q, _⟩ | ⟨k, h1, h2, _⟩
                · obtain ⟨a1, n1, c1, e1⟩ := hOW.at.shape
                  obtain ⟨a2, n2, c2, e2⟩ := ho.at.shape
                  exact .inl (ownBlock_of_room e1 e2 q)
                · exact .inr ⟨k, h1, h2⟩
              exact ⟨_, hr9.grown (r' := rowI wv' (castI u.reverse ++ [(p : Int)])) hw9 hg ho hob, by rw [upd_ne _ _ (by simp)]; exact hc9, by rw [upd_same, List.reverse_cons, castI_snoc]⟩
            generalize valAt cv x = xa at *
            replace hgrow := Lib.hid hgrow
            replace hT := Lib.hid hT
            replace hT2 := Lib.hid hT2
            replace hr9 := Lib.hid hr9
            replace hOC9 := Lib.hid hOC9
            replace hc9 := Lib.hid hc9
            replace hw9 := Lib.hid hw9
            replace hk := Lib.hid hk
            replace p3 := Lib.hid p3
            replace p4 := Lib.hid p4
            replace p6 := Lib.hid p6
            go_wp2_with (at_builtin; refine wpl_app1 rfl _ _ rfl w.heap.size wv (castI u.reverse) p hOW rfl rfl hlu hB9 ?_)
            intro wv' w11 ho11 b11 hal11
            obtain ⟨f11, hr11, hc11, hw11⟩ := hgrow.out w11 wv' ho11 hal11
            replace ho11 := Lib.hid ho11
            replace hr11 := Lib.hid hr11
            replace hc11 := Lib.hid hc11
            replace hw11 := Lib.hid hw11
            clear hal11
            go_wp2
            go_roundg (par k)
            case measure => exact p2
            case rel => exact ⟨p, p :: u, f11, wv', rfl, rfl, p3.out, hT2.out, hr11.out, b9.trans b11, hc11.out, hw11.out, by simp only [List.length_cons]; omega⟩
end Go.Proofs.YtmhiambkfdkkbaaDoor

namespace Go.Proofs.YtmhiambkfdkkbaaDoor
open Go.RowKit
set_option maxRecDepth 100000

theorem lenArr (g K c : Nat) (w : World) : (Builtin.len_ #[74] 3 #[.slice (some ⟨g, 0, none⟩) K c]).run Tryd.prog w = .ok (.int .i64 K) w := by
  rw [run_len_slice _ _ _ _ _ _ (by kernel_rfl)]; rfl
theorem idxArr (g K c s : Nat) (hs : s < K) (w : World) : (Instr.indexAt 74 (.slice (some ⟨g, 0, none⟩) K c) (.int .i64 s)).run Tryd.prog w = .ok (.pointer (some ⟨g, s * 2, none⟩)) w := by
  have e : Tryd.prog.elem 74 = 76 := by kernel_rfl
  have hz : ∀ w : World, (sizeOf 76).run Tryd.prog w = .ok 2 w := fun w => by kernel_rfl
  rw [run_indexAt_slice _ _ _ _ _ _ _ (by rw [e]; kernel_rfl), if_pos (by omega), e, hz]
  simp only [Result.andThen, Addr.add, Int.toNat_natCast]
  by_cases e : s * 2 = 0
  · rw [if_pos e]
    simp only [e]
  · rw [if_neg e]
    simp
/-- While the lists are written. -/
def pairTo (K N : Nat) (T : List Int) (k p : Nat) : List Int := if p < k then castI (pairL K N T p) else []
theorem pairTo_zero (K N : Nat) (T : List Int) : pairTo K N T 0 = fun _ => [] := by funext p; unfold pairTo; rw [if_neg (by omega)]
theorem pairTo_step (K N : Nat) (T : List Int) (k : Nat) : updN (pairTo K N T k) k (castI (pairL K N T k)) = pairTo K N T (k + 1) := by
  funext p
  unfold pairTo
  by_cases e : p = k
  · subst e; rw [updN_same, if_pos (by omega)]
  · rw [updN_other _ _ _ e]
    by_cases h : p < k
    · rw [if_pos h, if_pos (by omega)]
    · rw [if_neg h, if_neg (by omega)]
/-- The graph of pairs. -/
def pairG (K N : Nat) (T : List Int) : List (List Int) := rowsOf (N * N) fun p => castI (pairL K N T p)
theorem castI_append (a b : List Nat) : castI (a ++ b) = castI a ++ castI b := by simp [castI]

theorem cell_grown {w w' : World} {row : Option Nat} {p : Addr} {v : Value} (hg : w.grownBy w' row) (h : w.cell? p = some v) (hne : row ≠ some p.block) : w'.cell? p = some v :=
  (World.cell?_of_block (hg.block _ (World.block_lt_of_cell? _ _ h) (fun e => hne e.symm))).trans h
theorem Rows.monoB {B B' : Nat} {w : World} {f : Names} (h : Rows B w f) (hB : B' ≤ B) : Rows B' w f :=
  ⟨fun i r hi => by
    have ho := h.1 i r hi
    refine ⟨ho.1, ?_⟩
    rcases ho.2 with h2 | ⟨g, cap, cur, e, hb, r⟩
    · exact .inl h2
    · exact .inr ⟨g, cap, cur, e, Nat.le_trans hB hb, r⟩, h.2⟩

set_option maxHeartbeats 1000000 in
theorem pgraph_ok (r : Nat → Addr) (K R : Nat) (va : Option Addr) (vn vc : Nat) (T : List Int) (w : World) (hg : Glob r w) (h : IntsAt w (.slice va vn vc) T) (hr : RuleOk K R T) (hl : T.length ≤ 256) :
    Calls Tryd.prog 17 #[.agg #[.int .i64 K, .int .i64 R, .slice va vn vc]] w (Ret2 (fun x y w' => y = .nilIface ∧ ∃ f vals, Rows w.heap.size w' f ∧ WN f x vals (pw K (2 * wkR R) * pw K (2 * wkR R)) (fun p => castI (pairL K (pw K (2 * wkR R)) (wkT K R T) p))) w) := by
  have b0 := belowAlloc w (.cells #[.int .i64 K, .int .i64 R, .slice va vn vc] 24)
  have q : Box3 (w.alloc (.cells #[.int .i64 K, .int .i64 R, .slice va vn vc] 24)) w.heap.size (.int .i64 K) (.int .i64 R) (.slice va vn vc) := by simp [Box3, go_sem]
  have hk1 := hr.k1
  have hk4 := hr.k4
  have hokW := wk_ok hr
  have hlW := wk_small hr hl
  have hRW := wk_pos R
  have hN81 := nodes_le hokW hRW hlW
  obtain ⟨hdiv, hlen⟩ := hokW.half
  have hN1 := pw_pos (K := K) (2 * wkR R) hk1
  have hwork := fun (w' : World) (hgl : Glob r w') (hT : IntsAt w' (.slice va vn vc) T) => working_ok r K R va vn vc T w' hgl hT hr hl
  have harr := fun (a : Option Addr) (n c : Nat) (w' : World) (hgl : Glob r w') (hT : IntsAt w' (.slice a n c) (wkT K R T)) => arrows_any r K (wkR R) a n c (wkT K R T) w' hgl hT hokW hlW
  rw [hdiv] at harr
  generalize pw K (2 * wkR R) = N at *
  generalize wkT K R T = T' at *
  generalize wkR R = R' at *
  replace hwork := Lib.hid hwork
  replace harr := Lib.hid harr
  replace hg := Lib.hid (hg.below b0)
  replace h := Lib.hid (h.below b0)
  replace hokW := Lib.hid hokW
  replace hr := Lib.hid hr
  replace hdiv := Lib.hid hdiv
  replace hlen := Lib.hid hlen
  go_enter Tryd.func17, Tryd.ntmps17
  go_wp2_with fail
  refine (hwork.out _ hg.out h.out).mono ?_
  rintro e w1 ⟨x, y, rfl, b1, rfl, a, n, c, rfl, hT1⟩
  have b01 := Below.step b0 b1
  have ba := belowAlloc w1 (.cells #[.int .i64 K, .int .i64 R', .slice a n c] 24)
  have q1 : Box3 (w1.alloc (.cells #[.int .i64 K, .int .i64 R', .slice a n c] 24)) w1.heap.size (.int .i64 K) (.int .i64 R') (.slice a n c) := by simp [Box3, go_sem]
  have b02 := Below.step b01 ba
  have b12 := Below.step b1 ba
  have hT2 := hT1.below ba
  clear q
  replace hT1 := Lib.hid hT1
  replace hT2 := Lib.hid hT2
  go_wp2_with fail
  refine (harr.out a n c _ (hg.out.below b12) hT2.out).mono ?_
  rintro e w3 ⟨lv, rfl, b3, hA⟩
  have b03 := Below.step b02 b3
  clear q1
  obtain ⟨vs, hvs, hvl, hrows⟩ := hA
  obtain ⟨la, ln, lc, rfl⟩ := hvs.shape
  have ll := fun w' => hvs.len oneArrows 3 w'
  rw [hvl] at ll
  have hNN : (N : Int) * (N : Int) = ((N * N : Nat) : Int) := by simp
  have hM6 : N * N ≤ 6561 := Nat.mul_le_mul hN81 hN81
  have hNz1 : ¬ (N : Int) = 0 := by omega
  have hNz2 : ((N : Int) == 0) = false := by rw [beq_eq_false_iff_ne]; omega
  have hNz3 : (0 : Int) < N := by omega
  have hNz4 : ¬ N = 0 := by omega
  obtain ⟨M, hM⟩ : ∃ M, N * N = M := ⟨_, rfl⟩
  rw [hM] at hNN hM6
  have hwM : IntKind.i64.wrap (M : Int) = M := wrapK (by omega) (by omega)
  obtain ⟨ov, w4, mk, ho, hb4⟩ := run_makeW oneLists (M : Int) M w3 rfl (by omega)
  obtain ⟨f1, hr1, h1⟩ := WN.made M hb4 (Nat.le_refl _) ho
  obtain ⟨oa, on, oc, rfl⟩ := ho.shape
  have lo := fun w' => (ho.at).len oneLists 3 w'
  rw [List.length_replicate] at lo
  rw [← pairTo_zero K N T'] at h1
  replace hvs := Lib.hid hvs
  replace hrows := Lib.hid hrows
  replace hr1 := Lib.hid hr1
  replace ho := Lib.hid ho
  replace hM := Lib.hid hM
  go_wp2_with fail
  clear mk lo ll
  go_loopw [33] (fun kv wr => ∃ (k : Nat) (f : Names) (vals : List Value), k ≤ M ∧ kv = .int .i64 k ∧ Rows w3.heap.size wr f ∧ Below w3.heap.size w3 wr ∧ WN f (.slice oa on oc) vals M (pairTo K N T' k)) (fun kv _ => M - (intOf kv).toNat)
  case atStart => exact ⟨0, f1, _, by omega, rfl, hr1.out, hb4, h1⟩
  case round =>
    clear h1 ho hr1 hb4
    obtain ⟨k, f2, vals, hk, rfl, hr2, b2, h2⟩ := hrel
    obtain ⟨wo, rfl⟩ : ∃ wo : World, wo = wr := ⟨_, rfl⟩
    by_cases hlt : k < M
    · obtain ⟨u, hu⟩ : ∃ u, k / N = u := ⟨_, rfl⟩
      obtain ⟨v, hv⟩ : ∃ v, k % N = v := ⟨_, rfl⟩
      have hun : u < N := by rw [← hu]; exact div_lt_of (by rw [hM.out]; exact hlt)
      have hvn : v < N := by rw [← hv]; exact Nat.mod_lt _ (by omega)
      have hqu : (k : Int) / (N : Int) = (u : Int) := by rw [← hu]; simp
      have hqv : (k : Int) % (N : Int) = (v : Int) := by rw [← hv]; simp
      have hqu2 : (k : Int).tdiv (N : Int) = (u : Int) := by rw [Int.tdiv_eq_ediv_of_nonneg (by omega)]; exact hqu
      have hqv2 : (k : Int).tmod (N : Int) = (v : Int) := by rw [Int.tmod_eq_emod_of_nonneg (by omega)]; exact hqv
      have hwu : IntKind.i64.wrap (u : Int) = u := wrapK (by omega) (by omega)
      have hwv : IntKind.i64.wrap (v : Int) = v := wrapK (by omega) (by omega)
      obtain ⟨gu, cu, eu, hcu, hcellU⟩ := hrows.out u hun
      obtain ⟨gv, cv, ev, hcv, hcellV⟩ := hrows.out v hvn
      have iU := fun w' => hvs.out.idx oneArrows u (by omega) w'
      have iV := fun w' => hvs.out.idx oneArrows v (by omega) w'
      have cU3 := hvs.out.cellV u (by omega)
      have cV3 := hvs.out.cellV v (by omega)
      rw [eu] at cU3
      rw [ev] at cV3
      have cU := (b2.cell (World.block_lt_of_cell? _ _ cU3)).trans cU3
      generalize valAt (.slice la ln lc) u = ua at *
      have lenU := lenArr gu K cu
      have lenV := lenArr gv K cv
      have idxU := fun s (hs : s < K) w' => idxArr gu K cu s hs w'
      have idxV := fun s (hs : s < K) w' => idxArr gv K cv s hs w'
      have hcU := fun (w' : World) (hb : Below w3.heap.size w3 w') s (hs : s < K) => (⟨cell_keep hb (hcellU s hs).1, cell_keep hb (hcellU s hs).2⟩ : w'.cell? ⟨gu, s * 2, none⟩ = some (.int .i64 (toN K N u s)) ∧ w'.cell? ⟨gu, s * 2 + 1, none⟩ = some (.int .i64 (labN K T' u s)))
      have hcV := fun (w' : World) (hb : Below w3.heap.size w3 w') s (hs : s < K) => (⟨cell_keep hb (hcellV s hs).1, cell_keep hb (hcellV s hs).2⟩ : w'.cell? ⟨gv, s * 2, none⟩ = some (.int .i64 (toN K N v s)) ∧ w'.cell? ⟨gv, s * 2 + 1, none⟩ = some (.int .i64 (labN K T' v s)))
      have cVk := fun (w' : World) (hb : Below w3.heap.size w3 w') => (hb.cell (World.block_lt_of_cell? _ _ cV3)).trans cV3
      generalize valAt (.slice la ln lc) v = va' at *
      replace hcU := Lib.hid hcU
      replace hcV := Lib.hid hcV
      replace cVk := Lib.hid cVk
      replace idxU := Lib.hid idxU
      replace idxV := Lib.hid idxV
      replace hcellU := Lib.hid hcellU
      replace hcellV := Lib.hid hcellV
      replace hr2 := Lib.hid hr2
      replace hu := Lib.hid hu
      replace hv := Lib.hid hv
      replace eu := Lib.hid eu
      replace ev := Lib.hid ev
      clear cU3 cV3
      go_wp2_with fail
      clear cU iU
      go_loopw [10, 43] (fun tv sv wr => ∃ (s : Nat) (tw : Value), s ≤ K ∧ sv = .int .i64 s ∧ tw = tv ∧ OwnI wo.heap.size wr tw (castI (rawP K N T' u v s)) ∧ Below wo.heap.size wo wr) (fun _ sv _ => K - (intOf sv).toNat)
      case atStart => exact ⟨0, _, by omega, rfl, rfl, OwnI.nil _ _, Below.refl _ _⟩
      case round =>
        obtain ⟨s, tv, hs, rfl, rfl, hoT, bT⟩ := hrel
        obtain ⟨wt, rfl⟩ : ∃ wt : World, wt = wr := ⟨_, rfl⟩
        by_cases hsl : s < K
        · have b3t := b2.trans (bT.mono b2.size)
          have iS := fun w' => idxU.out s hsl w'
          obtain ⟨cS0, cS1⟩ := hcU.out wt b3t s hsl
          obtain ⟨X, hX⟩ : ∃ X, toN K N u s = X := ⟨_, rfl⟩
          obtain ⟨Y, hY⟩ : ∃ Y, labN K T' u s = Y := ⟨_, rfl⟩
          rw [hX] at cS0
          rw [hY] at cS1
          have hXN : X < N := by rw [← hX]; exact toN_lt (by omega)
          have bA := belowAlloc wt (.cells #[.int .i64 X, .int .i64 Y] 76)
          have bTA := bT.trans (bA.mono bT.size)
          have b3A := b3t.trans (bA.mono b3t.size)
          have cA0 : (wt.alloc (.cells #[.int .i64 X, .int .i64 Y] 76)).cell? ⟨wt.heap.size, 0, none⟩ = some (.int .i64 X) := by simp [go_sem]
          have cA1 : (wt.alloc (.cells #[.int .i64 X, .int .i64 Y] 76)).cell? ⟨wt.heap.size, 1, none⟩ = some (.int .i64 Y) := by simp [go_sem]
          have cV := cVk.out _ b3A
          have hoA := hoT.below bA
          have hneT : tv.ownBlock ≠ some wt.heap.size := fun e => by have := (hoT.lt _ e).2; omega
          replace hoT := Lib.hid hoT
          replace hoA := Lib.hid hoA
          replace hX := Lib.hid hX
          replace hY := Lib.hid hY
          replace cA0 := Lib.hid cA0
          replace cA1 := Lib.hid cA1
          go_wp2_with fail
          obtain ⟨wa, hwa⟩ : ∃ wa : World, wa = wt.alloc (.cells #[.int .i64 X, .int .i64 Y] 76) := ⟨_, rfl⟩
          rw [← hwa] at bA bTA b3A cA0 cA1 cV hoA ⊢
          replace hwa := Lib.hid hwa
          go_loopw [10, 54] (fun tv' jv wr => ∃ (j : Nat) (tw : Value), j ≤ K ∧ jv = .int .i64 j ∧ tw = tv' ∧ OwnI wo.heap.size wr tw (castI (rawP K N T' u v s ++ rawS K N T' u v s j)) ∧ Below wo.heap.size wo wr ∧ tw.ownBlock ≠ some wt.heap.size ∧ wr.cell? ⟨wt.heap.size, 0, none⟩ = some (.int .i64 X) ∧ wr.cell? ⟨wt.heap.size, 1, none⟩ = some (.int .i64 Y)) (fun _ jv _ => K - (intOf jv).toNat)
          case atStart => exact ⟨0, _, by omega, rfl, rfl, by simpa [rawS] using hoA.out, bTA, hneT, cA0.out, cA1.out⟩
          case round =>
            obtain ⟨j, tj, hj, rfl, rfl, hoJ, bJ, hne, y0, y1⟩ := hrel
            obtain ⟨wj, rfl⟩ : ∃ wj : World, wj = wr := ⟨_, rfl⟩
            by_cases hjl : j < K
            · have b3j := b2.trans (bJ.mono b2.size)
              have iJ := fun w' => idxV.out j hjl w'
              obtain ⟨cJ0, cJ1⟩ := hcV.out wj b3j j hjl
              obtain ⟨X2, hX2⟩ : ∃ X, toN K N v j = X := ⟨_, rfl⟩
              obtain ⟨Y2, hY2⟩ : ∃ Y, labN K T' v j = Y := ⟨_, rfl⟩
              rw [hX2] at cJ0
              rw [hY2] at cJ1
              have hXN2 : X2 < N := by rw [← hX2]; exact toN_lt (by omega)
              have bA2 := belowAlloc wj (.cells #[.int .i64 X2, .int .i64 Y2] 76)
              have y0' := cell_keep bA2 y0
              have y1' := cell_keep bA2 y1
              have bJA := bJ.trans (bA2.mono bJ.size)
              have hoJA := hoJ.below bA2
              have hsz := bJA.size
              have hwt : wt.heap.size < wj.heap.size := World.block_lt_of_cell? _ _ y0
              have hlenJ : (castI (rawP K N T' u v s ++ rawS K N T' u v s j)).length ≤ 100 := by
                rw [castI_len, List.length_append]
                have e1 := rawP_len K N T' u v s
                have e2 := rawS_len K N T' u v s j
                have e3 := Nat.mul_le_mul hs hk4
                omega
              replace hoJ := Lib.hid hoJ
              replace hX2 := Lib.hid hX2
              replace hY2 := Lib.hid hY2
              have cB0 : (wj.alloc (.cells #[.int .i64 X2, .int .i64 Y2] 76)).cell? ⟨wj.heap.size, 0, none⟩ = some (.int .i64 X2) := by simp [go_sem]
              have cB1 : (wj.alloc (.cells #[.int .i64 X2, .int .i64 Y2] 76)).cell? ⟨wj.heap.size, 1, none⟩ = some (.int .i64 Y2) := by simp [go_sem]
              go_upto_region 17 with fail
              obtain ⟨wb, hwb⟩ : ∃ wb : World, wb = wj.alloc (.cells #[.int .i64 X2, .int .i64 Y2] 76) := ⟨_, rfl⟩
              rw [← hwb] at bA2 y0' y1' bJA hoJA hsz cB0 cB1 ⊢
              have hszb : wj.heap.size < wb.heap.size := World.block_lt_of_cell? _ _ cB0
              replace hszb := Lib.hid hszb
              replace hwb := Lib.hid hwb
              by_cases hYY : Y = Y2
              · have hYq : (Y == Y2) = true := by rw [beq_iff_eq]; exact hYY
                have hraw : rawS K N T' u v s (j + 1) = rawS K N T' u v s j ++ [X * N + X2] := by
                  rw [rawS_succ]; unfold rawT
                  rw [hY.out, hY2.out, hX.out, hX2.out, if_pos hYY]
                obtain ⟨m, hm⟩ : ∃ m, X * N = m := ⟨_, rfl⟩
                have hm1 : (X : Int) * (N : Int) = (m : Int) := by rw [← hm]; simp
                have hml : m ≤ 6561 := by rw [← hm]; exact Nat.le_trans (Nat.mul_le_mul (show X ≤ 81 by omega) hN81) (by decide)
                have hwm : IntKind.i64.wrap (m : Int) = m := wrapK (by omega) (by omega)
                have hsum : (m : Int) + (X2 : Int) = ((m + X2 : Nat) : Int) := by simp
                rw [hm] at hraw
                obtain ⟨z, hz⟩ : ∃ z, m + X2 = z := ⟨_, rfl⟩
                rw [hz] at hsum hraw
                have hzl : z ≤ 7000 := by omega
                have hwz : IntKind.i64.wrap (z : Int) = z := wrapK (by omega) (by omega)
                replace hraw := Lib.hid hraw
                replace hm := Lib.hid hm
                replace hz := Lib.hid hz
                replace hYY := Lib.hid hYY
                go_wp2_with (at_builtin; go_loud (refine wpl_app1 rfl _ _ rfl wo.heap.size tj _ z hoJA rfl rfl (by omega) hsz ?_))
                intro v' w7 ho7 b7 hal
                have hne' : v'.ownBlock ≠ some wt.heap.size := by
                  rcases hal with ⟨q1, _⟩ | ⟨m, q1, q2, _⟩
                  · rw [ownBlock_eq hoJA ho7 q1]; exact hne
                  · rw [q1]; intro e; injection e with e; have := hszb.out; omega
                have y07 : w7.cell? ⟨wt.heap.size, 0, none⟩ = some (.int .i64 X) ∧ w7.cell? ⟨wt.heap.size, 1, none⟩ = some (.int .i64 Y) := by
                  rcases hal with ⟨_, q2⟩ | ⟨_, _, _, q2⟩
                  · exact ⟨cell_grown q2 y0' hne, cell_grown q2 y1' hne⟩
                  · exact ⟨cell_grown q2 y0' (by simp), cell_grown q2 y1' (by simp)⟩
                obtain ⟨ta, tn, tc, rfl⟩ := ho7.at.shape
                replace ho7 := Lib.hid ho7
                replace y07 := Lib.hid y07
                clear hal
                go_wp2
                go_roundw
                case measure => simp [intOf]; omega
                case rel => exact ⟨j + 1, _, by omega, by go_num, rfl, by rw [hraw.out, ← List.append_assoc, castI_snoc]; exact ho7.out, bJA.trans b7, hne', y07.out.1, y07.out.2⟩
              · have hYq : (Y == Y2) = false := by rw [beq_eq_false_iff_ne]; exact hYY
                have hraw : rawS K N T' u v s (j + 1) = rawS K N T' u v s j := by
                  rw [rawS_succ]; unfold rawT
                  rw [hY.out, hY2.out, if_neg hYY, List.append_nil]
                replace hraw := Lib.hid hraw
                replace hoJA := Lib.hid hoJA
                replace hYY := Lib.hid hYY
                go_wp2
                go_roundw
                case measure => simp [intOf]; omega
                case rel => exact ⟨j + 1, _, by omega, by go_num, rfl, by rw [hraw.out]; exact hoJA.out, bJA, hne, y0', y1'⟩
            · obtain rfl : j = K := by omega
              rw [← rawP_succ] at hoJ
              replace hoJ := Lib.hid hoJ
              go_wp2
              go_roundw
              case measure => simp [intOf]; omega
              case rel => exact ⟨s + 1, _, by omega, by go_num, rfl, hoJ.out, bJ⟩
        · obtain rfl : s = K := by omega
          have hlT : (castI (rawP s N T' u v s)).length ≤ 17592186044416 := by
            rw [castI_len]
            have e1 := rawP_len s N T' u v s
            have e3 := Nat.mul_le_mul hk4 hk4
            omega
          have hsz := bT.size
          replace hoT := Lib.hid hoT
          go_wp2_with fail
          refine (sort_own wo.heap.size tv _ wt hoT.out hlT hsz).mono ?_
          rintro e w8 ⟨rfl, ho8, b8⟩
          have bT8 := bT.trans b8
          replace ho8 := Lib.hid ho8
          go_wp2_with fail
          refine (compact_own wo.heap.size tv _ w8 ho8.out (by rw [srt_length]; omega)).mono ?_
          rintro e w9 ⟨x, rfl, _, ho9, b9⟩
          have bT9 := bT8.trans b9
          have hded : ded (srt (castI (rawP s N T' u v s))) (srt (castI (rawP s N T' u v s))).length = castI (pairL s N T' k) := by
            refine ded_pair (by omega) (srt_sorted _) (fun x => ?_)
            rw [srt_mem, hu.out, hv.out]; rfl
          rw [hded] at ho9
          have hnew := h2.new hr2.out k bT9 b2.size ho9
          obtain ⟨y1, y2, y3, f8, hr8, h8, _⟩ := h2.put hlt hnew
          rw [pairTo_step] at h8
          have iO := fun w' => ((hr2.out.ownV h2.outer).at).idx oneLists k (by rw [h2.len]; exact hlt) w'
          generalize valAt (.slice oa on oc) k = ka at *
          obtain ⟨xa, xn, xc, rfl⟩ := ho9.at.shape
          have b39 := b2.trans (bT9.mono b2.size)
          replace hr8 := Lib.hid hr8
          replace ho9 := Lib.hid ho9
          replace hded := Lib.hid hded
          replace hnew := Lib.hid hnew
          go_wp2
          go_roundw
          case measure => simp [intOf]; omega
          case rel => exact ⟨k + 1, f8, _, by omega, by go_num, hr8.out, b39.setCell y3 _, h8⟩
    · obtain rfl : k = M := by omega
      have hR := hr2.monoB (Nat.le_trans b03.size (Nat.le_refl _))
      have hW : WN f2 (.slice oa on oc) vals (N * N) (fun p => castI (pairL K N T' p)) := by
        rw [hM.out]
        exact ⟨h2.outer, h2.len, fun u hu => by rw [h2.rows u hu]; unfold pairTo; rw [if_pos hu]⟩
      have bE := Below.step b03 b2
      replace hR := Lib.hid hR
      replace hr2 := Lib.hid hr2
      go_wp2
      go_ret2
      exact ⟨_, _, rfl, bE, rfl, _, _, hR.out, hW⟩
end Go.Proofs.YtmhiambkfdkkbaaDoor

namespace Go.Proofs.YtmhiambkfdkkbaaDoor
open Go.RowKit Go.Shelf Go.Sort
set_option maxRecDepth 100000

def Tryd.laysDel_ren : Go.Shelf.Ren := ⟨fun | 10 => 78 | 6 => 73 | n => n, fun | 22 => 22 | 23 => 3 | 25 => 82 | 3 => 3 | 4 => 4 | 0 => 0 | n => n, fun | n => n⟩
theorem Tryd.laysDel : Go.Proofs.SlLaysH.n10 Tryd.prog Tryd.laysDel_ren := {
  mixed := by kernel_rfl
  f6 := ⟨Tryd.f73.name, by decide, Tryd.func73.trans (congrArg some (by kernel_rfl))⟩
  f10 := ⟨Tryd.f78.name, by decide, Tryd.func78.trans (congrArg some (by kernel_rfl))⟩
  t0 := Tryd.underlying0
  a0 := Tryd.isAgg0
  z0 := Tryd.sizeOf0
  v0 := Tryd.zeroValue0
  t3 := Tryd.underlying3
  a3 := Tryd.isAgg3
  z3 := Tryd.sizeOf3
  v3 := Tryd.zeroValue3
  t4 := Tryd.underlying4
  a4 := Tryd.isAgg4
  z4 := Tryd.sizeOf4
  v4 := Tryd.zeroValue4
  t22 := Tryd.underlying22
  a22 := Tryd.isAgg22
  z22 := Tryd.sizeOf22
  v22 := Tryd.zeroValue22
  a23 := Tryd.isAgg3
  z23 := Tryd.sizeOf3
  t25 := Tryd.underlying82
  a25 := Tryd.isAgg82
  z25 := Tryd.sizeOf82
  v25 := Tryd.zeroValue82 }

/-- Are quotient and rest one? -/
def dgI (N : Nat) (x : Int) : Bool := IntKind.i64.wrap (x.tdiv N) == x.tmod N
theorem dgI_aux (a c : Nat) (ha : a ≤ 100000) : (IntKind.i64.wrap (a : Int) == (c : Int)) = decide (a = c) := by
  rw [wrapK (x := (a : Int)) (by omega) (by omega)]
  by_cases e : a = c
  · simp [e]
  · rw [decide_eq_false e, beq_eq_false_iff_ne]; omega
theorem dgI_nat {N p : Nat} (hp : p ≤ 100000) : dgI N p = decide (Diag N p) := by
  unfold dgI
  have h1 : p / N ≤ 100000 := Nat.le_trans (Nat.div_le_self _ _) hp
  have e1 : (p : Int).tdiv (N : Int) = ((p / N : Nat) : Int) := by rw [Int.tdiv_eq_ediv_of_nonneg (by omega)]; simp
  have e2 : (p : Int).tmod (N : Int) = ((p % N : Nat) : Int) := by rw [Int.tmod_eq_emod_of_nonneg (by omega)]; simp
  rw [e1, e2, dgI_aux _ _ h1, decide_eq_decide]
  exact Iff.rfl

theorem apart1_any (x : Int) (b N : Nat) (w : World) (hN : 1 ≤ N) (hb : w.cell? ⟨b, 0, none⟩ = some (.int .i64 N)) :
    Calls Tryd.prog 79 #[.int .i64 x, .pointer (some ⟨b, 0, none⟩)] w (RetB (dgI N x) w) := by
  have h1 : ¬ (N : Int) = 0 := by omega
  have h2 : ((N : Int) == 0) = false := by rw [beq_eq_false_iff_ne]; omega
  have h3 : ¬ N = 0 := by omega
  go_enter Tryd.func79, Tryd.ntmps79
  go_upto_region 1 with fail
  refine wp_region_plan (fun w' => w'.cell? ⟨b, 0, none⟩ = some (.int .i64 N)) 7 [(0, true), (1, true), (2, true), (3, true), (4, true), (5, true), (6, true)] (by kernel_rfl) (by kernel_rfl) ?_
  have hS : w.drew.cell? ⟨b, 0, none⟩ = some (.int .i64 N) := hb
  refine headY (v := ?_) (some 4) rfl rfl (Or.inl ⟨by rfl, ?_⟩) hS ?_
  rotate_left
  · rintro W' s0; go_simp; try with_reducible rfl
  simp only [Act.put, List.setIfInBounds_toArray, List.set_cons_zero, List.set_cons_succ]
  refine headY (v := ?_) (some 5) rfl rfl (Or.inl ⟨by rfl, ?_⟩) hS ?_
  rotate_left
  · rintro W' s0; go_simp; try with_reducible rfl
  simp only [Act.put, List.setIfInBounds_toArray, List.set_cons_zero, List.set_cons_succ]
  refine headY (v := ?_) (some 6) rfl rfl (Or.inl ⟨by rfl, ?_⟩) hS ?_
  rotate_left
  · rintro W' s0; go_simp; try with_reducible rfl
  simp only [Act.put, List.setIfInBounds_toArray, List.set_cons_zero, List.set_cons_succ]
  refine headY (v := ?_) (some 7) rfl rfl (Or.inl ⟨by rfl, ?_⟩) hS ?_
  rotate_left
  · rintro W' s0; go_simp; try with_reducible rfl
  simp only [Act.put, List.setIfInBounds_toArray, List.set_cons_zero, List.set_cons_succ]
  refine headY (v := ?_) (some 8) rfl rfl (Or.inl ⟨by rfl, ?_⟩) hS ?_
  rotate_left
  · rintro W' s0; go_simp; try with_reducible rfl
  simp only [Act.put, List.setIfInBounds_toArray, List.set_cons_zero, List.set_cons_succ]
  refine headY (v := ?_) (some 9) rfl rfl (Or.inl ⟨by rfl, ?_⟩) hS ?_
  rotate_left
  · rintro W' s0; go_simp; try with_reducible rfl
  simp only [Act.put, List.setIfInBounds_toArray, List.set_cons_zero, List.set_cons_succ]
  refine headY (v := ?_) (some 10) rfl rfl (Or.inl ⟨by rfl, ?_⟩) hS ?_
  rotate_left
  · rintro W' s0; go_simp; try with_reducible rfl
  simp only [Act.put, List.setIfInBounds_toArray, List.set_cons_zero, List.set_cons_succ]
  refine head0 ?_
  simp only [List.drop_succ_cons, List.drop_zero]
  clear hS
  go_wp2
  refine NoPanic.normal ?_
  go_wp2
  go_ret
  exact ⟨1, rfl, rfl⟩
theorem eg_apart1 (args : Array Value) (w : World) : (callFunc 79 args).run Tryd.prog w = .ok (.enter 79 args) w := by kernel_rfl

theorem gives1 (x : Int) (b N : Nat) (w : World) (hN : 1 ≤ N) (hb : w.cell? ⟨b, 0, none⟩ = some (.int .i64 N)) : FnGives Tryd.prog 79 #[.pointer (some ⟨b, 0, none⟩)] #[.int .i64 x] (.bool (dgI N x)) w := by
  refine (apart1_any x b N w hN hb).mono ?_
  rintro e w' ⟨n, rfl, rfl⟩
  exact ⟨rfl, n, rfl⟩
theorem delete_own (B : Nat) (v : Value) (xs : List Int) (b N : Nat) (w : World) (h : OwnI B w v xs) (hx : xs ≠ []) (hN : 1 ≤ N) (hb : w.cell? ⟨b, 0, none⟩ = some (.int .i64 N)) (hne : v.ownBlock ≠ some b) :
    Calls Tryd.prog 78 #[v, .func (.func 79) #[] #[.pointer (some ⟨b, 0, none⟩)]] w fun e w' => ∃ x, e = .returned x ∧ x.ownBlock = v.ownBlock ∧ OwnI B w' x (xs.filter fun x => !dgI N x) ∧ Below B w w' := by
  have hbl := World.block_lt_of_cell? _ _ hb
  rcases h.2 with ⟨rfl, hn⟩ | ⟨g, cap, cur, rfl, hB, hg, hn, hm, hs, ht⟩
  · exact absurd (List.length_eq_zero_iff.1 hn) hx
  · have hne' : b ≠ g := fun e => hne (by rw [e]; rfl)
    have hcon := AnyE.slices_DeleteFunc Tryd.laysDel (Value.int .i64) (fun _ => rfl) (dgI N) 79 #[.pointer (some ⟨b, 0, none⟩)] (fun args w' => eg_apart1 args w') 0 (fun w => by kernel_rfl) g 0 cap xs.toArray w
      (fun W x hb' => gives1 x b N W hN ((hb'.cell (p := ⟨b, 0, none⟩) hbl).trans hb))
      (fun n os dk x _ => gives1 x b N _ hN (by
        unfold sortWorld
        rw [cell?_grow _ _ _ (by show b < (putRow _ _ _ _ _).heap.size; rw [size_putRow]; exact hbl), cell?_putRow_other _ _ g 0 _ _ (Or.inl hne')]
        exact hb))
      (holds_of_block_i hg (by simpa using ht)) (by have := h.at.len_le; simpa using this) (by simpa using hn)
    refine Calls.mono hcon ?_
    rintro e w' ⟨rfl, q, rfl⟩
    have hfl : (xs.toArray.toList.filter fun x => !dgI N x) = xs.filter fun x => !dgI N x := rfl
    rw [hfl]
    have hle := List.length_filter_le (fun x => !dgI N x) xs
    generalize hF : (xs.filter fun x => !dgI N x) = F at *
    have hL : (F ++ List.replicate (xs.toArray.size - F.length) 0).length = xs.length := by simp; omega
    have ho := ownsRow_sorted_i (w := w) (n := q) (os := #[]) (ss := xs) (ts := F ++ List.replicate (xs.toArray.size - F.length) 0) hL hB hg hn hm hs
    have hgr := grownBy_sorted_i (w := w) (g := g) (n := q) (os := #[]) (F ++ List.replicate (xs.toArray.size - F.length) 0).toArray
    rw [grow_empty] at ho hgr
    have hO : OwnI B (putRow (Value.int .i64) (Sort.ahead w q) g 0 (F ++ List.replicate (xs.toArray.size - F.length) 0).toArray) (.slice (some ⟨g, 0, none⟩) xs.length cap) (F ++ List.replicate (xs.toArray.size - F.length) 0) := by
      unfold OwnI; rw [hL]; exact ho
    have ho2 := hO.cutTo F.length (by rw [hL]; exact hle)
    rw [List.take_left' rfl] at ho2
    exact ⟨_, rfl, rfl, ho2, (Below.refl _ _).grown hgr (by have := (Array.getElem?_eq_some_iff.1 hg).1; omega) (fun k hk => by cases hk; exact hB)⟩
end Go.Proofs.YtmhiambkfdkkbaaDoor

namespace Go.Proofs.YtmhiambkfdkkbaaDoor

/-- The search: the levels D, the queue q; the first i of it have been gone through, and of the next, v, the arrows to pre. -/
structure MIn (N : Nat) (adj : Nat → List Nat) (D : Nat → Nat) (q : List Nat) (i v : Nat) (pre : List Nat) : Prop where
  at_ : q[i]? = some v
  nodup : q.Nodup
  low : ∀ x ∈ q, x < N * N
  diag : ∀ x, x < N * N → Diag N x → x ∈ q ∧ D x = 0
  old : ∀ x, x < N * N → ¬ Diag N x → (x ∈ q ↔ 0 < D x)
  mono : ∀ (j k x y : Nat), j ≤ k → q[j]? = some x → q[k]? = some y → D x ≤ D y
  top : ∀ x ∈ q, D x ≤ D v + 1
  bnd : ∀ x ∈ q, D x ≤ q.length
  done : ∀ (k x : Nat), k < i → q[k]? = some x → ∀ t ∈ adj x, (¬ Diag N t → t ∈ q ∧ D t ≤ D x + 1) ∧ (Diag N t → Diag N x)
  now : ∀ t ∈ pre, (¬ Diag N t → t ∈ q ∧ D t ≤ D v + 1) ∧ (Diag N t → Diag N v)
/-- Between two of the queue: the first i have been gone through. -/
structure MOut (N : Nat) (adj : Nat → List Nat) (D : Nat → Nat) (q : List Nat) (i : Nat) : Prop where
  nodup : q.Nodup
  low : ∀ x ∈ q, x < N * N
  diag : ∀ x, x < N * N → Diag N x → x ∈ q ∧ D x = 0
  old : ∀ x, x < N * N → ¬ Diag N x → (x ∈ q ↔ 0 < D x)
  mono : ∀ (j k x y : Nat), j ≤ k → q[j]? = some x → q[k]? = some y → D x ≤ D y
  top : ∀ v : Nat, q[i]? = some v → ∀ x ∈ q, D x ≤ D v + 1
  bnd : ∀ x ∈ q, D x ≤ q.length
  done : ∀ (k x : Nat), k < i → q[k]? = some x → ∀ t ∈ adj x, (¬ Diag N t → t ∈ q ∧ D t ≤ D x + 1) ∧ (Diag N t → Diag N x)
section
variable {N : Nat} {adj : Nat → List Nat} {D : Nat → Nat} {q : List Nat} {i v : Nat} {pre : List Nat}
/-- The pairs of equal nodes, in order. -/
def diags (N : Nat) : List Nat := (List.range N).map fun u => u * N + u
theorem mem_diags {N x : Nat} : x ∈ diags N ↔ ∃ u, u < N ∧ x = u * N + u := by
  unfold diags; rw [List.mem_map]
  constructor
  · rintro ⟨u, h, rfl⟩; exact ⟨u, List.mem_range.1 h, rfl⟩
  · rintro ⟨u, h, rfl⟩; exact ⟨u, List.mem_range.2 h, rfl⟩
theorem MOut.init (N : Nat) (adj : Nat → List Nat) : MOut N adj (fun _ => 0) (diags N) 0 := by
  refine ⟨?_, fun x hx => ?_, fun x hx hd => ⟨mem_diags.2 ⟨x / N, div_lt_of hx, hd.eq⟩, rfl⟩, fun x hx hd => ⟨fun h => ?_, fun h => absurd h (by simp)⟩, fun _ _ _ _ _ _ _ => Nat.le_refl _, fun _ _ _ _ => by simp, fun _ _ => Nat.zero_le _, fun k x hk => by omega⟩
  · unfold diags
    rw [List.nodup_iff_pairwise_ne, List.pairwise_map]
    refine List.pairwise_lt_range.imp_of_mem fun {a b} ha hb h e => ?_
    have hb := List.mem_range.1 hb
    have := Nat.mul_le_mul_right N (show a + 1 ≤ b by omega)
    rw [Nat.add_mul] at this
    omega
  · obtain ⟨u, hu, rfl⟩ := mem_diags.1 hx
    exact pair_lt hu hu
  · obtain ⟨u, hu, rfl⟩ := mem_diags.1 h
    exact absurd (diag_mk hu) hd
theorem MOut.enter (h : MOut N adj D q i) (hv : q[i]? = some v) : MIn N adj D q i v [] :=
  ⟨hv, h.nodup, h.low, h.diag, h.old, h.mono, h.top v hv, h.bnd, h.done, fun _ ht => by cases ht⟩
theorem MIn.leave (h : MIn N adj D q i v pre) (hp : pre = adj v) : MOut N adj D q (i + 1) := by
  subst hp
  refine ⟨h.nodup, h.low, h.diag, h.old, h.mono, fun y hy x hx => ?_, h.bnd, fun k x hk hx => ?_⟩
  · have := h.mono i (i + 1) v y (by omega) h.at_ hy
    have := h.top x hx
    omega
  · by_cases e : k = i
    · subst e
      rw [h.at_] at hx; cases hx
      exact h.now
    · exact h.done k x (by omega) hx
/-- An arrow that is passed over: to a pair of equal nodes from one, to one that has come up. -/
theorem MIn.skip (h : MIn N adj D q i v pre) {t : Nat} (ht : (Diag N t ∧ Diag N v) ∨ (¬ Diag N t ∧ t ∈ q)) : MIn N adj D q i v (pre ++ [t]) := by
  refine ⟨h.at_, h.nodup, h.low, h.diag, h.old, h.mono, h.top, h.bnd, h.done, fun s hs => ?_⟩
  rcases List.mem_append.1 hs with hs | hs
  · exact h.now s hs
  · cases List.mem_singleton.1 hs
    rcases ht with ⟨h1, h2⟩ | ⟨h1, h2⟩
    · exact ⟨fun q => absurd h1 q, fun _ => h2⟩
    · exact ⟨fun _ => ⟨h2, h.top _ h2⟩, fun q => absurd q h1⟩
/-- A new one. -/
theorem MIn.add (h : MIn N adj D q i v pre) {t : Nat} (htl : t < N * N) (ht : ¬ Diag N t) (hq : t ∉ q) : MIn N adj (updN D t (D v + 1)) (q ++ [t]) i v (pre ++ [t]) := by
  have hi : i < q.length := (List.getElem?_eq_some_iff.1 h.at_).1
  have hvq : v ∈ q := List.mem_of_getElem? h.at_
  have hvt : v ≠ t := fun e => hq (by rw [← e]; exact hvq)
  have hD : ∀ x, x ∈ q → updN D t (D v + 1) x = D x := fun x hx => updN_other _ _ _ (fun e => hq (by rw [← e]; exact hx))
  have hget : ∀ k x, (q ++ [t])[k]? = some x → (q[k]? = some x ∧ k < q.length) ∨ (k = q.length ∧ x = t) := fun k x hx => by
    rw [List.getElem?_append] at hx
    split at hx
    · exact .inl ⟨hx, by assumption⟩
    · right
      cases hk : k - q.length with
      | zero => rw [hk] at hx; simp at hx; exact ⟨by omega, hx.symm⟩
      | succ n => rw [hk] at hx; simp at hx
  refine ⟨by rw [List.getElem?_append_left hi]; exact h.at_, List.nodup_append.2 ⟨h.nodup, by simp, fun a ha b hb e => by cases List.mem_singleton.1 hb; subst e; exact hq ha⟩, fun x hx => ?_, fun x hx hd => ?_, fun x hx hd => ?_, fun j k x y hjk hx hy => ?_, fun x hx => ?_, fun x hx => ?_, fun k x hk hx s hs => ?_, fun s hs => ?_⟩
  · rcases List.mem_append.1 hx with hx | hx
    · exact h.low x hx
    · cases List.mem_singleton.1 hx; exact htl
  · obtain ⟨h1, h2⟩ := h.diag x hx hd
    exact ⟨List.mem_append_left _ h1, by rw [hD x h1]; exact h2⟩
  · by_cases e : x = t
    · subst e; rw [updN_same]; simp
    · rw [updN_other _ _ _ e, ← h.old x hx hd]; simp [e]
  · rcases hget j x hx with ⟨a1, _⟩ | ⟨a1, rfl⟩
    · rw [hD x (List.mem_of_getElem? a1)]
      rcases hget k y hy with ⟨b1, _⟩ | ⟨b1, rfl⟩
      · rw [hD y (List.mem_of_getElem? b1)]; exact h.mono j k x y hjk a1 b1
      · rw [updN_same]; exact h.top x (List.mem_of_getElem? a1)
    · rcases hget k y hy with ⟨b1, b2⟩ | ⟨b1, rfl⟩
      · omega
      · exact Nat.le_refl _
  · rw [updN_other D t (D v + 1) hvt]
    rcases List.mem_append.1 hx with hx | hx
    · rw [hD x hx]; exact h.top x hx
    · cases List.mem_singleton.1 hx; rw [updN_same]; exact Nat.le_refl _
  · rw [List.length_append, List.length_singleton]
    rcases List.mem_append.1 hx with hx | hx
    · rw [hD x hx]; have := h.bnd x hx; omega
    · cases List.mem_singleton.1 hx; rw [updN_same]; have := h.bnd v hvq; omega
  · rcases hget k x hx with ⟨a1, _⟩ | ⟨a1, rfl⟩
    · rw [hD x (List.mem_of_getElem? a1)]
      obtain ⟨c1, c2⟩ := h.done k x hk a1 s hs
      exact ⟨fun q' => by
        obtain ⟨d1, d2⟩ := c1 q'
        exact ⟨List.mem_append_left _ d1, by rw [hD s d1]; exact d2⟩, c2⟩
    · omega
  · rw [updN_other D t (D v + 1) hvt]
    rcases List.mem_append.1 hs with hs | hs
    · obtain ⟨c1, c2⟩ := h.now s hs
      exact ⟨fun q' => by
        obtain ⟨d1, d2⟩ := c1 q'
        exact ⟨List.mem_append_left _ d1, by rw [hD s d1]; exact d2⟩, c2⟩
    · cases List.mem_singleton.1 hs
      exact ⟨fun _ => ⟨List.mem_append_right _ (by simp), by rw [updN_same]; exact Nat.le_refl _⟩, fun q' => absurd q' ht⟩
/-- Of a way, whose vertices are gone through as far as j, the next one lies in the queue. -/
theorem MOut.along (h : MOut N adj D q i) {u : List Nat} (hu : ApartWay N adj u) : ∀ j, j + 1 < u.length →
    (∃ k, k ≤ j ∧ u.getD k 0 ∈ q ∧ D (u.getD k 0) ≤ k ∧ ∀ m, m < i → q[m]? ≠ some (u.getD k 0)) ∨ (u.getD j 0 ∈ q ∧ D (u.getD j 0) ≤ j ∧ ∃ m, m < i ∧ q[m]? = some (u.getD j 0))
  | 0, h1 => by
    obtain ⟨a, b⟩ := h.diag _ (hu.low 0 (by omega)) hu.fst
    by_cases q' : ∃ m, m < i ∧ q[m]? = some (u.getD 0 0)
    · exact .inr ⟨a, by omega, q'⟩
    · exact .inl ⟨0, Nat.le_refl _, a, by omega, fun m hm e => q' ⟨m, hm, e⟩⟩
  | j + 1, h1 => by
    rcases h.along hu j (by omega) with ⟨k, k1, k2, k3, k4⟩ | ⟨_, a2, m, m1, m2⟩
    · exact .inl ⟨k, by omega, k2, k3, k4⟩
    · obtain ⟨c1, _⟩ := h.done m _ m1 m2 _ (hu.arr j (by omega))
      obtain ⟨d1, d2⟩ := c1 (hu.inn (j + 1) (by omega) h1)
      by_cases q' : ∃ m, m < i ∧ q[m]? = some (u.getD (j + 1) 0)
      · exact .inr ⟨d1, by omega, q'⟩
      · exact .inl ⟨j + 1, Nat.le_refl _, d1, by omega, fun m hm e => q' ⟨m, hm, e⟩⟩
/-- At the end of the queue: there is no such way. -/
theorem MOut.none (h : MOut N adj D q i) (hi : q.length ≤ i) (u : List Nat) : ¬ ApartWay N adj u := fun hu => by
  have h3 := hu.len
  rcases h.along hu (u.length - 2) (by omega) with ⟨k, _, k2, _, k4⟩ | ⟨_, _, m, m1, m2⟩
  · obtain ⟨m, hm⟩ := List.mem_iff_getElem?.1 k2
    have := (List.getElem?_eq_some_iff.1 hm).1
    exact k4 m (by omega) hm
  · obtain ⟨_, c2⟩ := h.done m _ m1 m2 _ (hu.arr (u.length - 2) (by omega))
    refine hu.inn (u.length - 2) (by omega) (by omega) (c2 ?_)
    rw [show u.length - 2 + 1 = u.length - 1 by omega]
    exact hu.lst
/-- Whoever is met from v: no way is shorter. -/
theorem MIn.best (h : MIn N adj D q i v pre) {u : List Nat} (hu : ApartWay N adj u) : D v + 3 ≤ u.length + 1 := by
  have h3 := hu.len
  have ho : MOut N adj D q i := ⟨h.nodup, h.low, h.diag, h.old, h.mono, fun y hy => by rw [h.at_] at hy; cases hy; exact h.top, h.bnd, h.done⟩
  rcases ho.along hu (u.length - 2) (by omega) with ⟨k, k1, k2, k3, k4⟩ | ⟨_, _, m, m1, m2⟩
  · obtain ⟨m, hm⟩ := List.mem_iff_getElem?.1 k2
    have hmi : i ≤ m := Nat.le_of_not_lt fun q' => k4 m q' hm
    have := h.mono i m v _ hmi h.at_ hm
    omega
  · obtain ⟨_, c2⟩ := h.done m _ m1 m2 _ (hu.arr (u.length - 2) (by omega))
    refine absurd (c2 ?_) (hu.inn (u.length - 2) (by omega) (by omega))
    rw [show u.length - 2 + 1 = u.length - 1 by omega]
    exact hu.lst

/-- From whom each came. -/
def CameOf (N : Nat) (adj : Nat → List Nat) (D : Nat → Nat) (q : List Nat) (came : Nat → Int) : Prop :=
  (∀ x, x < N * N → ((came x < 0 ↔ Diag N x ∨ x ∉ q) ∧ (came x < 0 → came x = -1))) ∧ ∀ x, x < N * N → 0 ≤ came x → ∃ p : Nat, came x = p ∧ p ∈ q ∧ x ∈ adj p ∧ D x = D p + 1
theorem CameOf.init (N : Nat) (adj : Nat → List Nat) : CameOf N adj (fun _ => 0) (diags N) (fun _ => -1) := by
  refine ⟨fun x hx => ⟨⟨fun _ => ?_, fun _ => (by show (-1 : Int) < 0; decide)⟩, fun _ => rfl⟩, fun x _ h => by simp at h⟩
  by_cases hd : Diag N x
  · exact .inl hd
  · right
    intro hm
    obtain ⟨u, hu, rfl⟩ := mem_diags.1 hm
    exact hd (diag_mk hu)
theorem CameOf.add (h : MIn N adj D q i v pre) {came : Nat → Int} (hc : CameOf N adj D q came) {t : Nat} (ht : ¬ Diag N t) (hq : t ∉ q) (ha : t ∈ adj v) : CameOf N adj (updN D t (D v + 1)) (q ++ [t]) (updN came t (v : Int)) := by
  have hvq : v ∈ q := List.mem_of_getElem? h.at_
  have hvt : v ≠ t := fun e => hq (by rw [← e]; exact hvq)
  refine ⟨fun x hx => ?_, fun x hx h0 => ?_⟩
  · by_cases e : x = t
    · subst e; rw [updN_same]
      exact ⟨⟨fun q' => by omega, fun q' => by rcases q' with q' | q'; exact absurd q' ht; exact absurd (List.mem_append_right _ (by simp)) q'⟩, fun q' => by omega⟩
    · rw [updN_other _ _ _ e]
      obtain ⟨a, b⟩ := hc.1 x hx
      refine ⟨?_, b⟩
      rw [a]; simp [e]
  · by_cases e : x = t
    · subst e
      refine ⟨v, updN_same .., List.mem_append_left _ hvq, ha, ?_⟩
      rw [updN_same, updN_other _ _ _ hvt]
    · rw [updN_other _ _ _ e] at h0 ⊢
      obtain ⟨p, p1, p2, p3, p4⟩ := hc.2 x hx h0
      refine ⟨p, p1, List.mem_append_left _ p2, p3, ?_⟩
      rw [updN_other _ _ _ e, updN_other _ _ _ (fun e' => hq (by rw [← e']; exact p2))]
      exact p4
/-- The way back from u to a pair of equal nodes. -/
inductive BackWay (N : Nat) (adj : Nat → List Nat) (came : Nat → Int) : Nat → List Nat → Prop
  | stop (x : Nat) (h : came x = -1) (hd : Diag N x) : BackWay N adj came x [x]
  | step (x p : Nat) (c : List Nat) (h : came x = p) (hd : ¬ Diag N x) (ha : x ∈ adj p) (hp : p < N * N) (hc : BackWay N adj came p c) : BackWay N adj came x (x :: c)
theorem CameOf.back {came : Nat → Int} (hq : ∀ x ∈ q, x < N * N) (h0 : ∀ x ∈ q, ¬ Diag N x → 0 < D x) (hc : CameOf N adj D q came) : ∀ n x, D x = n → x ∈ q → ∃ c, BackWay N adj came x c ∧ c.length ≤ n + 1
  | n, x, hn, hx => by
    obtain ⟨a, b⟩ := hc.1 x (hq x hx)
    by_cases hd : Diag N x
    · exact ⟨[x], .stop x (b (a.2 (.inl hd))) hd, by simp⟩
    · have h1 : 0 ≤ came x := by
        apply Classical.byContradiction
        intro q'
        rcases a.1 (by omega) with q' | q'
        · exact hd q'
        · exact q' hx
      obtain ⟨p, p1, p2, p3, p4⟩ := hc.2 x (hq x hx) h1
      obtain ⟨c, c1, c2⟩ := CameOf.back hq h0 hc (n - 1) p (by omega) p2
      exact ⟨x :: c, .step x p c p1 hd p3 (hq p p2) c1, by simp; omega⟩
termination_by n => n
decreasing_by all_goals (have := h0 x hx hd; omega)
theorem BackWay.ne {came : Nat → Int} {x : Nat} {c : List Nat} (h : BackWay N adj came x c) : ∃ c', c = x :: c' := by cases h <;> exact ⟨_, rfl⟩
theorem BackWay.next {came : Nat → Int} {x : Nat} {c : List Nat} (h : BackWay N adj came x c) (hx : x < N * N) : ∀ k y, c[k]? = some y → y < N * N ∧ ((k + 1 < c.length ∧ ∃ z, c[k + 1]? = some z ∧ came y = z) ∨ (k + 1 = c.length ∧ came y = -1)) := by
  induction h with
  | stop x h hd =>
    intro k y hy
    cases k with
    | zero => simp at hy; subst hy; exact ⟨hx, .inr ⟨rfl, h⟩⟩
    | succ k => simp at hy
  | step x p c hcm hnd ha hp hc ih =>
    intro k y hy
    obtain ⟨c', rfl⟩ := hc.ne
    cases k with
    | zero => simp at hy; subst hy; exact ⟨hx, .inl ⟨by simp, p, rfl, hcm⟩⟩
    | succ k =>
      have hy : (p :: c')[k]? = some y := by simpa using hy
      obtain ⟨h1, h2⟩ := ih hp k y hy
      refine ⟨h1, h2.imp ?_ ?_⟩
      · rintro ⟨a, z, b, d⟩; exact ⟨by simpa using a, z, by simpa using b, d⟩
      · rintro ⟨a, b⟩; exact ⟨by simpa using a, b⟩
/-- The whole way, from its first vertex on. -/
theorem BackWay.way {came : Nat → Int} {x : Nat} {c : List Nat} (h : BackWay N adj came x c) (hx : x < N * N) :
    (∀ i, i < c.length → c.reverse.getD i 0 < N * N) ∧ (∀ i, i + 1 < c.length → c.reverse.getD (i + 1) 0 ∈ adj (c.reverse.getD i 0)) ∧ Diag N (c.reverse.getD 0 0) ∧ (∀ i, 0 < i → i < c.length → ¬ Diag N (c.reverse.getD i 0)) ∧ c.reverse.getD (c.length - 1) 0 = x ∧ 0 < c.length := by
  induction h with
  | stop x _ hd => exact ⟨fun i hi => by simp at hi; subst hi; simpa using hx, fun i hi => by simp at hi, by simpa using hd, fun i h1 h2 => by simp at h2; omega, by simp, by simp⟩
  | step x p c hcm hnd ha hp hc ih =>
    obtain ⟨i1, i2, i3, i4, i5, i6⟩ := ih hp
    have g1 : ∀ i, i < c.length → (x :: c).reverse.getD i 0 = c.reverse.getD i 0 := fun i hi => by
      rw [List.reverse_cons, List.getD_eq_getElem?_getD, List.getElem?_append_left (by simpa using hi)]; rfl
    have g2 : (x :: c).reverse.getD c.length 0 = x := by
      rw [List.reverse_cons, List.getD_eq_getElem?_getD, List.getElem?_append_right (by simp)]; simp
    refine ⟨fun i hi => ?_, fun i hi => ?_, ?_, fun i h1 h2 => ?_, ?_, by simp⟩
    · by_cases e : i < c.length
      · rw [g1 i e]; exact i1 i e
      · obtain rfl : i = c.length := by simp at hi; omega
        rw [g2]; exact hx
    · have hi : i + 1 < c.length + 1 := by simpa using hi
      rw [g1 i (by omega)]
      by_cases e : i + 1 < c.length
      · rw [g1 _ e]; exact i2 i e
      · obtain rfl : i = c.length - 1 := by omega
        rw [i5, show c.length - 1 + 1 = c.length by omega, g2]; exact ha
    · rw [g1 0 i6]; exact i3
    · by_cases e : i < c.length
      · rw [g1 i e]; exact i4 i h1 e
      · obtain rfl : i = c.length := by simp at h2; omega
        rw [g2]; exact hnd
    · rw [List.length_cons, Nat.add_sub_cancel, g2]
/-- What is met: a way of the kind, and none is shorter. -/
theorem MIn.met (h : MIn N adj D q i v pre) {came : Nat → Int} (hc : CameOf N adj D q came) {t : Nat} (hv : ¬ Diag N v) (ht : Diag N t) (htl : t < N * N) (ha : t ∈ adj v) :
    ∃ c, BackWay N adj came v c ∧ ApartWay N adj (c.reverse ++ [t]) ∧ (c.reverse ++ [t]).length = D v + 2 ∧ ∀ u, ApartWay N adj u → (c.reverse ++ [t]).length ≤ u.length := by
  have hvq : v ∈ q := List.mem_of_getElem? h.at_
  obtain ⟨c, hb, hl⟩ := hc.back h.low (fun x hx hd => (h.old x (h.low x hx) hd).1 hx) (D v) v rfl hvq
  obtain ⟨w1, w2, w3, w4, w5, w6⟩ := hb.way (h.low v hvq)
  have h2 : 2 ≤ c.length := by
    obtain ⟨c', rfl⟩ := hb.ne
    cases hb with
    | stop _ _ hd => exact absurd hd hv
    | step _ p _ _ _ _ _ hc' => obtain ⟨_, rfl⟩ := hc'.ne; simp
  have g1 : ∀ i, i < c.length → (c.reverse ++ [t]).getD i 0 = c.reverse.getD i 0 := fun i hi => by
    rw [List.getD_eq_getElem?_getD, List.getElem?_append_left (by simpa using hi)]; rfl
  have g2 : (c.reverse ++ [t]).getD c.length 0 = t := by
    rw [List.getD_eq_getElem?_getD, List.getElem?_append_right (by simp)]; simp
  have hL : (c.reverse ++ [t]).length = c.length + 1 := by simp
  have hw : ApartWay N adj (c.reverse ++ [t]) := by
    refine ⟨by omega, fun i hi => ?_, fun i hi => ?_, ?_, ?_, fun i h1 h2 => ?_⟩
    · by_cases e : i < c.length
      · rw [g1 i e]; exact w1 i e
      · obtain rfl : i = c.length := by omega
        rw [g2]; exact htl
    · rw [g1 i (by omega)]
      by_cases e : i + 1 < c.length
      · rw [g1 _ e]; exact w2 i e
      · obtain rfl : i = c.length - 1 := by omega
        rw [w5, show c.length - 1 + 1 = c.length by omega, g2]; exact ha
    · rw [g1 0 (by omega)]; exact w3
    · rw [hL, Nat.add_sub_cancel, g2]; exact ht
    · rw [g1 i (by omega)]; exact w4 i h1 (by omega)
  have hmin : ∀ u, ApartWay N adj u → D v + 2 ≤ u.length := fun u hu => by have := h.best hu; omega
  have := hmin _ hw
  refine ⟨c, hb, hw, by omega, fun u hu => ?_⟩
  have := hmin u hu
  omega
end
end Go.Proofs.YtmhiambkfdkkbaaDoor

namespace Go.Proofs.YtmhiambkfdkkbaaDoor

theorem diag_arr {K N : Nat} {T : List Int} {u s : Nat} (hu : u < N) (hs : s < K) : toN K N u s * N + toN K N u s ∈ pairL K N T (u * N + u) := by
  rw [mem_pairL (by omega), pair_div hu, pair_mod hu]
  exact ⟨s, s, hs, hs, rfl, rfl⟩
/-- Where a word leads from a node. -/
theorem diag_word {K N : Nat} {T : List Int} {u : Nat} (hu : u < N) : ∀ (n : Nat) (xs : List Int), xs.length = n → Syms K xs → Goes (pairL K N T) (u * N + u) ((u * pw K xs.length + numW K xs) % N * N + (u * pw K xs.length + numW K xs) % N)
  | 0, xs, hn, _ => by
    obtain rfl := List.length_eq_zero_iff.1 hn
    rw [show u * pw K ([] : List Int).length + numW K [] = u by simp [pw, numW], Nat.mod_eq_of_lt hu]
    exact .refl _
  | n + 1, xs, hn, hx => by
    have hne : xs ≠ [] := by intro e; subst e; simp at hn
    obtain ⟨b, x, rfl⟩ : ∃ b x, xs = b ++ [x] := ⟨xs.dropLast, xs.getLast hne, (List.dropLast_concat_getLast hne).symm⟩
    have hb : b.length = n := by simpa using hn
    have ih := diag_word (T := T) hu n b hb (fun y hy => hx y (List.mem_append_left _ hy))
    have hxs := hx x (by simp)
    refine .step ih ?_
    have := diag_arr (T := T) (u := (u * pw K b.length + numW K b) % N) (s := x.toNat) (Nat.mod_lt _ (by omega)) (show x.toNat < K by omega)
    have e : toN K N ((u * pw K b.length + numW K b) % N) x.toNat = (u * pw K (b ++ [x]).length + numW K (b ++ [x])) % N := by
      unfold toN
      rw [numW_snoc, List.length_append, List.length_singleton, pw_succ, ← Nat.mul_assoc, show u * pw K b.length * K + (numW K b * K + x.toNat) = (u * pw K b.length + numW K b) * K + x.toNat by rw [Nat.add_mul]; omega]
      rw [Nat.add_mod, Nat.mul_mod, Nat.mod_mod, ← Nat.mul_mod, ← Nat.add_mod]
    rw [e] at this
    exact this
theorem diag_goes {K R : Nat} {T : List Int} {u v : Nat} (hK : 1 ≤ K) (hu : u < pw K (2 * R)) (hv : v < pw K (2 * R)) : Goes (pairL K (pw K (2 * R)) T) (u * pw K (2 * R) + u) (v * pw K (2 * R) + v) := by
  have := diag_word (T := T) hu (2 * R) (digs K (2 * R) v) (digs_length ..) (digs_syms hK _ _)
  rw [digs_length, numW_digs hK _ _ hv, show u * pw K (2 * R) + v = pw K (2 * R) * u + v by rw [Nat.mul_comm], Nat.mul_add_mod, Nat.mod_eq_of_lt hv] at this
  exact this
end Go.Proofs.YtmhiambkfdkkbaaDoor

namespace Go.Proofs.YtmhiambkfdkkbaaDoor
open Go.RowKit
set_option maxRecDepth 100000

/-- What a call of the search's leaves. -/
def SPost (B : Nat) (w : World) (d : Nat) (nv lv fv pv : Value) (n : Nat) (S : TS) (e : Ending) (w' : World) : Prop :=
  e = .returned (.tuple #[]) ∧ Below B w w' ∧ ∃ f' ov' cv', Rows B w' f' ∧ SN f' d nv lv fv pv ov' cv' n S

set_option maxHeartbeats 1000000 in
theorem enter_any (B : Nat) (w : World) (f : Names) (d : Nat) (nv lv fv pv ov cv : Value) (n : Nat) (S : TS) (v : Nat) (hr : Rows B w f) (h : SN f d nv lv fv pv ov cv n S) (hB : B ≤ w.heap.size)
    (hv : v < n) (hnc : v ∉ S.calls) (ho : S.opn.length < 10000) (hcl : S.calls.length < 10000) (ht : S.time < 100000) :
    Calls Tryd.prog 131 #[.pointer (some ⟨d, 0, none⟩), .int .i64 v] w (SPost B w d nv lv fv pv n (enterS S v)) := by
  have e1 : ((S.time + 1 : Nat) : Int) = (S.time : Int) + 1 := by omega
  have z6 := h.cell hr 6 (by decide)
  have f6 := h.frz hr 6
  obtain ⟨f1, hr1, h1⟩ := h.setTime hr (S.time + 1)
  have b1 : Below B w (w.setCell ⟨d, 6, none⟩ (.int .i64 ((S.time + 1 : Nat) : Int))) := (Below.refl B w).setCell (h.base hr) _
  rw [e1] at hr1 b1
  simp only [List.getElem?_cons_succ, List.getElem?_cons_zero] at z6
  replace hr1 := Lib.hid hr1
  replace hr := Lib.hid hr
  replace e1 := Lib.hid e1
  go_enter Tryd.func131, Tryd.ntmps131
  go_wp2
  clear z6 f6
  refine wp_region_plan (fun w' => w'.cell? ⟨d, 1, none⟩ = some lv ∧ w'.cell? ⟨d, 2, none⟩ = some fv ∧ w'.cell? ⟨d, 6, none⟩ = some (.int .i64 ((S.time : Int) + 1))) 21 [(0, true), (1, true), (2, true), (3, true), (4, true), (5, true), (6, true), (7, true), (8, true), (9, true), (10, true), (11, true), (12, true), (13, true), (14, true), (15, true), (16, true), (17, true), (18, true), (19, false), (20, true)] (by kernel_rfl) (by kernel_rfl) ?_
  obtain ⟨W, hW⟩ : ∃ W : World, W = (w.setCell ⟨d, 6, none⟩ (.int .i64 ((S.time : Int) + 1))).drew := ⟨_, rfl⟩
  rw [← hW]
  have hrW : Rows B W f1 := by rw [hW]; exact hr1.out.drew
  have bW : Below B w W := by rw [hW]; exact b1.drew
  clear hW
  have hS : W.cell? ⟨d, 1, none⟩ = some lv ∧ W.cell? ⟨d, 2, none⟩ = some fv ∧ W.cell? ⟨d, 6, none⟩ = some (.int .i64 ((S.time : Int) + 1)) := ⟨h1.cell hrW 1 (by decide), h1.cell hrW 2 (by decide), by rw [← e1.out]; exact h1.cell hrW 6 (by decide)⟩
  have oL := hrW.ownI h1.low
  have oF := hrW.ownI h1.fnd
  have iL := fun w' => oL.at.idx v (by rw [tab_len]; exact hv) w'
  have iF := fun w' => oF.at.idx v (by rw [tab_len]; exact hv) w'
  have cL := oL.at.cellD v (by rw [tab_len]; exact hv)
  have fL := oL.frz v (by rw [tab_len]; exact hv)
  have kL := (oL.toV.blkB v (by rw [List.length_map, tab_len]; exact hv)).2
  obtain ⟨f2, hr2, h2⟩ := h1.setLow hrW v hv (S.time + 1)
  rw [e1.out] at hr2
  have oF2 := hr2.ownI h2.fnd
  have cF := oF2.at.cellD v (by rw [tab_len]; exact hv)
  have fF := oF2.frz v (by rw [tab_len]; exact hv)
  have kF := (oF2.toV.blkB v (by rw [List.length_map, tab_len]; exact hv)).2
  have hS2 : (W.setCell (valAt lv v) (.int .i64 ((S.time : Int) + 1))).cell? ⟨d, 1, none⟩ = some lv ∧ (W.setCell (valAt lv v) (.int .i64 ((S.time : Int) + 1))).cell? ⟨d, 2, none⟩ = some fv ∧ (W.setCell (valAt lv v) (.int .i64 ((S.time : Int) + 1))).cell? ⟨d, 6, none⟩ = some (.int .i64 ((S.time : Int) + 1)) := ⟨h2.cell hr2 1 (by decide), h2.cell hr2 2 (by decide), by rw [← e1.out]; exact h2.cell hr2 6 (by decide)⟩
  obtain ⟨f3, hr3, h3⟩ := h2.setFound hr2 v hv (S.time + 1)
  rw [e1.out] at hr3
  have b3 : Below B w ((W.setCell (valAt lv v) (.int .i64 ((S.time : Int) + 1))).setCell (valAt fv v) (.int .i64 ((S.time : Int) + 1))) := (bW.setCell kL _).setCell kF _
  replace hr3 := Lib.hid hr3
  replace hr2 := Lib.hid hr2
  replace hrW := Lib.hid hrW
  clear oL oF oF2
  generalize valAt lv v = la at *
  generalize valAt fv v = fa at *
  refine headY (v := ?_) (some 11) rfl rfl (Or.inl ⟨by rfl, ?_⟩) hS ?_
  rotate_left
  · rintro W' ⟨s0, s1, s2⟩; go_simp; try with_reducible rfl
  simp only [Act.put, List.setIfInBounds_toArray, List.set_cons_zero, List.set_cons_succ]
  refine headY (v := ?_) (some 12) rfl rfl (Or.inl ⟨by rfl, ?_⟩) hS ?_
  rotate_left
  · rintro W' ⟨s0, s1, s2⟩; go_simp; try with_reducible rfl
  simp only [Act.put, List.setIfInBounds_toArray, List.set_cons_zero, List.set_cons_succ]
  refine headY (v := ?_) (some 13) rfl rfl (Or.inl ⟨by rfl, ?_⟩) hS ?_
  rotate_left
  · rintro W' ⟨s0, s1, s2⟩; go_simp; try with_reducible rfl
  simp only [Act.put, List.setIfInBounds_toArray, List.set_cons_zero, List.set_cons_succ]
  refine headY (v := ?_) (some 14) rfl rfl (Or.inl ⟨by rfl, ?_⟩) hS ?_
  rotate_left
  · rintro W' ⟨s0, s1, s2⟩; go_simp; try with_reducible rfl
  simp only [Act.put, List.setIfInBounds_toArray, List.set_cons_zero, List.set_cons_succ]
  refine headY (v := ?_) (some 15) rfl rfl (Or.inl ⟨by rfl, ?_⟩) hS ?_
  rotate_left
  · rintro W' ⟨s0, s1, s2⟩; go_simp; try with_reducible rfl
  simp only [Act.put, List.setIfInBounds_toArray, List.set_cons_zero, List.set_cons_succ]
  refine headY (v := ?_) (some 16) rfl rfl (Or.inl ⟨by rfl, ?_⟩) hS ?_
  rotate_left
  · rintro W' ⟨s0, s1, s2⟩; go_simp; try with_reducible rfl
  simp only [Act.put, List.setIfInBounds_toArray, List.set_cons_zero, List.set_cons_succ]
  refine headY (v := ?_) (some 17) rfl rfl (Or.inl ⟨by rfl, ?_⟩) hS ?_
  rotate_left
  · rintro W' ⟨s0, s1, s2⟩; go_simp; try with_reducible rfl
  simp only [Act.put, List.setIfInBounds_toArray, List.set_cons_zero, List.set_cons_succ]
  refine headY (v := ?_) (some 18) rfl rfl (Or.inl ⟨by rfl, ?_⟩) hS ?_
  rotate_left
  · rintro W' ⟨s0, s1, s2⟩; go_simp; try with_reducible rfl
  simp only [Act.put, List.setIfInBounds_toArray, List.set_cons_zero, List.set_cons_succ]
  refine headY (v := ?_) (some 19) rfl rfl (Or.inl ⟨by rfl, ?_⟩) hS ?_
  rotate_left
  · rintro W' ⟨s0, s1, s2⟩; go_simp; try with_reducible rfl
  simp only [Act.put, List.setIfInBounds_toArray, List.set_cons_zero, List.set_cons_succ]
  refine headY (v := ?_) (some 20) rfl rfl (Or.inl ⟨by rfl, ?_⟩) hS ?_
  rotate_left
  · rintro W' ⟨s0, s1, s2⟩; go_simp; try with_reducible rfl
  simp only [Act.put, List.setIfInBounds_toArray, List.set_cons_zero, List.set_cons_succ]
  refine headY (v := ?_) (some 21) rfl rfl (Or.inl ⟨by rfl, ?_⟩) hS ?_
  rotate_left
  · rintro W' ⟨s0, s1, s2⟩; go_simp; try with_reducible rfl
  simp only [Act.put, List.setIfInBounds_toArray, List.set_cons_zero, List.set_cons_succ]
  refine headY (v := ?_) (some 22) rfl rfl (Or.inl ⟨by rfl, ?_⟩) hS ?_
  rotate_left
  · rintro W' ⟨s0, s1, s2⟩; go_simp; try with_reducible rfl
  simp only [Act.put, List.setIfInBounds_toArray, List.set_cons_zero, List.set_cons_succ]
  refine headY (v := ?_) (some 23) rfl rfl (Or.inl ⟨by rfl, ?_⟩) hS ?_
  rotate_left
  · rintro W' ⟨s0, s1, s2⟩; go_simp; try with_reducible rfl
  simp only [Act.put, List.setIfInBounds_toArray, List.set_cons_zero, List.set_cons_succ]
  refine headY (v := ?_) (some 24) rfl rfl (Or.inl ⟨by rfl, ?_⟩) hS ?_
  rotate_left
  · rintro W' ⟨s0, s1, s2⟩; go_simp; try with_reducible rfl
  simp only [Act.put, List.setIfInBounds_toArray, List.set_cons_zero, List.set_cons_succ]
  refine headY (v := ?_) (some 25) rfl rfl (Or.inl ⟨by rfl, ?_⟩) hS ?_
  rotate_left
  · rintro W' ⟨s0, s1, s2⟩; go_simp; try with_reducible rfl
  simp only [Act.put, List.setIfInBounds_toArray, List.set_cons_zero, List.set_cons_succ]
  refine headY (v := ?_) (some 26) rfl rfl (Or.inl ⟨by rfl, ?_⟩) hS ?_
  rotate_left
  · rintro W' ⟨s0, s1, s2⟩; go_simp; try with_reducible rfl
  simp only [Act.put, List.setIfInBounds_toArray, List.set_cons_zero, List.set_cons_succ]
  refine headY (v := ?_) (some 27) rfl rfl (Or.inl ⟨by rfl, ?_⟩) hS ?_
  rotate_left
  · rintro W' ⟨s0, s1, s2⟩; go_simp; try with_reducible rfl
  simp only [Act.put, List.setIfInBounds_toArray, List.set_cons_zero, List.set_cons_succ]
  refine headY (v := ?_) (some 28) rfl rfl (Or.inl ⟨by rfl, ?_⟩) hS ?_
  rotate_left
  · rintro W' ⟨s0, s1, s2⟩; go_simp; try with_reducible rfl
  simp only [Act.put, List.setIfInBounds_toArray, List.set_cons_zero, List.set_cons_succ]
  refine headY (v := ?_) (some 29) rfl rfl (Or.inl ⟨by rfl, ?_⟩) hS ?_
  rotate_left
  · rintro W' ⟨s0, s1, s2⟩; go_simp; try with_reducible rfl
  simp only [Act.put, List.setIfInBounds_toArray, List.set_cons_zero, List.set_cons_succ]
  refine headC rfl (fun KK hK => ?_)
  -- CALL 19 slot none
  go_simp
  refine hK _ _ hS2 ?_
  clear hK KK
  refine headY (v := ?_) (some 30) rfl rfl (Or.inl ⟨by rfl, ?_⟩) hS2 ?_
  rotate_left
  · rintro W' ⟨s0, s1, s2⟩; go_simp; try with_reducible rfl
  simp only [Act.put, List.setIfInBounds_toArray, List.set_cons_zero, List.set_cons_succ]
  refine head0 ?_
  simp only [List.drop_succ_cons, List.drop_zero]
  clear hS hS2 cL fL
  go_wp2
  refine NoPanic.normal ?_
  obtain ⟨W3, hW3⟩ : ∃ W3 : World, W3 = (W.setCell la (.int .i64 ((S.time : Int) + 1))).setCell fa (.int .i64 ((S.time : Int) + 1)) := ⟨_, rfl⟩
  rw [← hW3]
  rw [← hW3] at hr3 b3
  clear hW3 iL iF cF fF
  have z3 := h3.cell hr3.out 3 (by decide)
  simp only [List.getElem?_cons_succ, List.getElem?_cons_zero] at z3
  have oO := hr3.out.ownI h3.opn
  have hB3 : B ≤ W3.heap.size := Nat.le_trans hB b3.size
  go_wp2_with (at_builtin; refine wpl_app1 rfl _ _ rfl B ov (upI S.opn) v oO rfl rfl (by rw [upI_len]; omega) hB3 ?_)
  intro ov' w4 ho4 b4 hal
  obtain ⟨y3, g3, b5, f5, hr5, h5⟩ := h3.pushOpen hr3.out hB3 v ho4 hal
  obtain ⟨oa, on, oc, rfl⟩ := ho4.at.shape
  have z5 := y3 5 (by decide)
  simp only [List.getElem?_cons_succ, List.getElem?_cons_zero] at z5
  have z33 := y3 3 (by decide)
  simp only [List.getElem?_cons_succ, List.getElem?_cons_zero] at z33
  have g33 := g3 3
  replace y3 := Lib.hid y3
  replace g3 := Lib.hid g3
  replace hr5 := Lib.hid hr5
  clear ho4 hal z3 oO
  have oC := hr5.out.1 _ _ h5.calls
  go_wp2_with (at_builtin; go_loud (refine wpl_appF rfl _ _ rfl B cv S.calls.length _ v 0 _ oC rfl rfl (by simp) (by omega) (Nat.le_trans hB3 b5.size) ?_))
  intro g c w6 ho6 hal6
  obtain ⟨y5, g5, b7, f7, hr7, h7⟩ := h5.pushCalls hr5.out (Nat.le_trans hB3 b5.size) v hnc ho6 (hal6.imp id (fun ⟨a, b⟩ => ⟨by simpa using a, b⟩))
  have z5 := y5 5 (by decide)
  simp only [List.getElem?_cons_succ, List.getElem?_cons_zero] at z5
  have g55 := g5 5
  replace y5 := Lib.hid y5
  replace g5 := Lib.hid g5
  replace hr7 := Lib.hid hr7
  clear ho6 hal6 oC
  go_wp2
  go_end0
  exact ⟨rfl, (b3.trans b5).trans b7, f7, _, _, hr7.out, h7⟩
end Go.Proofs.YtmhiambkfdkkbaaDoor

namespace Go.Proofs.YtmhiambkfdkkbaaDoor
open Go.RowKit
set_option maxRecDepth 100000

theorem upI_top (t : Nat) (o : List Nat) : (upI (t :: o)).getD o.length 0 = (t : Int) := by
  rw [upI_cons, List.getD_eq_getElem?_getD, List.getElem?_append_right (by rw [upI_len]; exact Nat.le_refl _), upI_len, Nat.sub_self]; rfl

set_option maxHeartbeats 2000000 in
theorem leave_any (B : Nat) (w : World) (f : Names) (d : Nat) (nv lv fv pv ov cv : Value) (n : Nat) (adj : Nat → List Nat) (S : TS) (v : Nat) (r : List Nat) (hr : Rows B w f) (h : SN f d nv lv fv pv ov cv n S)
    (hI : TInv n adj S) (hc : S.calls = v :: r) (hn : n ≤ 8192) :
    Calls Tryd.prog 132 #[.pointer (some ⟨d, 0, none⟩), .int .i64 v] w (SPost B w d nv lv fv pv n (leaveS S v r)) := by
  have hvc : v ∈ S.calls := by rw [hc]; exact List.mem_cons_self
  have hvn := hI.seenLt v (hI.callsSeen hvc).1
  have hvo := hI.callsOpen v hvc
  have hol : ∀ x ∈ S.opn, x < n := fun x hx => hI.seenLt x ((hI.opnIff x).1 hx).1
  have hlq := hI.low_eq hc
  obtain ⟨g, c, rfl, hcap⟩ := h.callsShape hr (by rw [hc]; simp)
  rw [hc, List.length_cons] at h hcap
  have hrl := hI.calls_len
  rw [hc, List.length_cons] at hrl
  have hwr : IntKind.i64.wrap (r.length : Int) = r.length := wrapK (by omega) (by omega)
  obtain ⟨W, hW⟩ : ∃ W : World, W = w.drew := ⟨_, rfl⟩
  have hr0 : Rows B W f := by rw [hW]; exact hr.drew
  obtain ⟨f1, hr1, h1⟩ := h.popCalls hc hr0
  have z5 := h.cell hr0 5 (by decide)
  have g5 := h.frz hr0 5
  simp only [List.getElem?_cons_succ, List.getElem?_cons_zero] at z5
  have b1 : Below B w (W.setCell ⟨d, 5, none⟩ (.slice (some ⟨g, 0, none⟩) r.length c)) := by rw [hW]; exact (Below.refl B w).drew.setCell (h.base hr) _
  have hsl : (0 ≤ (r.length : Int) ∧ (r.length : Int) ≤ (c : Int)) := ⟨by omega, by omega⟩
  replace hr1 := Lib.hid hr1
  replace hr := Lib.hid hr
  replace hr0 := Lib.hid hr0
  replace hol := Lib.hid hol
  replace hI := Lib.hid hI
  replace hvo := Lib.hid hvo
  replace hvc := Lib.hid hvc
  replace hc := Lib.hid hc
  replace hlq := Lib.hid hlq
  go_enter Tryd.func132, Tryd.ntmps132
  go_wp2
  refine wp_region_plan (fun w' => w'.cell? ⟨d, 5, none⟩ = some (.slice (some ⟨g, 0, none⟩) (r.length + 1) c)) 14 [(0, true), (1, true), (2, true), (3, true), (4, true), (5, true), (6, true), (7, true), (8, true), (9, true), (10, true), (11, true), (12, true), (13, true)] (by kernel_rfl) (by kernel_rfl) ?_
  rw [← hW]
  clear hW
  have hS : W.cell? ⟨d, 5, none⟩ = some (.slice (some ⟨g, 0, none⟩) (r.length + 1) c) := z5
  refine headY (v := ?_) (some 7) rfl rfl (Or.inl ⟨by rfl, ?_⟩) hS ?_
  rotate_left
  · rintro W' s0; go_simp; try with_reducible rfl
  simp only [Act.put, List.setIfInBounds_toArray, List.set_cons_zero, List.set_cons_succ]
  refine headY (v := ?_) (some 8) rfl rfl (Or.inl ⟨by rfl, ?_⟩) hS ?_
  rotate_left
  · rintro W' s0; go_simp; try with_reducible rfl
  simp only [Act.put, List.setIfInBounds_toArray, List.set_cons_zero, List.set_cons_succ]
  refine headY (v := ?_) (some 9) rfl rfl (Or.inl ⟨by rfl, ?_⟩) hS ?_
  rotate_left
  · rintro W' s0; go_simp; try with_reducible rfl
  simp only [Act.put, List.setIfInBounds_toArray, List.set_cons_zero, List.set_cons_succ]
  refine headY (v := ?_) (some 10) rfl rfl (Or.inl ⟨by rfl, ?_⟩) hS ?_
  rotate_left
  · rintro W' s0; go_simp; try with_reducible rfl
  simp only [Act.put, List.setIfInBounds_toArray, List.set_cons_zero, List.set_cons_succ]
  refine headY (v := ?_) (some 11) rfl rfl (Or.inl ⟨by rfl, ?_⟩) hS ?_
  rotate_left
  · rintro W' s0; go_simp; try with_reducible rfl
  simp only [Act.put, List.setIfInBounds_toArray, List.set_cons_zero, List.set_cons_succ]
  refine headY (v := ?_) (some 12) rfl rfl (Or.inl ⟨by rfl, ?_⟩) hS ?_
  rotate_left
  · rintro W' s0; go_simp; try with_reducible rfl
  simp only [Act.put, List.setIfInBounds_toArray, List.set_cons_zero, List.set_cons_succ]
  refine headY (v := ?_) (some 13) rfl rfl (Or.inl ⟨by rfl, ?_⟩) hS ?_
  rotate_left
  · rintro W' s0; go_simp; try with_reducible rfl
  simp only [Act.put, List.setIfInBounds_toArray, List.set_cons_zero, List.set_cons_succ]
  refine headY (v := ?_) (some 14) rfl rfl (Or.inl ⟨by rfl, ?_⟩) hS ?_
  rotate_left
  · rintro W' s0; go_simp; try with_reducible rfl
  simp only [Act.put, List.setIfInBounds_toArray, List.set_cons_zero, List.set_cons_succ]
  refine headY (v := ?_) (some 15) rfl rfl (Or.inl ⟨by rfl, ?_⟩) hS ?_
  rotate_left
  · rintro W' s0; go_simp; try with_reducible rfl
  simp only [Act.put, List.setIfInBounds_toArray, List.set_cons_zero, List.set_cons_succ]
  refine headY (v := ?_) (some 16) rfl rfl (Or.inl ⟨by rfl, ?_⟩) hS ?_
  rotate_left
  · rintro W' s0; go_simp; try with_reducible rfl
  simp only [Act.put, List.setIfInBounds_toArray, List.set_cons_zero, List.set_cons_succ]
  refine headY (v := ?_) (some 17) rfl rfl (Or.inl ⟨by rfl, ?_⟩) hS ?_
  rotate_left
  · rintro W' s0; go_simp; try with_reducible rfl
  simp only [Act.put, List.setIfInBounds_toArray, List.set_cons_zero, List.set_cons_succ]
  refine headY (v := ?_) (some 18) rfl rfl (Or.inl ⟨by rfl, ?_⟩) hS ?_
  rotate_left
  · rintro W' s0; go_simp; try with_reducible rfl
  simp only [Act.put, List.setIfInBounds_toArray, List.set_cons_zero, List.set_cons_succ]
  refine headY (v := ?_) (some 19) rfl rfl (Or.inl ⟨by rfl, ?_⟩) hS ?_
  rotate_left
  · rintro W' s0; go_simp; try with_reducible rfl
  simp only [Act.put, List.setIfInBounds_toArray, List.set_cons_zero, List.set_cons_succ]
  refine headY (v := ?_) (some 20) rfl rfl (Or.inl ⟨by rfl, ?_⟩) hS ?_
  rotate_left
  · rintro W' s0; go_simp; try with_reducible rfl
  simp only [Act.put, List.setIfInBounds_toArray, List.set_cons_zero, List.set_cons_succ]
  refine head0 ?_
  simp only [List.drop_succ_cons, List.drop_zero]
  clear hS
  go_wp2
  refine NoPanic.normal ?_
  obtain ⟨W1, hW1⟩ : ∃ W1 : World, W1 = W.setCell ⟨d, 5, none⟩ (.slice (some ⟨g, 0, none⟩) r.length c) := ⟨_, rfl⟩
  rw [← hW1]
  rw [← hW1] at hr1 b1
  clear hW1 z5 g5
  have x5 := h1.cell hr1.out 5 (by decide)
  simp only [List.getElem?_cons_succ, List.getElem?_cons_zero] at x5
  go_upto_if 27 with fail
  go_cut [] from 4 (fun wx => Below B w wx ∧ ∃ f2, Rows B wx f2 ∧ SN f2 d nv lv fv pv ov (.slice (some ⟨g, 0, none⟩) r.length c) n { S with low := lowS S.low v r, calls := r })
  case first =>
    cases r with
    | nil =>
      go_wp2
      go_meet
      case rel => exact ⟨b1, f1, hr1.out, h1⟩
    | cons u r' =>
      have huc := hI.out.callsSeen (c := u) (by rw [hc.out]; simp)
      have hun := hI.out.seenLt u huc.1
      simp only [List.length_cons] at h1 hrl x5 hcap hwr b1 hr1
      obtain ⟨t0, t1, _⟩ := h1.callTop rfl hr1.out
      have hwr2 : IntKind.i64.wrap (r'.length : Int) = r'.length := wrapK (by omega) (by omega)
      have hp0 : 0 < (u :: r').length := by simp
      have hne : u ≠ v := fun e => by
        have := hI.out.callsSorted
        rw [hc.out, e] at this
        exact absurd ((List.pairwise_cons.1 this).1 v List.mem_cons_self) (Nat.lt_irrefl _)
      go_upto_region 4 with fail
      refine wp_region_plan (fun w' => w'.cell? ⟨d, 1, none⟩ = some lv ∧ w'.cell? (valAt lv u) = some (.int .i64 (S.low u)) ∧ w'.cell? (valAt lv v) = some (.int .i64 (S.low v))) 21 [(0, true), (1, true), (2, true), (3, true), (4, true), (5, true), (6, true), (7, true), (8, true), (9, true), (10, true), (11, true), (12, true), (13, true), (14, true), (15, true), (16, true), (17, true), (18, true), (19, false), (20, true)] (by kernel_rfl) (by kernel_rfl) ?_
      obtain ⟨W2, hW2⟩ : ∃ W2 : World, W2 = W1.drew := ⟨_, rfl⟩
      rw [← hW2]
      have hr2 : Rows B W2 f1 := by rw [hW2]; exact hr1.out.drew
      have b2 : Below B w W2 := by rw [hW2]; exact b1.drew
      clear hW2 t0 t1 x5
      have oL := hr2.ownI h1.low
      have cU := oL.at.cellD u (by rw [tab_len]; exact hun)
      have cV := oL.at.cellD v (by rw [tab_len]; exact hvn)
      rw [tab_get _ _ _ hun] at cU
      rw [tab_get _ _ _ hvn] at cV
      have hS : W2.cell? ⟨d, 1, none⟩ = some lv ∧ W2.cell? (valAt lv u) = some (.int .i64 (S.low u)) ∧ W2.cell? (valAt lv v) = some (.int .i64 (S.low v)) := ⟨h1.cell hr2 1 (by decide), cU, cV⟩
      have iU := fun w' => oL.at.idx u (by rw [tab_len]; exact hun) w'
      have iV := fun w' => oL.at.idx v (by rw [tab_len]; exact hvn) w'
      have fU := oL.frz u (by rw [tab_len]; exact hun)
      have kU := (oL.toV.blkB u (by rw [List.length_map, tab_len]; exact hun)).2
      obtain ⟨f3, hr3, h3⟩ := h1.setLow hr2 u hun (min (S.low u) (S.low v))
      have b3 : Below B w (W2.setCell (valAt lv u) (.int .i64 ((min (S.low u) (S.low v) : Nat) : Int))) := b2.setCell kU _
      replace hr3 := Lib.hid hr3
      replace hr2 := Lib.hid hr2
      clear oL
      generalize valAt lv u = ua at *
      generalize valAt lv v = va at *
      refine headY (v := ?_) (some 37) rfl rfl (Or.inl ⟨by rfl, ?_⟩) hS ?_
      rotate_left
      · rintro W' ⟨s0, s1, s2⟩; go_simp; try with_reducible rfl
      simp only [Act.put, List.setIfInBounds_toArray, List.set_cons_zero, List.set_cons_succ]
      refine headY (v := ?_) (some 38) rfl rfl (Or.inl ⟨by rfl, ?_⟩) hS ?_
      rotate_left
      · rintro W' ⟨s0, s1, s2⟩; go_simp; try with_reducible rfl
      simp only [Act.put, List.setIfInBounds_toArray, List.set_cons_zero, List.set_cons_succ]
      refine headY (v := ?_) (some 39) rfl rfl (Or.inl ⟨by rfl, ?_⟩) hS ?_
      rotate_left
      · rintro W' ⟨s0, s1, s2⟩; go_simp; try with_reducible rfl
      simp only [Act.put, List.setIfInBounds_toArray, List.set_cons_zero, List.set_cons_succ]
      refine headY (v := ?_) (some 40) rfl rfl (Or.inl ⟨by rfl, ?_⟩) hS ?_
      rotate_left
      · rintro W' ⟨s0, s1, s2⟩; go_simp; try with_reducible rfl
      simp only [Act.put, List.setIfInBounds_toArray, List.set_cons_zero, List.set_cons_succ]
      refine headY (v := ?_) (some 41) rfl rfl (Or.inl ⟨by rfl, ?_⟩) hS ?_
      rotate_left
      · rintro W' ⟨s0, s1, s2⟩; go_simp; try with_reducible rfl
      simp only [Act.put, List.setIfInBounds_toArray, List.set_cons_zero, List.set_cons_succ]
      refine headY (v := ?_) (some 42) rfl rfl (Or.inl ⟨by rfl, ?_⟩) hS ?_
      rotate_left
      · rintro W' ⟨s0, s1, s2⟩; go_simp; try with_reducible rfl
      simp only [Act.put, List.setIfInBounds_toArray, List.set_cons_zero, List.set_cons_succ]
      refine headY (v := ?_) (some 43) rfl rfl (Or.inl ⟨by rfl, ?_⟩) hS ?_
      rotate_left
      · rintro W' ⟨s0, s1, s2⟩; go_simp; try with_reducible rfl
      simp only [Act.put, List.setIfInBounds_toArray, List.set_cons_zero, List.set_cons_succ]
      refine headY (v := ?_) (some 44) rfl rfl (Or.inl ⟨by rfl, ?_⟩) hS ?_
      rotate_left
      · rintro W' ⟨s0, s1, s2⟩; go_simp; try with_reducible rfl
      simp only [Act.put, List.setIfInBounds_toArray, List.set_cons_zero, List.set_cons_succ]
      refine headY (v := ?_) (some 45) rfl rfl (Or.inl ⟨by rfl, ?_⟩) hS ?_
      rotate_left
      · rintro W' ⟨s0, s1, s2⟩; go_simp; try with_reducible rfl
      simp only [Act.put, List.setIfInBounds_toArray, List.set_cons_zero, List.set_cons_succ]
      refine headY (v := ?_) (some 46) rfl rfl (Or.inl ⟨by rfl, ?_⟩) hS ?_
      rotate_left
      · rintro W' ⟨s0, s1, s2⟩; go_simp; try with_reducible rfl
      simp only [Act.put, List.setIfInBounds_toArray, List.set_cons_zero, List.set_cons_succ]
      refine headY (v := ?_) (some 47) rfl rfl (Or.inl ⟨by rfl, ?_⟩) hS ?_
      rotate_left
      · rintro W' ⟨s0, s1, s2⟩; go_simp; try with_reducible rfl
      simp only [Act.put, List.setIfInBounds_toArray, List.set_cons_zero, List.set_cons_succ]
      refine headY (v := ?_) (some 48) rfl rfl (Or.inl ⟨by rfl, ?_⟩) hS ?_
      rotate_left
      · rintro W' ⟨s0, s1, s2⟩; go_simp; try with_reducible rfl
      simp only [Act.put, List.setIfInBounds_toArray, List.set_cons_zero, List.set_cons_succ]
      refine headY (v := ?_) (some 49) rfl rfl (Or.inl ⟨by rfl, ?_⟩) hS ?_
      rotate_left
      · rintro W' ⟨s0, s1, s2⟩; go_simp; try with_reducible rfl
      simp only [Act.put, List.setIfInBounds_toArray, List.set_cons_zero, List.set_cons_succ]
      refine headY (v := ?_) (some 50) rfl rfl (Or.inl ⟨by rfl, ?_⟩) hS ?_
      rotate_left
      · rintro W' ⟨s0, s1, s2⟩; go_simp; try with_reducible rfl
      simp only [Act.put, List.setIfInBounds_toArray, List.set_cons_zero, List.set_cons_succ]
      refine headY (v := ?_) (some 51) rfl rfl (Or.inl ⟨by rfl, ?_⟩) hS ?_
      rotate_left
      · rintro W' ⟨s0, s1, s2⟩; go_simp; try with_reducible rfl
      simp only [Act.put, List.setIfInBounds_toArray, List.set_cons_zero, List.set_cons_succ]
      refine headY (v := ?_) (some 52) rfl rfl (Or.inl ⟨by rfl, ?_⟩) hS ?_
      rotate_left
      · rintro W' ⟨s0, s1, s2⟩; go_simp; try with_reducible rfl
      simp only [Act.put, List.setIfInBounds_toArray, List.set_cons_zero, List.set_cons_succ]
      refine headY (v := ?_) (some 53) rfl rfl (Or.inl ⟨by rfl, ?_⟩) hS ?_
      rotate_left
      · rintro W' ⟨s0, s1, s2⟩; go_simp; try with_reducible rfl
      simp only [Act.put, List.setIfInBounds_toArray, List.set_cons_zero, List.set_cons_succ]
      refine headY (v := ?_) (some 54) rfl rfl (Or.inl ⟨by rfl, ?_⟩) hS ?_
      rotate_left
      · rintro W' ⟨s0, s1, s2⟩; go_simp; try with_reducible rfl
      simp only [Act.put, List.setIfInBounds_toArray, List.set_cons_zero, List.set_cons_succ]
      refine headY (v := ?_) (some 55) rfl rfl (Or.inl ⟨by rfl, ?_⟩) hS ?_
      rotate_left
      · rintro W' ⟨s0, s1, s2⟩; go_simp; try with_reducible rfl
      simp only [Act.put, List.setIfInBounds_toArray, List.set_cons_zero, List.set_cons_succ]
      refine headC rfl (fun KK hK => ?_)
      -- CALL 19 slot (some 56)
      go_simp
      refine hK _ _ hS ?_
      clear hK KK
      refine headY (v := ?_) (some 57) rfl rfl (Or.inl ⟨by rfl, ?_⟩) hS ?_
      rotate_left
      · rintro W' ⟨s0, s1, s2⟩; go_simp; try with_reducible rfl
      simp only [Act.put, List.setIfInBounds_toArray, List.set_cons_zero, List.set_cons_succ]
      refine head0 ?_
      simp only [List.drop_succ_cons, List.drop_zero]
      clear hS
      go_wp2
      all_goals
        first
        | rw [show min (S.low u) (S.low v) = S.low v by omega] at b3 hr3
        | rw [show min (S.low u) (S.low v) = S.low u by omega] at b3 hr3
        | rw [show ((min (S.low u) (S.low v) : Nat) : Int) = min (S.low u : Int) (S.low v : Int) by omega] at b3 hr3
        refine NoPanic.normal ?_
        go_wp2
        go_meet
        case rel => exact ⟨b3, f3, hr3.out, h3⟩
  case rest =>
    obtain ⟨bc, f4, hr4, h4⟩ := hcut
    have oL := hr4.ownI h4.low
    have oF := hr4.ownI h4.fnd
    have cV := oL.at.cellD v (by rw [tab_len]; exact hvn)
    have dV := oF.at.cellD v (by rw [tab_len]; exact hvn)
    rw [tab_get _ _ _ hvn] at cV dV
    have hlv : ({ S with low := lowS S.low v r, calls := r } : TS).low v = S.low v := hlq.out
    rw [hlv] at cV
    have iL := fun w' => oL.at.idx v (by rw [tab_len]; exact hvn) w'
    have iF := fun w' => oF.at.idx v (by rw [tab_len]; exact hvn) w'
    have x1 := h4.cell hr4 1 (by decide)
    have x2 := h4.cell hr4 2 (by decide)
    simp only [List.getElem?_cons_succ, List.getElem?_cons_zero] at x1 x2
    replace hr4 := Lib.hid hr4
    clear oL oF
    generalize valAt lv v = la at *
    generalize valAt fv v = fa at *
    by_cases hlf : S.low v = S.found v
    · have hne : ((S.low v : Int) != (S.found v : Int)) = false := by rw [hlf]; simp
      go_upto_region 5 with fail
      go_quiet (fail)
      go_wp2_with fail
      clear cV dV iL iF x1 x2 hne
      go_loopg [] S.opn.length (fun k wr => ∃ o p f' ov', o.length = k ∧ k ≤ n ∧ v ∈ o ∧ (∀ x ∈ o, x < n) ∧ closeS v o p = closeS v S.opn S.part ∧ Rows B wr f' ∧ Below B w wr ∧ SN f' d nv lv fv pv ov' (.slice (some ⟨g, 0, none⟩) r.length c) n { S with low := lowS S.low v r, calls := r, opn := o, part := p })
      case atStart => exact ⟨S.opn, S.part, f4, ov, rfl, hI.out.opn_len, hvo.out, hol.out, rfl, hr4.out.drewN nq, bc.trans ⟨rfl, rfl, rfl, Nat.le_refl _, fun _ _ => rfl⟩, h4⟩
      case round =>
        obtain ⟨o, p, f5, ov', rfl, hol5, hvo5, hon, hcl, hr5, b5, h5⟩ := hrel
        obtain ⟨t, o', rfl⟩ : ∃ t o', o = t :: o' := by cases o with
          | nil => cases hvo5
          | cons t o' => exact ⟨t, o', rfl⟩
        have htn : t < n := hon t List.mem_cons_self
        obtain ⟨go, co, rfl, hco⟩ := h5.opnShape hr5 (by simp)
        simp only [List.length_cons] at h5 hco hol5
        obtain ⟨wo, rfl⟩ : ∃ wo : World, wo = wr := ⟨_, rfl⟩
        have x3 := h5.cell hr5 3 (by decide)
        simp only [List.getElem?_cons_succ, List.getElem?_cons_zero] at x3
        have oO := (hr5.ownI h5.opn).at
        have cT := oO.cellD o'.length (by rw [upI_len]; simp)
        rw [upI_top] at cT
        have iT := fun w' => oO.idx o'.length (by rw [upI_len]; simp) w'
        have hwr' : IntKind.i64.wrap (o'.length : Int) = o'.length := wrapK (by omega) (by omega)
        generalize valAt (.slice (some ⟨go, 0, none⟩) (o'.length + 1) co) o'.length = ta at *
        replace hcl := Lib.hid hcl
        replace hon := Lib.hid hon
        replace hr5 := Lib.hid hr5
        clear oO
        go_upto_region 6 with fail
        go_quiet (fail)
        go_upto_region 7 with fail
        refine wp_region_plan (fun w' => w'.cell? ⟨d, 3, none⟩ = some (.slice (some ⟨go, 0, none⟩) (o'.length + 1) co)) 14 [(0, true), (1, true), (2, true), (3, true), (4, true), (5, true), (6, true), (7, true), (8, true), (9, true), (10, true), (11, true), (12, true), (13, true)] (by kernel_rfl) (by kernel_rfl) ?_
        obtain ⟨W6, hW6⟩ : ∃ W6 : World, W6 = (wo.drewN nq).drew := ⟨_, rfl⟩
        rw [← hW6]
        have hr6 : Rows B W6 f5 := by rw [hW6]; exact (hr5.out.drewN nq).drew
        have b6 : Below B w W6 := by rw [hW6]; exact b5.trans ⟨rfl, rfl, rfl, Nat.le_refl _, fun _ _ => rfl⟩
        have hsl' : (0 ≤ (o'.length : Int) ∧ (o'.length : Int) ≤ (co : Int)) := ⟨by omega, by omega⟩
        have hS : W6.cell? ⟨d, 3, none⟩ = some (.slice (some ⟨go, 0, none⟩) (o'.length + 1) co) := by rw [hW6]; exact x3
        have g3 := h5.frz hr6 3
        clear hW6 x3 cT iT
        obtain ⟨f7, hr7, h7⟩ := h5.popOpen rfl hr6
        have b7 : Below B w (W6.setCell ⟨d, 3, none⟩ (.slice (some ⟨go, 0, none⟩) o'.length co)) := b6.setCell (h5.base hr6) _
        replace hr7 := Lib.hid hr7
        replace hr6 := Lib.hid hr6
        refine headY (v := ?_) (some 85) rfl rfl (Or.inl ⟨by rfl, ?_⟩) hS ?_
        rotate_left
        · rintro W' s0; go_simp; try with_reducible rfl
        simp only [Act.put, List.setIfInBounds_toArray, List.set_cons_zero, List.set_cons_succ]
        refine headY (v := ?_) (some 86) rfl rfl (Or.inl ⟨by rfl, ?_⟩) hS ?_
        rotate_left
        · rintro W' s0; go_simp; try with_reducible rfl
        simp only [Act.put, List.setIfInBounds_toArray, List.set_cons_zero, List.set_cons_succ]
        refine headY (v := ?_) (some 87) rfl rfl (Or.inl ⟨by rfl, ?_⟩) hS ?_
        rotate_left
        · rintro W' s0; go_simp; try with_reducible rfl
        simp only [Act.put, List.setIfInBounds_toArray, List.set_cons_zero, List.set_cons_succ]
        refine headY (v := ?_) (some 88) rfl rfl (Or.inl ⟨by rfl, ?_⟩) hS ?_
        rotate_left
        · rintro W' s0; go_simp; try with_reducible rfl
        simp only [Act.put, List.setIfInBounds_toArray, List.set_cons_zero, List.set_cons_succ]
        refine headY (v := ?_) (some 89) rfl rfl (Or.inl ⟨by rfl, ?_⟩) hS ?_
        rotate_left
        · rintro W' s0; go_simp; try with_reducible rfl
        simp only [Act.put, List.setIfInBounds_toArray, List.set_cons_zero, List.set_cons_succ]
        refine headY (v := ?_) (some 90) rfl rfl (Or.inl ⟨by rfl, ?_⟩) hS ?_
        rotate_left
        · rintro W' s0; go_simp; try with_reducible rfl
        simp only [Act.put, List.setIfInBounds_toArray, List.set_cons_zero, List.set_cons_succ]
        refine headY (v := ?_) (some 91) rfl rfl (Or.inl ⟨by rfl, ?_⟩) hS ?_
        rotate_left
        · rintro W' s0; go_simp; try with_reducible rfl
        simp only [Act.put, List.setIfInBounds_toArray, List.set_cons_zero, List.set_cons_succ]
        refine headY (v := ?_) (some 92) rfl rfl (Or.inl ⟨by rfl, ?_⟩) hS ?_
        rotate_left
        · rintro W' s0; go_simp; try with_reducible rfl
        simp only [Act.put, List.setIfInBounds_toArray, List.set_cons_zero, List.set_cons_succ]
        refine headY (v := ?_) (some 93) rfl rfl (Or.inl ⟨by rfl, ?_⟩) hS ?_
        rotate_left
        · rintro W' s0; go_simp; try with_reducible rfl
        simp only [Act.put, List.setIfInBounds_toArray, List.set_cons_zero, List.set_cons_succ]
        refine headY (v := ?_) (some 94) rfl rfl (Or.inl ⟨by rfl, ?_⟩) hS ?_
        rotate_left
        · rintro W' s0; go_simp; try with_reducible rfl
        simp only [Act.put, List.setIfInBounds_toArray, List.set_cons_zero, List.set_cons_succ]
        refine headY (v := ?_) (some 95) rfl rfl (Or.inl ⟨by rfl, ?_⟩) hS ?_
        rotate_left
        · rintro W' s0; go_simp; try with_reducible rfl
        simp only [Act.put, List.setIfInBounds_toArray, List.set_cons_zero, List.set_cons_succ]
        refine headY (v := ?_) (some 96) rfl rfl (Or.inl ⟨by rfl, ?_⟩) hS ?_
        rotate_left
        · rintro W' s0; go_simp; try with_reducible rfl
        simp only [Act.put, List.setIfInBounds_toArray, List.set_cons_zero, List.set_cons_succ]
        refine headY (v := ?_) (some 97) rfl rfl (Or.inl ⟨by rfl, ?_⟩) hS ?_
        rotate_left
        · rintro W' s0; go_simp; try with_reducible rfl
        simp only [Act.put, List.setIfInBounds_toArray, List.set_cons_zero, List.set_cons_succ]
        refine headY (v := ?_) (some 98) rfl rfl (Or.inl ⟨by rfl, ?_⟩) hS ?_
        rotate_left
        · rintro W' s0; go_simp; try with_reducible rfl
        simp only [Act.put, List.setIfInBounds_toArray, List.set_cons_zero, List.set_cons_succ]
        refine head0 ?_
        simp only [List.drop_succ_cons, List.drop_zero]
        go_wp2
        clear hS g3
        refine NoPanic.normal ?_
        obtain ⟨W7, hW7⟩ : ∃ W7 : World, W7 = W6.setCell ⟨d, 3, none⟩ (.slice (some ⟨go, 0, none⟩) o'.length co) := ⟨_, rfl⟩
        rw [← hW7]
        rw [← hW7] at hr7 b7
        clear hW7
        have x4 := h7.cell hr7.out 4 (by decide)
        simp only [List.getElem?_cons_succ, List.getElem?_cons_zero] at x4
        have oP := hr7.out.ownI h7.part
        have iP := fun w' => oP.at.idx t (by rw [tabI_len]; exact htn) w'
        have cP := oP.at.cellD t (by rw [tabI_len]; exact htn)
        have fP := oP.frz t (by rw [tabI_len]; exact htn)
        have kP := (oP.toV.blkB t (by rw [List.length_map, tabI_len]; exact htn)).2
        obtain ⟨f8, hr8, h8⟩ := h7.setPart hr7.out t htn (v : Int)
        have b8 : Below B w (W7.setCell (valAt pv t) (.int .i64 (v : Int))) := b7.setCell kP _
        replace hr8 := Lib.hid hr8
        clear oP
        generalize valAt pv t = pa at *
        by_cases htv : t = v
        · subst htv
          rw [show closeS t (t :: o') p = (o', updN p t t) by simp [closeS]] at hcl
          have hfin : leaveS S t r = { S with low := lowS S.low t r, calls := r, opn := o', part := updN p t t } := by
            unfold leaveS
            rw [hlq.out, if_pos hlf, ← hcl.out]
          replace hfin := Lib.hid hfin
          replace hlf := Lib.hid hlf
          go_wp2
          (try simp only [Exit.inBlock, Exit.then]); refine bodyPost_ret (results_none rfl _ _ _) rfl ?_
          exact ⟨rfl, b8, f8, _, _, hr8.out, by rw [hfin.out]; exact h8⟩
        · have hne : ((t : Int) == (v : Int)) = false := by rw [beq_eq_false_iff_ne]; omega
          have hvo6 : v ∈ o' := (List.mem_cons.1 hvo5).resolve_left (fun e => htv e.symm)
          rw [show closeS v (t :: o') p = closeS v o' (updN p t v) by simp [closeS, htv]] at hcl
          replace hlf := Lib.hid hlf
          go_wp2
          go_roundg o'.length
          case measure => simp
          case rel => exact ⟨o', updN p t v, f8, _, rfl, by omega, hvo6, fun x hx => hon.out x (List.mem_cons_of_mem _ hx), hcl.out, hr8.out, b8, h8⟩
    · have hne : ((S.low v : Int) != (S.found v : Int)) = true := by rw [bne_iff_ne]; omega
      have hfin : leaveS S v r = { S with low := lowS S.low v r, calls := r } := by
        unfold leaveS
        rw [hlq.out, if_neg hlf]
      replace hfin := Lib.hid hfin
      replace hlf := Lib.hid hlf
      go_upto_region 5 with fail
      go_quiet (fail)
      go_wp2
      (try simp only [Exit.inBlock, Exit.then]); refine bodyPost_ret (results_none rfl _ _ _) rfl ?_
      exact ⟨rfl, bc.trans ⟨rfl, rfl, rfl, Nat.le_refl _, fun _ _ => rfl⟩, f4, _, _, hr4.out.drewN nq, by rw [hfin.out]; exact h4⟩
end Go.Proofs.YtmhiambkfdkkbaaDoor

namespace Go.Proofs.YtmhiambkfdkkbaaDoor
open Go.RowKit
set_option maxRecDepth 100000

/-- What from leaves: the calls are done, what was found is found, and v. -/
def FromPost (B : Nat) (w : World) (d : Nat) (nv lv fv pv : Value) (n : Nat) (adj : Nat → List Nat) (S : TS) (v : Nat) (e : Ending) (w' : World) : Prop :=
  e = .returned (.tuple #[]) ∧ Below B w w' ∧ ∃ f' ov' cv' T, Rows B w' f' ∧ SN f' d nv lv fv pv ov' cv' n T ∧ TInv n adj T ∧ T.calls = [] ∧ ∀ x, S.found x ≠ 0 ∨ x = v → T.found x ≠ 0

theorem enter_keeps (S : TS) (v x : Nat) (h : S.found x ≠ 0 ∨ x = v) : (enterS S v).found x ≠ 0 := by
  show updN S.found v (S.time + 1) x ≠ 0
  by_cases e : x = v
  · subst e; rw [updN_same]; omega
  · rw [updN_other _ _ _ e]; exact h.resolve_right e

set_option maxHeartbeats 4000000 in
theorem from_any (w0 : World) (w : World) (f : Names) (d : Nat) (na : Option Addr) (nc : Nat) (lv fv pv ov cv : Value) (G : List (List Int)) (S : TS) (v : Nat) (hG : ListsAt w0 (.slice na G.length nc) G) (hok : GraphOk G) (hn : G.length ≤ 8192)
    (hb : Below w0.heap.size w0 w) (hr : Rows w0.heap.size w f) (h : SN f d (.slice na G.length nc) lv fv pv ov cv G.length S) (hI : TInv G.length (adjOf G) S) (hc : S.calls = []) (hv : v < G.length) (hf : S.found v = 0) :
    Calls Tryd.prog 122 #[.pointer (some ⟨d, 0, none⟩), .int .i64 v] w (FromPost w0.heap.size w d (.slice na G.length nc) lv fv pv G.length (adjOf G) S v) := by
  have hlen : ∀ x, x < G.length → (G.getD x []).length ≤ 9223372036854775807 := by
    intro x hx
    obtain ⟨_, _, _, hm⟩ := hG.row x hx
    exact hm.len_le
  have hE := enter_any w0.heap.size w f d (.slice na G.length nc) lv fv pv ov cv G.length S v hr h hb.size hv (by rw [hc]; simp) (by rw [h.opnNil hI hc]; simp) (by rw [hc]; simp) (by have := hI.time_le; omega)
  have hI1 := hI.enterRoot hc hv hf
  have hkeep := enter_keeps S v
  replace hG := Lib.hid hG
  replace hok := Lib.hid hok
  replace hI := Lib.hid hI
  replace hlen := Lib.hid hlen
  replace hr := Lib.hid hr
  go_enter Tryd.func122, Tryd.ntmps122
  go_wp2_with fail
  refine hE.mono ?_
  rintro e w1 ⟨rfl, b1, f1, ov1, cv1, hr1, h1⟩
  generalize enterS S v = S1 at *
  replace hE := ()
  clear hE
  replace hkeep := Lib.hid hkeep
  replace hI1 := Lib.hid hI1
  replace hr1 := Lib.hid hr1
  go_wp2_with fail
  go_loopg [] (phi G.length (adjOf G) S1) (fun k wr => ∃ Sx f' ov' cv', k = phi G.length (adjOf G) Sx ∧ TInv G.length (adjOf G) Sx ∧ (∀ x, S1.found x ≠ 0 → Sx.found x ≠ 0) ∧ Rows w0.heap.size wr f' ∧ Below w0.heap.size w wr ∧ SN f' d (.slice na G.length nc) lv fv pv ov' cv' G.length Sx)
  case atStart => exact ⟨S1, f1, ov1, cv1, rfl, hI1.out, fun _ h => h, hr1.out, b1, h1⟩
  case round =>
    obtain ⟨Sx, f2, ov2, cv2, rfl, hI2, hk2, hr2, b2, h2⟩ := hrel
    obtain ⟨wo, rfl⟩ : ∃ wo : World, wo = wr := ⟨_, rfl⟩
    have x5 := h2.cell hr2 5 (by decide)
    simp only [List.getElem?_cons_succ, List.getElem?_cons_zero] at x5
    cases hc2 : Sx.calls with
    | nil =>
      obtain ⟨ca, cc, rfl⟩ := h2.callsLen hr2
      rw [hc2, List.length_nil] at h2 x5
      have hfin := Lib.hid (show ∀ x, S.found x ≠ 0 ∨ x = v → Sx.found x ≠ 0 from fun x hx => hk2 x (hkeep.out x hx))
      replace hI2 := Lib.hid hI2
      replace hc2 := Lib.hid hc2
      replace hr2 := Lib.hid hr2
      clear hk2
      go_wp2
      go_end0
      exact ⟨rfl, b2, f2, ov2, _, Sx, hr2.out, h2, hI2.out, hc2.out, hfin.out⟩
    | cons x r =>
      obtain ⟨g, c, rfl, hcap⟩ := h2.callsShape hr2 (by rw [hc2]; simp)
      rw [hc2, List.length_cons] at h2 x5 hcap
      have hxc : x ∈ Sx.calls := by rw [hc2]; exact List.mem_cons_self
      have hxn := hI2.seenLt x (hI2.callsSeen hxc).1
      have hrl := hI2.calls_len
      rw [hc2, List.length_cons] at hrl
      have hxr : x ∉ r := fun hm => by
        have := hI2.callsSorted
        rw [hc2] at this
        exact absurd ((List.pairwise_cons.1 this).1 x hm) (Nat.lt_irrefl _)
      have hil := hI2.idxLe x (hI2.callsOpen x hxc)
      have hal := adjOf_len G x
      have hll := hlen.out x hxn
      have hphi := hI2.phi_step hc2
      have hI3 := hI2.step
      have hk3 := fun y (hy : S1.found y ≠ 0) => (keepsS (adjOf G) Sx (hk2 y hy)).symm ▸ hk2 y hy
      obtain ⟨t0, t1, t1f⟩ := h2.callTop hc2 hr2
      have x0 := h2.cell hr2 0 (by decide)
      simp only [List.getElem?_cons_zero] at x0
      have hb2 := hb.trans b2
      obtain ⟨mv, iR, cR, hM⟩ := (hG.out.below hb2).row x hxn
      have hget := fun (i : Nat) (hi : i < (G.getD x []).length) => hok.out.get hxn hi
      obtain ⟨gx, hgx⟩ : ∃ gx, G.getD x [] = gx := ⟨_, rfl⟩
      rw [hgx] at hM hal hll hget
      replace hgx := Lib.hid hgx
      replace hget := Lib.hid hget
      have lenM := hM.len
      have hwr : IntKind.i64.wrap (r.length : Int) = r.length := wrapK (by omega) (by omega)
      obtain ⟨ra, hra⟩ : ∃ ra, valAt (.slice na G.length nc) x = ra := ⟨_, rfl⟩
      rw [hra] at iR cR
      replace hra := Lib.hid hra
      replace hphi := Lib.hid hphi
      replace hI3 := Lib.hid hI3
      replace hk3 := Lib.hid hk3
      replace hM := Lib.hid hM
      replace hI2 := Lib.hid hI2
      replace hr2 := Lib.hid hr2
      replace hk2 := Lib.hid hk2
      replace hxr := Lib.hid hxr
      have hstep := Lib.hid (stepS_cons (adj := adjOf G) hc2)
      by_cases hi : Sx.idx x = (adjOf G x).length
      · have hieq : ((Sx.idx x : Int) == (gx.length : Int)) = true := by rw [beq_iff_eq]; omega
        rw [if_pos hi] at hstep
        have hL := fun (w' : World) (hr' : Rows w0.heap.size w' f2) => leave_any w0.heap.size w' f2 d (.slice na G.length nc) lv fv pv ov2 _ G.length (adjOf G) Sx x r hr' h2 hI2.out hc2 hn
        replace hL := Lib.hid hL
        replace hc2 := Lib.hid hc2
        replace hi := Lib.hid hi
        go_upto_region 2 with fail
        go_quiet (fail)
        go_upto_region 3 with fail
        go_quiet (fail)
        go_wp2_with fail
        clear t0 t1 t1f x0 x5 iR cR lenM
        refine (hL.out _ (hr2.out.drewN _)).mono ?_
        rintro e w3 ⟨rfl, b3, f3, ov3, cv3, hr3, h3⟩
        replace hr3 := Lib.hid hr3
        go_wp2
        go_roundg (phi G.length (adjOf G) (stepS (adjOf G) Sx))
        case measure => exact hphi.out
        case rel => exact ⟨stepS (adjOf G) Sx, f3, ov3, cv3, rfl, hI3.out, hk3.out, hr3.out, b2.trans (Below.trans (below_drewN (Below.refl _ _) _) b3), by rw [hstep.out]; exact h3⟩
      · have hine : ((Sx.idx x : Int) == (gx.length : Int)) = false := by rw [beq_eq_false_iff_ne]; omega
        have hilt : Sx.idx x < gx.length := by omega
        rw [if_neg hi] at hstep
        have hg1 := hget.out _ hilt
        obtain ⟨t, ht⟩ : ∃ t, (adjOf G x).getD (Sx.idx x) 0 = t := ⟨_, rfl⟩
        rw [ht] at hg1 hstep
        have htn := (hI2.out.idx_get hc2 hi).2.2
        rw [ht] at htn
        have iT := hM.out.idx _ hilt
        have cT := hM.out.cellD _ hilt
        rw [hg1] at cT
        generalize valAt mv (Sx.idx x) = ta at *
        replace hg1 := Lib.hid hg1
        replace ht := Lib.hid ht
        replace hi := Lib.hid hi
        have e1 : ((Sx.idx x + 1 : Nat) : Int) = (Sx.idx x : Int) + 1 := by omega
        have hbump := fun (w' : World) (hr' : Rows w0.heap.size w' f2) => h2.bump hc2 hxr.out hr' (Sx.idx x + 1)
        rw [e1] at hbump
        replace e1 := Lib.hid e1
        replace hbump := Lib.hid hbump
        have hgB := ((hr2.out.lt h2.calls) g rfl).1
        have hcb := Lib.hid (show t ∉ Sx.calls ∨ Sx.found t ≠ 0 from by
          by_cases q : Sx.found t = 0
          · exact .inl fun hm => (hI2.out.callsSeen hm).1 q
          · exact .inr q)
        have hlens := Lib.hid (show Sx.opn.length < 10000 ∧ Sx.calls.length < 10000 ∧ Sx.time < 100000 from ⟨by have := hI2.out.opn_len; omega, by have := hI2.out.calls_len; omega, by have := hI2.out.time_le; omega⟩)
        replace hc2 := Lib.hid hc2
        go_upto_region 2 with fail
        go_quiet (fail)
        revert nq
        intro q1
        go_upto_region 3 with fail
        go_quiet (fail)
        revert nq
        intro q2
        go_upto_region 5 with fail
        go_quiet (fail)
        go_upto_region 7 with fail
        obtain ⟨WN, hWN⟩ : ∃ WN : World, WN = wo.drewN (q1 + q2 + nq) := ⟨_, rfl⟩
        rw [← hWN]
        have hrN : Rows w0.heap.size WN f2 := by rw [hWN]; exact hr2.out.drewN _
        have bN : Below w0.heap.size w WN := by rw [hWN]; exact b2.trans (below_drewN (Below.refl _ _) _)
        clear hWN t0 t1 t1f x0 x5 iR cR lenM iT cT
        obtain ⟨f3, hr3, h3⟩ := hbump.out _ hrN
        have b3 : Below w0.heap.size w (WN.setCell ⟨g, r.length * 2 + 1, none⟩ (.int .i64 ((Sx.idx x : Int) + 1))) := bN.setCell hgB _
        obtain ⟨W3, hW3⟩ : ∃ W3 : World, W3 = WN.setCell ⟨g, r.length * 2 + 1, none⟩ (.int .i64 ((Sx.idx x : Int) + 1)) := ⟨_, rfl⟩
        rw [← hW3]
        rw [← hW3] at hr3 b3
        clear hW3 hrN bN
        have x2 := h3.cell hr3 2 (by decide)
        simp only [List.getElem?_cons_succ, List.getElem?_cons_zero] at x2
        have oF := (hr3.ownI h3.fnd).at
        have iF := fun w' => oF.idx t (by rw [tab_len]; exact htn) w'
        have cF := oF.cellD t (by rw [tab_len]; exact htn)
        rw [tab_get _ _ _ htn] at cF
        dsimp only at cF
        replace hr3 := Lib.hid hr3
        clear oF
        obtain ⟨fa, hfa⟩ : ∃ fa, valAt fv t = fa := ⟨_, rfl⟩
        rw [hfa] at iF cF
        replace hfa := Lib.hid hfa
        by_cases hft : Sx.found t = 0
        · rw [if_pos hft] at hstep
          have hE3 := enter_any w0.heap.size W3 f3 d (.slice na G.length nc) lv fv pv ov2 _ G.length _ t hr3.out h3 (Nat.le_trans hb.size (Nat.le_trans b3.size (Nat.le_refl _))) htn (by show t ∉ Sx.calls; exact hcb.out.resolve_right (fun q => q hft)) hlens.out.1 hlens.out.2.1 hlens.out.2.2
          replace hE3 := Lib.hid hE3
          rw [hft] at cF
          replace hft := Lib.hid hft
          go_wp2_with fail
          clear x2 iF cF
          refine hE3.out.mono ?_
          rintro e w4 ⟨rfl, b4, f4, ov4, cv4, hr4, h4⟩
          replace hr4 := Lib.hid hr4
          go_wp2
          go_roundg (phi G.length (adjOf G) (stepS (adjOf G) Sx))
          case measure => exact hphi.out
          case rel => exact ⟨stepS (adjOf G) Sx, f4, ov4, cv4, rfl, hI3.out, hk3.out, hr4.out, b3.trans b4, by rw [hstep.out]; exact h4⟩
        · have hne : ((Sx.found t : Int) == 0) = false := by rw [beq_eq_false_iff_ne]; omega
          rw [if_neg hft] at hstep
          replace hft := Lib.hid hft
          have x4 := h3.cell hr3.out 4 (by decide)
          simp only [List.getElem?_cons_succ, List.getElem?_cons_zero] at x4
          have oP := (hr3.out.ownI h3.part).at
          have iP := fun w' => oP.idx t (by rw [tabI_len]; exact htn) w'
          have cP := oP.cellD t (by rw [tabI_len]; exact htn)
          rw [tabI_get _ _ _ htn] at cP
          dsimp only at cP
          clear oP
          generalize valAt pv t = pa at *
          by_cases hpt : Sx.part t < 0
          · rw [if_pos hpt] at hstep
            have hcx : Sx.calls = x :: r := hc2.out
            have hT0 := fun (w' : World) (hr' : Rows w0.heap.size w' f3) => (h3.callTop hcx hr').1
            replace hcx := Lib.hid hcx
            replace hT0 := Lib.hid hT0
            go_upto_region 10 with fail
            clear x4 iP cP x2
            refine wp_region_plan (fun w' => w'.cell? ⟨d, 1, none⟩ = some lv ∧ w'.cell? ⟨d, 2, none⟩ = some fv ∧ w'.cell? ⟨g, r.length * 2, none⟩ = some (.int .i64 (x : Int)) ∧ w'.cell? (valAt lv x) = some (.int .i64 (Sx.low x : Int)) ∧ w'.cell? fa = some (.int .i64 (Sx.found t : Int))) 27 [(0, true), (1, true), (2, true), (3, true), (4, true), (5, true), (6, true), (7, true), (8, true), (9, true), (10, true), (11, true), (12, true), (13, true), (14, true), (15, true), (16, true), (17, true), (18, true), (19, true), (20, true), (21, true), (22, true), (23, true), (24, true), (25, false), (26, true)] (by kernel_rfl) (by kernel_rfl) ?_
            obtain ⟨W5, hW5⟩ : ∃ W5 : World, W5 = W3.drew := ⟨_, rfl⟩
            rw [← hW5]
            have hr5 : Rows w0.heap.size W5 f3 := by rw [hW5]; exact hr3.out.drew
            have b5 : Below w0.heap.size w W5 := by rw [hW5]; exact b3.drew
            have cF5 : W5.cell? fa = some (.int .i64 (Sx.found t : Int)) := by rw [hW5]; exact cF
            clear hW5 cF
            have oL := hr5.ownI h3.low
            have iX := fun w' => oL.at.idx x (by rw [tab_len]; exact hxn) w'
            have cX := oL.at.cellD x (by rw [tab_len]; exact hxn)
            rw [tab_get _ _ _ hxn] at cX
            dsimp only at cX
            have fX := oL.frz x (by rw [tab_len]; exact hxn)
            have kX := (oL.toV.blkB x (by rw [List.length_map, tab_len]; exact hxn)).2
            have hS : W5.cell? ⟨d, 1, none⟩ = some lv ∧ W5.cell? ⟨d, 2, none⟩ = some fv ∧ W5.cell? ⟨g, r.length * 2, none⟩ = some (.int .i64 (x : Int)) ∧ W5.cell? (valAt lv x) = some (.int .i64 (Sx.low x : Int)) ∧ W5.cell? fa = some (.int .i64 (Sx.found t : Int)) := ⟨h3.cell hr5 1 (by decide), h3.cell hr5 2 (by decide), hT0.out _ hr5, cX, cF5⟩
            obtain ⟨f6, hr6, h6⟩ := h3.setLow hr5 x hxn (min (Sx.low x) (Sx.found t))
            have b6 : Below w0.heap.size w (W5.setCell (valAt lv x) (.int .i64 ((min (Sx.low x) (Sx.found t) : Nat) : Int))) := b5.setCell kX _
            replace hr6 := Lib.hid hr6
            replace hr5 := Lib.hid hr5
            clear oL cF5
            generalize valAt lv x = la at *
            refine headY (v := ?_) (some 92) rfl rfl (Or.inl ⟨by rfl, ?_⟩) hS ?_
            rotate_left
            · rintro W' ⟨s0, s1, s2, s3, s4⟩; go_simp; try with_reducible rfl
            simp only [Act.put, List.setIfInBounds_toArray, List.set_cons_zero, List.set_cons_succ]
            refine headY (v := ?_) (some 93) rfl rfl (Or.inl ⟨by rfl, ?_⟩) hS ?_
            rotate_left
            · rintro W' ⟨s0, s1, s2, s3, s4⟩; go_simp; try with_reducible rfl
            simp only [Act.put, List.setIfInBounds_toArray, List.set_cons_zero, List.set_cons_succ]
            refine headY (v := ?_) (some 94) rfl rfl (Or.inl ⟨by rfl, ?_⟩) hS ?_
            rotate_left
            · rintro W' ⟨s0, s1, s2, s3, s4⟩; go_simp; try with_reducible rfl
            simp only [Act.put, List.setIfInBounds_toArray, List.set_cons_zero, List.set_cons_succ]
            refine headY (v := ?_) (some 95) rfl rfl (Or.inl ⟨by rfl, ?_⟩) hS ?_
            rotate_left
            · rintro W' ⟨s0, s1, s2, s3, s4⟩; go_simp; try with_reducible rfl
            simp only [Act.put, List.setIfInBounds_toArray, List.set_cons_zero, List.set_cons_succ]
            refine headY (v := ?_) (some 96) rfl rfl (Or.inl ⟨by rfl, ?_⟩) hS ?_
            rotate_left
            · rintro W' ⟨s0, s1, s2, s3, s4⟩; go_simp; try with_reducible rfl
            simp only [Act.put, List.setIfInBounds_toArray, List.set_cons_zero, List.set_cons_succ]
            refine headY (v := ?_) (some 97) rfl rfl (Or.inl ⟨by rfl, ?_⟩) hS ?_
            rotate_left
            · rintro W' ⟨s0, s1, s2, s3, s4⟩; go_simp; try with_reducible rfl
            simp only [Act.put, List.setIfInBounds_toArray, List.set_cons_zero, List.set_cons_succ]
            refine headY (v := ?_) (some 98) rfl rfl (Or.inl ⟨by rfl, ?_⟩) hS ?_
            rotate_left
            · rintro W' ⟨s0, s1, s2, s3, s4⟩; go_simp; try with_reducible rfl
            simp only [Act.put, List.setIfInBounds_toArray, List.set_cons_zero, List.set_cons_succ]
            refine headY (v := ?_) (some 99) rfl rfl (Or.inl ⟨by rfl, ?_⟩) hS ?_
            rotate_left
            · rintro W' ⟨s0, s1, s2, s3, s4⟩; go_simp; try with_reducible rfl
            simp only [Act.put, List.setIfInBounds_toArray, List.set_cons_zero, List.set_cons_succ]
            refine headY (v := ?_) (some 100) rfl rfl (Or.inl ⟨by rfl, ?_⟩) hS ?_
            rotate_left
            · rintro W' ⟨s0, s1, s2, s3, s4⟩; go_simp; try with_reducible rfl
            simp only [Act.put, List.setIfInBounds_toArray, List.set_cons_zero, List.set_cons_succ]
            refine headY (v := ?_) (some 101) rfl rfl (Or.inl ⟨by rfl, ?_⟩) hS ?_
            rotate_left
            · rintro W' ⟨s0, s1, s2, s3, s4⟩; go_simp; try with_reducible rfl
            simp only [Act.put, List.setIfInBounds_toArray, List.set_cons_zero, List.set_cons_succ]
            refine headY (v := ?_) (some 102) rfl rfl (Or.inl ⟨by rfl, ?_⟩) hS ?_
            rotate_left
            · rintro W' ⟨s0, s1, s2, s3, s4⟩; go_simp; try with_reducible rfl
            simp only [Act.put, List.setIfInBounds_toArray, List.set_cons_zero, List.set_cons_succ]
            refine headY (v := ?_) (some 103) rfl rfl (Or.inl ⟨by rfl, ?_⟩) hS ?_
            rotate_left
            · rintro W' ⟨s0, s1, s2, s3, s4⟩; go_simp; try with_reducible rfl
            simp only [Act.put, List.setIfInBounds_toArray, List.set_cons_zero, List.set_cons_succ]
            refine headY (v := ?_) (some 104) rfl rfl (Or.inl ⟨by rfl, ?_⟩) hS ?_
            rotate_left
            · rintro W' ⟨s0, s1, s2, s3, s4⟩; go_simp; try with_reducible rfl
            simp only [Act.put, List.setIfInBounds_toArray, List.set_cons_zero, List.set_cons_succ]
            refine headY (v := ?_) (some 105) rfl rfl (Or.inl ⟨by rfl, ?_⟩) hS ?_
            rotate_left
            · rintro W' ⟨s0, s1, s2, s3, s4⟩; go_simp; try with_reducible rfl
            simp only [Act.put, List.setIfInBounds_toArray, List.set_cons_zero, List.set_cons_succ]
            refine headY (v := ?_) (some 106) rfl rfl (Or.inl ⟨by rfl, ?_⟩) hS ?_
            rotate_left
            · rintro W' ⟨s0, s1, s2, s3, s4⟩; go_simp; try with_reducible rfl
            simp only [Act.put, List.setIfInBounds_toArray, List.set_cons_zero, List.set_cons_succ]
            refine headY (v := ?_) (some 107) rfl rfl (Or.inl ⟨by rfl, ?_⟩) hS ?_
            rotate_left
            · rintro W' ⟨s0, s1, s2, s3, s4⟩; go_simp; try with_reducible rfl
            simp only [Act.put, List.setIfInBounds_toArray, List.set_cons_zero, List.set_cons_succ]
            refine headY (v := ?_) (some 108) rfl rfl (Or.inl ⟨by rfl, ?_⟩) hS ?_
            rotate_left
            · rintro W' ⟨s0, s1, s2, s3, s4⟩; go_simp; try with_reducible rfl
            simp only [Act.put, List.setIfInBounds_toArray, List.set_cons_zero, List.set_cons_succ]
            refine headY (v := ?_) (some 109) rfl rfl (Or.inl ⟨by rfl, ?_⟩) hS ?_
            rotate_left
            · rintro W' ⟨s0, s1, s2, s3, s4⟩; go_simp; try with_reducible rfl
            simp only [Act.put, List.setIfInBounds_toArray, List.set_cons_zero, List.set_cons_succ]
            refine headY (v := ?_) (some 110) rfl rfl (Or.inl ⟨by rfl, ?_⟩) hS ?_
            rotate_left
            · rintro W' ⟨s0, s1, s2, s3, s4⟩; go_simp; try with_reducible rfl
            simp only [Act.put, List.setIfInBounds_toArray, List.set_cons_zero, List.set_cons_succ]
            refine headY (v := ?_) (some 111) rfl rfl (Or.inl ⟨by rfl, ?_⟩) hS ?_
            rotate_left
            · rintro W' ⟨s0, s1, s2, s3, s4⟩; go_simp; try with_reducible rfl
            simp only [Act.put, List.setIfInBounds_toArray, List.set_cons_zero, List.set_cons_succ]
            refine headY (v := ?_) (some 112) rfl rfl (Or.inl ⟨by rfl, ?_⟩) hS ?_
            rotate_left
            · rintro W' ⟨s0, s1, s2, s3, s4⟩; go_simp; try with_reducible rfl
            simp only [Act.put, List.setIfInBounds_toArray, List.set_cons_zero, List.set_cons_succ]
            refine headY (v := ?_) (some 113) rfl rfl (Or.inl ⟨by rfl, ?_⟩) hS ?_
            rotate_left
            · rintro W' ⟨s0, s1, s2, s3, s4⟩; go_simp; try with_reducible rfl
            simp only [Act.put, List.setIfInBounds_toArray, List.set_cons_zero, List.set_cons_succ]
            refine headY (v := ?_) (some 114) rfl rfl (Or.inl ⟨by rfl, ?_⟩) hS ?_
            rotate_left
            · rintro W' ⟨s0, s1, s2, s3, s4⟩; go_simp; try with_reducible rfl
            simp only [Act.put, List.setIfInBounds_toArray, List.set_cons_zero, List.set_cons_succ]
            refine headY (v := ?_) (some 115) rfl rfl (Or.inl ⟨by rfl, ?_⟩) hS ?_
            rotate_left
            · rintro W' ⟨s0, s1, s2, s3, s4⟩; go_simp; try with_reducible rfl
            simp only [Act.put, List.setIfInBounds_toArray, List.set_cons_zero, List.set_cons_succ]
            refine headY (v := ?_) (some 116) rfl rfl (Or.inl ⟨by rfl, ?_⟩) hS ?_
            rotate_left
            · rintro W' ⟨s0, s1, s2, s3, s4⟩; go_simp; try with_reducible rfl
            simp only [Act.put, List.setIfInBounds_toArray, List.set_cons_zero, List.set_cons_succ]
            refine headC rfl (fun KK hK => ?_)
            -- CALL 25 slot (some 117)
            go_simp
            refine hK _ _ hS ?_
            clear hK KK
            refine headY (v := ?_) (some 118) rfl rfl (Or.inl ⟨by rfl, ?_⟩) hS ?_
            rotate_left
            · rintro W' ⟨s0, s1, s2, s3, s4⟩; go_simp; try with_reducible rfl
            simp only [Act.put, List.setIfInBounds_toArray, List.set_cons_zero, List.set_cons_succ]
            refine head0 ?_
            simp only [List.drop_succ_cons, List.drop_zero]
            clear hS iX iF
            go_wp2
            all_goals
              first
              | rw [show min (Sx.low x) (Sx.found t) = Sx.found t by omega] at b6 hr6
              | rw [show min (Sx.low x) (Sx.found t) = Sx.low x by omega] at b6 hr6
              | rw [show ((min (Sx.low x) (Sx.found t) : Nat) : Int) = min (Sx.low x : Int) (Sx.found t : Int) by omega] at b6 hr6
              refine NoPanic.normal ?_
              go_wp2
              go_roundg (phi G.length (adjOf G) (stepS (adjOf G) Sx))
              case measure => exact hphi.out
              case rel => exact ⟨stepS (adjOf G) Sx, f6, ov2, _, rfl, hI3.out, hk3.out, hr6.out, b6, by rw [hstep.out]; exact h6⟩
          · rw [if_neg hpt] at hstep
            go_wp2
            go_roundg (phi G.length (adjOf G) (stepS (adjOf G) Sx))
            case measure => exact hphi.out
            case rel => exact ⟨stepS (adjOf G) Sx, f3, ov2, _, rfl, hI3.out, hk3.out, hr3.out, b3, by rw [hstep.out]; exact h3⟩
end Go.Proofs.YtmhiambkfdkkbaaDoor

namespace Go.Proofs.YtmhiambkfdkkbaaDoor

def updM (M : Int → Option Int) (p x : Int) : Int → Option Int := fun q => if q = p then some x else M q
/-- Behind the first k: what has a number, and how many have. -/
def numM (p : Nat → Int) : Nat → (Int → Option Int) × Nat
  | 0 => (fun _ => none, 0)
  | k + 1 => if ((numM p k).1 (p k)).isSome then numM p k else (updM (numM p k).1 (p k) ((numM p k).2 : Int), (numM p k).2 + 1)
/-- The number of the k-th. -/
def numO (p : Nat → Int) (k : Nat) : Int := ((numM p (k + 1)).1 (p k)).getD 0
theorem numM_size (p : Nat → Int) : ∀ k, (numM p k).2 ≤ k
  | 0 => Nat.le_refl _
  | k + 1 => by
    have := numM_size p k
    simp only [numM]; split <;> simp <;> omega
theorem numM_keep (p : Nat → Int) {q x : Int} (k : Nat) (h : (numM p k).1 q = some x) : ∀ d, (numM p (k + d)).1 q = some x
  | 0 => h
  | d + 1 => by
    have ih := numM_keep p k h d
    show (numM p (k + d + 1)).1 q = some x
    simp only [numM]
    split
    · exact ih
    · next hn =>
      show updM _ _ _ q = some x
      unfold updM
      by_cases e : q = p (k + d)
      · subst e; rw [ih] at hn; exact absurd rfl hn
      · rw [if_neg e]; exact ih
theorem numM_own (p : Nat → Int) (k : Nat) : (numM p (k + 1)).1 (p k) = some (numO p k) := by
  unfold numO
  have : ((numM p (k + 1)).1 (p k)).isSome := by
    simp only [numM]
    split
    · next h => exact h
    · simp [updM]
  obtain ⟨x, hx⟩ := Option.isSome_iff_exists.1 this
  rw [hx]; rfl
theorem numM_below (p : Nat → Int) : ∀ k q x, (numM p k).1 q = some x → 0 ≤ x ∧ x < (numM p k).2
  | 0, q, x, h => by cases h
  | k + 1, q, x, h => by
    have ih := numM_below p k q x
    simp only [numM] at h ⊢
    split at h
    · next hs => rw [if_pos hs]; exact ih h
    · next hs =>
      rw [if_neg hs]
      simp only [updM] at h ⊢
      by_cases e : q = p k
      · rw [if_pos e] at h; injection h with h; omega
      · rw [if_neg e] at h; have := ih h; omega
theorem numM_inj (p : Nat → Int) : ∀ k q q' x, (numM p k).1 q = some x → (numM p k).1 q' = some x → q = q'
  | 0, q, q', x, h, _ => by cases h
  | k + 1, q, q', x, h, h' => by
    have ih := numM_inj p k q q' x
    simp only [numM] at h h'
    split at h
    · next hs => rw [if_pos hs] at h'; exact ih h h'
    · next hs =>
      rw [if_neg hs] at h'
      simp only [updM] at h h'
      by_cases e : q = p k <;> by_cases e' : q' = p k
      · rw [e, e']
      · rw [if_pos e] at h; rw [if_neg e'] at h'
        have := numM_below p k q' x h'
        injection h with h; omega
      · rw [if_neg e] at h; rw [if_pos e'] at h'
        have := numM_below p k q x h
        injection h' with h'; omega
      · rw [if_neg e] at h; rw [if_neg e'] at h'; exact ih h h'
/-- One number just where it is one thing. -/
theorem numO_eq (p : Nat → Int) (i j : Nat) : numO p i = numO p j ↔ p i = p j := by
  have key : ∀ i d, (numM p (i + 1 + d)).1 (p i) = some (numO p i) := fun i d => numM_keep p (i + 1) (numM_own p i) d
  have hi := key i j
  have hj := key j i
  rw [show j + 1 + i = i + 1 + j by omega] at hj
  constructor
  · intro h; rw [h] at hi; exact numM_inj p _ _ _ _ hi hj
  · intro h; rw [h] at hi; rw [hi] at hj; injection hj
theorem numO_bound (p : Nat → Int) (k : Nat) : 0 ≤ numO p k ∧ numO p k ≤ k := by
  have h1 := numM_below p (k + 1) _ _ (numM_own p k)
  have h2 := numM_size p (k + 1)
  omega
/-- What the numbers tell: one number just where there are ways both ways. -/
def PartsOf (n : Nat) (adj : Nat → List Nat) (ps : List Int) : Prop :=
  ∃ p : Nat → Int, (∀ x y, x < n → y < n → (p x = p y ↔ Goes adj x y ∧ Goes adj y x)) ∧ ps = (List.range n).map (numO p)
theorem PartsOf.len {n : Nat} {adj : Nat → List Nat} {ps : List Int} (h : PartsOf n adj ps) : ps.length = n := by
  obtain ⟨p, _, rfl⟩ := h; simp
theorem PartsOf.eq {n : Nat} {adj : Nat → List Nat} {ps : List Int} (h : PartsOf n adj ps) {x y : Nat} (hx : x < n) (hy : y < n) : ps.getD x 0 = ps.getD y 0 ↔ Goes adj x y ∧ Goes adj y x := by
  obtain ⟨p, hp, rfl⟩ := h
  simp only [List.getD_eq_getElem?_getD, List.getElem?_map, List.getElem?_range hx, List.getElem?_range hy, Option.map_some, Option.getD_some]
  rw [numO_eq, hp x y hx hy]
end Go.Proofs.YtmhiambkfdkkbaaDoor
