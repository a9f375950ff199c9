/-
  Walk: graph.first: breadth first.
  Walk: graph.Live.
  Walks: edenref03.Bad, edenref04.Power, Digits, Check.
  Walk: edenref12.Check.
  Plain mathematics: how far it is; the first of the shortest ways by going down; the first of the shortest loops.
  Plain mathematics: what stays where again and again vertices are taken away to which, or from which, no arrow leads.
  Walk: edenref12.turned: the arrows the other way round, each as often.
  Walk: edenref12.far: how far it is from a vertex.
  Walk: edenref12.way: the first of the shortest ways, by going down.
  Walks: package additive.
  Walks: edenref18.Fault.
  Plain law of AddParts: a table is a sum just if each window is the sum of two.
  Plain mathematics of AddSums: a product may be turned; the factors of a sum at one symbol alone; factors taken modulo k.
  Plain mathematics: the reference's sums, window by window; what it tells by the factors; its products.
  Walk: edenref18.Sum.
  What the document's answers of layer 12 share: the error's box.
  Plain mathematics: what stands on a loop.
  Plain mathematics: the peeling of a graph, step by step; what it leaves are the live vertices.
  Walk: edenref12.Live.
  Walk: rule.Step at a rule and a word of its symbols.
  Walks: forms.symbol, forms.behind$1.
  Walk: forms.made, with a function that holds two things.
  Walks: forms.behind, forms.check, forms.wrong, forms.Compose.
  Pieces of a slice of ints: s[k:], s[k:l].
  Walks: forms.widened, forms.Widen and the function that they hand to forms.made.
  Plain mathematics: the preimages of a word, begin by begin; the next word; one preimage to each begin where the last place permutes.
  Walks: word.Check, word.Next.
  Walks: rule.Small, package overlap's first functions.
  Walks: overlap.Nodes, overlap.Edge at a small rule.
-/
import Derived.Test.YtmbdmkmomngkkaaGreatDoorMVk4
import Derived.Deep.LoopGhost
import Derived.Deep.DeepCutAuto
import Derived.BigQuiet
import Derived.Deep.RegionHeld3
namespace Go.Proofs.YtmbdmkmomngkkaaGreatDoor
open Go.RowKit
set_option maxRecDepth 100000

/-- Plain numbers as ints. -/
def castI (l : List Nat) : List Int := l.map fun (x : Nat) => (x : Int)
theorem castI_len (l : List Nat) : (castI l).length = l.length := by simp [castI]
theorem castI_snoc (l : List Nat) (x : Nat) : castI (l ++ [x]) = castI l ++ [(x : Int)] := by simp [castI]
theorem castI_get {l : List Nat} {i x : Nat} (h : l[i]? = some x) : (castI l).getD i 0 = (x : Int) := by simp [castI, List.getD, h]
theorem castI_reverse (l : List Nat) : castI l.reverse = (castI l).reverse := by simp [castI]
theorem nodup_len : ∀ (n : Nat) (l : List Nat), l.Nodup → (∀ x ∈ l, x < n) → l.length ≤ n
  | 0, l, _, h => by
    cases l with
    | nil => exact Nat.le_refl _
    | cons a l => have := h a List.mem_cons_self; omega
  | n + 1, l, hn, h => by
    have hsub := nodup_len n (l.erase n) (hn.erase n) (fun x hx => by
      have h1 := h x (List.mem_of_mem_erase hx)
      have h2 : x ≠ n := fun e => by subst e; exact (List.Nodup.not_mem_erase hn) hx
      omega)
    have : l.length ≤ (l.erase n).length + 1 := by
      by_cases hm : n ∈ l
      · have := List.length_erase_of_mem hm; omega
      · rw [List.erase_of_not_mem hm]; omega
    omega
/-- The arrows from the least on, as plain numbers. -/
def srtN (l : List Int) : List Nat := (srt l).map Int.toNat
theorem srt_mem (l : List Int) (x : Int) : x ∈ srt l ↔ x ∈ l := by unfold srt; exact (List.mergeSort_perm l _).mem_iff
theorem srt_sorted (l : List Int) : (srt l).Pairwise (· ≤ ·) := by
  have := List.pairwise_mergeSort (le := fun (x y : Int) => decide (x ≤ y)) (fun a b c h1 h2 => by simp at *; omega) (fun a b => by simp; omega) l
  unfold srt
  exact this.imp (fun h => by simpa using h)
theorem srtN_sorted (l : List Int) (hp : ∀ x ∈ l, 0 ≤ x) : (srtN l).Pairwise (· ≤ ·) := by
  unfold srtN
  rw [List.pairwise_map]
  refine (srt_sorted l).imp_of_mem fun {a b} ha hb h => ?_
  have := hp a ((srt_mem l a).1 ha)
  omega
theorem srtN_mem (l : List Int) (t : Nat) : t ∈ srtN l ↔ t ∈ l.map Int.toNat := by
  unfold srtN
  simp only [List.mem_map, srt_mem]
theorem srtN_len (l : List Int) : (srtN l).length = l.length := by simp [srtN, srt_length]
theorem srtN_get (l : List Int) (hp : ∀ x ∈ l, 0 ≤ x) (j : Nat) (hj : j < l.length) : (srt l).getD j 0 = ((srtN l).getD j 0 : Int) := by
  have hj' : j < (srt l).length := by rw [srt_length]; exact hj
  have h0 := hp _ ((srt_mem l _).1 (List.getElem_mem hj'))
  simp only [srtN, List.getD_eq_getElem?_getD, List.getElem?_map, List.getElem?_eq_getElem hj', Option.map_some, Option.getD_some]
  omega

theorem tabI_neg1 (n : Nat) : tabI n (fun _ => -1) = List.replicate n (-1) := by
  unfold tabI; apply List.ext_getElem <;> simp
theorem rowsE (B : Nat) (w : World) : Rows B w (fun _ => none) := ⟨fun _ _ h => (by cases h), fun _ _ _ _ h => (by cases h)⟩
/-- What first leaves. -/
def FirstPost (w : World) (adj : Nat → List Nat) (a b : Nat) (x : Value) (w' : World) : Prop :=
  (∃ u, IsFirst adj a b u ∧ OwnI w.heap.size w' x (castI u)) ∨ (¬ Goes adj a b ∧ x = .slice none 0 0)
/-- The search's memory. -/
structure FN (f : Names) (cv qv : Value) (n : Nat) (came : Nat → Int) (q : List Nat) : Prop where
  came : f (1, 0) = some (rowI cv (tabI n came))
  queue : f (2, 0) = some (rowI qv (castI q))
section
variable {B : Nat} {w : World} {f : Names} {cv qv : Value} {n : Nat} {came : Nat → Int} {q : List Nat}
theorem FN.congr {f' : Names} (h : FN f cv qv n came q) (e1 : f' (1, 0) = f (1, 0)) (e2 : f' (2, 0) = f (2, 0)) : FN f' cv qv n came q := ⟨e1.trans h.came, e2.trans h.queue⟩
/-- came[t] = v. -/
theorem FN.set (h : FN f cv qv n came q) (hr : Rows B w f) (t : Nat) (ht : t < n) (v : Int) : ∃ f', Rows B (w.setCell (valAt cv t) (.int .i64 v)) f' ∧ FN f' cv qv n (updN came t v) q ∧ ∀ i, i ≠ (1, 0) → f' i = f i := by
  have hs := hr.setI h.came t (by rw [tabI_len]; exact ht) v
  rw [tabI_upd] at hs
  exact ⟨_, hs, ⟨upd_same _ _ _, by rw [upd_ne _ _ (by simp)]; exact h.queue⟩, fun i hi => upd_ne _ _ hi⟩
/-- queue = append(queue, t). -/
theorem FN.push (h : FN f cv qv n came q) (hr : Rows B w f) {w1 : World} {qv' : Value} (t : Nat) (ho : OwnI B w1 qv' (castI q ++ [(t : Int)]))
    (hal : (roomOf qv' = roomOf qv ∧ w.grownBy w1 qv.ownBlock) ∨ (∃ k, qv'.ownBlock = some k ∧ w.heap.size ≤ k ∧ w.grownBy w1 none)) : ∃ f', Rows B w1 f' ∧ FN f' cv qv' n came (q ++ [t]) ∧ ∀ i, i ≠ (2, 0) → f' i = f i := by
  have hO := hr.ownI h.queue
  have hg : w.grownBy w1 qv.ownBlock := grown_via (hal.imp (·.2) (fun ⟨_, _, _, q⟩ => q))
  have hob : qv'.ownBlock = qv.ownBlock ∨ ∃ k, qv'.ownBlock = some k ∧ w.heap.size ≤ k := by
    rcases hal with ⟨q, _⟩ | ⟨k, h1, h2, _⟩
    · obtain ⟨a1, n1, c1, e1⟩ := hO.at.shape
      obtain ⟨a2, n2, c2, e2⟩ := ho.at.shape
      exact .inl (ownBlock_of_room e1 e2 q)
    · exact .inr ⟨k, h1, h2⟩
  exact ⟨_, hr.grown (r' := rowI qv' (castI q ++ [(t : Int)])) h.queue hg ho hob, ⟨by rw [upd_ne _ _ (by simp)]; exact h.came, by rw [upd_same, castI_snoc]⟩, fun i hi => upd_ne _ _ hi⟩
end

set_option maxHeartbeats 4000000 in
theorem first_any (na : Option Addr) (nc : Nat) (G : List (List Int)) (a b : Nat) (w : World) (h : ListsAt w (.slice na G.length nc) G) (hok : GraphOk G) (hn : G.length ≤ 8200) (ha : a < G.length) (hb : b < G.length) (hsz : ∀ k, k < G.length → (G.getD k []).length ≤ 17592186044416) :
    Calls Tryz.prog 209 #[.slice na G.length nc, .int .i64 a, .int .i64 b] w (Ret1 (FirstPost w (adjOf G) a b) w) := by
  have b0 := belowAlloc w (.cells #[.int .i64 (-1)] 3)
  have hI := (OwnI.lit w.heap.size w (Nat.le_refl _) [-1] (by simp [maxLen]) #[.int .i64 (-1)] rfl 1 rfl).at
  have hRep := repeat_any _ (-1) G.length _ hI (by omega)
  have hinit := BBase.init (adjOf G) a
  replace hI := Lib.hid hI
  replace h := Lib.hid h
  replace hok := Lib.hid hok
  replace hsz := Lib.hid hsz
  replace hinit := Lib.hid hinit
  replace hRep := Lib.hid hRep
  go_enter Tryz.func209, Tryz.ntmps209
  go_wp2_with fail
  refine hRep.out.mono ?_
  rintro e w1 ⟨cv, rfl, b1, hcv⟩
  obtain ⟨w0, hw0⟩ : ∃ w0 : World, w0 = w.alloc (.cells #[.int .i64 (-1)] 3) := ⟨_, rfl⟩
  rw [← hw0] at b0 b1 hcv
  rw [← tabI_neg1] at hcv
  clear hRep hI hw0
  have b01 := Below.step b0 b1
  have R1 := (rowsE w.heap.size w0).add (i := (1, 0)) (r' := rowI cv (tabI G.length fun _ => -1)) b1 (hcv.mono b0.size) (fun k hk => (hcv.lt k hk).1)
  have iA := fun w' => hcv.at.idx a (by rw [tabI_len]; exact ha) w'
  have cA := hcv.at.cellD a (by rw [tabI_len]; exact ha)
  have fA := hcv.frz a (by rw [tabI_len]; exact ha)
  have kA := (hcv.toV.blkB a (by rw [List.length_map, tabI_len]; exact ha)).2
  have R2 := R1.setI (upd_same _ _ _) a (by rw [tabI_len]; exact ha) (a : Int)
  rw [tabI_upd] at R2
  have b2 : Below w.heap.size w (w1.setCell (valAt cv a) (.int .i64 (a : Int))) := b01.setCell (Nat.le_trans b0.size kA) _
  generalize valAt cv a = ca at *
  generalize (tabI G.length fun _ => -1).getD a 0 = oa at cA
  obtain ⟨W2, hW2⟩ : ∃ W2 : World, W2 = w1.setCell ca (.int .i64 (a : Int)) := ⟨_, rfl⟩
  rw [← hW2] at R2 b2
  replace R2 := Lib.hid R2
  replace R1 := Lib.hid R1
  replace hcv := Lib.hid hcv
  go_upto_region 3 with fail
  rw [← hW2]
  clear hW2 iA cA fA
  have hB2 := b2.size
  have hal2 := belowAlloc W2 (.cells #[.int .i64 (a : Int)] 3)
  have hq2 := OwnI.lit W2.heap.size W2 (Nat.le_refl _) [(a : Int)] (by simp [maxLen]) #[.int .i64 (a : Int)] rfl 1 rfl
  have R3 := R2.out.add (i := (2, 0)) (r' := rowI (.slice (some ⟨W2.heap.size, 0, none⟩) 1 1) [(a : Int)]) hal2 (hq2.mono hB2) (fun k hk => (hq2.lt k hk).1)
  have b3 := b2.trans (hal2.mono hB2)
  obtain ⟨W3, hW3⟩ : ∃ W3 : World, W3 = W2.alloc (.cells #[.int .i64 (a : Int)] 3) := ⟨_, rfl⟩
  rw [← hW3] at R3 b3
  obtain ⟨q2, hq2e⟩ : ∃ q2, q2 = W2.heap.size := ⟨_, rfl⟩
  rw [← hq2e] at R3
  have hF0 : FN (upd (upd (upd (fun _ => none) (1, 0) (some (rowI cv (tabI G.length fun _ => -1)))) (1, 0) (some (rowI cv (tabI G.length (updN (fun _ => (-1 : Int)) a (a : Int)))))) (2, 0) (some (rowI (.slice (some ⟨q2, 0, none⟩) 1 1) [(a : Int)]))) cv (.slice (some ⟨q2, 0, none⟩) 1 1) G.length (updN (fun _ => (-1 : Int)) a (a : Int)) [a] :=
    ⟨by rw [upd_ne _ _ (by simp), upd_same], by rw [upd_same]; rfl⟩
  replace R3 := Lib.hid R3
  replace hq2 := Lib.hid hq2
  go_wp2_with fail
  rw [← hW3, ← hq2e]
  clear hW3 hq2e R2 R1 hal2 hq2
  go_loopw [8, 9] (fun qv iv wr => ∃ (i : Nat) (came : Nat → Int) (q : List Nat) (par dist : Nat → Nat) (f' : Names) (qw : Value), qw = qv ∧ iv = .int .i64 i ∧ i ≤ q.length ∧ Rows w.heap.size wr f' ∧ Below w.heap.size w wr ∧ FN f' cv qw G.length came q ∧ BOut (adjOf G) a came q par dist i ∧ ∀ x ∈ q, x < G.length) (fun _ iv _ => G.length + 1 - (intOf iv).toNat)
  case atStart => exact ⟨0, _, [a], _, _, _, _, rfl, rfl, by omega, R3.out, b3, hF0, hinit.out, fun x hx => by cases List.mem_singleton.1 hx; exact ha⟩
  case round =>
    obtain ⟨i, came, q, par, dist, f1, qv, rfl, rfl, hi, hr1, b1', h1, hO, hqn⟩ := hrel
    obtain ⟨wo, rfl⟩ : ∃ wo : World, wo = wr := ⟨_, rfl⟩
    have hql := nodup_len G.length q hO.nodup hqn
    have hOQ := hr1.ownI h1.queue
    have lQ := hOQ.at.len
    rw [castI_len] at lQ
    have hOC := hr1.ownI h1.came
    have iB := fun w' => hOC.at.idx b (by rw [tabI_len]; exact hb) w'
    have cB := hOC.at.cellD b (by rw [tabI_len]; exact hb)
    rw [tabI_get _ _ _ hb] at cB
    generalize valAt cv b = pb at *
    obtain ⟨cb, hcb⟩ : ∃ cb, came b = cb := ⟨_, rfl⟩
    rw [hcb] at cB
    by_cases hil : i < q.length
    · by_cases hneg : cb < 0
      · obtain ⟨v, hv⟩ : ∃ v, q[i]? = some v := ⟨_, List.getElem?_eq_getElem hil⟩
        have hvn := hqn v (List.mem_of_getElem? hv)
        have iV := fun w' => hOQ.at.idx i (by rw [castI_len]; exact hil) w'
        have cV := hOQ.at.cellD i (by rw [castI_len]; exact hil)
        rw [castI_get hv] at cV
        obtain ⟨mv, iR, cR, hM⟩ := (h.out.below (b1' : Below w.heap.size w wo)).row v hvn
        have hgx := hsz.out v hvn
        have hgp : ∀ x ∈ G.getD v [], 0 ≤ x ∧ x < G.length := hok.out v hvn
        have hadj : adjOf G v = (G.getD v []).map Int.toNat := rfl
        generalize G.getD v [] = gx at *
        obtain ⟨ma, mn, mc, rfl⟩ := hM.shape
        generalize valAt qv i = qa at *
        generalize valAt (.slice na G.length nc) v = ra at *
        replace hcb := Lib.hid hcb
        replace hr1 := Lib.hid hr1
        replace hOQ := Lib.hid hOQ
        replace hOC := Lib.hid hOC
        replace hM := Lib.hid hM
        replace hO := Lib.hid hO
        replace hqn := Lib.hid hqn
        replace hgp := Lib.hid hgp
        replace hadj := Lib.hid hadj
        replace hv := Lib.hid hv
        go_wp2_with fail
        refine (vals_any ma mn mc _).mono ?_
        rintro e w2 ⟨rfl, rfl⟩
        have hbv := belowAlloc wo (.cells #[.slice ma mn mc] 22)
        clear iB cB iV cV iR cR
        go_wp2_with fail
        refine (sorted_any wo.heap.size (.slice ma mn mc) gx hgx _ (by simp) (by simp) (hM.out.below hbv)).mono ?_
        rintro e w3 ⟨lv, rfl, b3', hL⟩
        have b4 : Below wo.heap.size wo w3 := hbv.trans (b3'.mono hbv.size)
        have hBo : w.heap.size ≤ wo.heap.size := b1'.size
        have R4 := hr1.out.add (i := (3, 0)) (r' := rowI lv (srt gx)) b4 (hL.mono (Nat.le_trans hBo hbv.size)) (fun k hk => Nat.le_trans hbv.size (hL.lt k hk).1)
        have h4 : FN (upd f1 (3, 0) (some (rowI lv (srt gx)))) cv qv G.length came q := h1.congr (upd_ne _ _ (by simp)) (upd_ne _ _ (by simp))
        have e4 : upd f1 (3, 0) (some (rowI lv (srt gx))) (3, 0) = some (rowI lv (srt gx)) := upd_same _ _ _
        have b5 := b1'.trans (b4.mono hBo)
        have hIn := hO.out.enter hv.out (l := (srtN gx).drop 0) (fun t => by rw [List.drop_zero, hadj.out]; exact srtN_mem gx t) (by rw [List.drop_zero]; exact srtN_sorted gx fun x hx => (hgp.out x hx).1)
        have lL := hL.at.len
        have hsl : (srt gx).length = gx.length := srt_length gx
        generalize upd f1 (3, 0) (some (rowI lv (srt gx))) = f4 at *
        replace R4 := Lib.hid R4
        replace hIn := Lib.hid hIn
        replace hL := Lib.hid hL
        replace e4 := Lib.hid e4
        go_wp2_with fail
        clear lL lQ
        go_loopw [8, 49] (fun qv jv wr => ∃ (j : Nat) (came : Nat → Int) (q : List Nat) (par dist : Nat → Nat) (f' : Names) (qw : Value), qw = qv ∧ jv = .int .i64 j ∧ j ≤ gx.length ∧ Rows w.heap.size wr f' ∧ Below w.heap.size w wr ∧ FN f' cv qw G.length came q ∧ f' (3, 0) = some (rowI lv (srt gx)) ∧ BIn (adjOf G) a came q par dist i v ((srtN gx).drop j) ∧ ∀ x ∈ q, x < G.length) (fun _ jv _ => gx.length - (intOf jv).toNat)
        case atStart => exact ⟨0, came, q, par, dist, f4, qv, rfl, rfl, by omega, R4.out, b5, h4, e4.out, hIn.out, hqn.out⟩
        case round =>
          clear hIn R4 e4 h4 b5 h1 hi hil hO hqn hv hOQ hOC hneg hcb
          obtain ⟨j, came, q, par, dist, f4, qv, rfl, rfl, hj, hr4, b5, h4, e4, hIn, hqn⟩ := hrel
          obtain ⟨wo, rfl⟩ : ∃ wo : World, wo = wr := ⟨_, rfl⟩
          have hOL := hr4.ownI e4
          have lL := hOL.at.len
          rw [hsl] at lL
          by_cases hjl : j < gx.length
          · have hjs : j < (srtN gx).length := by rw [srtN_len]; exact hjl
            obtain ⟨t, ht⟩ : ∃ t, (srtN gx)[j]? = some t := ⟨_, List.getElem?_eq_getElem hjs⟩
            have htd : (srtN gx).getD j 0 = t := by simp [List.getD, ht]
            have hdr : (srtN gx).drop j = t :: (srtN gx).drop (j + 1) := by
              rw [List.drop_eq_getElem_cons hjs]
              rw [List.getElem?_eq_getElem hjs] at ht
              injection ht with ht
              rw [ht]
            have htn : t < G.length := by
              have hm := (srtN_mem gx t).1 (List.mem_of_getElem? ht)
              obtain ⟨x, hx, rfl⟩ := List.mem_map.1 hm
              have := hgp.out x hx
              omega
            have iT := fun w' => hOL.at.idx j (by rw [hsl]; exact hjl) w'
            have cT := hOL.at.cellD j (by rw [hsl]; exact hjl)
            rw [srtN_get gx (fun x hx => (hgp.out x hx).1) j hjl, htd] at cT
            rw [hdr] at hIn
            have hOC := hr4.ownI h4.came
            have iC := fun w' => hOC.at.idx t (by rw [tabI_len]; exact htn) w'
            have cC := hOC.at.cellD t (by rw [tabI_len]; exact htn)
            rw [tabI_get _ _ _ htn] at cC
            have fC := hOC.frz t (by rw [tabI_len]; exact htn)
            have kC := (hOC.toV.blkB t (by rw [List.length_map, tabI_len]; exact htn)).2
            obtain ⟨f5, hr5, h5, k5⟩ := h4.set hr4 t htn (v : Int)
            have e5 : f5 (3, 0) = some (rowI lv (srt gx)) := (k5 _ (by simp)).trans e4
            have b6 : Below w.heap.size w (wo.setCell (valAt cv t) (.int .i64 (v : Int))) := b5.setCell kC _
            generalize valAt lv j = la at *
            generalize valAt cv t = ta at *
            obtain ⟨ct, hct⟩ : ∃ ct, came t = ct := ⟨_, rfl⟩
            rw [hct] at cC
            by_cases htc : ct < 0
            · have hadd := hIn.add (by rw [hct]; exact htc)
              have hqn2 : ∀ x ∈ q ++ [t], x < G.length := fun x hx => by
                rcases List.mem_append.1 hx with hx | hx
                · exact hqn x hx
                · cases List.mem_singleton.1 hx; exact htn
              have hql2 := nodup_len G.length q hIn.base.nodup hqn
              replace hadd := Lib.hid hadd
              replace hqn2 := Lib.hid hqn2
              replace hIn := Lib.hid hIn
              replace hqn := Lib.hid hqn
              replace hr4 := Lib.hid hr4
              replace hr5 := Lib.hid hr5
              replace hOC := Lib.hid hOC
              replace hOL := Lib.hid hOL
              replace hct := Lib.hid hct
              replace hdr := Lib.hid hdr
              replace htd := Lib.hid htd
              replace ht := Lib.hid ht
              replace k5 := Lib.hid k5
              replace e4 := Lib.hid e4
              replace e5 := Lib.hid e5
              go_upto_region 13 with fail
              obtain ⟨W5, hW5⟩ : ∃ W5 : World, W5 = wo.setCell ta (.int .i64 (v : Int)) := ⟨_, rfl⟩
              rw [← hW5]
              rw [← hW5] at hr5 b6
              clear hW5 iT cT iC cC fC lL
              have hOQ5 := hr5.out.ownI h5.queue
              have hB5 : w.heap.size ≤ W5.heap.size := b6.size
              go_wp2_with (at_builtin; refine wpl_app1 rfl _ _ rfl w.heap.size qv (castI q) t hOQ5 rfl rfl (by rw [castI_len]; omega) hB5 ?_)
              intro qv' w7 ho7 b7 hal7
              obtain ⟨f7, hr7, h7, k7⟩ := h5.push hr5.out t ho7 hal7
              replace hr7 := Lib.hid hr7
              replace ho7 := Lib.hid ho7
              replace k7 := Lib.hid k7
              clear hal7
              go_wp2
              go_roundw
              case measure => simp [intOf]; omega
              case rel => exact ⟨j + 1, _, _, _, _, f7, qv', rfl, by go_num, by omega, hr7.out, b6.trans b7, h7, (k7.out _ (by simp)).trans e5.out, hadd.out, hqn2.out⟩
            · have hold := hIn.old (by rw [hct]; omega)
              replace hold := Lib.hid hold
              replace hIn := Lib.hid hIn
              replace hqn := Lib.hid hqn
              replace hr4 := Lib.hid hr4
              replace hr5 := Lib.hid hr5
              replace hOC := Lib.hid hOC
              replace hOL := Lib.hid hOL
              replace hct := Lib.hid hct
              replace hdr := Lib.hid hdr
              replace htd := Lib.hid htd
              replace ht := Lib.hid ht
              replace k5 := Lib.hid k5
              replace e4 := Lib.hid e4
              replace e5 := Lib.hid e5
              go_wp2
              go_roundw
              case measure => simp [intOf]; omega
              case rel => exact ⟨j + 1, came, q, par, dist, f4, qv, rfl, by go_num, by omega, hr4.out, b5, h4, e4.out, hold.out, hqn.out⟩
          · obtain rfl : j = gx.length := by omega
            rw [List.drop_eq_nil_of_le (by rw [srtN_len]; exact Nat.le_refl _)] at hIn
            have hOut := hIn.leave
            have hil := get_of hIn.cur
            have hql2 := nodup_len G.length q hIn.base.nodup hqn
            replace hOut := Lib.hid hOut
            replace hIn := Lib.hid hIn
            replace hqn := Lib.hid hqn
            replace hr4 := Lib.hid hr4
            replace hOL := Lib.hid hOL
            replace e4 := Lib.hid e4
            go_wp2
            go_roundw
            case measure => simp [intOf]; omega
            case rel => exact ⟨i + 1, came, q, par, dist, f4, qv, rfl, by go_num, by omega, hr4.out, b5, h4, hOut.out, hqn.out⟩
      · have hcb0 : ¬ came b < 0 := by rw [hcb]; exact hneg
        have hbq := (hO.cameIff b).1 (by omega)
        obtain ⟨k0, hk0⟩ := List.mem_iff_getElem?.1 hbq
        have hlit := OwnI.lit wo.heap.size wo (Nat.le_refl _) [(b : Int)] (by simp [maxLen]) #[.int .i64 (b : Int)] rfl 1 rfl
        have halw := belowAlloc wo (.cells #[.int .i64 (b : Int)] 3)
        have hBo : w.heap.size ≤ wo.heap.size := b1'.size
        have R8 := hr1.add (i := (4, 0)) (r' := rowI (.slice (some ⟨wo.heap.size, 0, none⟩) 1 1) (castI [b].reverse)) halw (hlit.mono hBo) (fun k hk => (hlit.lt k hk).1)
        have b8 := b1'.trans (halw.mono hBo)
        have hcame8 : (upd f1 (4, 0) (some (rowI (.slice (some ⟨wo.heap.size, 0, none⟩) 1 1) (castI [b].reverse)))) (1, 0) = some (rowI cv (tabI G.length came)) := (upd_ne _ _ (by simp)).trans h1.came
        have hway8 := upd_same f1 (4, 0) (some (rowI (.slice (some ⟨wo.heap.size, 0, none⟩) 1 1) (castI [b].reverse)))
        generalize upd f1 (4, 0) (some (rowI (.slice (some ⟨wo.heap.size, 0, none⟩) 1 1) (castI [b].reverse))) = f8 at *
        obtain ⟨W8, hW8⟩ : ∃ W8 : World, W8 = wo.alloc (.cells #[.int .i64 (b : Int)] 3) := ⟨_, rfl⟩
        obtain ⟨s8, hs8⟩ : ∃ s8, s8 = wo.heap.size := ⟨_, rfl⟩
        rw [← hW8] at R8 b8
        rw [← hs8] at hway8
        have htree : Tree came q (adjOf G) b b [b] := .one b hbq
        replace hcb := Lib.hid hcb
        replace hr1 := Lib.hid hr1
        replace hOQ := Lib.hid hOQ
        replace hOC := Lib.hid hOC
        replace hO := Lib.hid hO
        replace hqn := Lib.hid hqn
        replace hlit := Lib.hid hlit
        replace R8 := Lib.hid R8
        replace hk0 := Lib.hid hk0
        replace hcame8 := Lib.hid hcame8
        replace hway8 := Lib.hid hway8
        replace htree := Lib.hid htree
        clear halw
        go_wp2_with fail
        rw [← hW8, ← hs8]
        clear hW8 hs8 iB cB lQ
        go_loopg [13, 14] k0 (fun k wv vv wr => ∃ (x : Nat) (u : List Nat) (f' : Names) (ww : Value), ww = wv ∧ vv = .int .i64 x ∧ q[k]? = some x ∧ Tree came q (adjOf G) x b u ∧ Rows w.heap.size wr f' ∧ Below w.heap.size w wr ∧ f' (1, 0) = some (rowI cv (tabI G.length came)) ∧ f' (4, 0) = some (rowI ww (castI u.reverse)) ∧ u.length ≤ G.length + 1 - k)
        case atStart => exact ⟨b, [b], f8, _, rfl, rfl, hk0.out, htree.out, R8.out, b8, hcame8.out, hway8.out, by have := get_of hk0.out; simp only [List.length_cons, List.length_nil]; omega⟩
        case round =>
          clear R8 b8 hcame8 hway8 htree hk0
          obtain ⟨x, u, f9, wv, rfl, rfl, hk, hT, hr9, b9, hc9, hw9, hul⟩ := hrel
          obtain ⟨wo, rfl⟩ : ∃ wo : World, wo = wr := ⟨_, rfl⟩
          obtain ⟨k, rfl⟩ : ∃ k : Nat, k = gk := ⟨_, rfl⟩
          have hxn := hqn.out x (List.mem_of_getElem? hk)
          have hkl := get_of hk
          by_cases hxa : x = a
          · subst hxa
            have hfirst := hO.out.first hT
            have hOW := hr9.ownI hw9
            have hrev := reverse_own w.heap.size wv (castI u.reverse) wo hOW (by rw [castI_len, List.length_reverse]; omega)
            have hrr : (castI u.reverse).reverse = castI u := by rw [castI_reverse, List.reverse_reverse]
            rw [hrr] at hrev
            replace hrev := Lib.hid hrev
            replace hfirst := Lib.hid hfirst
            replace hT := Lib.hid hT
            replace hr9 := Lib.hid hr9
            replace hOW := Lib.hid hOW
            replace hc9 := Lib.hid hc9
            replace hw9 := Lib.hid hw9
            replace hk := Lib.hid hk
            replace hrr := Lib.hid hrr
            go_wp2_with fail
            refine hrev.out.mono ?_
            rintro e w10 ⟨rfl, ho10, b10⟩
            replace ho10 := Lib.hid ho10
            go_wp2
            go_ret
            exact ⟨_, rfl, b9.trans b10, .inl ⟨u, hfirst.out, ho10.out⟩⟩
          · have hk1 : 0 < k := by
              by_cases e : 0 < k
              · exact e
              · obtain rfl : k = 0 := by omega
                have := hO.out.hd
                rw [hk] at this
                injection this with this
                exact absurd this hxa
            obtain ⟨p1, p2, p, p3, p4, p5, p6⟩ := hO.out.parLt k x hk1 hk
            have hT2 := Tree.cons _ _ p3 hk hk1 p4 hT
            have hpn := hqn.out p (List.mem_of_getElem? p3)
            have hne : ((x : Int) != (a : Int)) = true := by rw [bne_iff_ne]; omega
            have hOC9 := hr9.ownI hc9
            have iX := fun w' => hOC9.at.idx x (by rw [tabI_len]; exact hxn) w'
            have cX := hOC9.at.cellD x (by rw [tabI_len]; exact hxn)
            rw [tabI_get _ _ _ hxn, p4] at cX
            have hOW := hr9.ownI hw9
            have hB9 : w.heap.size ≤ wo.heap.size := b9.size
            have hlu : (castI u.reverse).length < 4398046511104 := by rw [castI_len, List.length_reverse]; omega
            have hgrow := fun (w' : World) (wv' : Value) (ho : OwnI w.heap.size w' wv' (castI u.reverse ++ [(p : Int)])) (hal : (roomOf wv' = roomOf wv ∧ wo.grownBy w' wv.ownBlock) ∨ (∃ k, wv'.ownBlock = some k ∧ wo.heap.size ≤ k ∧ wo.grownBy w' none)) => show ∃ f', Rows w.heap.size w' f' ∧ f' (1, 0) = some (rowI cv (tabI G.length came)) ∧ f' (4, 0) = some (rowI wv' (castI (p :: u).reverse)) from by
              have hg : wo.grownBy w' wv.ownBlock := grown_via (hal.imp (·.2) (fun ⟨_, _, _, q⟩ => q))
              have hob : wv'.ownBlock = wv.ownBlock ∨ ∃ k, wv'.ownBlock = some k ∧ wo.heap.size ≤ k := by
                rcases hal with ⟨q, _⟩ | ⟨k, h1, h2, _⟩
                · obtain ⟨a1, n1, c1, e1⟩ := hOW.at.shape
                  obtain ⟨a2, n2, c2, e2⟩ := ho.at.shape
                  exact .inl (ownBlock_of_room e1 e2 q)
                · exact .inr ⟨k, h1, h2⟩
              exact ⟨_, hr9.grown (r' := rowI wv' (castI u.reverse ++ [(p : Int)])) hw9 hg ho hob, by rw [upd_ne _ _ (by simp)]; exact hc9, by rw [upd_same, List.reverse_cons, castI_snoc]⟩
            generalize valAt cv x = xa at *
            replace hgrow := Lib.hid hgrow
            replace hT := Lib.hid hT
            replace hT2 := Lib.hid hT2
            replace hr9 := Lib.hid hr9
            replace hOC9 := Lib.hid hOC9
            replace hc9 := Lib.hid hc9
            replace hw9 := Lib.hid hw9
            replace hk := Lib.hid hk
            replace p3 := Lib.hid p3
            replace p4 := Lib.hid p4
            replace p6 := Lib.hid p6
            go_wp2_with (at_builtin; refine wpl_app1 rfl _ _ rfl w.heap.size wv (castI u.reverse) p hOW rfl rfl hlu hB9 ?_)
            intro wv' w11 ho11 b11 hal11
            obtain ⟨f11, hr11, hc11, hw11⟩ := hgrow.out w11 wv' ho11 hal11
            replace ho11 := Lib.hid ho11
            replace hr11 := Lib.hid hr11
            replace hc11 := Lib.hid hc11
            replace hw11 := Lib.hid hw11
            clear hal11
            go_wp2
            go_roundg (par k)
            case measure => exact p2
            case rel => exact ⟨p, p :: u, f11, wv', rfl, rfl, p3.out, hT2.out, hr11.out, b9.trans b11, hc11.out, hw11.out, by simp only [List.length_cons]; omega⟩
    · by_cases hneg : cb < 0
      · have hnone := hO.none (by omega) (by rw [hcb]; exact hneg)
        replace hnone := Lib.hid hnone
        replace hcb := Lib.hid hcb
        replace hr1 := Lib.hid hr1
        replace hOQ := Lib.hid hOQ
        replace hOC := Lib.hid hOC
        replace hO := Lib.hid hO
        replace hqn := Lib.hid hqn
        go_wp2
        go_ret
        exact ⟨_, rfl, b1', .inr ⟨hnone.out, rfl⟩⟩
      · have hcb0 : ¬ came b < 0 := by rw [hcb]; exact hneg
        have hbq := (hO.cameIff b).1 (by omega)
        obtain ⟨k0, hk0⟩ := List.mem_iff_getElem?.1 hbq
        have hlit := OwnI.lit wo.heap.size wo (Nat.le_refl _) [(b : Int)] (by simp [maxLen]) #[.int .i64 (b : Int)] rfl 1 rfl
        have halw := belowAlloc wo (.cells #[.int .i64 (b : Int)] 3)
        have hBo : w.heap.size ≤ wo.heap.size := b1'.size
        have R8 := hr1.add (i := (4, 0)) (r' := rowI (.slice (some ⟨wo.heap.size, 0, none⟩) 1 1) (castI [b].reverse)) halw (hlit.mono hBo) (fun k hk => (hlit.lt k hk).1)
        have b8 := b1'.trans (halw.mono hBo)
        have hcame8 : (upd f1 (4, 0) (some (rowI (.slice (some ⟨wo.heap.size, 0, none⟩) 1 1) (castI [b].reverse)))) (1, 0) = some (rowI cv (tabI G.length came)) := (upd_ne _ _ (by simp)).trans h1.came
        have hway8 := upd_same f1 (4, 0) (some (rowI (.slice (some ⟨wo.heap.size, 0, none⟩) 1 1) (castI [b].reverse)))
        generalize upd f1 (4, 0) (some (rowI (.slice (some ⟨wo.heap.size, 0, none⟩) 1 1) (castI [b].reverse))) = f8 at *
        obtain ⟨W8, hW8⟩ : ∃ W8 : World, W8 = wo.alloc (.cells #[.int .i64 (b : Int)] 3) := ⟨_, rfl⟩
        obtain ⟨s8, hs8⟩ : ∃ s8, s8 = wo.heap.size := ⟨_, rfl⟩
        rw [← hW8] at R8 b8
        rw [← hs8] at hway8
        have htree : Tree came q (adjOf G) b b [b] := .one b hbq
        replace hcb := Lib.hid hcb
        replace hr1 := Lib.hid hr1
        replace hOQ := Lib.hid hOQ
        replace hOC := Lib.hid hOC
        replace hO := Lib.hid hO
        replace hqn := Lib.hid hqn
        replace hlit := Lib.hid hlit
        replace R8 := Lib.hid R8
        replace hk0 := Lib.hid hk0
        replace hcame8 := Lib.hid hcame8
        replace hway8 := Lib.hid hway8
        replace htree := Lib.hid htree
        clear halw
        go_wp2_with fail
        rw [← hW8, ← hs8]
        clear hW8 hs8 iB cB lQ
        go_loopg [13, 14] k0 (fun k wv vv wr => ∃ (x : Nat) (u : List Nat) (f' : Names) (ww : Value), ww = wv ∧ vv = .int .i64 x ∧ q[k]? = some x ∧ Tree came q (adjOf G) x b u ∧ Rows w.heap.size wr f' ∧ Below w.heap.size w wr ∧ f' (1, 0) = some (rowI cv (tabI G.length came)) ∧ f' (4, 0) = some (rowI ww (castI u.reverse)) ∧ u.length ≤ G.length + 1 - k)
        case atStart => exact ⟨b, [b], f8, _, rfl, rfl, hk0.out, htree.out, R8.out, b8, hcame8.out, hway8.out, by have := get_of hk0.out; simp only [List.length_cons, List.length_nil]; omega⟩
        case round =>
          clear R8 b8 hcame8 hway8 htree hk0
          obtain ⟨x, u, f9, wv, rfl, rfl, hk, hT, hr9, b9, hc9, hw9, hul⟩ := hrel
          obtain ⟨wo, rfl⟩ : ∃ wo : World, wo = wr := ⟨_, rfl⟩
          obtain ⟨k, rfl⟩ : ∃ k : Nat, k = gk := ⟨_, rfl⟩
          have hxn := hqn.out x (List.mem_of_getElem? hk)
          have hkl := get_of hk
          by_cases hxa : x = a
          · subst hxa
            have hfirst := hO.out.first hT
            have hOW := hr9.ownI hw9
            have hrev := reverse_own w.heap.size wv (castI u.reverse) wo hOW (by rw [castI_len, List.length_reverse]; omega)
            have hrr : (castI u.reverse).reverse = castI u := by rw [castI_reverse, List.reverse_reverse]
            rw [hrr] at hrev
            replace hrev := Lib.hid hrev
            replace hfirst := Lib.hid hfirst
            replace hT := Lib.hid hT
            replace hr9 := Lib.hid hr9
            replace hOW := Lib.hid hOW
            replace hc9 := Lib.hid hc9
            replace hw9 := Lib.hid hw9
            replace hk := Lib.hid hk
            replace hrr := Lib.hid hrr
            go_wp2_with fail
            refine hrev.out.mono ?_
            rintro e w10 ⟨rfl, ho10, b10⟩
            replace ho10 := Lib.hid ho10
            go_wp2
            go_ret
            exact ⟨_, rfl, b9.trans b10, .inl ⟨u, hfirst.out, ho10.out⟩⟩
          · have hk1 : 0 < k := by
              by_cases e : 0 < k
              · exact e
              · obtain rfl : k = 0 := by omega
                have := hO.out.hd
                rw [hk] at this
                injection this with this
                exact absurd this hxa
            obtain ⟨p1, p2, p, p3, p4, p5, p6⟩ := hO.out.parLt k x hk1 hk
            have hT2 := Tree.cons _ _ p3 hk hk1 p4 hT
            have hpn := hqn.out p (List.mem_of_getElem? p3)
            have hne : ((x : Int) != (a : Int)) = true := by rw [bne_iff_ne]; omega
            have hOC9 := hr9.ownI hc9
            have iX := fun w' => hOC9.at.idx x (by rw [tabI_len]; exact hxn) w'
            have cX := hOC9.at.cellD x (by rw [tabI_len]; exact hxn)
            rw [tabI_get _ _ _ hxn, p4] at cX
            have hOW := hr9.ownI hw9
            have hB9 : w.heap.size ≤ wo.heap.size := b9.size
            have hlu : (castI u.reverse).length < 4398046511104 := by rw [castI_len, List.length_reverse]; omega
            have hgrow := fun (w' : World) (wv' : Value) (ho : OwnI w.heap.size w' wv' (castI u.reverse ++ [(p : Int)])) (hal : (roomOf wv' = roomOf wv ∧ wo.grownBy w' wv.ownBlock) ∨ (∃ k, wv'.ownBlock = some k ∧ wo.heap.size ≤ k ∧ wo.grownBy w' none)) => show ∃ f', Rows w.heap.size w' f' ∧ f' (1, 0) = some (rowI cv (tabI G.length came)) ∧ f' (4, 0) = some (rowI wv' (castI (p :: u).reverse)) from by
              have hg : wo.grownBy w' wv.ownBlock := grown_via (hal.imp (·.2) (fun ⟨_, _, _, q⟩ => q))
              have hob : wv'.ownBlock = wv.ownBlock ∨ ∃ k, wv'.ownBlock = some k ∧ wo.heap.size ≤ k := by
                rcases hal with ⟨q, _⟩ | ⟨k, h1, h2, _⟩
                · obtain ⟨a1, n1, c1, e1⟩ := hOW.at.shape
                  obtain ⟨a2, n2, c2, e2⟩ := ho.at.shape
                  exact .inl (ownBlock_of_room e1 e2 q)
                · exact .inr ⟨k, h1, h2⟩
              exact ⟨_, hr9.grown (r' := rowI wv' (castI u.reverse ++ [(p : Int)])) hw9 hg ho hob, by rw [upd_ne _ _ (by simp)]; exact hc9, by rw [upd_same, List.reverse_cons, castI_snoc]⟩
            generalize valAt cv x = xa at *
            replace hgrow := Lib.hid hgrow
            replace hT := Lib.hid hT
            replace hT2 := Lib.hid hT2
            replace hr9 := Lib.hid hr9
            replace hOC9 := Lib.hid hOC9
            replace hc9 := Lib.hid hc9
            replace hw9 := Lib.hid hw9
            replace hk := Lib.hid hk
            replace p3 := Lib.hid p3
            replace p4 := Lib.hid p4
            replace p6 := Lib.hid p6
            go_wp2_with (at_builtin; refine wpl_app1 rfl _ _ rfl w.heap.size wv (castI u.reverse) p hOW rfl rfl hlu hB9 ?_)
            intro wv' w11 ho11 b11 hal11
            obtain ⟨f11, hr11, hc11, hw11⟩ := hgrow.out w11 wv' ho11 hal11
            replace ho11 := Lib.hid ho11
            replace hr11 := Lib.hid hr11
            replace hc11 := Lib.hid hc11
            replace hw11 := Lib.hid hw11
            clear hal11
            go_wp2
            go_roundg (par k)
            case measure => exact p2
            case rel => exact ⟨p, p :: u, f11, wv', rfl, rfl, p3.out, hT2.out, hr11.out, b9.trans b11, hc11.out, hw11.out, by simp only [List.length_cons]; omega⟩
end Go.Proofs.YtmbdmkmomngkkaaGreatDoor

namespace Go.Proofs.YtmbdmkmomngkkaaGreatDoor
open Go.RowKit
set_option maxRecDepth 100000

/-- u stands on a loop. -/
def OnLoop (adj : Nat → List Nat) (u : Nat) : Prop := ∃ t ∈ adj u, Goes adj t u
/-- v stands between two loops. -/
def IsLive (n : Nat) (adj : Nat → List Nat) (v : Nat) : Prop := (∃ u, u < n ∧ OnLoop adj u ∧ Goes adj u v) ∧ ∃ u, u < n ∧ OnLoop adj u ∧ Goes adj v u
structure LiveList (n : Nat) (adj : Nat → List Nat) (L : List Nat) : Prop where
  sorted : L.Pairwise (· < ·)
  mem : ∀ v, v ∈ L ↔ v < n ∧ IsLive n adj v
theorem turned_adj {G H : List (List Int)} (h : TurnedOf G H) (hok : GraphOk G) {t v : Nat} (ht : t < G.length) : v ∈ adjOf H t ↔ v < G.length ∧ t ∈ adjOf G v := by
  unfold adjOf
  simp only [List.mem_map]
  constructor
  · rintro ⟨y, hy, rfl⟩
    obtain ⟨x, rfl, hx, hm⟩ := (h.2.2 t ht y).1 hy
    exact ⟨by simpa using hx, (t : Int), by simpa using hm, by simp⟩
  · rintro ⟨hv, y, hy, rfl⟩
    have := hok v hv y hy
    exact ⟨(v : Int), (h.2.2 y.toNat ht v).2 ⟨v, rfl, hv, by rw [Int.toNat_of_nonneg this.1]; exact hy⟩, by simp⟩
theorem turned_ok {G H : List (List Int)} (h : TurnedOf G H) : GraphOk H := by
  intro t ht y hy
  rw [h.1] at ht ⊢
  obtain ⟨x, rfl, hx, _⟩ := (h.2.2 t ht y).1 hy
  omega
theorem goes_lt {G : List (List Int)} (hok : GraphOk G) {x y : Nat} (h : Goes (adjOf G) x y) (hx : x < G.length) : y < G.length :=
  Goes.closed (P := fun z => z < G.length) (fun z hz t ht => hok.lt z hz t ht) h hx
theorem turned_goes {G H : List (List Int)} (h : TurnedOf G H) (hok : GraphOk G) {x y : Nat} (hg : Goes (adjOf H) x y) (hx : x < G.length) : Goes (adjOf G) y x := by
  induction hg with
  | refl => exact .refl _
  | @step y z hg hz ih =>
    have hy : y < G.length := by have := goes_lt (turned_ok h) hg (by rw [h.1]; exact hx); rwa [h.1] at this
    exact (Goes.one ((turned_adj h hok hy).1 hz).2).trans ih
theorem goes_turned {G H : List (List Int)} (h : TurnedOf G H) (hok : GraphOk G) {x y : Nat} (hg : Goes (adjOf G) x y) (hx : x < G.length) : Goes (adjOf H) y x := by
  induction hg with
  | refl => exact .refl _
  | @step y z hg hz ih =>
    have hy := goes_lt hok hg hx
    exact (Goes.one ((turned_adj h hok (hok.lt y hy z hz)).2 ⟨hy, hz⟩)).trans ih
theorem onLoop_parts {G : List (List Int)} (hok : GraphOk G) {ps : List Int} (hp : PartsOf G.length (adjOf G) ps) {x : Nat} (hx : x < G.length) : OnLoop (adjOf G) x ↔ ∃ t ∈ adjOf G x, ps.getD t 0 = ps.getD x 0 := by
  constructor
  · rintro ⟨t, ht, hg⟩
    exact ⟨t, ht, (hp.eq (hok.lt x hx t ht) hx).2 ⟨hg, .one ht⟩⟩
  · rintro ⟨t, ht, he⟩
    exact ⟨t, ht, ((hp.eq (hok.lt x hx t ht) hx).1 he).1⟩
/-- What Live leaves. -/
def LivePost (r : Nat → Addr) (w : World) (G : List (List Int)) (x y : Value) (w' : World) : Prop :=
  ErrIs r w' (checkG G) y ∧ (checkG G = none → ∃ L, LiveList G.length (adjOf G) L ∧ OwnI w.heap.size w' x (castI L)) ∧ (checkG G ≠ none → x = .slice none 0 0)
/-- The marks of the vertices on loops: of the first k, and of the next by its first j arrows. -/
def LoopTo (G : List (List Int)) (ps : List Int) (k j : Nat) (m : Nat → Bool) : Prop :=
  ∀ x, x < G.length → (m x = true ↔ (x < k ∧ ∃ t ∈ adjOf G x, ps.getD t 0 = ps.getD x 0) ∨ (x = k ∧ ∃ t ∈ (adjOf G k).take j, ps.getD t 0 = ps.getD k 0))
theorem LoopTo.next {G : List (List Int)} {ps : List Int} {k : Nat} {m : Nat → Bool} (h : LoopTo G ps k (adjOf G k).length m) : LoopTo G ps (k + 1) 0 m := by
  intro x hx
  rw [h x hx, List.take_length]
  constructor
  · rintro (⟨a, b⟩ | ⟨rfl, b⟩)
    · exact .inl ⟨by omega, b⟩
    · exact .inl ⟨by omega, b⟩
  · rintro (⟨a, b⟩ | ⟨_, t, ht, _⟩)
    · by_cases e : x = k
      · subst e; exact .inr ⟨rfl, b⟩
      · exact .inl ⟨by omega, b⟩
    · simp at ht
theorem LoopTo.add {G : List (List Int)} {ps : List Int} {k j t : Nat} {m : Nat → Bool} (h : LoopTo G ps k j m) (ht : (adjOf G k)[j]? = some t) (m' : Nat → Bool)
    (hm : m' = if ps.getD t 0 = ps.getD k 0 then updN m k true else m) : LoopTo G ps k (j + 1) m' := by
  intro x hx
  have htk : (adjOf G k).take (j + 1) = (adjOf G k).take j ++ [t] := by rw [List.take_add_one, ht]; rfl
  by_cases hp : ps.getD t 0 = ps.getD k 0
  · rw [if_pos hp] at hm
    subst hm
    by_cases e : x = k
    · subst e
      rw [updN_same]
      exact ⟨fun _ => .inr ⟨rfl, t, by rw [htk]; simp, hp⟩, fun _ => rfl⟩
    · rw [updN_other _ _ _ e, h x hx]
      exact ⟨fun q => q.imp id (fun q => absurd q.1 e), fun q => q.imp id (fun q => absurd q.1 e)⟩
  · rw [if_neg hp] at hm
    subst hm
    rw [h x hx, htk]
    constructor
    · rintro (q | ⟨e, s, hs, hq⟩)
      · exact .inl q
      · exact .inr ⟨e, s, List.mem_append_left _ hs, hq⟩
    · rintro (q | ⟨e, s, hs, hq⟩)
      · exact .inl q
      · rcases List.mem_append.1 hs with hs | hs
        · exact .inr ⟨e, s, hs, hq⟩
        · cases List.mem_singleton.1 hs; exact absurd hq hp

set_option maxHeartbeats 4000000 in
theorem live_any (r : Nat → Addr) (na : Option Addr) (nc : Nat) (G : List (List Int)) (w : World) (hg : Glob r w) (h : ListsAt w (.slice na G.length nc) G) (hsz : ∀ k, k < G.length → (G.getD k []).length ≤ 17592186044416) :
    Calls Tryz.prog 146 #[.slice na G.length nc] w (Ret2 (LivePost r w G) w) := by
  have hP := parts_any r na nc G w hg h hsz
  replace h := Lib.hid h
  replace hg := Lib.hid hg
  replace hsz := Lib.hid hsz
  cases hck : checkG G with
  | some t =>
    replace hck := Lib.hid hck
    go_enter Tryz.func146, Tryz.ntmps146
    go_wp2_with fail
    refine hP.mono ?_
    rintro e w1 ⟨x, y, rfl, b1, he, _, hx⟩
    rw [hck.out] at he hx
    obtain rfl := hx (by simp)
    obtain ⟨T, a, rfl⟩ := he.some_shape
    replace he := Lib.hid he
    clear hx hP
    go_wp2
    go_ret2
    exact ⟨_, _, rfl, b1, ⟨by rw [hck.out]; exact he.out, ⟨fun q => (by rw [hck.out] at q; cases q), fun _ => rfl⟩⟩⟩
  | none =>
    obtain ⟨hn, harr, hok⟩ := checkG_none hck
    replace hck := Lib.hid hck
    replace hok := Lib.hid hok
    go_enter Tryz.func146, Tryz.ntmps146
    go_wp2_with fail
    refine hP.mono ?_
    rintro e w1 ⟨pv, y, rfl, b1, he, hps0, _⟩
    rw [hck.out] at he hps0
    obtain rfl := he.none_eq
    obtain ⟨ps, hps, hpo⟩ := hps0 rfl
    clear hps0
    have hpl := hps.len
    obtain ⟨pa, pn, pc, rfl⟩ := hpo.at.shape
    have hp1 := hpo.at
    clear he hP hpo
    obtain ⟨lv, w2, mk, hl2, hb2⟩ := run_makeW oneBoolG (G.length : Int) G.length w1 rfl (by omega)
    have hz : tabB G.length (fun _ => false) = List.replicate G.length (.bool false) := by
      unfold tabB; apply List.ext_getElem <;> simp
    rw [← hz] at hl2
    obtain ⟨la, ln, lc, rfl⟩ := hl2.shape
    have hz0 : LoopTo G ps 0 0 (fun _ => false) := by
      intro x hx
      simp
    replace hz0 := Lib.hid hz0
    replace hz := Lib.hid hz
    replace hl2 := Lib.hid hl2
    replace hp1 := Lib.hid hp1
    replace hps := Lib.hid hps
    replace hpl := Lib.hid hpl
    go_wp2_with fail
    clear mk
    go_loopw [28] (fun kv wr => ∃ (k : Nat) (m : Nat → Bool), k ≤ G.length ∧ kv = .int .i64 k ∧ OwnV 4 w1.heap.size wr (.slice la ln lc) (tabB G.length m) ∧ Below w1.heap.size w1 wr ∧ LoopTo G ps k 0 m) (fun kv _ => G.length - (intOf kv).toNat)
    case atStart => exact ⟨0, _, by omega, rfl, hl2.out, hb2, hz0.out⟩
    case round =>
      clear hl2
      obtain ⟨k, m, hk, rfl, hlo, b3, hm⟩ := hrel
      obtain ⟨wo, rfl⟩ : ∃ wo : World, wo = wr := ⟨_, rfl⟩
      by_cases hlt : k < G.length
      · obtain ⟨mv, iR, cR0, hM0⟩ := h.out.row k hlt
        have hbw : Below w.heap.size w wo := b1.trans (b3.mono b1.size)
        have cR := (hbw.cell (World.block_lt_of_cell? _ _ cR0)).trans cR0
        have hM := hM0.below hbw
        have hgp := hok.out k hlt
        have hal := adjOf_len G k
        have hag : ∀ j (hj : j < (G.getD k []).length), (adjOf G k)[j]? = some ((G.getD k [])[j]).toNat := fun j hj => by
          show ((G.getD k []).map Int.toNat)[j]? = _
          rw [List.getElem?_map, List.getElem?_eq_getElem hj]; rfl
        have hglen := hsz.out k hlt
        generalize G.getD k [] = gk at *
        have lM := hM.len
        generalize valAt (.slice na G.length nc) k = ra at *
        replace hm := Lib.hid hm
        replace hlo := Lib.hid hlo
        replace hM := Lib.hid hM
        replace hM0 := Lib.hid hM0
        replace hgp := Lib.hid hgp
        replace hag := Lib.hid hag
        replace hal := Lib.hid hal
        go_wp2_with fail
        clear iR cR cR0 lM hbw
        go_loopw [35] (fun jv wr => ∃ (j : Nat) (m : Nat → Bool), j ≤ gk.length ∧ jv = .int .i64 j ∧ OwnV 4 w1.heap.size wr (.slice la ln lc) (tabB G.length m) ∧ Below w1.heap.size w1 wr ∧ LoopTo G ps k j m) (fun jv _ => gk.length - (intOf jv).toNat)
        case atStart => exact ⟨0, m, by omega, rfl, hlo.out, b3, hm.out⟩
        case round =>
          clear hlo b3 hm hM
          obtain ⟨j, m, hj, rfl, hlo, b3, hm⟩ := hrel
          obtain ⟨wo, rfl⟩ : ∃ wo : World, wo = wr := ⟨_, rfl⟩
          by_cases hjl : j < gk.length
          · have hMj := hM0.out.below (b1.trans (b3.mono b1.size))
            have hgj := hgp.out gk[j] (List.getElem_mem hjl)
            obtain ⟨t, hu⟩ : ∃ t : Nat, gk[j] = t := Int.eq_ofNat_of_zero_le hgj.1
            have htn : t < G.length := by rw [hu] at hgj; omega
            have hgd : gk.getD j 0 = (t : Int) := by rw [List.getD_eq_getElem?_getD, List.getElem?_eq_getElem hjl, hu]; rfl
            have hta : (adjOf G k)[j]? = some t := by rw [hag.out j hjl, hu]; rfl
            have iJ := fun w' => hMj.idx j hjl w'
            have cJ := hMj.cellD j hjl
            rw [hgd] at cJ
            have hPt := hp1.out.below b3
            have iT := fun w' => hPt.idx t (by rw [hpl.out]; exact htn) w'
            have cT := hPt.cellD t (by rw [hpl.out]; exact htn)
            have iK := fun w' => hPt.idx k (by rw [hpl.out]; exact hlt) w'
            have cK := hPt.cellD k (by rw [hpl.out]; exact hlt)
            have hadd := hm.add hta
            have iL := fun w' => hlo.at.idx oneBoolG k (by rw [tabB_len]; exact hlt) w'
            have cL := hlo.at.cellV k (by rw [tabB_len]; exact hlt)
            rw [tabB_get _ _ _ hlt] at cL
            have fL := hlo.frz k (by rw [tabB_len]; exact hlt)
            have kL := (hlo.blkB k (by rw [tabB_len]; exact hlt)).2
            have hset := hlo.set k (by rw [tabB_len]; exact hlt) (.bool true)
            rw [tabB_upd] at hset
            generalize valAt mv j = ja at *
            generalize valAt (.slice pa pn pc) t = ta at *
            generalize valAt (.slice pa pn pc) k = ka at *
            generalize valAt (.slice la ln lc) k = qa at *
            obtain ⟨pt, hpt⟩ : ∃ pt, ps.getD t 0 = pt := ⟨_, rfl⟩
            obtain ⟨pk, hpk⟩ : ∃ pk, ps.getD k 0 = pk := ⟨_, rfl⟩
            rw [hpt] at cT hadd
            rw [hpk] at cK hadd
            generalize m k = mk at cL
            replace hm := Lib.hid hm
            replace hlo := Lib.hid hlo
            replace hset := Lib.hid hset
            replace hPt := Lib.hid hPt
            replace hMj := Lib.hid hMj
            replace hpt := Lib.hid hpt
            replace hpk := Lib.hid hpk
            replace hgd := Lib.hid hgd
            replace hgj := Lib.hid hgj
            replace hu := Lib.hid hu
            replace hta := Lib.hid hta
            by_cases he : pt = pk
            · have hq : (pt == pk) = true := by simp [he]
              have hn2 := hadd _ (if_pos he).symm
              replace hn2 := Lib.hid hn2
              replace he := Lib.hid he
              clear hadd
              go_upto_region 11 with fail
              go_quiet (fail)
              go_wp2
              go_roundw
              case measure => simp [intOf]; omega
              case rel =>
                refine ⟨j + 1, _, by omega, by go_num, ?_, ?_, hn2.out⟩
                · exact hset.out
                · exact (below_drewN b3 nq).setCell kL _
            · have hq : (pt == pk) = false := by simp [he]
              have hn2 := hadd _ (if_neg he).symm
              replace hn2 := Lib.hid hn2
              replace he := Lib.hid he
              clear hadd
              go_upto_region 11 with fail
              go_quiet (fail)
              go_wp2
              go_roundw
              case measure => simp [intOf]; omega
              case rel => exact ⟨j + 1, m, by omega, by go_num, hlo.out, b3.trans ⟨rfl, rfl, rfl, Nat.le_refl _, fun _ _ => rfl⟩, hn2.out⟩
          · obtain rfl : j = gk.length := by omega
            have hnext := (hal.out ▸ hm : LoopTo G ps k (adjOf G k).length m).next
            replace hnext := Lib.hid hnext
            replace hm := Lib.hid hm
            replace hlo := Lib.hid hlo
            go_wp2
            go_roundw
            case measure => simp [intOf]; omega
            case rel => exact ⟨k + 1, m, by omega, by go_num, hlo.out, b3, hnext.out⟩
      · obtain rfl : k = G.length := by omega
        have hbw : Below w.heap.size w wo := b1.trans (b3.mono b1.size)
        have hR1 := reach_any na nc G (.slice la ln lc) m wo (h.out.below hbw) hok.out (by omega) hlo.at
        have hon : ∀ x, x < G.length → (m x = true ↔ OnLoop (adjOf G) x) := fun x hx => by
          rw [hm x hx, onLoop_parts hok.out hps.out hx]
          constructor
          · rintro (⟨_, q⟩ | ⟨e, _⟩)
            · exact q
            · omega
          · intro q; exact .inl ⟨hx, q⟩
        replace hm := Lib.hid hm
        replace hon := Lib.hid hon
        replace hR1 := Lib.hid hR1
        have hlo' := Lib.hid hlo
        clear hlo
        go_wp2_with fail
        refine hR1.out.mono ?_
        rintro e w4 ⟨bv, rfl, b4, bm, hbo, hbm⟩
        have hb4 := Below.step hbw b4
        have hBk := graph_back na nc G w4 (h.out.below hb4) hok.out (by omega) harr
        replace hBk := Lib.hid hBk
        go_wp2_with fail
        refine hBk.out.mono ?_
        rintro e w5 ⟨hv, rfl, b5, H, hT, hHl⟩
        obtain ⟨ha, hc, rfl⟩ := hHl.shape
        have hHn := hT.1
        have hR2 := reach_any ha hc H (.slice la ln lc) m w5 hHl (turned_ok hT) (by omega) (by rw [hHn]; exact (hlo'.out.at.below b4).below b5)
        replace hR2 := Lib.hid hR2
        replace hHn := Lib.hid hHn
        replace hT := Lib.hid hT
        replace hHl := Lib.hid hHl
        go_wp2_with fail
        refine hR2.out.mono ?_
        rintro e w6 ⟨av, rfl, b6, am, hao, ham⟩
        rw [hHn.out] at hao ham
        have hboth : ∀ x, x < G.length → ((bm x && am x) = true ↔ IsLive G.length (adjOf G) x) := fun x hx => by
          rw [Bool.and_eq_true, hbm x hx, ham x hx]
          unfold IsLive
          constructor
          · rintro ⟨⟨u, hu, h1, h2⟩, v, hv, h3, h4⟩
            exact ⟨⟨u, hu, (hon.out u hu).1 h1, h2⟩, v, hv, (hon.out v hv).1 h3, turned_goes hT.out hok.out h4 hv⟩
          · rintro ⟨⟨u, hu, h1, h2⟩, v, hv, h3, h4⟩
            exact ⟨⟨u, hu, (hon.out u hu).2 h1, h2⟩, v, hv, (hon.out v hv).2 h3, goes_turned hT.out hok.out h4 hx⟩
        have hbv := hbo.at.below (Below.step b5 b6)
        have hav := hao.at
        have hw6 := Below.step hb4 (Below.step b5 b6)
        replace hboth := Lib.hid hboth
        replace hbm := Lib.hid hbm
        replace ham := Lib.hid ham
        replace hbv := Lib.hid hbv
        replace hav := Lib.hid hav
        replace hbo := Lib.hid hbo
        replace hao := Lib.hid hao
        clear hR1 hR2 hBk
        go_wp2_with fail
        go_loopw [13, 62] (fun qv kv wr => ∃ (k : Nat) (L : List Nat) (qw : Value), qw = qv ∧ kv = .int .i64 k ∧ k ≤ G.length ∧ L.length ≤ k ∧ OwnI w6.heap.size wr qw (castI L) ∧ Below w6.heap.size w6 wr ∧ L.Pairwise (· < ·) ∧ ∀ v, v ∈ L ↔ (v < k ∧ (bm v && am v) = true)) (fun _ kv _ => G.length - (intOf kv).toNat)
        case atStart => exact ⟨0, [], _, rfl, rfl, by omega, by simp, OwnI.nil _ _, Below.refl _ _, List.Pairwise.nil, fun v => ⟨fun q => (by cases q), fun q => by omega⟩⟩
        case round =>
          obtain ⟨k, L, qv, rfl, rfl, hk, hLk, hLo, b7, hLs, hLm⟩ := hrel
          obtain ⟨wo, rfl⟩ : ∃ wo : World, wo = wr := ⟨_, rfl⟩
          by_cases hlt : k < G.length
          · have hB := hbv.out.below b7
            have hA := hav.out.below b7
            have iB := fun w' => hB.idx oneBoolG k (by rw [tabB_len]; exact hlt) w'
            have cB := hB.cellV k (by rw [tabB_len]; exact hlt)
            rw [tabB_get _ _ _ hlt] at cB
            have iA := fun w' => hA.idx oneBoolG k (by rw [tabB_len]; exact hlt) w'
            have cA := hA.cellV k (by rw [tabB_len]; exact hlt)
            rw [tabB_get _ _ _ hlt] at cA
            generalize valAt bv k = qb at *
            generalize valAt av k = qa at *
            have hyes : (bm k && am k) = true → ∀ v, v ∈ L ++ [k] ↔ (v < k + 1 ∧ (bm v && am v) = true) := fun hq v => by
              rw [List.mem_append, hLm v, List.mem_singleton]
              constructor
              · rintro (⟨a, b⟩ | rfl)
                · exact ⟨by omega, b⟩
                · exact ⟨by omega, hq⟩
              · rintro ⟨a, b⟩
                by_cases e : v = k
                · exact .inr e
                · exact .inl ⟨by omega, b⟩
            have hno : (bm k && am k) = false → ∀ v, v ∈ L ↔ (v < k + 1 ∧ (bm v && am v) = true) := fun hq v => by
              rw [hLm v]
              constructor
              · rintro ⟨a, b⟩; exact ⟨by omega, b⟩
              · rintro ⟨a, b⟩
                by_cases e : v = k
                · subst e; rw [hq] at b; cases b
                · exact ⟨by omega, b⟩
            have hsrt2 : (L ++ [k]).Pairwise (· < ·) := by
              rw [List.pairwise_append]
              refine ⟨hLs, List.pairwise_singleton _ _, fun x hx y hy => ?_⟩
              cases List.mem_singleton.1 hy
              exact ((hLm x).1 hx).1
            obtain ⟨bk, hbk⟩ : ∃ bk, bm k = bk := ⟨_, rfl⟩
            obtain ⟨ak, hak⟩ : ∃ ak, am k = ak := ⟨_, rfl⟩
            rw [hbk] at cB hyes hno
            rw [hak] at cA hyes hno
            replace hB := Lib.hid hB
            replace hA := Lib.hid hA
            replace hLm := Lib.hid hLm
            replace hLs := Lib.hid hLs
            replace hsrt2 := Lib.hid hsrt2
            replace hbk := Lib.hid hbk
            replace hak := Lib.hid hak
            cases bk with
            | false =>
              have hn := hno rfl
              replace hn := Lib.hid hn
              replace hLo := Lib.hid hLo
              clear hyes hno
              go_wp2
              go_roundw
              case measure => simp [intOf]; omega
              case rel => exact ⟨k + 1, L, qv, rfl, by go_num, by omega, by omega, hLo.out, b7, hLs.out, hn.out⟩
            | true =>
              cases ak with
              | false =>
                have hn := hno rfl
                replace hn := Lib.hid hn
                replace hLo := Lib.hid hLo
                clear hyes hno
                go_wp2
                go_roundw
                case measure => simp [intOf]; omega
                case rel => exact ⟨k + 1, L, qv, rfl, by go_num, by omega, by omega, hLo.out, b7, hLs.out, hn.out⟩
              | true =>
                have hy := hyes rfl
                replace hy := Lib.hid hy
                clear hyes hno
                have hB7 : w6.heap.size ≤ wo.heap.size := b7.size
                go_wp2_with (at_builtin; refine wpl_app1 rfl _ _ rfl w6.heap.size qv (castI L) k hLo rfl rfl (by rw [castI_len]; omega) hB7 ?_)
                intro qv' w8 ho8 b8 hal8
                replace ho8 := Lib.hid ho8
                clear hal8 hLo
                go_wp2
                go_roundw
                case measure => simp [intOf]; omega
                case rel => exact ⟨k + 1, L ++ [k], qv', rfl, by go_num, by omega, by rw [List.length_append]; simp only [List.length_cons, List.length_nil]; omega, by rw [castI_snoc]; exact ho8.out, b7.trans b8, hsrt2.out, hy.out⟩
          · obtain rfl : k = G.length := by omega
            have hLL : LiveList G.length (adjOf G) L := ⟨hLs, fun v => by
              rw [hLm v]
              constructor
              · rintro ⟨a, b⟩; exact ⟨a, (hboth.out v a).1 b⟩
              · rintro ⟨a, b⟩; exact ⟨a, (hboth.out v a).2 b⟩⟩
            obtain ⟨qa, qn, qc, rfl⟩ := hLo.at.shape
            replace hLL := Lib.hid hLL
            replace hLo := Lib.hid hLo
            replace hLm := Lib.hid hLm
            replace hLs := Lib.hid hLs
            go_wp2
            go_ret2
            exact ⟨_, _, rfl, Below.step hw6 b7, ⟨by rw [hck.out]; rfl, ⟨fun _ => ⟨L, hLL.out, hLo.out.mono hw6.size⟩, fun q => absurd hck.out q⟩⟩⟩
end Go.Proofs.YtmbdmkmomngkkaaGreatDoor

namespace Go.Proofs.YtmbdmkmomngkkaaGreatDoor
open Go.RowKit
set_option maxRecDepth 100000

theorem EOwn.shape {B : Nat} {w : World} {t : PErr} {v : Value} (h : EOwn B w t v) : ∃ n a1 n1 c1 a2 n2 c2, v = .agg #[.int .i64 n, .slice a1 n1 c1, .slice a2 n2 c2] := h.at.shape

theorem below_set3 {B b : Nat} {w0 w : World} (h : Below B w0 w) (hb : B ≤ b) (x y z : Value) : Below B w0 (((w.setCell ⟨b, 0, none⟩ x).setCell ⟨b, 1, none⟩ y).setCell ⟨b, 2, none⟩ z) :=
  ((h.setCell (p := ⟨b, 0, none⟩) hb x).setCell (p := ⟨b, 1, none⟩) hb y).setCell (p := ⟨b, 2, none⟩) hb z

end Go.Proofs.YtmbdmkmomngkkaaGreatDoor

namespace Go.Proofs.YtmbdmkmomngkkaaGreatDoor
open Go.RowKit
set_option maxRecDepth 100000

theorem oddTo_miss {G : List (List Int)} {k : Nat} (hk : oddTo G k < 0) (h : ∀ t ∈ G.getD k [], oddT G.length t = false) : oddTo G (k + 1) < 0 := by
  simp only [oddTo]
  rw [if_pos hk]
  rcases idxOf_cases (oddT G.length) (G.getD k []) with ⟨q, _⟩ | ⟨i, _, q1, q2⟩
  · rw [if_neg (by omega)]; exact hk
  · exfalso
    simp_all

end Go.Proofs.YtmbdmkmomngkkaaGreatDoor

namespace Go.Proofs.YtmbdmkmomngkkaaGreatDoor

/-- D tells how far it is from s. -/
def FarOf (n : Nat) (adj : Nat → List Nat) (s : Nat) (D : Nat → Int) : Prop :=
  ∀ t, t < n → (D t = -1 ∧ ¬ Goes adj s t) ∨ ∃ w, Way adj s t w ∧ (w.length : Int) = D t + 1 ∧ ∀ u, Way adj s t u → w.length ≤ u.length
/-- D tells how far it is to s. -/
def ToOf (n : Nat) (adj : Nat → List Nat) (s : Nat) (D : Nat → Int) : Prop :=
  ∀ t, t < n → (D t = -1 ∧ ¬ Goes adj t s) ∨ ∃ w, Way adj t s w ∧ (w.length : Int) = D t + 1 ∧ ∀ u, Way adj t s u → w.length ≤ u.length
theorem ToOf.low {n : Nat} {adj : Nat → List Nat} {s : Nat} {D : Nat → Int} (h : ToOf n adj s D) {t : Nat} (ht : t < n) : -1 ≤ D t := by
  rcases h t ht with ⟨h1, _⟩ | ⟨w, h1, h2, _⟩
  · omega
  · have := h1.pos; omega
theorem ToOf.pos {n : Nat} {adj : Nat → List Nat} {s : Nat} {D : Nat → Int} (h : ToOf n adj s D) {t : Nat} (ht : t < n) : 0 ≤ D t ↔ Goes adj t s := by
  rcases h t ht with ⟨h1, h2⟩ | ⟨w, h1, h2, _⟩
  · exact ⟨fun q => by omega, fun q => absurd q h2⟩
  · exact ⟨fun _ => h1.goes, fun _ => by have := h1.pos; omega⟩
theorem ToOf.le {n : Nat} {adj : Nat → List Nat} {s : Nat} {D : Nat → Int} (h : ToOf n adj s D) {t : Nat} (ht : t < n) {u : List Nat} (hu : Way adj t s u) : 0 ≤ D t ∧ D t + 1 ≤ u.length := by
  rcases h t ht with ⟨_, h2⟩ | ⟨w, h1, h2, h3⟩
  · exact absurd hu.goes h2
  · have := h1.pos; have := h3 u hu; omega
theorem ToOf.first {n : Nat} {adj : Nat → List Nat} {s : Nat} {D : Nat → Int} (h : ToOf n adj s D) {t : Nat} (ht : t < n) {u : List Nat} (hu : IsFirst adj t s u) : (u.length : Int) = D t + 1 := by
  rcases h t ht with ⟨_, h2⟩ | ⟨w, h1, h2, h3⟩
  · exact absurd hu.way.goes h2
  · have := h3 u hu.way; have := hu.short w h1; omega
theorem FarOf.pos {n : Nat} {adj : Nat → List Nat} {s : Nat} {D : Nat → Int} (h : FarOf n adj s D) {t : Nat} (ht : t < n) : 0 ≤ D t ↔ Goes adj s t := by
  rcases h t ht with ⟨h1, h2⟩ | ⟨w, h1, h2, _⟩
  · exact ⟨fun q => by omega, fun q => absurd q h2⟩
  · exact ⟨fun _ => h1.goes, fun _ => by have := h1.pos; omega⟩

/-- Breadth first, how far only. -/
structure FBase (adj : Nat → List Nat) (s : Nat) (D : Nat → Int) (q : List Nat) (b i : Nat) : Prop where
  hd : q[0]? = some s
  nodup : q.Nodup
  there : ∀ x, 0 ≤ D x ↔ x ∈ q
  low : ∀ x, -1 ≤ D x
  d0 : D s = 0
  sound : ∀ x ∈ q, ∃ w, Way adj s x w ∧ (w.length : Int) = D x + 1
  par : ∀ x ∈ q, x = s ∨ ∃ p y, p < b ∧ q[p]? = some y ∧ D x = D y + 1
  mono : ∀ (j k x y : Nat), j ≤ k → q[j]? = some x → q[k]? = some y → D x ≤ D y
  closed : ∀ p x, p < i → q[p]? = some x → ∀ t ∈ adj x, 0 ≤ D t ∧ D t ≤ D x + 1
structure FIn (adj : Nat → List Nat) (s : Nat) (D : Nat → Int) (q : List Nat) (i v : Nat) (l : List Nat) : Prop where
  base : FBase adj s D q (i + 1) i
  cur : q[i]? = some v
  sub : ∀ t ∈ l, t ∈ adj v
  seen : ∀ t ∈ adj v, t ∈ l ∨ (0 ≤ D t ∧ D t ≤ D v + 1)
section
variable {adj : Nat → List Nat} {s : Nat} {D : Nat → Int} {q : List Nat} {i v b : Nat} {l : List Nat}
theorem FBase.init (adj : Nat → List Nat) (s : Nat) : FBase adj s (updN (fun _ => (-1 : Int)) s 0) [s] 0 0 := by
  have hg : ∀ j x, [s][j]? = some x → j = 0 ∧ x = s := fun j x hx => by
    cases j with
    | zero => simp at hx; exact ⟨rfl, hx.symm⟩
    | succ j => simp at hx
  refine ⟨rfl, by simp, fun x => ?_, fun x => ?_, updN_same _ _ _, fun x hx => ?_, fun x hx => ?_, fun j k x y _ hx hy => ?_, fun p x hp => by omega⟩
  · by_cases e : x = s
    · subst e; rw [updN_same]; simp
    · rw [updN_other _ _ _ e]; simp [e]
  · by_cases e : x = s
    · subst e; rw [updN_same]; omega
    · rw [updN_other _ _ _ e]; omega
  · cases List.mem_singleton.1 hx; exact ⟨_, .one _, by rw [updN_same]; simp⟩
  · exact .inl (List.mem_singleton.1 hx)
  · rw [(hg j x hx).2, (hg k y hy).2]; exact Int.le_refl _
theorem FBase.enter (h : FBase adj s D q i i) (hv : q[i]? = some v) : FIn adj s D q i v (adj v) :=
  ⟨⟨h.hd, h.nodup, h.there, h.low, h.d0, h.sound, fun x hx => (h.par x hx).imp id (fun ⟨p, y, h1, h2⟩ => ⟨p, y, by omega, h2⟩), h.mono, h.closed⟩, hv, fun t ht => ht, fun t ht => .inl ht⟩
theorem FIn.leave (h : FIn adj s D q i v []) : FBase adj s D q (i + 1) (i + 1) := by
  refine ⟨h.base.hd, h.base.nodup, h.base.there, h.base.low, h.base.d0, h.base.sound, h.base.par, h.base.mono, fun p x hp hx t ht => ?_⟩
  by_cases e : p = i
  · subst e
    rw [h.cur] at hx; cases hx
    exact (h.seen t ht).resolve_left (by simp)
  · exact h.base.closed p x (by omega) hx t ht
theorem FIn.top (h : FIn adj s D q i v l) : ∀ x ∈ q, D x ≤ D v + 1 := by
  intro x hx
  have hv0 := (h.base.there v).2 (List.mem_of_getElem? h.cur)
  rcases h.base.par x hx with rfl | ⟨p, y, h1, h2, h3⟩
  · have := h.base.d0; omega
  · have := h.base.mono p i y v (by omega) h2 h.cur; omega
theorem FIn.old {t : Nat} (h : FIn adj s D q i v (t :: l)) (ht : 0 ≤ D t) : FIn adj s D q i v l := by
  refine ⟨h.base, h.cur, fun x hx => h.sub x (List.mem_cons_of_mem _ hx), fun x hx => ?_⟩
  rcases h.seen x hx with q1 | q1
  · rcases List.mem_cons.1 q1 with e | e
    · subst e; exact .inr ⟨ht, h.top x ((h.base.there x).1 ht)⟩
    · exact .inl e
  · exact .inr q1
theorem FIn.add {t : Nat} (h : FIn adj s D q i v (t :: l)) (ht : D t < 0) : FIn adj s (updN D t (D v + 1)) (q ++ [t]) i v l := by
  have hB := h.base
  have htq : t ∉ q := fun hm => by have := (hB.there t).2 hm; omega
  have hil := get_of h.cur
  have hvq := List.mem_of_getElem? h.cur
  have hv0 := (hB.there v).2 hvq
  have hga : ∀ j x, (q ++ [t])[j]? = some x → q[j]? = some x ∧ j < q.length ∧ x ≠ t ∨ j = q.length ∧ x = t := fun j x hx => by
    by_cases e : j < q.length
    · rw [List.getElem?_append_left e] at hx
      exact .inl ⟨hx, e, fun e2 => htq (by rw [← e2]; exact List.mem_of_getElem? hx)⟩
    · rw [List.getElem?_append_right (by omega)] at hx
      by_cases e2 : j = q.length
      · rw [e2] at hx; simp at hx; exact .inr ⟨e2, hx.symm⟩
      · rw [List.getElem?_eq_none (by simp; omega)] at hx; cases hx
  have hgo : ∀ {j x}, q[j]? = some x → (q ++ [t])[j]? = some x := fun {j x} hx => by rw [List.getElem?_append_left (get_of hx)]; exact hx
  have hne : ∀ x, x ∈ q → x ≠ t := fun x hx e => htq (by rw [← e]; exact hx)
  have dq : ∀ x, x ∈ q → updN D t (D v + 1) x = D x := fun x hx => updN_other _ _ _ (hne x hx)
  have hsq : s ∈ q := List.mem_of_getElem? hB.hd
  have htop := h.top
  refine ⟨⟨hgo hB.hd, ?_, fun x => ?_, fun x => ?_, ?_, fun x hx => ?_, fun x hx => ?_, fun j k x y hjk hx hy => ?_, fun p x hp hx t' ht' => ?_⟩, hgo h.cur, fun x hx => h.sub x (List.mem_cons_of_mem _ hx), fun x hx => ?_⟩
  · exact List.nodup_append.2 ⟨hB.nodup, by simp, fun x hx y hy => by cases List.mem_singleton.1 hy; exact hne x hx⟩
  · by_cases e : x = t
    · subst e; rw [updN_same]; simp; omega
    · rw [updN_other _ _ _ e, hB.there]; simp [e]
  · by_cases e : x = t
    · subst e; rw [updN_same]; omega
    · rw [updN_other _ _ _ e]; exact hB.low x
  · rw [dq s hsq]; exact hB.d0
  · rcases List.mem_append.1 hx with hx | hx
    · rw [dq x hx]; exact hB.sound x hx
    · cases List.mem_singleton.1 hx
      obtain ⟨w, h1, h2⟩ := hB.sound v hvq
      refine ⟨w ++ [t], h1.snoc (h.sub _ List.mem_cons_self), ?_⟩
      rw [updN_same, List.length_append, List.length_singleton]; omega
  · rcases List.mem_append.1 hx with hx | hx
    · rcases hB.par x hx with e | ⟨p, y, h1, h2, h3⟩
      · exact .inl e
      · exact .inr ⟨p, y, h1, hgo h2, by rw [dq x hx, dq y (List.mem_of_getElem? h2)]; exact h3⟩
    · cases List.mem_singleton.1 hx
      exact .inr ⟨i, v, by omega, hgo h.cur, by rw [updN_same, dq v hvq]⟩
  · rcases hga k y hy with ⟨k1, k2, k3⟩ | ⟨rfl, rfl⟩
    · rcases hga j x hx with ⟨h1, h2, h3⟩ | ⟨rfl, rfl⟩
      · rw [dq x (List.mem_of_getElem? h1), dq y (List.mem_of_getElem? k1)]; exact hB.mono j k x y hjk h1 k1
      · omega
    · rcases hga j x hx with ⟨h1, h2, h3⟩ | ⟨h1, rfl⟩
      · rw [dq x (List.mem_of_getElem? h1), updN_same]; exact htop x (List.mem_of_getElem? h1)
      · exact Int.le_refl _
  · rcases hga p x hx with ⟨h1, h2, h3⟩ | ⟨h1, rfl⟩
    · have := hB.closed p x hp h1 t' ht'
      have e : t' ≠ t := fun e => by subst e; omega
      rw [updN_other _ _ _ e, dq x (List.mem_of_getElem? h1)]
      exact this
    · omega
  · by_cases e : x = t
    · subst e; right; rw [updN_same, dq v hvq]; omega
    · rcases h.seen x hx with q1 | q1
      · exact .inl ((List.mem_cons.1 q1).resolve_left e)
      · right; rw [updN_other _ _ _ e, dq v hvq]; exact q1
theorem FBase.far (h : FBase adj s D q b i) (hi : q.length ≤ i) {x y : Nat} {u : List Nat} (hu : Way adj x y u) (hx : x ∈ q) : y ∈ q ∧ D y + 1 ≤ D x + u.length := by
  induction hu with
  | one => exact ⟨hx, by simp⟩
  | @cons x t y w ht hu ih =>
    obtain ⟨j, hj⟩ := List.mem_iff_getElem?.1 hx
    have := h.closed j x (by have := get_of hj; omega) hj t ht
    have := ih ((h.there t).1 this.1)
    exact ⟨this.1, by simp only [List.length_cons]; omega⟩
end

/-- Going down: the least of the neighbours that are nearer by one. -/
theorem step_first {n : Nat} {adj : Nat → List Nat} {s : Nat} {D : Nat → Int} (h : ToOf n adj s D) (hlt : ∀ v, v < n → ∀ t ∈ adj v, t < n) {v best : Nat} (hv : v < n)
    (hb : best ∈ adj v) (hd : D best = D v - 1) (h0 : 0 ≤ D best) (hm : ∀ t ∈ adj v, D t = D v - 1 → best ≤ t) {u : List Nat} (hu : IsFirst adj best s u) : IsFirst adj v s (v :: u) := by
  have hbn := hlt v hv best hb
  have hul := h.first hbn hu
  refine ⟨.cons hb hu.way, fun x hx => ?_, fun x hx hl => ?_⟩
  · have := h.le hv hx
    simp only [List.length_cons]; omega
  · cases hx with
    | one => simp only [List.length_cons, List.length_nil] at hl; have := hu.way.pos; omega
    | @cons _ t _ x' ht hx' =>
      have htn := hlt v hv t ht
      have h1 := h.le htn hx'
      have h2 := h.le hv (.cons ht hx')
      simp only [List.length_cons] at hl h2
      have hdt : D t = D v - 1 := by
        rcases h t htn with ⟨_, q⟩ | ⟨w, w1, w2, w3⟩
        · exact absurd hx'.goes q
        · have := h.le hv (.cons ht w1)
          simp only [List.length_cons] at this
          omega
      have hbt := hm t ht hdt
      refine .inr ⟨rfl, ?_⟩
      by_cases e : best = t
      · subst e; exact hu.least x' hx' (by omega)
      · obtain ⟨_, rfl⟩ := hx'.ne
        obtain ⟨_, rfl⟩ := hu.way.ne
        exact .inl (by omega)
theorem ToOf.next {n : Nat} {adj : Nat → List Nat} {s : Nat} {D : Nat → Int} (h : ToOf n adj s D) (hlt : ∀ v, v < n → ∀ t ∈ adj v, t < n) {v : Nat} (hv : v < n) (hne : v ≠ s) (h0 : 0 ≤ D v) : 1 ≤ D v ∧ ∃ t ∈ adj v, D t = D v - 1 := by
  rcases h v hv with ⟨q, _⟩ | ⟨w, w1, w2, w3⟩
  · omega
  · cases w1 with
    | one => exact absurd rfl hne
    | @cons _ t _ w' ht hw =>
      have htn := hlt v hv t ht
      have := hw.pos
      simp only [List.length_cons] at w2 w3
      refine ⟨by omega, t, ht, ?_⟩
      rcases h t htn with ⟨_, q⟩ | ⟨x, x1, x2, x3⟩
      · exact absurd hw.goes q
      · have := x3 w' hw
        have := w3 _ (.cons ht x1)
        simp only [List.length_cons] at this
        omega
end Go.Proofs.YtmbdmkmomngkkaaGreatDoor

namespace Go.Proofs.YtmbdmkmomngkkaaGreatDoor

/-- The sum of F over the first n. -/
def sumN (F : Nat → Nat) : Nat → Nat
  | 0 => 0
  | n + 1 => sumN F n + F n
theorem sumN_congr {F F' : Nat → Nat} : ∀ {n}, (∀ v, v < n → F v = F' v) → sumN F n = sumN F' n
  | 0, _ => rfl
  | n + 1, h => by
    show sumN F n + F n = sumN F' n + F' n
    rw [sumN_congr (n := n) (fun v hv => h v (by omega)), h n (by omega)]
theorem sumN_pos {F : Nat → Nat} : ∀ {n}, 0 < sumN F n ↔ ∃ v, v < n ∧ 0 < F v
  | 0 => by simp [sumN]
  | n + 1 => by
    show 0 < sumN F n + F n ↔ _
    constructor
    · intro h
      by_cases e : 0 < sumN F n
      · obtain ⟨v, h1, h2⟩ := sumN_pos.1 e; exact ⟨v, by omega, h2⟩
      · exact ⟨n, by omega, by omega⟩
    · rintro ⟨v, h1, h2⟩
      by_cases e : v = n
      · subst e; omega
      · have := sumN_pos.2 ⟨v, show v < n by omega, h2⟩; omega
theorem sumN_upd {F F' : Nat → Nat} {v : Nat} (h : ∀ u, u ≠ v → F' u = F u) : ∀ {n}, v < n → sumN F' n + F v = sumN F n + F' v
  | 0, q => by omega
  | n + 1, q => by
    show sumN F' n + F' n + F v = sumN F n + F n + F' v
    by_cases e : v = n
    · subst e
      rw [sumN_congr (n := v) (fun u hu => h u (by omega))]; omega
    · have := sumN_upd h (n := n) (by omega)
      rw [h n (fun q => e q.symm)]; omega
theorem sumN_zero : ∀ n, sumN (fun _ => 0) n = 0
  | 0 => rfl
  | n + 1 => by show sumN _ n + 0 = 0; rw [sumN_zero n]
theorem sumN_add (F F' : Nat → Nat) : ∀ n, sumN (fun v => F v + F' v) n = sumN F n + sumN F' n
  | 0 => rfl
  | n + 1 => by show sumN _ n + (F n + F' n) = sumN F n + F n + (sumN F' n + F' n); rw [sumN_add F F' n]; omega
theorem sumN_one (x : Nat) : ∀ n, sumN (fun v => if v = x then 1 else 0) n = if x < n then 1 else 0
  | 0 => rfl
  | n + 1 => by
    show sumN _ n + (if n = x then 1 else 0) = _
    rw [sumN_one x n]
    by_cases e : n = x
    · subst e; simp
    · rw [if_neg e]
      by_cases q : x < n
      · rw [if_pos q, if_pos (by omega)]
      · rw [if_neg q, if_neg (by omega)]
/-- A list of numbers below n: its length, counted number by number. -/
theorem length_counts (n : Nat) : ∀ (l : List Nat), (∀ x ∈ l, x < n) → l.length = sumN (fun v => l.count v) n
  | [], _ => by simp [sumN_zero]
  | x :: l, h => by
    have ih := length_counts n l (fun y hy => h y (List.mem_cons_of_mem _ hy))
    have e : (fun v => (x :: l).count v) = fun v => l.count v + if v = x then 1 else 0 := by
      funext v
      rw [List.count_cons]
      by_cases q : x = v
      · simp [q]
      · rw [if_neg (by simpa using q), if_neg (fun r => q r.symm)]
    rw [e, sumN_add, sumN_one, if_pos (h x List.mem_cons_self), ← ih, List.length_cons]

/-- inn tells how many arrows lead to t, of those not gone through: the first c v of v's are. -/
def Deg (n : Nat) (A : Nat → List Nat) (c inn : Nat → Nat) : Prop := ∀ t, t < n → inn t = sumN (fun v => ((A v).drop (c v)).count t) n
theorem Deg.init {n : Nat} {A B : Nat → List Nat} (hB : ∀ t, t < n → ∀ x ∈ B t, x < n) (hc : ∀ v t, v < n → t < n → (B t).count v = (A v).count t) : Deg n A (fun _ => 0) (fun t => (B t).length) := by
  intro t ht
  show (B t).length = _
  rw [length_counts n _ (hB t ht)]
  exact sumN_congr fun v hv => by rw [hc v t hv ht, List.drop_zero]
theorem Deg.step {n : Nat} {A : Nat → List Nat} {c inn : Nat → Nat} {v j t : Nat} (h : Deg n A c inn) (hv : v < n) (hj : c v = j) (ht : (A v)[j]? = some t) (htn : t < n) :
    0 < inn t ∧ Deg n A (updN c v (j + 1)) (updN inn t (inn t - 1)) := by
  have hjl : j < (A v).length := get_of ht
  have hd : (A v).drop j = t :: (A v).drop (j + 1) := by
    rw [List.drop_eq_getElem_cons hjl]
    rw [List.getElem?_eq_getElem hjl] at ht; injection ht with ht; rw [ht]
  have key : ∀ x, sumN (fun u => ((A u).drop (updN c v (j + 1) u)).count x) n + (if x = t then 1 else 0) = sumN (fun u => ((A u).drop (c u)).count x) n := by
    intro x
    have := sumN_upd (F := fun u => ((A u).drop (c u)).count x) (F' := fun u => ((A u).drop (updN c v (j + 1) u)).count x) (v := v) (fun u hu => by simp only [updN_other _ _ _ hu]) hv
    simp only [updN_same, hj, hd, List.count_cons] at this
    by_cases e : x = t
    · subst e; rw [if_pos rfl]; simp at this; omega
    · rw [if_neg e]
      have e2 : (t == x) = false := by simpa using fun q => e q.symm
      rw [e2] at this; simp at this; omega
  have h1 := key t
  rw [if_pos rfl, ← h t htn] at h1
  refine ⟨by omega, fun x hx => ?_⟩
  have h2 := key x
  by_cases e : x = t
  · subst e; rw [updN_same]; omega
  · rw [updN_other _ _ _ e, h x hx]; rw [if_neg e] at h2; omega

/-- The peeling: what has gone stands in the queue; the first i of it have been gone through, and of the next the first j and k arrows. -/
structure Peel (n : Nat) (A B : Nat → List Nat) (inn out : Nat → Nat) (c d : Nat → Nat) (gone : Nat → Bool) (q : List Nat) (lives : Nat → Prop) : Prop where
  deg1 : Deg n A c inn
  deg2 : Deg n B d out
  nodup : q.Nodup
  goneq : ∀ x, gone x = true ↔ x ∈ q
  low : ∀ x ∈ q, x < n
  fresh : ∀ v, v ∉ q → c v = 0 ∧ d v = 0
  keep : ∀ t, t < n → lives t → gone t = false
/-- A live vertex has live neighbours on both sides. -/
structure LiveSet (n : Nat) (A B : Nat → List Nat) (lives : Nat → Prop) : Prop where
  behind : ∀ t, t < n → lives t → ∃ p, p < n ∧ lives p ∧ t ∈ A p
  ahead : ∀ t, t < n → lives t → ∃ p, p < n ∧ lives p ∧ t ∈ B p
section
variable {n : Nat} {A B : Nat → List Nat} {inn out c d : Nat → Nat} {gone : Nat → Bool} {q : List Nat} {lives : Nat → Prop}
theorem Peel.live_in (h : Peel n A B inn out c d gone q lives) (hL : LiveSet n A B lives) {t : Nat} (ht : t < n) (hl : lives t) : 0 < inn t ∧ 0 < out t := by
  have aux : ∀ p, p < n → lives p → c p = 0 ∧ d p = 0 := fun p hp hlp => h.fresh p (fun q => by have := (h.goneq p).2 q; rw [h.keep p hp hlp] at this; cases this)
  refine ⟨?_, ?_⟩
  · obtain ⟨p, hp, hlp, hm⟩ := hL.behind t ht hl
    rw [h.deg1 t ht]
    refine sumN_pos.2 ⟨p, hp, ?_⟩
    rw [(aux p hp hlp).1, List.drop_zero]
    exact List.count_pos_iff.2 hm
  · obtain ⟨p, hp, hlp, hm⟩ := hL.ahead t ht hl
    rw [h.deg2 t ht]
    refine sumN_pos.2 ⟨p, hp, ?_⟩
    rw [(aux p hp hlp).2, List.drop_zero]
    exact List.count_pos_iff.2 hm
/-- A vertex goes. -/
theorem Peel.goes (h : Peel n A B inn out c d gone q lives) (hL : LiveSet n A B lives) {t : Nat} (ht : t < n) (hg : gone t = false) (h0 : inn t = 0 ∨ out t = 0) : Peel n A B inn out c d (updN gone t true) (q ++ [t]) lives := by
  have htq : t ∉ q := fun r => by have := (h.goneq t).2 r; rw [hg] at this; cases this
  refine ⟨h.deg1, h.deg2, ?_, fun x => ?_, fun x hx => ?_, fun v hv => h.fresh v (fun r => hv (List.mem_append_left _ r)), fun x hx hl => ?_⟩
  · exact List.nodup_append.2 ⟨h.nodup, by simp, fun x hx y hy e => by cases List.mem_singleton.1 hy; subst e; exact htq hx⟩
  · by_cases e : x = t
    · subst e; rw [updN_same]; simp
    · rw [updN_other _ _ _ e, h.goneq]; simp [e]
  · rcases List.mem_append.1 hx with hx | hx
    · exact h.low x hx
    · cases List.mem_singleton.1 hx; exact ht
  · by_cases e : x = t
    · subst e
      have := h.live_in hL hx hl; omega
    · rw [updN_other _ _ _ e]; exact h.keep x hx hl
/-- An arrow of a vertex that has gone. -/
theorem Peel.arrow1 (h : Peel n A B inn out c d gone q lives) {v j t : Nat} (hv : v ∈ q) (hj : c v = j) (ht : (A v)[j]? = some t) (htn : t < n) :
    0 < inn t ∧ Peel n A B (updN inn t (inn t - 1)) out (updN c v (j + 1)) d gone q lives := by
  obtain ⟨h1, h2⟩ := h.deg1.step (h.low v hv) hj ht htn
  exact ⟨h1, h2, h.deg2, h.nodup, h.goneq, h.low, fun u hu => by
    have e : u ≠ v := fun e => hu (by rw [e]; exact hv)
    rw [updN_other _ _ _ e]; exact h.fresh u hu, h.keep⟩
/-- At the end each vertex that is left has neighbours that are left, on both sides. -/
theorem Peel.left (h : Peel n A B inn out c d gone q lives) (hall : ∀ v ∈ q, c v = (A v).length ∧ d v = (B v).length) (hpos : ∀ t, t < n → gone t = false → 0 < inn t ∧ 0 < out t) {t : Nat} (ht : t < n) (hg : gone t = false) :
    (∃ p, p < n ∧ gone p = false ∧ t ∈ A p) ∧ ∃ p, p < n ∧ gone p = false ∧ t ∈ B p := by
  obtain ⟨h1, h2⟩ := hpos t ht hg
  rw [h.deg1 t ht] at h1
  rw [h.deg2 t ht] at h2
  obtain ⟨p, hp, hc⟩ := sumN_pos.1 h1
  obtain ⟨p2, hp2, hc2⟩ := sumN_pos.1 h2
  refine ⟨⟨p, hp, ?_, List.mem_of_mem_drop (List.count_pos_iff.1 hc)⟩, ⟨p2, hp2, ?_, List.mem_of_mem_drop (List.count_pos_iff.1 hc2)⟩⟩
  · cases hgp : gone p with
    | false => rfl
    | true => rw [(hall p ((h.goneq p).1 hgp)).1, List.drop_length] at hc; simp at hc
  · cases hgp : gone p2 with
    | false => rfl
    | true => rw [(hall p2 ((h.goneq p2).1 hgp)).2, List.drop_length] at hc2; simp at hc2
end
end Go.Proofs.YtmbdmkmomngkkaaGreatDoor

namespace Go.Proofs.YtmbdmkmomngkkaaGreatDoor
open Go.RowKit
set_option maxRecDepth 100000

/-- How often what is told stands there. -/
def CntTo (G : List (List Int)) (k j : Nat) (F : Nat → List Int) : Prop :=
  ∀ t, t < G.length → ∀ v : Nat, (F t).count (v : Int) = if v < k then (G.getD v []).count (t : Int) else if v = k then ((G.getD k []).take j).count (t : Int) else 0
theorem CntTo.zero (G : List (List Int)) : CntTo G 0 0 (fun _ => []) := by
  intro t _ v
  rw [if_neg (by omega)]
  split <;> simp
theorem CntTo.next {G : List (List Int)} {k : Nat} {F : Nat → List Int} (h : CntTo G k (G.getD k []).length F) : CntTo G (k + 1) 0 F := by
  intro t ht v
  rw [h t ht v, List.take_length]
  by_cases e : v < k
  · rw [if_pos e, if_pos (by omega)]
  · rw [if_neg e]
    by_cases e2 : v = k
    · subst e2; rw [if_pos rfl, if_pos (by omega)]
    · rw [if_neg e2, if_neg (by omega)]
      split <;> simp
theorem CntTo.add {G : List (List Int)} {k j u : Nat} {F : Nat → List Int} (h : CntTo G k j F) (hj : (G.getD k [])[j]? = some (u : Int)) : CntTo G k (j + 1) (updN F u (F u ++ [(k : Int)])) := by
  have htk : (G.getD k []).take (j + 1) = (G.getD k []).take j ++ [(u : Int)] := by
    rw [List.take_add_one, hj]; rfl
  intro t ht v
  have h1 := h t ht v
  rw [htk, List.count_append]
  by_cases e : t = u
  · subst e
    rw [updN_same, List.count_append, h1]
    by_cases e1 : v < k
    · rw [if_pos e1, if_pos e1]
      have : ([(k : Int)] : List Int).count (v : Int) = 0 := by
        rw [List.count_eq_zero]; simp; omega
      omega
    · rw [if_neg e1, if_neg e1]
      by_cases e2 : v = k
      · subst e2; rw [if_pos rfl, if_pos rfl]; simp
      · rw [if_neg e2, if_neg e2]
        rw [Nat.zero_add, List.count_eq_zero]; simp; omega
  · rw [updN_other _ _ _ e, h1]
    have : ([(u : Int)] : List Int).count (t : Int) = 0 := by
      rw [List.count_eq_zero]; simp; omega
    rw [this, Nat.add_zero]
/-- Turned, with how often. -/
structure TurnedX (G H : List (List Int)) : Prop where
  t : TurnedOf G H
  cnt : ∀ t v, t < G.length → v < G.length → (adjOf H t).count v = (adjOf G v).count t
theorem count_toNat : ∀ (l : List Int) (x : Nat), (∀ y ∈ l, 0 ≤ y) → (l.map Int.toNat).count x = l.count (x : Int)
  | [], _, _ => rfl
  | a :: l, x, h => by
    rw [List.map_cons, List.count_cons, List.count_cons, count_toNat l x (fun y hy => h y (List.mem_cons_of_mem _ hy))]
    have ha := h a List.mem_cons_self
    by_cases e : a = (x : Int)
    · subst e; simp
    · have : ¬ a.toNat = x := by omega
      simp [e, this]
theorem TurnedX.of {G : List (List Int)} {F : Nat → List Int} (hok : GraphOk G) (h : BackTo G G.length 0 F) (hc : CntTo G G.length 0 F) : TurnedX G (rowsOf G.length F) := by
  have hT := h.turned
  refine ⟨hT, fun t v ht hv => ?_⟩
  unfold adjOf
  rw [rowsOf_get _ _ _ ht, count_toNat, count_toNat, hc t ht v, if_pos hv]
  · exact fun y hy => (hok v hv y hy).1
  · intro y hy
    obtain ⟨v, rfl, _⟩ := ((h t ht).2 y).1 hy
    omega

/-- Lists of which all was made from block B on. -/
def ListsFrom (B : Nat) (w : World) (v : Value) (G : List (List Int)) : Prop :=
  ∃ vs : List Value, OwnV 22 B w v vs ∧ vs.length = G.length ∧ ∀ i, i < G.length → OwnI B w (vAt vs i) (G.getD i [])
theorem ListsFrom.at {B : Nat} {w : World} {v : Value} {G : List (List Int)} (h : ListsFrom B w v G) : ListsAt w v G := by
  obtain ⟨vs, h1, h2, h3⟩ := h
  exact ⟨vs, h1.at, h2, fun i hi => (h3 i hi).at⟩
theorem ListsFrom.below {B : Nat} {w w' : World} {v : Value} {G : List (List Int)} (h : ListsFrom B w v G) (hb : Below w.heap.size w w') : ListsFrom B w' v G := by
  obtain ⟨vs, h1, h2, h3⟩ := h
  exact ⟨vs, h1.below hb, h2, fun i hi => (h3 i hi).below hb⟩
theorem ListsFrom.set {B : Nat} {w : World} {v : Value} {G : List (List Int)} (h : ListsFrom B w v G) {a : Addr} (ha : a.block < B) (u : Value) : ListsFrom B (w.setCell a u) v G := by
  obtain ⟨vs, h1, h2, h3⟩ := h
  exact ⟨vs, OwnV.setBelowBase h1 ha u, h2, fun i hi => OwnV.toI (OwnV.setBelowBase (h3 i hi).toV ha u)⟩
theorem WN.from {B : Nat} {w : World} {f : Names} {ov : Value} {vals : List Value} {n : Nat} {F : Nat → List Int} (h : WN f ov vals n F) (hr : Rows B w f) : ListsFrom B w ov (rowsOf n F) :=
  ⟨vals, hr.ownV h.outer, by rw [h.len, rowsOf_len], fun i hi => by
    rw [rowsOf_len] at hi
    rw [rowsOf_get n F i hi]
    exact hr.ownI (h.rows i hi)⟩

end Go.Proofs.YtmbdmkmomngkkaaGreatDoor

namespace Go.Proofs.YtmbdmkmomngkkaaGreatDoor
open Go.RowKit
set_option maxRecDepth 100000

end Go.Proofs.YtmbdmkmomngkkaaGreatDoor

namespace Go.Proofs.YtmbdmkmomngkkaaGreatDoor
open Go.RowKit
set_option maxRecDepth 100000

/-- The least of the first k neighbours that are nearer by one. -/
def BestTo (l : List Nat) (D : Nat → Int) (d : Int) (k : Nat) (b : Int) : Prop :=
  (b = -1 ∧ ∀ t ∈ l.take k, D t ≠ d) ∨ ∃ m : Nat, b = m ∧ m ∈ l.take k ∧ D m = d ∧ ∀ t ∈ l.take k, D t = d → m ≤ t
theorem BestTo.zero (l : List Nat) (D : Nat → Int) (d : Int) : BestTo l D d 0 (-1) := .inl ⟨rfl, fun t ht => by simp at ht⟩
theorem BestTo.low {l : List Nat} {D : Nat → Int} {d : Int} {k : Nat} {b : Int} (h : BestTo l D d k b) : -1 ≤ b := by
  rcases h with ⟨h, _⟩ | ⟨m, h, _⟩ <;> omega
theorem take_mem {l : List Nat} {k t : Nat} (ht : l[k]? = some t) (x : Nat) : x ∈ l.take (k + 1) ↔ x ∈ l.take k ∨ x = t := by
  rw [List.take_add_one, ht]; simp
theorem BestTo.take {l : List Nat} {D : Nat → Int} {d : Int} {k : Nat} {b : Int} (h : BestTo l D d k b) {t : Nat} (ht : l[k]? = some t) (hd : D t = d) (hb : b < 0 ∨ (t : Int) < b) : BestTo l D d (k + 1) t := by
  refine .inr ⟨t, rfl, (take_mem ht t).2 (.inr rfl), hd, fun x hx hxd => ?_⟩
  rcases (take_mem ht x).1 hx with hx | rfl
  · rcases h with ⟨h1, h2⟩ | ⟨m, h1, h2, h3, h4⟩
    · exact absurd hxd (h2 x hx)
    · have := h4 x hx hxd; omega
  · exact Nat.le_refl _
theorem BestTo.stay {l : List Nat} {D : Nat → Int} {d : Int} {k : Nat} {b : Int} (h : BestTo l D d k b) {t : Nat} (ht : l[k]? = some t) (hb : 0 ≤ b) (hbt : b ≤ t) : BestTo l D d (k + 1) b := by
  rcases h with ⟨h1, h2⟩ | ⟨m, h1, h2, h3, h4⟩
  · omega
  · refine .inr ⟨m, h1, (take_mem ht m).2 (.inl h2), h3, fun x hx hxd => ?_⟩
    rcases (take_mem ht x).1 hx with hx | rfl
    · exact h4 x hx hxd
    · omega

/-- Where the way stands. -/
structure Down (n : Nat) (adj : Nat → List Nat) (x y : Nat) (D : Nat → Int) (out : List Nat) (v : Nat) : Prop where
  low : v < n
  there : 0 ≤ D v
  len : (out.length : Int) + D v = D x + 1
  last : ∃ pre, out = pre ++ [v]
  ext : ∀ u, IsFirst adj v y u → ∀ pre, out = pre ++ [v] → IsFirst adj x y (pre ++ u)
theorem Down.start {n : Nat} {adj : Nat → List Nat} {x y : Nat} {D : Nat → Int} (hx : x < n) (h0 : 0 ≤ D x) : Down n adj x y D [x] x :=
  ⟨hx, h0, by simp; omega, ⟨[], rfl⟩, fun u hu pre hp => by
    cases pre with
    | nil => exact hu
    | cons a pre => simp at hp⟩
theorem Down.next {n : Nat} {adj : Nat → List Nat} {x y : Nat} {D : Nat → Int} {out : List Nat} {v m : Nat} (h : Down n adj x y D out v) (hT : ToOf n adj y D) (hlt : ∀ v, v < n → ∀ t ∈ adj v, t < n) (hm : m ∈ adj v) (hd : D m = D v - 1) (h1 : 1 ≤ D v)
    (hmin : ∀ t ∈ adj v, D t = D v - 1 → m ≤ t) : Down n adj x y D (out ++ [m]) m := by
  refine ⟨hlt v h.low m hm, by omega, by rw [List.length_append, List.length_singleton]; have := h.len; omega, ⟨out, rfl⟩, fun u hu pre hp => ?_⟩
  have hp2 : out = pre := List.append_inj_left' hp rfl
  subst hp2
  obtain ⟨pre, hpre⟩ := h.last
  have := h.ext (v :: u) (step_first hT hlt h.low hm hd (by omega) hmin hu) pre hpre
  rw [hpre, List.append_assoc]
  exact this
theorem IsFirst.one (adj : Nat → List Nat) (y : Nat) : IsFirst adj y y [y] := by
  refine ⟨.one y, fun u hu => hu.pos, fun u hu hl => ?_⟩
  obtain ⟨w, rfl⟩ := hu.ne
  cases w with
  | nil => exact lexLe_refl _
  | cons a w => simp at hl
theorem Down.stop {n : Nat} {adj : Nat → List Nat} {x y : Nat} {D : Nat → Int} {out : List Nat} (h : Down n adj x y D out y) : IsFirst adj x y out := by
  obtain ⟨pre, hpre⟩ := h.last
  rw [hpre]
  exact h.ext [y] (IsFirst.one adj y) pre hpre

theorem row_push {B : Nat} {w w1 : World} {f : Names} {i : Nat × Nat} {qv qv' : Value} {q : List Nat} (hr : Rows B w f) (hf : f i = some (rowI qv (castI q))) (t : Nat) (ho : OwnI B w1 qv' (castI q ++ [(t : Int)]))
    (hal : (roomOf qv' = roomOf qv ∧ w.grownBy w1 qv.ownBlock) ∨ (∃ k, qv'.ownBlock = some k ∧ w.heap.size ≤ k ∧ w.grownBy w1 none)) : Rows B w1 (upd f i (some (rowI qv' (castI (q ++ [t]))))) := by
  have hO := hr.ownI hf
  have hg : w.grownBy w1 qv.ownBlock := grown_via (hal.imp (·.2) (fun ⟨_, _, _, q⟩ => q))
  have hob : qv'.ownBlock = qv.ownBlock ∨ ∃ k, qv'.ownBlock = some k ∧ w.heap.size ≤ k := by
    rcases hal with ⟨q, _⟩ | ⟨k, h1, h2, _⟩
    · obtain ⟨a1, n1, c1, e1⟩ := hO.at.shape
      obtain ⟨a2, n2, c2, e2⟩ := ho.at.shape
      exact .inl (ownBlock_of_room e1 e2 q)
    · exact .inr ⟨k, h1, h2⟩
  have := hr.grown (r' := rowI qv' (castI q ++ [(t : Int)])) hf hg ho hob
  rwa [← castI_snoc] at this

end Go.Proofs.YtmbdmkmomngkkaaGreatDoor

namespace Go.Proofs.YtmbdmkmomngkkaaGreatDoor
open Go.RowKit
set_option maxRecDepth 100000

end Go.Proofs.YtmbdmkmomngkkaaGreatDoor

namespace Go.Proofs.YtmbdmkmomngkkaaGreatDoor
open Go.RowKit
set_option maxRecDepth 100000

end Go.Proofs.YtmbdmkmomngkkaaGreatDoor

namespace Go.Proofs.YtmbdmkmomngkkaaGreatDoor

end Go.Proofs.YtmbdmkmomngkkaaGreatDoor

namespace Go.Proofs.YtmbdmkmomngkkaaGreatDoor

end Go.Proofs.YtmbdmkmomngkkaaGreatDoor

namespace Go.Proofs.YtmbdmkmomngkkaaGreatDoor

end Go.Proofs.YtmbdmkmomngkkaaGreatDoor

namespace Go.Proofs.YtmbdmkmomngkkaaGreatDoor
open Go.RowKit
set_option maxRecDepth 100000

theorem Box3.belowB {B : Nat} {w w' : World} {b : Nat} {x0 x1 x2 : Value} (h : Box3 w b x0 x1 x2) (hb : Below B w w') (hlt : b < B) : Box3 w' b x0 x1 x2 := by
  obtain ⟨⟨h0, h1, h2⟩, f0, f1, f2⟩ := h
  exact ⟨⟨(hb.cell (p := ⟨b, 0, none⟩) hlt).trans h0, (hb.cell (p := ⟨b, 1, none⟩) hlt).trans h1, (hb.cell (p := ⟨b, 2, none⟩) hlt).trans h2⟩, (hb.frozen (p := ⟨b, 0, none⟩) hlt).trans f0, (hb.frozen (p := ⟨b, 1, none⟩) hlt).trans f1, (hb.frozen (p := ⟨b, 2, none⟩) hlt).trans f2⟩
theorem Box3.far {w : World} {b b' : Nat} {x0 x1 x2 : Value} (h : Box3 w b x0 x1 x2) (hne : b' ≠ b) (i : Nat) (u : Value) : Box3 (w.setCell ⟨b', i, none⟩ u) b x0 x1 x2 := by
  obtain ⟨⟨h0, h1, h2⟩, f0, f1, f2⟩ := h
  refine ⟨⟨?_, ?_, ?_⟩, ?_, ?_, ?_⟩
  · rw [World.cell?_setCell_far _ _ _ _ hne]; exact h0
  · rw [World.cell?_setCell_far _ _ _ _ hne]; exact h1
  · rw [World.cell?_setCell_far _ _ _ _ hne]; exact h2
  · simpa using f0
  · simpa using f1
  · simpa using f2
end Go.Proofs.YtmbdmkmomngkkaaGreatDoor

namespace Go.Proofs.YtmbdmkmomngkkaaGreatDoor
open Go.RowKit
set_option maxRecDepth 100000

theorem OwnI.set3 {B b : Nat} {w : World} {v : Value} {xs : List Int} (h : OwnI B w v xs) (hb : b < B) (x y z : Value) : OwnI B (((w.setCell ⟨b, 0, none⟩ x).setCell ⟨b, 1, none⟩ y).setCell ⟨b, 2, none⟩ z) v xs :=
  OwnV.toI (((h.toV.setBelowBase (a := ⟨b, 0, none⟩) hb x).setBelowBase (a := ⟨b, 1, none⟩) hb y).setBelowBase (a := ⟨b, 2, none⟩) hb z)
theorem FirstPost.set3 {w w3 w4 : World} {adj : Nat → List Nat} {a b : Nat} {v : Value} (h : FirstPost w3 adj a b v w4) {c : Nat} (hb : c < w3.heap.size) (hs : w.heap.size ≤ w3.heap.size) (x y z : Value) : FirstPost w adj a b v (((w4.setCell ⟨c, 0, none⟩ x).setCell ⟨c, 1, none⟩ y).setCell ⟨c, 2, none⟩ z) := by
  rcases h with ⟨u, h1, h2⟩ | h
  · exact .inl ⟨u, h1, (h2.set3 hb x y z).mono hs⟩
  · exact .inr h
end Go.Proofs.YtmbdmkmomngkkaaGreatDoor

namespace Go.Proofs.YtmbdmkmomngkkaaGreatDoor
theorem Goes.loop {adj : Nat → List Nat} {x y : Nat} (h : Goes adj x y) (ha : x ∈ adj y) : OnLoop adj x := by
  obtain ⟨w, hw⟩ := h.way
  cases hw with
  | one => exact ⟨x, ha, .refl x⟩
  | @cons _ t _ w ht hw => exact ⟨t, ht, .step hw.goes ha⟩
end Go.Proofs.YtmbdmkmomngkkaaGreatDoor

namespace Go.Proofs.YtmbdmkmomngkkaaGreatDoor

/-- Between two rounds. -/
structure PS (n : Nat) (A B : Nat → List Nat) (inn out c d : Nat → Nat) (gone : Nat → Bool) (q : List Nat) (lives : Nat → Prop) (i : Nat) : Prop where
  peel : Peel n A B inn out c d gone q lives
  pos : ∀ t, t < n → gone t = false → 0 < inn t ∧ 0 < out t
  done : ∀ j x, j < i → q[j]? = some x → c x = (A x).length ∧ d x = (B x).length
  rest : ∀ j x, i ≤ j → q[j]? = some x → c x = 0 ∧ d x = 0
/-- Within a round. -/
structure Mid (n : Nat) (A B : Nat → List Nat) (inn out c d : Nat → Nat) (gone : Nat → Bool) (q : List Nat) (lives : Nat → Prop) (i v : Nat) : Prop where
  peel : Peel n A B inn out c d gone q lives
  pos : ∀ t, t < n → gone t = false → 0 < inn t ∧ 0 < out t
  cur : q[i]? = some v
  done : ∀ j x, j < i → q[j]? = some x → c x = (A x).length ∧ d x = (B x).length
  rest : ∀ j x, i < j → q[j]? = some x → c x = 0 ∧ d x = 0
section
variable {n : Nat} {A B : Nat → List Nat} {inn out c d : Nat → Nat} {gone : Nat → Bool} {q : List Nat} {lives : Nat → Prop} {i v : Nat}
theorem PS.enter (h : PS n A B inn out c d gone q lives i) (hv : q[i]? = some v) : Mid n A B inn out c d gone q lives i v ∧ c v = 0 ∧ d v = 0 ∧ v < n :=
  ⟨⟨h.peel, h.pos, hv, h.done, fun j x hj hx => h.rest j x (by omega) hx⟩, (h.rest i v (Nat.le_refl _) hv).1, (h.rest i v (Nat.le_refl _) hv).2, h.peel.low v (List.mem_of_getElem? hv)⟩
theorem Mid.leave (h : Mid n A B inn out c d gone q lives i v) (hc : c v = (A v).length) (hd : d v = (B v).length) : PS n A B inn out c d gone q lives (i + 1) := by
  refine ⟨h.peel, h.pos, fun j x hj hx => ?_, fun j x hj hx => h.rest j x (by omega) hx⟩
  by_cases e : j = i
  · subst e
    rw [h.cur] at hx; cases hx
    exact ⟨hc, hd⟩
  · exact h.done j x (by omega) hx
/-- An arrow of v is gone through. -/
theorem Mid.step (h : Mid n A B inn out c d gone q lives i v) (hL : LiveSet n A B lives) {k t : Nat} (hk : c v = k) (ht : (A v)[k]? = some t) (htn : t < n) :
    0 < inn t ∧ (inn t = 1 → gone t = false → Mid n A B (updN inn t (inn t - 1)) out (updN c v (k + 1)) d (updN gone t true) (q ++ [t]) lives i v) ∧
    ((inn t = 1 → gone t = true) → Mid n A B (updN inn t (inn t - 1)) out (updN c v (k + 1)) d gone q lives i v) := by
  have hvq := List.mem_of_getElem? h.cur
  obtain ⟨h0, hp⟩ := h.peel.arrow1 hvq hk ht htn
  have hne : ∀ j x, j ≠ i → q[j]? = some x → x ≠ v := fun j x hj hx e => hj (get_inj h.peel.nodup (by rw [hx, e]) h.cur)
  have hdone : ∀ j x, j < i → q[j]? = some x → updN c v (k + 1) x = (A x).length ∧ d x = (B x).length := fun j x hj hx => by
    rw [updN_other _ _ _ (hne j x (by omega) hx)]; exact h.done j x hj hx
  have hrest : ∀ j x, i < j → q[j]? = some x → updN c v (k + 1) x = 0 ∧ d x = 0 := fun j x hj hx => by
    rw [updN_other _ _ _ (hne j x (by omega) hx)]; exact h.rest j x hj hx
  refine ⟨h0, fun h1 hg => ?_, fun h1 => ?_⟩
  · have htq : t ∉ q := fun hm => by have := (h.peel.goneq t).2 hm; rw [hg] at this; cases this
    have htv : t ≠ v := fun e => htq (by rw [e]; exact hvq)
    have hil := get_of h.cur
    have hga : ∀ j x, (q ++ [t])[j]? = some x → q[j]? = some x ∨ j = q.length ∧ x = t := fun j x hx => by
      by_cases e : j < q.length
      · rw [List.getElem?_append_left e] at hx; exact .inl hx
      · rw [List.getElem?_append_right (by omega)] at hx
        by_cases e2 : j = q.length
        · rw [e2] at hx; simp at hx; exact .inr ⟨e2, hx.symm⟩
        · rw [List.getElem?_eq_none (by simp; omega)] at hx; cases hx
    refine ⟨hp.goes hL htn hg (.inl (by rw [updN_same]; omega)), fun x hx hgx => ?_, by rw [List.getElem?_append_left hil]; exact h.cur, fun j x hj hx => ?_, fun j x hj hx => ?_⟩
    · by_cases e : x = t
      · subst e; rw [updN_same] at hgx; cases hgx
      · rw [updN_other _ _ _ e] at hgx ⊢; exact h.pos x hx hgx
    · rcases hga j x hx with hx | ⟨hj2, _⟩
      · exact hdone j x hj hx
      · omega
    · rcases hga j x hx with hx | ⟨_, rfl⟩
      · exact hrest j x hj hx
      · rw [updN_other _ _ _ htv]; exact h.peel.fresh x htq
  · refine ⟨hp, fun x hx hgx => ?_, h.cur, hdone, hrest⟩
    by_cases e : x = t
    · subst e
      rw [updN_same]
      have := (h.pos x hx hgx).2
      have : inn x ≠ 1 := fun e => by have := h1 e; rw [hgx] at this; cases this
      omega
    · rw [updN_other _ _ _ e]; exact h.pos x hx hgx
end
/-- The beginning: the first k have been looked at. -/
structure PStart (n : Nat) (A B : Nat → List Nat) (gone : Nat → Bool) (q : List Nat) (lives : Nat → Prop) (k : Nat) : Prop where
  peel : Peel n A B (fun t => (B t).length) (fun t => (A t).length) (fun _ => 0) (fun _ => 0) gone q lives
  pos : ∀ t, t < k → gone t = false → 0 < (B t).length ∧ 0 < (A t).length
  below : ∀ x ∈ q, x < k
section
variable {n : Nat} {A B : Nat → List Nat} {gone : Nat → Bool} {q : List Nat} {lives : Nat → Prop} {k : Nat}
theorem PStart.zero (hA : ∀ t, t < n → ∀ x ∈ A t, x < n) (hB : ∀ t, t < n → ∀ x ∈ B t, x < n) (hc : ∀ t v, t < n → v < n → (B t).count v = (A v).count t) : PStart n A B (fun _ => false) [] lives 0 :=
  ⟨⟨Deg.init hB (fun v t hv ht => hc t v ht hv), Deg.init hA (fun v t hv ht => (hc v t hv ht).symm), by simp, fun x => by simp, fun x hx => by simp at hx, fun _ _ => ⟨rfl, rfl⟩, fun _ _ _ => rfl⟩, fun t ht => by omega, fun x hx => by simp at hx⟩
theorem PStart.take (h : PStart n A B gone q lives k) (hL : LiveSet n A B lives) (hk : k < n) (h0 : (A k).length = 0 ∨ (B k).length = 0) : PStart n A B (updN gone k true) (q ++ [k]) lives (k + 1) := by
  have hg : gone k = false := by
    cases hgk : gone k with
    | false => rfl
    | true => have := h.below k ((h.peel.goneq k).1 hgk); omega
  refine ⟨h.peel.goes hL hk hg h0.symm, fun t ht hgt => ?_, fun x hx => ?_⟩
  · by_cases e : t = k
    · subst e; rw [updN_same] at hgt; cases hgt
    · rw [updN_other _ _ _ e] at hgt; exact h.pos t (by omega) hgt
  · rcases List.mem_append.1 hx with hx | hx
    · have := h.below x hx; omega
    · cases List.mem_singleton.1 hx; omega
theorem PStart.all (h : PStart n A B gone q lives n) : PS n A B (fun t => (B t).length) (fun t => (A t).length) (fun _ => 0) (fun _ => 0) gone q lives 0 :=
  ⟨h.peel, h.pos, fun j x hj => by omega, fun _ _ _ _ => ⟨rfl, rfl⟩⟩
end
end Go.Proofs.YtmbdmkmomngkkaaGreatDoor

namespace Go.Proofs.YtmbdmkmomngkkaaGreatDoor
open Go.RowKit
set_option maxRecDepth 100000

/-- The memory of the peeling. -/
structure LvN (f : Names) (ov iv gv qv : Value) (n : Nat) (out inn : Nat → Nat) (gone : Nat → Bool) (q : List Nat) : Prop where
  outs : f (1, 0) = some (rowI ov (tab n out))
  inns : f (2, 0) = some (rowI iv (tab n inn))
  gones : f (3, 0) = some (rowV 4 gv (tabB n gone))
  queue : f (4, 0) = some (rowI qv (castI q))
section
variable {B : Nat} {w : World} {f : Names} {ov iv gv qv : Value} {n : Nat} {out inn : Nat → Nat} {gone : Nat → Bool} {q : List Nat}
theorem LvN.mark (h : LvN f ov iv gv qv n out inn gone q) (hr : Rows B w f) (t : Nat) (ht : t < n) : ∃ f', Rows B (w.setCell (valAt gv t) (.bool true)) f' ∧ LvN f' ov iv gv qv n out inn (updN gone t true) q := by
  have hs := hr.setV h.gones t (by rw [tabB_len]; exact ht) (.bool true)
  rw [tabB_upd] at hs
  exact ⟨_, hs, ⟨by rw [upd_ne _ _ (by simp)]; exact h.outs, by rw [upd_ne _ _ (by simp)]; exact h.inns, upd_same _ _ _, by rw [upd_ne _ _ (by simp)]; exact h.queue⟩⟩
theorem LvN.push (h : LvN f ov iv gv qv n out inn gone q) (hr : Rows B w f) {w1 : World} {qv' : Value} (t : Nat) (ho : OwnI B w1 qv' (castI q ++ [(t : Int)]))
    (hal : (roomOf qv' = roomOf qv ∧ w.grownBy w1 qv.ownBlock) ∨ (∃ k, qv'.ownBlock = some k ∧ w.heap.size ≤ k ∧ w.grownBy w1 none)) : ∃ f', Rows B w1 f' ∧ LvN f' ov iv gv qv' n out inn gone (q ++ [t]) :=
  ⟨_, row_push hr h.queue t ho hal, ⟨by rw [upd_ne _ _ (by simp)]; exact h.outs, by rw [upd_ne _ _ (by simp)]; exact h.inns, by rw [upd_ne _ _ (by simp)]; exact h.gones, upd_same _ _ _⟩⟩
end
theorem tabB_none (n : Nat) : tabB n (fun _ => false) = List.replicate n (.bool false) := by
  unfold tabB; apply List.ext_getElem <;> simp
/-- Box3 below another block. -/
theorem Box3.keep {B : Nat} {w w' : World} {b : Nat} {x0 x1 x2 : Value} (h : Box3 w b x0 x1 x2) (hb : Below B w w') (hlt : b < B) : Box3 w' b x0 x1 x2 := h.belowB hb hlt

end Go.Proofs.YtmbdmkmomngkkaaGreatDoor

namespace Go.Proofs.YtmbdmkmomngkkaaGreatDoor
open Go.RowKit
set_option maxRecDepth 100000

end Go.Proofs.YtmbdmkmomngkkaaGreatDoor

namespace Go.Proofs.YtmbdmkmomngkkaaGreatDoor
open Go.RowKit
set_option maxRecDepth 100000

theorem symbol_any (K R : Nat) (va : Option Addr) (vn vc : Nat) (T : List Int) (u : Value) (ys : List Int) (w : World) (h : IntsAt w (.slice va vn vc) T) (hr : RuleOk K R T) (hu : IntsAt w u ys) (hy : Syms K ys) (hyl : ys.length = 2 * R + 1) :
    Calls Tryz.prog 135 #[.agg #[.int .i64 K, .int .i64 R, .slice va vn vc], u] w (Ret1 (fun x _ => x = .int .i64 (T.getD (numW K ys) 0)) w) := by
  have hb0 := belowAlloc w (.cells #[.int .i64 K, .int .i64 R, .slice va vn vc] 24)
  have hR := hr.r3
  have hk1 := hr.k1
  have hk4 := hr.k4
  have l1 := hu.len
  have hb7 : ys.length ≤ 7 := by omega
  have hnl : numW K ys < T.length := by rw [hr.len, ← hyl]; exact numW_lt ys hy
  generalize hy0 : T.getD (numW K ys) 0 = y0
  replace hy0 := Lib.hid hy0
  replace hnl := Lib.hid hnl
  replace hyl := Lib.hid hyl
  replace h := Lib.hid (h.below hb0)
  replace hu := Lib.hid (hu.below hb0)
  replace hy := Lib.hid hy
  replace hr := Lib.hid hr
  obtain ⟨ua, un, uc, rfl⟩ := hu.out.shape
  go_enter Tryz.func135, Tryz.ntmps135
  go_wp2
  go_loop [5, 10] (fun n i => ∃ j : Nat, j ≤ ys.length ∧ i = .int .i64 j ∧ n = .int .i64 (numW K (ys.take j))) (fun _ i => ys.length - (intOf i).toNat)
  case atStart => exact ⟨0, by omega, rfl, rfl⟩
  case round =>
    obtain ⟨j, hj, rfl, rfl⟩ := hrel
    by_cases hjl : j < ys.length
    · have i1 := hu.out.idx j hjl
      have c1 := hu.out.cell j hjl
      have hx := hy.out ys[j] (by simp)
      have hn : Hid (numW K (ys.take (j + 1)) = numW K (ys.take j) * K + ys[j].toNat) := by
        show _ = _
        rw [take_snoc ys j hjl, numW_snoc]
      have hn2 : numW K (ys.take j) ≤ 16384 := by
        have h1 := numW_lt (ys.take j) (fun x hx => hy.out x (List.mem_of_mem_take hx))
        have h2 := pw_le hk1 hk4 (i := (ys.take j).length) (by simp; omega)
        omega
      generalize ys[j] = x at c1 hx hn
      generalize numW K (ys.take j) = N at hn hn2
      have hm1 : 0 ≤ (N : Int) * (K : Int) := Int.mul_nonneg (by omega) (by omega)
      have hm2 : (N : Int) * (K : Int) ≤ 65536 := by
        have : N * K ≤ 65536 := Nat.mul_le_mul hn2 hk4
        have h2 := Int.ofNat_le.2 this
        rw [Int.natCast_mul] at h2
        exact h2
      go_wp2
      go_round
      case rel => exact ⟨j + 1, by omega, by go_num, by rw [hn.out]; go_num⟩
      case measure => simp [intOf]; omega
    · obtain rfl : j = ys.length := by omega
      rw [List.take_length]
      have i2 := h.out.idx (numW K ys) hnl.out
      have c2 := h.out.cellD (numW K ys) hnl.out
      rw [hy0.out] at c2
      clear hy0 hnl
      generalize numW K ys = N at i2 c2
      go_wp2
      go_ret
      exact ⟨_, rfl, hb0, rfl⟩

end Go.Proofs.YtmbdmkmomngkkaaGreatDoor

namespace Go.Proofs.YtmbdmkmomngkkaaGreatDoor
open Go.RowKit
set_option maxRecDepth 100000

/-- The table of a function of windows. -/
def madeP (K n : Nat) (s : List Int → Int) (m : Nat) : List Int := (List.range m).map fun x => s (digs K n x)
theorem madeP_length (K n : Nat) (s : List Int → Int) (m : Nat) : (madeP K n s m).length = m := by simp [madeP]

theorem madeP_set (K n : Nat) (s : List Int → Int) (m P : Nat) (h : m < P) : (madeP K n s m ++ List.replicate (P - m) (0 : Int)).set m (s (digs K n m)) = madeP K n s (m + 1) ++ List.replicate (P - (m + 1)) 0 := by
  rw [List.set_append_right _ _ (by rw [madeP_length]; exact Nat.le_refl _), madeP_length, Nat.sub_self, show P - m = (P - (m + 1)) + 1 by omega, List.replicate_succ, List.set_cons_zero, madeP, madeP, List.range_succ, List.map_append, List.append_assoc]
  rfl

set_option maxHeartbeats 800000 in
theorem made_two0 (K R F : Nat) (c1 c2 : Value) (s : List Int → Int) (w : World) (hk1 : 1 ≤ K) (hk4 : K ≤ 4) (hR : R ≤ 3)
    (eg : ∀ args w, (callFunc F args).run Tryz.prog w = .ok (.enter F args) w)
    (hF : ∀ (v : Value) (ys : List Int) (w' : World), Below w.heap.size w w' → IntsAt w' v ys → Syms K ys → ys.length = 2 * R + 1 → Calls Tryz.prog F #[v, c1, c2] w' (Ret1 (fun x _ => x = .int .i64 (s ys)) w')) :
    Calls Tryz.prog 132 #[.int .i64 K, .int .i64 R, .func (.func F) #[] #[c1, c2]] w (Ret1 (fun x w' => ∃ a n c, x = .agg #[.int .i64 K, .int .i64 R, .slice a n c] ∧ OwnI w.heap.size w' (.slice a n c) (madeP K (2 * R + 1) s (pw K (2 * R + 1)))) w) := by
  have hpl := pw_le hk1 hk4 (i := 2 * R + 1) (by omega)
  replace hF := Lib.hid hF
  go_enter Tryz.func132, Tryz.ntmps132
  go_wp2_with fail
  refine (size_ok K R _ hk1 hk4 hR).mono ?_
  rintro e w' ⟨rfl, rfl⟩
  go_wp2_with fail
  have hb0 := belowAlloc w (.cells #[.int .i64 0, .int .i64 0, .slice none 0 0] 24)
  obtain ⟨tv, w1, hmk, ho1, hb1⟩ := run_makeI ((pw K (2 * R + 1) : Nat) : Int) (pw K (2 * R + 1)) (w.alloc (.cells #[.int .i64 0, .int .i64 0, .slice none 0 0] 24)) rfl (by omega)
  obtain ⟨ta, tn, tc, rfl⟩ := ho1.at.shape
  rw [hmk]
  simp only [Result.andThen]
  clear hmk
  generalize hN : 2 * R + 1 = N at *
  go_wp2_with fail
  obtain ⟨wv, w2, hmk2, ho2, hb2⟩ := run_makeI (2 * (R : Int) + 1) N (w1.alloc (.cells #[.int .i64 K, .int .i64 R, .slice ta tn tc] 24)) (by omega) (by omega)
  obtain ⟨wa, wn, wc, rfl⟩ := ho2.at.shape
  rw [hmk2]
  simp only [Result.andThen]
  clear hmk2
  obtain ⟨z0, z1, z2, -, -, -⟩ := cells3 hb2
  have lt := (ho1.at.len)
  rw [List.length_replicate] at lt
  have hN7 : N ≤ 7 := by omega
  replace hN := Lib.hid hN
  have ltb : ∀ k, (Value.slice ta tn tc).ownBlock = some k → k < w1.heap.size := fun k hk => (ho1.lt k hk).2
  have lwn := ho2.at.len
  rw [List.length_replicate] at lwn
  have ho1' := Lib.hid ((ho1.alloc (.cells #[.int .i64 K, .int .i64 R, .slice ta tn tc] 24)).below hb2)
  have zz := Lib.hid (And.intro z0 (And.intro z1 z2))
  have hbw := Lib.hid (hb1.trans ((Below.step (belowAlloc w1 (.cells #[.int .i64 K, .int .i64 R, .slice ta tn tc] 24)) hb2).mono hb1.size))
  replace ho2 := Lib.hid ho2
  replace ltb := Lib.hid ltb
  have hsz1 := hb1.size
  simp at hsz1
  have hM : pw K N = pw K N := rfl
  clear hM
  go_wp2
  go_loopw [32] (fun i wr => ∃ m : Nat, m ≤ pw K N ∧ i = .int .i64 m ∧ OwnI (w.heap.size + 1) wr (.slice ta tn tc) (madeP K N s m ++ List.replicate (pw K N - m) 0) ∧ (∃ p : List Int, p.length = N ∧ OwnI (w1.heap.size + 1) wr (.slice wa wn wc) p) ∧
      (wr.cell? ⟨w1.heap.size, 0, none⟩ = some (.int .i64 K) ∧ wr.cell? ⟨w1.heap.size, 1, none⟩ = some (.int .i64 R) ∧ wr.cell? ⟨w1.heap.size, 2, none⟩ = some (.slice ta tn tc)) ∧
      Below (w.heap.size + 1) (w.alloc (.cells #[.int .i64 0, .int .i64 0, .slice none 0 0] 24)) wr) (fun i _ => pw K N - (intOf i).toNat)
  case atStart => exact ⟨0, by omega, rfl, by simpa [madeP] using ho1'.out, ⟨List.replicate N 0, by simp, by simpa using ho2.out⟩, zz.out, by simpa using hbw.out⟩
  case round =>
    obtain ⟨m, hm, rfl, hT, ⟨p, hp, hP⟩, hz, hbO⟩ := hrel
    obtain ⟨wo, rfl⟩ : ∃ wo : World, wo = wr := ⟨_, rfl⟩
    replace hz := Lib.hid hz
    replace hT := Lib.hid hT
    by_cases hml : m < pw K N
    · have hsz2 : w1.heap.size < wo.heap.size := World.block_lt_of_cell? _ _ hz.out.1
      have hK0 : ((K : Int) == 0) = false := by rw [beq_eq_false_iff_ne]; omega
      have hK1 : ¬ (K : Int) = 0 := by omega
      have hK2 : (0 : Int) < K := by omega
      go_wp2
      go_loopw [12, 38] (fun x i wr => ∃ j : Nat, j ≤ N ∧ i = .int .i64 j ∧ x = .int .i64 (m / pw K j : Nat) ∧ OwnI (w1.heap.size + 1) wr (.slice wa wn wc) (p.take (N - j) ++ (digs K N m).drop (N - j)) ∧ Below (w1.heap.size + 1) wo wr) (fun _ i _ => N - (intOf i).toNat)
      case atStart => exact ⟨0, by omega, rfl, by simp [pw], by rw [Nat.sub_zero, List.drop_of_length_le (by rw [digs_length]; exact Nat.le_refl _), List.append_nil, List.take_of_length_le (by omega)]; exact hP, Below.refl _ _⟩
      case round =>
        obtain ⟨j, hj, rfl, rfl, hO, hbI⟩ := hrel
        obtain ⟨wi, rfl⟩ : ∃ wi : World, wi = wr := ⟨_, rfl⟩
        by_cases hjl : j < N
        · have hXl : (p.take (N - j) ++ (digs K N m).drop (N - j)).length = N := by simp [digs_length]; omega
          have i1 : ∀ w', (Instr.indexAt 22 (.slice wa wn wc) (.int .i64 ((N : Int) - 1 - (j : Int)))).run Tryz.prog w' = .ok (.pointer (some (valAt (.slice wa wn wc) (N - 1 - j)))) w' := by
            intro w'
            have := hO.at.idxI ((N : Int) - 1 - (j : Int)) (by omega) (by rw [hXl]; omega) w'
            rwa [show ((N : Int) - 1 - (j : Int)).toNat = N - 1 - j by omega] at this
          have c1 := hO.at.cellD (N - 1 - j) (by rw [hXl]; omega)
          have f1 := hO.frz (N - 1 - j) (by rw [hXl]; omega)
          have hS := hO.set (N - 1 - j) (by rw [hXl]; omega) ((m / pw K j % K : Nat) : Int)
          have hbS := hO.setBelow hbI (N - 1 - j) (by rw [hXl]; omega) (.int .i64 ((m / pw K j % K : Nat) : Int))
          rw [digs_fill K N m j hjl p hp] at hS
          replace hS := Lib.hid hS
          replace hbS := Lib.hid hbS
          have hqd : m / pw K j / K = m / pw K (j + 1) := by rw [Nat.div_div_eq_div_mul, ← pw_succ]
          replace hqd := Lib.hid hqd
          have hql : m / pw K j ≤ 16384 := Nat.le_trans (Nat.div_le_self _ _) (by omega)
          generalize (p.take (N - j) ++ (digs K N m).drop (N - j)).getD (N - 1 - j) 0 = y at c1
          clear hXl hO
          generalize m / pw K j = q at *
          rw [Int.natCast_emod] at hS hbS
          have hd0 : 0 ≤ (q : Int) / (K : Int) := Int.ediv_nonneg (by omega) (by omega)
          have hd1 : (q : Int) / (K : Int) ≤ 16384 := by
            have h1 : q / K ≤ q := Nat.div_le_self _ _
            have h2 : q / K ≤ 16384 := by omega
            exact_mod_cast h2
          have hdw : IntKind.i64.wrap ((q : Int) / (K : Int)) = (q : Int) / (K : Int) := wrapK (by omega) (by omega)
          go_wp2
          go_roundw
          case rel => exact ⟨j + 1, by omega, by go_num, by rw [← hqd.out]; simp, hS.out, hbS.out⟩
          case measure => simp [intOf]; omega
        · have hjN : j = N := by omega
          subst hjN
          rw [Nat.sub_self, List.take_zero, List.drop_zero, List.nil_append] at hO
          have hbW : Below w.heap.size w wi := ((belowAlloc w _).trans (hbO.mono (by omega))).trans (hbI.mono (by omega))
          have hz2 := hbI.cell (p := ⟨w1.heap.size, 2, none⟩) (by simp)
          have hTl : m < (madeP K j s m ++ List.replicate (pw K j - m) (0 : Int)).length := by simp [madeP_length]; omega
          have hTi := hT.out.belowB hbI (fun k hk => by have := ltb.out k hk; omega)
          have i2 := hTi.at.idx m hTl
          have c2 := hTi.at.cellD m hTl
          have f2 := hTi.frz m hTl
          have b2 := hTi.at.blk m hTl
          have z2i := hz2.trans hz.out.2.2
          have zbi : (⟨w1.heap.size, 2, none⟩ : Addr).block < wi.heap.size := World.block_lt_of_cell? _ _ z2i
          generalize (madeP K j s m ++ List.replicate (pw K j - m) (0 : Int)).getD m 0 = o at c2
          replace hTi := Lib.hid hTi
          replace hO := Lib.hid hO
          replace hbW := Lib.hid hbW
          replace hTl := Lib.hid hTl
          clear hz2
          have hvb : (valAt (.slice ta tn tc) m).block ≠ w1.heap.size := by
            have := ltb.out _ (hT.out.toV.blkB m (by simpa using hTl.out)).1
            omega
          have hdl : m + 1 ≤ pw K j := hml
          go_wp2
          go_region_held3 (fun w' => w'.cell? ⟨w1.heap.size, 2, none⟩ = some (.slice ta tn tc)) (go_keep)
            (first | (refine (hF.out _ (digs K j m) _ (by first | exact hbW.out.drew | exact hbW.out) (by first | exact hO.out.at.drew | exact hO.out.at) (digs_syms hk1 _ _) (by rw [digs_length])).mono ?_; rintro e w5 ⟨x5, rfl, hb5, rfl⟩; have y1 := (hb5.cell zbi).trans z2i; have y2 := (hb5.cell b2).trans c2; have y3 := (hb5.frozen b2).trans f2; have bb : Below wi.heap.size wi w5 := ((Below.refl _ _).drew).trans hb5))
          have hT5 := (hTi.out.drew.below hb5).set m hTl.out (s (digs K j m))
          rw [madeP_set K j s m _ hml] at hT5
          have hO5 := (hO.out.drew.below hb5).setOther (hTi.out.drew.below hb5) (by
            intro e
            have e1 := (hT.out.toV.blkB m (by simpa using hTl.out)).1
            have e2 := (hO.out.lt _ (e.trans e1)).1
            have e3 := ltb.out _ e1
            omega) m hTl.out (.int .i64 (s (digs K j m)))
          have hB5 := ((hbO.trans (hbI.mono (by omega))).trans (bb.mono (by omega))).setCell ((hTi.out.blkB m hTl.out)) (.int .i64 (s (digs K j m)))
          have x0 := (World.cell?_setCell_far w5 (valAt (.slice ta tn tc) m) ⟨w1.heap.size, 0, none⟩ (.int .i64 (s (digs K j m))) hvb).trans (((bb.cell (p := ⟨w1.heap.size, 0, none⟩) zbi)).trans ((hbI.cell (p := ⟨w1.heap.size, 0, none⟩) (by simp)).trans hz.out.1))
          have x1 := (World.cell?_setCell_far w5 (valAt (.slice ta tn tc) m) ⟨w1.heap.size, 1, none⟩ (.int .i64 (s (digs K j m))) hvb).trans (((bb.cell (p := ⟨w1.heap.size, 1, none⟩) zbi)).trans ((hbI.cell (p := ⟨w1.heap.size, 1, none⟩) (by simp)).trans hz.out.2.1))
          have x2 := (World.cell?_setCell_far w5 (valAt (.slice ta tn tc) m) ⟨w1.heap.size, 2, none⟩ (.int .i64 (s (digs K j m))) hvb).trans y1
          have xx := Lib.hid (And.intro x0 (And.intro x1 x2))
          clear x0 x1 x2
          replace hT5 := Lib.hid hT5
          replace hO5 := Lib.hid hO5
          replace hB5 := Lib.hid hB5
          go_wp2
          go_roundw
          case rel => exact ⟨m + 1, by omega, by go_num, hT5.out, ⟨digs K j m, digs_length .., hO5.out⟩, xx.out, hB5.out⟩
          case measure => simp [intOf]; omega
    · obtain rfl : m = pw K N := by omega
      rw [Nat.sub_self, List.replicate_zero, List.append_nil] at hT
      obtain ⟨z0, z1, z2⟩ := hz.out
      obtain ⟨y0, y1, y2, f0, f1, f2⟩ := cells3 (w := w) (show Below (w.alloc (.cells #[.int .i64 0, .int .i64 0, .slice none 0 0] 24)).heap.size _ wo by simpa using hbO)
      replace hbO := Lib.hid hbO
      go_wp2
      refine bodyPost_ret (v := .agg #[.int .i64 K, .int .i64 R, .slice ta tn tc]) (by simp [results, Tryz.results132, go_sem, y0, y1, y2]) rfl ⟨_, rfl, ?_, ta, tn, tc, rfl, ?_⟩
      · exact (((belowAlloc w _).trans (hbO.out.mono (by omega))).setCell (by simp) _).setCell (by simp) _ |>.setCell (by simp) _
      · rw [hN.out]; exact (((hT.out.setBelowBase (a := ⟨w.heap.size, 0, none⟩) (by simp) _).setBelowBase (a := ⟨w.heap.size, 1, none⟩) (by simp) _).setBelowBase (a := ⟨w.heap.size, 2, none⟩) (by simp) _).mono (Nat.le_succ _)

theorem made_two (K R F : Nat) (c1 c2 : Value) (s : List Int → Int) (w : World) (hk1 : 1 ≤ K) (hk4 : K ≤ 4) (hR : R ≤ 3) (Ri : Int) (hRi : Ri = R)
    (eg : ∀ args w, (callFunc F args).run Tryz.prog w = .ok (.enter F args) w)
    (hF : ∀ (v : Value) (ys : List Int) (w' : World), Below w.heap.size w w' → IntsAt w' v ys → Syms K ys → ys.length = 2 * R + 1 → Calls Tryz.prog F #[v, c1, c2] w' (Ret1 (fun x _ => x = .int .i64 (s ys)) w')) :
    Calls Tryz.prog 132 #[.int .i64 K, .int .i64 Ri, .func (.func F) #[] #[c1, c2]] w (Ret1 (fun x w' => ∃ a n c, x = .agg #[.int .i64 K, .int .i64 R, .slice a n c] ∧ OwnI w.heap.size w' (.slice a n c) (madeP K (2 * R + 1) s (pw K (2 * R + 1)))) w) := by
  subst hRi
  exact made_two0 K R F c1 c2 s w hk1 hk4 hR eg hF
end Go.Proofs.YtmbdmkmomngkkaaGreatDoor

namespace Go.Proofs.YtmbdmkmomngkkaaGreatDoor
open Go.RowKit
set_option maxRecDepth 100000

abbrev zR : Value := .agg #[.int .i64 0, .int .i64 0, .slice none 0 0]
def sForms : ByteArray := ⟨#[102, 111, 114, 109, 115]⟩
theorem forms_check (r : Nat → Addr) (at_ : Int) (k R : Int) (va : Option Addr) (vn vc : Nat) (xs : List Int) (w : World) (hg : Glob r w) (h : IntsAt w (.slice va vn vc) xs) :
    Calls Tryz.prog 62 #[.int .i64 at_, .agg #[.int .i64 k, .int .i64 R, .slice va vn vc]] w (Ret1 (fun x w' => ErrIs r w' (under sForms at_ (checkP k R xs)) x) w) := by
  have hb0 := belowAlloc w (.cells #[.int .i64 k, .int .i64 R, .slice va vn vc] 24)
  replace hg := Lib.hid (hg.below hb0)
  replace h := Lib.hid (h.below hb0)
  go_enter Tryz.func62, Tryz.ntmps62
  go_wp2_with fail
  refine (check_any r k R _ xs _ hg.out h.out).mono ?_
  rintro e w1 ⟨x, rfl, hb, he⟩
  go_wp2_with fail
  refine (under_any r _ _ _ _ _ he).mono ?_
  rintro e w2 ⟨x, rfl, hb', he⟩
  go_wp2
  go_ret
  exact ⟨_, rfl, Below.step hb0 (Below.step hb hb'), he⟩

end Go.Proofs.YtmbdmkmomngkkaaGreatDoor

namespace Go.Proofs.YtmbdmkmomngkkaaGreatDoor
open Go.RowKit

theorem IntsAt.piece {w : World} {a : Option Addr} {cap : Nat} {xs : List Int} (h : IntsAt w (.slice a xs.length cap) xs) (k l : Nat) (hk : k ≤ l) (hl : l ≤ xs.length) :
    IntsAt w (sliced a k l cap 1) ((xs.take l).drop k) := by
  obtain ⟨a', cap', e, h1, h2, h3, h4⟩ := h
  injection e with e1 _ e3
  subst e1 e3
  have hlen : ((xs.take l).drop k).length = l - k := by simp; omega
  refine ⟨if cap = k then a else a.map (·.add (k * 1)), cap - k, by rw [hlen]; rfl, by rw [hlen]; omega, by omega, ?_, fun i hi => ?_⟩
  · intro hn
    by_cases hc : cap = k
    · omega
    · rw [if_neg hc] at hn
      have := h3 (Option.map_eq_none_iff.1 hn)
      omega
  · rw [hlen] at hi
    have hc : ¬ cap = k := by omega
    show w.cell? (valAt (.slice (if cap = k then a else a.map (·.add (k * 1))) _ _) i) = _
    rw [if_neg hc]
    cases a with
    | none => have := h3 rfl; omega
    | some p =>
      have h5 := h4 (k + i) (by omega)
      simp only [valAt] at h5
      show w.cell? ((p.add (k * 1)).add i) = _
      rw [Nat.mul_one, show (p.add k).add i = p.add (k + i) by unfold Addr.add; by_cases hk0 : k = 0 <;> by_cases hi0 : i = 0 <;> simp [hk0, hi0, Nat.add_assoc], h5]
      simp

/-- s[k:]. -/
theorem IntsAt.post {w : World} {v : Value} {xs : List Int} (h : IntsAt w v xs) (k : Nat) (hk : k ≤ xs.length) :
    ∃ u, (∀ w', (Instr.slice 22 v (some (.int .i64 k)) none none).run Tryz.prog w' = .ok u w') ∧ IntsAt w u (xs.drop k) := by
  have h' := h
  obtain ⟨a, cap, rfl, _⟩ := h'
  refine ⟨sliced a k xs.length cap 1, fun w' => ?_, ?_⟩
  · rw [run_slice_l w' 22 a xs.length cap uIntsE .i64 k (by omega) (by omega), eInts, sInt]
    rfl
  · have := h.piece k xs.length hk (Nat.le_refl _)
    rwa [List.take_length] at this

/-- s[k:l]. -/
theorem IntsAt.mid {w : World} {v : Value} {xs : List Int} (h : IntsAt w v xs) (k l : Nat) (hk : k ≤ l) (hl : l ≤ xs.length) :
    ∃ u, (∀ w', (Instr.slice 22 v (some (.int .i64 k)) (some (.int .i64 l)) none).run Tryz.prog w' = .ok u w') ∧ IntsAt w u ((xs.take l).drop k) := by
  have h' := h
  obtain ⟨a, cap, rfl, h1, _⟩ := h'
  refine ⟨sliced a k l cap 1, fun w' => ?_, h.piece k l hk hl⟩
  rw [run_slice_lh w' 22 a xs.length cap uIntsE .i64 .i64 k l (by omega) (by omega) (by omega), eInts, sInt]
  rfl

/-- s[:l]. -/
theorem IntsAt.front {w : World} {v : Value} {xs : List Int} (h : IntsAt w v xs) (l : Nat) (hl : l ≤ xs.length) :
    ∃ u, (∀ w', (Instr.slice 22 v none (some (.int .i64 l)) none).run Tryz.prog w' = .ok u w') ∧ IntsAt w u (xs.take l) := by
  have h' := h
  obtain ⟨a, cap, rfl, h1, _⟩ := h'
  refine ⟨sliced a 0 l cap 1, fun w' => ?_, ?_⟩
  · rw [run_slice_h w' 22 a xs.length cap uIntsE .i64 l (by omega) (by omega), eInts, sInt]
    rfl
  · have := h.piece 0 l (Nat.zero_le _) hl
    simpa using this
end Go.Proofs.YtmbdmkmomngkkaaGreatDoor

namespace Go.Proofs.YtmbdmkmomngkkaaGreatDoor
open Go.RowKit
set_option maxRecDepth 100000

set_option maxHeartbeats 1000000 in
theorem widened1_any (K R d : Nat) (va : Option Addr) (vn vc : Nat) (T : List Int) (p q : Nat) (v : Value) (ys : List Int) (w : World)
    (h : IntsAt w (.slice va vn vc) T) (hr : RuleOk K R T) (hv : IntsAt w v ys) (hy : Syms K ys) (hyl : ys.length = 2 * (R + d) + 1)
    (hRd : R + d ≤ 3)
    (x0 : w.cell? ⟨p, 0, none⟩ = some (.int .i64 K)) (x1 : w.cell? ⟨p, 1, none⟩ = some (.int .i64 R)) (x2 : w.cell? ⟨p, 2, none⟩ = some (.slice va vn vc)) (x3 : w.cell? ⟨q, 0, none⟩ = some (.int .i64 d)) :
    Calls Tryz.prog 190 #[v, .pointer (some ⟨p, 0, none⟩), .pointer (some ⟨q, 0, none⟩)] w (Ret1 (fun x _ => x = .int .i64 (T.getD (numW K ((ys.drop d).take (2 * R + 1))) 0)) w) := by
  have lv := hv.len
  obtain ⟨u, hu, hiu⟩ := hv.mid d (ys.length - d) (by omega) (by omega)
  have eL : (ys.take (ys.length - d)).drop d = (ys.drop d).take (2 * R + 1) := by
    rw [List.drop_take]; congr 1; omega
  rw [eL] at hiu
  have hD : (ys.length : Int) - (d : Int) = ((ys.length - d : Nat) : Int) := by omega
  have hle : ys.length ≤ 7 := by omega
  have hsy : Syms K ((ys.drop d).take (2 * R + 1)) := syms_take (syms_drop hy _) _
  have hsl : ((ys.drop d).take (2 * R + 1)).length = 2 * R + 1 := by simp; omega
  generalize hY : T.getD (numW K ((ys.drop d).take (2 * R + 1))) 0 = Y
  generalize (ys.drop d).take (2 * R + 1) = zs at *
  obtain ⟨e, hee⟩ : ∃ e, ys.length - d = e := ⟨_, rfl⟩
  rw [hee] at hD hu
  have he7 : e ≤ 7 := by omega
  have hwe : IntKind.i64.wrap (e : Int) = e := wrapK (by omega) (by omega)
  obtain ⟨L, hL⟩ : ∃ L, ys.length = L := ⟨_, rfl⟩
  rw [hL] at lv hD hle
  have hd3 : d ≤ 3 := by omega
  replace hY := Lib.hid hY
  replace h := Lib.hid h
  replace hv := Lib.hid hv
  replace hy := Lib.hid hy
  replace hsy := Lib.hid hsy
  replace hsl := Lib.hid hsl
  replace hyl := Lib.hid hyl
  replace hr := Lib.hid hr
  replace hiu := Lib.hid hiu
  replace hL := Lib.hid hL
  clear hee eL
  go_enter Tryz.func190, Tryz.ntmps190
  go_upto_region 1 with fail
  refine wp_region_plan (fun w' => w'.cell? ⟨p, 0, none⟩ = some (.int .i64 K) ∧ w'.cell? ⟨p, 1, none⟩ = some (.int .i64 R) ∧ w'.cell? ⟨p, 2, none⟩ = some (.slice va vn vc) ∧ w'.cell? ⟨q, 0, none⟩ = some (.int .i64 d)) 9 [(0, true), (1, true), (2, true), (3, true), (4, true), (5, true), (6, true), (7, true), (8, false)] (by kernel_rfl) (by kernel_rfl) ?_
  have hS : w.drew.cell? ⟨p, 0, none⟩ = some (.int .i64 K) ∧ w.drew.cell? ⟨p, 1, none⟩ = some (.int .i64 R) ∧ w.drew.cell? ⟨p, 2, none⟩ = some (.slice va vn vc) ∧ w.drew.cell? ⟨q, 0, none⟩ = some (.int .i64 d) := ⟨x0, x1, x2, x3⟩
  refine headY (v := ?_) (some 5) rfl rfl (Or.inl ⟨by rfl, ?_⟩) hS ?_
  rotate_left
  · rintro W' ⟨s0, s1, s2, s3⟩; go_simp; try with_reducible rfl
  simp only [Act.put, List.setIfInBounds_toArray, List.set_cons_zero, List.set_cons_succ]
  refine headY (v := ?_) (some 6) rfl rfl (Or.inl ⟨by rfl, ?_⟩) hS ?_
  rotate_left
  · rintro W' ⟨s0, s1, s2, s3⟩; go_simp; try with_reducible rfl
  simp only [Act.put, List.setIfInBounds_toArray, List.set_cons_zero, List.set_cons_succ]
  refine headY (v := ?_) (some 7) rfl rfl (Or.inl ⟨by rfl, ?_⟩) hS ?_
  rotate_left
  · rintro W' ⟨s0, s1, s2, s3⟩; go_simp; try with_reducible rfl
  simp only [Act.put, List.setIfInBounds_toArray, List.set_cons_zero, List.set_cons_succ]
  refine headY (v := ?_) (some 8) rfl rfl (Or.inl ⟨by rfl, ?_⟩) hS ?_
  rotate_left
  · rintro W' ⟨s0, s1, s2, s3⟩; go_simp; try with_reducible rfl
  simp only [Act.put, List.setIfInBounds_toArray, List.set_cons_zero, List.set_cons_succ]
  refine headY (v := ?_) (some 9) rfl rfl (Or.inl ⟨by rfl, ?_⟩) hS ?_
  rotate_left
  · rintro W' ⟨s0, s1, s2, s3⟩; go_simp; try with_reducible rfl
  simp only [Act.put, List.setIfInBounds_toArray, List.set_cons_zero, List.set_cons_succ]
  refine headY (v := ?_) (some 10) rfl rfl (Or.inl ⟨by rfl, ?_⟩) hS ?_
  rotate_left
  · rintro W' ⟨s0, s1, s2, s3⟩; go_simp; try with_reducible rfl
  simp only [Act.put, List.setIfInBounds_toArray, List.set_cons_zero, List.set_cons_succ]
  refine headY (v := ?_) (some 11) rfl rfl (Or.inl ⟨by rfl, ?_⟩) hS ?_
  rotate_left
  · rintro W' ⟨s0, s1, s2, s3⟩; go_simp; try with_reducible rfl
  simp only [Act.put, List.setIfInBounds_toArray, List.set_cons_zero, List.set_cons_succ]
  refine headY (v := ?_) (some 12) rfl rfl (Or.inl ⟨by rfl, ?_⟩) hS ?_
  rotate_left
  · rintro W' ⟨s0, s1, s2, s3⟩; go_simp; try with_reducible rfl
  simp only [Act.put, List.setIfInBounds_toArray, List.set_cons_zero, List.set_cons_succ]
  refine headC rfl (fun KK hK => ?_)
  go_simp
  refine (symbol_any K R va vn vc T u zs _ h.out.drew hr.out hiu.out.drew hsy.out hsl.out).mono ?_
  rintro e w1 ⟨x, rfl, b1, rfl⟩
  rw [hY.out]
  have hS1 : w1.cell? ⟨p, 0, none⟩ = some (.int .i64 K) ∧ w1.cell? ⟨p, 1, none⟩ = some (.int .i64 R) ∧ w1.cell? ⟨p, 2, none⟩ = some (.slice va vn vc) ∧ w1.cell? ⟨q, 0, none⟩ = some (.int .i64 d) := ⟨cell_keep b1 hS.1, cell_keep b1 hS.2.1, cell_keep b1 hS.2.2.1, cell_keep b1 hS.2.2.2⟩
  refine hK _ _ hS1 ?_
  clear hK KK
  refine head0 ?_
  simp only [List.drop_succ_cons, List.drop_zero]
  clear hS hS1
  go_wp2
  refine NoPanic.normal ?_
  go_wp2
  go_ret
  exact ⟨_, rfl, Below.step ((Below.refl _ _).drew) b1, rfl⟩
theorem eg_widened1 (args : Array Value) (w : World) : (callFunc 190 args).run Tryz.prog w = .ok (.enter 190 args) w := by kernel_rfl
theorem madeP_wide (K R d : Nat) (T : List Int) : madeP K (2 * (R + d) + 1) (fun ys => T.getD (numW K ((ys.drop d).take (2 * R + 1))) 0) (pw K (2 * (R + d) + 1)) = wideT K R d T := rfl

set_option maxHeartbeats 1000000 in
theorem widened_any (K R d : Nat) (va : Option Addr) (vn vc : Nat) (T : List Int) (w : World) (h : IntsAt w (.slice va vn vc) T) (hr : RuleOk K R T) (hRd : R + d ≤ 3) (Ri : Int) (hRi : Ri = ((R + d : Nat) : Int)) :
    Calls Tryz.prog 108 #[.agg #[.int .i64 K, .int .i64 R, .slice va vn vc], .int .i64 Ri] w (Ret1 (fun x w' => ∃ a n c, x = .agg #[.int .i64 K, .int .i64 ((R + d : Nat) : Int), .slice a n c] ∧ OwnI w.heap.size w' (.slice a n c) (wideT K R d T)) w) := by
  have b0 := Below.step (belowAlloc w (.cells #[.int .i64 K, .int .i64 R, .slice va vn vc] 24)) (belowAlloc _ (.cells #[.int .i64 0, .int .i64 0, .slice none 0 0] 24))
  have b3 := Below.step b0 (belowAlloc _ (.cells #[.int .i64 d] 3))
  have q1 : Box3 (((w.alloc (.cells #[.int .i64 K, .int .i64 R, .slice va vn vc] 24)).alloc (.cells #[.int .i64 0, .int .i64 0, .slice none 0 0] 24)).alloc (.cells #[.int .i64 d] 3)) w.heap.size (.int .i64 K) (.int .i64 R) (.slice va vn vc) := by simp [Box3, go_sem]
  have q2 : Box3 (((w.alloc (.cells #[.int .i64 K, .int .i64 R, .slice va vn vc] 24)).alloc (.cells #[.int .i64 0, .int .i64 0, .slice none 0 0] 24)).alloc (.cells #[.int .i64 d] 3)) (w.heap.size + 1) (.int .i64 0) (.int .i64 0) (.slice none 0 0) := by simp [Box3, go_sem]
  have q3 : (((w.alloc (.cells #[.int .i64 K, .int .i64 R, .slice va vn vc] 24)).alloc (.cells #[.int .i64 0, .int .i64 0, .slice none 0 0] 24)).alloc (.cells #[.int .i64 d] 3)).cell? ⟨w.heap.size + 2, 0, none⟩ = some (.int .i64 d) := by simp [go_sem]
  have hk1 := hr.k1
  have hk4 := hr.k4
  have hR3 := hr.r3
  have hsub : Ri - (R : Int) = (d : Int) := by omega
  have hRi3 : 0 ≤ Ri ∧ Ri ≤ 3 := by omega
  have h3 := h.below b3
  obtain ⟨W3, hW3⟩ : ∃ W3 : World, W3 = ((w.alloc (.cells #[.int .i64 K, .int .i64 R, .slice va vn vc] 24)).alloc (.cells #[.int .i64 0, .int .i64 0, .slice none 0 0] 24)).alloc (.cells #[.int .i64 d] 3) := ⟨_, rfl⟩
  have s3 : W3.heap.size = w.heap.size + 3 := by rw [hW3]; simp
  rw [← hW3] at b3 q1 q2 q3 h3
  replace hRi := Lib.hid hRi
  replace hr := Lib.hid hr
  replace hW3 := Lib.hid hW3
  replace s3 := Lib.hid s3
  replace q2 := Lib.hid q2
  replace h3 := Lib.hid h3
  go_enter Tryz.func108, Tryz.ntmps108
  go_wp2_with fail
  rw [← hW3.out]
  refine (made_two K (R + d) _ (.pointer (some ⟨w.heap.size, 0, none⟩)) (.pointer (some ⟨w.heap.size + 2, 0, none⟩)) (fun ys => T.getD (numW K ((ys.drop d).take (2 * R + 1))) 0) W3 hk1 hk4 hRd Ri hRi.out eg_widened1 (fun v ys w' hB hv hy hyl => by
    have q11 := q1.below hB
    exact widened1_any K R d va vn vc T _ _ v ys w' (h3.out.below hB) hr.out hv hy hyl hRd q11.1.1 q11.1.2.1 q11.1.2.2 (cell_keep hB q3))).mono ?_
  rintro e w4 ⟨x, rfl, b4, a, n, c, rfl, ho⟩
  rw [madeP_wide] at ho
  obtain ⟨⟨y0, y1, y2⟩, f0, f1, f2⟩ := q2.out.below b4
  replace ho := Lib.hid ho
  clear q1 q3
  go_wp2
  refine bodyPost_ret (v := .agg #[.int .i64 K, .int .i64 ((R + d : Nat) : Int), .slice a n c]) (by simp [results, Tryz.results108, go_sem, y0, y1, y2]) rfl ⟨_, rfl, below_set3 (Below.step b3 b4) (Nat.le_succ _) _ _ _, a, n, c, rfl, ?_⟩
  have := s3.out
  exact (((ho.out.setBelowBase (a := ⟨w.heap.size + 1, 0, none⟩) (by simp; omega) _).setBelowBase (a := ⟨w.heap.size + 1, 1, none⟩) (by simp; omega) _).setBelowBase (a := ⟨w.heap.size + 1, 2, none⟩) (by simp; omega) _).mono (by omega)
end Go.Proofs.YtmbdmkmomngkkaaGreatDoor

namespace Go.Proofs.YtmbdmkmomngkkaaGreatDoor

/-- How many begin so. -/
def begins (n : Nat) (ends l : List Int) : Bool := decide (n ≤ l.length) && decide (l.take n = ends)
end Go.Proofs.YtmbdmkmomngkkaaGreatDoor

namespace Go.Proofs.YtmbdmkmomngkkaaGreatDoor
open Go.RowKit
set_option maxRecDepth 100000

end Go.Proofs.YtmbdmkmomngkkaaGreatDoor

namespace Go.Proofs.YtmbdmkmomngkkaaGreatDoor
open Go.RowKit
set_option maxRecDepth 100000

def sOverlap : ByteArray := ⟨#[111, 118, 101, 114, 108, 97, 112]⟩
/-- rule.Small's answer. -/
def smallP (k R : Int) (T : List Int) : PErr :=
  match checkP k R T with
  | some t => some t
  | none => if 256 < T.length then fresh sRule 0 4 else none
theorem smallP_ok {K R : Nat} {T : List Int} (h : RuleOk K R T) : smallP K R T = if 256 < T.length then fresh sRule 0 4 else none := by
  unfold smallP; rw [h.check]
theorem smallP_none {k R : Int} {T : List Int} (h : smallP k R T = none) : checkP k R T = none ∧ T.length ≤ 256 := by
  unfold smallP at h
  cases hc : checkP k R T with
  | some t => rw [hc] at h; cases h
  | none =>
    rw [hc] at h
    refine ⟨rfl, ?_⟩
    by_cases hl : 256 < T.length
    · rw [if_pos hl] at h; simp [fresh] at h
    · omega

theorem small_any (r : Nat → Addr) (k R : Int) (va : Option Addr) (vn vc : Nat) (T : List Int) (w : World) (hg : Glob r w) (h : IntsAt w (.slice va vn vc) T) :
    Calls Tryz.prog 16 #[.agg #[.int .i64 k, .int .i64 R, .slice va vn vc]] w (Ret1 (fun x w' => ErrIs r w' (smallP k R T) x) w) := by
  have b0 := belowAlloc w (.cells #[.int .i64 k, .int .i64 R, .slice va vn vc] 24)
  have q : Box3 (w.alloc (.cells #[.int .i64 k, .int .i64 R, .slice va vn vc] 24)) w.heap.size (.int .i64 k) (.int .i64 R) (.slice va vn vc) := by simp [Box3, go_sem]
  have lT := h.len
  replace hg := Lib.hid (hg.below b0)
  replace h := Lib.hid (h.below b0)
  obtain ⟨e0, hsm, he0⟩ : ∃ e0, (smallP k R T = match e0 with | some t => some t | none => if 256 < T.length then fresh sRule 0 4 else none) ∧ checkP k R T = e0 := ⟨_, rfl, rfl⟩
  replace he0 := Lib.hid he0
  go_enter Tryz.func16, Tryz.ntmps16
  go_wp2_with fail
  refine (check_any r k R _ T _ hg.out h.out).mono ?_
  rintro e w1 ⟨x, rfl, b1, he⟩
  rw [he0.out] at he
  cases e0 with
  | some t =>
    simp only [] at hsm
    replace hsm := Lib.hid hsm
    obtain ⟨T1, a1, rfl⟩ := ErrIs.some_shape he
    replace he := Lib.hid he
    go_wp2
    go_ret
    exact ⟨_, rfl, Below.step b0 b1, by rw [hsm.out]; exact he.out⟩
  | none =>
    obtain rfl := he.none_eq
    simp only [] at hsm
    clear he
    obtain ⟨⟨z0, z1, z2⟩, -, -, -⟩ := q.below b1
    by_cases hl : 256 < T.length
    · rw [if_pos hl] at hsm
      replace hsm := Lib.hid hsm
      go_wp2_with fail
      refine (rule_wrong r _ _ _ (hg.out.below b1) (by decide) (by decide)).mono ?_
      rintro e w2 ⟨x, rfl, b2, he⟩
      go_wp2
      go_ret
      exact ⟨_, rfl, Below.step b0 (Below.step b1 b2), by rw [hsm.out]; exact he⟩
    · rw [if_neg hl] at hsm
      replace hsm := Lib.hid hsm
      go_wp2
      go_ret
      exact ⟨_, rfl, Below.step b0 b1, by rw [hsm.out]; rfl⟩

theorem over_small (r : Nat → Addr) (k R : Int) (va : Option Addr) (vn vc : Nat) (T : List Int) (w : World) (hg : Glob r w) (h : IntsAt w (.slice va vn vc) T) :
    Calls Tryz.prog 136 #[.agg #[.int .i64 k, .int .i64 R, .slice va vn vc]] w (Ret1 (fun x w' => ErrIs r w' (under sOverlap 0 (smallP k R T)) x) w) := by
  have b0 := belowAlloc w (.cells #[.int .i64 k, .int .i64 R, .slice va vn vc] 24)
  replace hg := Lib.hid (hg.below b0)
  replace h := Lib.hid (h.below b0)
  go_enter Tryz.func136, Tryz.ntmps136
  go_wp2_with fail
  refine (small_any r k R va vn vc T _ hg.out h.out).mono ?_
  rintro e w1 ⟨x, rfl, b1, he⟩
  go_wp2_with fail
  refine (under_any r _ 0 _ x _ he).mono ?_
  rintro e w2 ⟨y, rfl, b2, hy⟩
  go_wp2
  go_ret
  exact ⟨_, rfl, Below.step b0 (Below.step b1 b2), hy⟩

theorem over_nodes (K R : Nat) (va : Option Addr) (vn vc : Nat) (T : List Int) (w : World) (h : IntsAt w (.slice va vn vc) T) (h1 : 1 ≤ K) (hT : T.length ≤ 16384) :
    Calls Tryz.prog 68 #[.agg #[.int .i64 K, .int .i64 R, .slice va vn vc]] w fun e w' => e = .returned (.int .i64 ((T.length / K : Nat) : Int)) ∧ w' = w.alloc (.cells #[.int .i64 K, .int .i64 R, .slice va vn vc] 24) := by
  have hK0 : ((K : Int) == 0) = false := by rw [beq_eq_false_iff_ne]; omega
  have hK1 : ¬ (K : Int) = 0 := by omega
  have hK2 : (0 : Int) < K := by omega
  have hK3 : ¬ K = 0 := by omega
  have lT := h.len
  have hq0 : 0 ≤ (T.length : Int) / (K : Int) := Int.ediv_nonneg (by omega) (by omega)
  have hqc : (T.length : Int) / (K : Int) = ((T.length / K : Nat) : Int) := by simp
  have hqw : IntKind.i64.wrap ((T.length : Int) / (K : Int)) = (T.length : Int) / (K : Int) := by
    have : T.length / K ≤ 16384 := Nat.le_trans (Nat.div_le_self _ _) hT
    exact wrapK (by omega) (by rw [hqc]; omega)
  rw [← hqc]
  replace hqc := Lib.hid hqc
  go_enter Tryz.func68, Tryz.ntmps68
  go_wp2
  go_ret
  exact ⟨rfl, rfl⟩

end Go.Proofs.YtmbdmkmomngkkaaGreatDoor

namespace Go.Proofs.YtmbdmkmomngkkaaGreatDoor
open Go.RowKit
set_option maxRecDepth 100000

theorem smallP_small {K R : Nat} {T : List Int} (h : RuleOk K R T) (hl : T.length ≤ 256) : smallP K R T = none := by rw [smallP_ok h, if_neg (by omega)]

theorem over_Nodes (r : Nat → Addr) (K R : Nat) (va : Option Addr) (vn vc : Nat) (T : List Int) (w : World) (hg : Glob r w) (h : IntsAt w (.slice va vn vc) T) (hok : RuleOk K R T) (hl : T.length ≤ 256) :
    Calls Tryz.prog 147 #[.agg #[.int .i64 K, .int .i64 R, .slice va vn vc]] w (Ret2 (fun x y _ => x = .int .i64 ((T.length / K : Nat) : Int) ∧ y = .nilIface) w) := by
  have b0 := belowAlloc w (.cells #[.int .i64 K, .int .i64 R, .slice va vn vc] 24)
  have q : Box3 (w.alloc (.cells #[.int .i64 K, .int .i64 R, .slice va vn vc] 24)) w.heap.size (.int .i64 K) (.int .i64 R) (.slice va vn vc) := by simp [Box3, go_sem]
  have hs := smallP_small hok hl
  have hk1 := hok.k1
  generalize hN : T.length / K = N
  replace hN := Lib.hid hN
  replace hs := Lib.hid hs
  replace hg := Lib.hid (hg.below b0)
  replace h := Lib.hid (h.below b0)
  go_enter Tryz.func147, Tryz.ntmps147
  go_wp2_with fail
  refine (over_small r K R va vn vc T _ hg.out h.out).mono ?_
  rintro e w1 ⟨x, rfl, b1, he⟩
  rw [hs.out] at he
  obtain rfl := ErrIs.none_eq he
  obtain ⟨⟨z0, z1, z2⟩, -, -, -⟩ := q.below b1
  go_wp2_with fail
  refine (over_nodes K R va vn vc T _ (h.out.below b1) hk1 (by omega)).mono ?_
  rintro e w2 ⟨rfl, rfl⟩
  rw [hN.out]
  go_wp2
  go_ret2
  exact ⟨_, _, rfl, Below.step b0 (Below.step b1 (belowAlloc _ _)), rfl, rfl⟩

set_option maxHeartbeats 1000000 in
theorem over_Edge (r : Nat → Addr) (K R : Nat) (va : Option Addr) (vn vc : Nat) (T : List Int) (u s : Nat) (w : World) (hg : Glob r w) (h : IntsAt w (.slice va vn vc) T) (hok : RuleOk K R T) (hl : T.length ≤ 256) (hu : u < T.length / K) (hs : s < K) :
    Calls Tryz.prog 183 #[.agg #[.int .i64 K, .int .i64 R, .slice va vn vc], .int .i64 u, .int .i64 s] w (Ret3 (fun x y z _ => x = .int .i64 (toN K (T.length / K) u s) ∧ y = .int .i64 (labN K T u s) ∧ z = .nilIface) w) := by
  have b0 := belowAlloc w (.cells #[.int .i64 K, .int .i64 R, .slice va vn vc] 24)
  have q : Box3 (w.alloc (.cells #[.int .i64 K, .int .i64 R, .slice va vn vc] 24)) w.heap.size (.int .i64 K) (.int .i64 R) (.slice va vn vc) := by simp [Box3, go_sem]
  have hsm := smallP_small hok hl
  have hk1 := hok.k1
  have hk4 := hok.k4
  have hul : u * K + s < T.length := by
    have := Nat.div_mul_le_self T.length K
    have := mul_add_lt (q := u) (m := T.length / K) hs hu
    omega
  have hN0 : T.length / K ≤ 256 := Nat.le_trans (Nat.div_le_self _ _) hl
  have huK : u * K ≤ 256 := by omega
  obtain ⟨p, hp⟩ : ∃ n, u * K = n := ⟨_, rfl⟩
  have hM : (u : Int) * (K : Int) = (p : Int) := by rw [← hp]; simp
  obtain ⟨at_, hat⟩ : ∃ n, u * K + s = n := ⟨_, rfl⟩
  have hA : (p : Int) + (s : Int) = (at_ : Int) := by rw [← hat, hp]; simp
  have i1 := fun w' => h.idx at_ (by omega) w'
  have c1 := h.cellD at_ (by omega)
  generalize valAt (.slice va vn vc) at_ = ta at *
  have hb1 := h.below b0
  have e1 : labN K T u s = T.getD at_ 0 := by unfold labN; rw [hat]
  have e2 : toN K (T.length / K) u s = at_ % (T.length / K) := by unfold toN; rw [hat]
  rw [e1, e2]
  generalize T.getD at_ 0 = y at *
  obtain ⟨N, hN⟩ : ∃ N, T.length / K = N := ⟨_, rfl⟩
  rw [hN] at hu hN0 ⊢
  have hN1 : ¬ (N : Int) = 0 := by omega
  have hN2 : ((N : Int) == 0) = false := by rw [beq_eq_false_iff_ne]; omega
  have hN3 : (0 : Int) < N := by omega
  have hN4 : ¬ N = 0 := by omega
  have hrem : (at_ : Int).tmod (N : Int) = ((at_ % N : Nat) : Int) := by rw [Int.tmod_eq_emod_of_nonneg (by omega)]; simp
  have hat1 : at_ ≤ 256 := by omega
  rw [hat] at hul
  rw [hp] at huK hat
  have hps : (p : Int) + (s : Int) ≤ 256 := by omega
  clear hat hp
  have c1' := (b0.cell (World.block_lt_of_cell? _ _ c1)).trans c1
  replace hN := Lib.hid hN
  replace hsm := Lib.hid hsm
  replace hg := Lib.hid (hg.below b0)
  replace h := Lib.hid hb1
  clear c1 e1 e2 hb1
  go_enter Tryz.func183, Tryz.ntmps183
  go_wp2_with fail
  refine (over_small r K R va vn vc T _ hg.out h.out).mono ?_
  rintro e w1 ⟨x, rfl, b1, he⟩
  rw [hsm.out] at he
  obtain rfl := ErrIs.none_eq he
  have q1 := q.below b1
  obtain ⟨⟨z0, z1, z2⟩, -, -, -⟩ := q1
  have q1 := Lib.hid (q.below b1)
  go_wp2_with fail
  refine (over_nodes K R va vn vc T _ (h.out.below b1) hk1 (by omega)).mono ?_
  rintro e w2 ⟨rfl, rfl⟩
  rw [hN.out]
  have b2 := Below.step b1 (belowAlloc w1 (.cells #[.int .i64 K, .int .i64 R, .slice va vn vc] 24))
  obtain ⟨W2, hW2⟩ : ∃ W2 : World, W2 = w1.alloc (.cells #[.int .i64 K, .int .i64 R, .slice va vn vc] 24) := ⟨_, rfl⟩
  rw [← hW2] at b2 ⊢
  have q2 := q.below b2
  have hT2 := h.out.below b2
  have cT2 := (b2.cell (World.block_lt_of_cell? _ _ c1')).trans c1'
  clear hW2 z0 z1 z2 c1'
  obtain ⟨⟨z0, z1, z2⟩, -, -, -⟩ := q2
  replace hT2 := Lib.hid hT2
  go_upto_region 9 with fail
  refine wp_region_plan (fun w' => w'.cell? ⟨w.heap.size, 0, none⟩ = some (.int .i64 K) ∧ w'.cell? ⟨w.heap.size, 1, none⟩ = some (.int .i64 R) ∧ w'.cell? ⟨w.heap.size, 2, none⟩ = some (.slice va vn vc) ∧ w'.cell? ta = some (.int .i64 y)) 11 [(0, true), (1, true), (4, true), (5, true), (6, true), (7, true), (8, true), (2, false), (3, true), (9, true), (10, true)] (by kernel_rfl) (by kernel_rfl) ?_
  have hS : W2.drew.cell? ⟨w.heap.size, 0, none⟩ = some (.int .i64 K) ∧ W2.drew.cell? ⟨w.heap.size, 1, none⟩ = some (.int .i64 R) ∧ W2.drew.cell? ⟨w.heap.size, 2, none⟩ = some (.slice va vn vc) ∧ W2.drew.cell? ta = some (.int .i64 y) := ⟨z0, z1, z2, cT2⟩
  refine headY (v := ?_) (some 42) rfl rfl (Or.inl ⟨by rfl, ?_⟩) hS ?_
  rotate_left
  · rintro W' ⟨s0, s1, s2, s3⟩; go_simp; try with_reducible rfl
  simp only [Act.put, List.setIfInBounds_toArray, List.set_cons_zero, List.set_cons_succ]
  refine headY (v := ?_) (some 43) rfl rfl (Or.inl ⟨by rfl, ?_⟩) hS ?_
  rotate_left
  · rintro W' ⟨s0, s1, s2, s3⟩; go_simp; try with_reducible rfl
  simp only [Act.put, List.setIfInBounds_toArray, List.set_cons_zero, List.set_cons_succ]
  refine headY (v := ?_) (some 46) rfl rfl (Or.inl ⟨by rfl, ?_⟩) hS ?_
  rotate_left
  · rintro W' ⟨s0, s1, s2, s3⟩; go_simp; try with_reducible rfl
  simp only [Act.put, List.setIfInBounds_toArray, List.set_cons_zero, List.set_cons_succ]
  refine headY (v := ?_) (some 47) rfl rfl (Or.inl ⟨by rfl, ?_⟩) hS ?_
  rotate_left
  · rintro W' ⟨s0, s1, s2, s3⟩; go_simp; try with_reducible rfl
  simp only [Act.put, List.setIfInBounds_toArray, List.set_cons_zero, List.set_cons_succ]
  refine headY (v := ?_) (some 48) rfl rfl (Or.inl ⟨by rfl, ?_⟩) hS ?_
  rotate_left
  · rintro W' ⟨s0, s1, s2, s3⟩; go_simp; try with_reducible rfl
  simp only [Act.put, List.setIfInBounds_toArray, List.set_cons_zero, List.set_cons_succ]
  refine headY (v := ?_) (some 49) rfl rfl (Or.inl ⟨by rfl, ?_⟩) hS ?_
  rotate_left
  · rintro W' ⟨s0, s1, s2, s3⟩; go_simp; try with_reducible rfl
  simp only [Act.put, List.setIfInBounds_toArray, List.set_cons_zero, List.set_cons_succ]
  refine headY (v := ?_) (some 50) rfl rfl (Or.inl ⟨by rfl, ?_⟩) hS ?_
  rotate_left
  · rintro W' ⟨s0, s1, s2, s3⟩; go_simp; try with_reducible rfl
  simp only [Act.put, List.setIfInBounds_toArray, List.set_cons_zero, List.set_cons_succ]
  refine headC rfl (fun KK hK => ?_)
  go_simp
  refine (over_nodes K R va vn vc T _ hT2.out.drew hk1 (by omega)).mono ?_
  rintro e W3 ⟨rfl, rfl⟩
  rw [hN.out]
  have b3 := belowAlloc W2.drew (.cells #[.int .i64 K, .int .i64 R, .slice va vn vc] 24)
  have hS3 := (⟨cell_keep b3 hS.1, cell_keep b3 hS.2.1, cell_keep b3 hS.2.2.1, (b3.cell (World.block_lt_of_cell? _ _ hS.2.2.2)).trans hS.2.2.2⟩ : (W2.drew.alloc (.cells #[.int .i64 K, .int .i64 R, .slice va vn vc] 24)).cell? ⟨w.heap.size, 0, none⟩ = some (.int .i64 K) ∧ (W2.drew.alloc (.cells #[.int .i64 K, .int .i64 R, .slice va vn vc] 24)).cell? ⟨w.heap.size, 1, none⟩ = some (.int .i64 R) ∧ (W2.drew.alloc (.cells #[.int .i64 K, .int .i64 R, .slice va vn vc] 24)).cell? ⟨w.heap.size, 2, none⟩ = some (.slice va vn vc) ∧ (W2.drew.alloc (.cells #[.int .i64 K, .int .i64 R, .slice va vn vc] 24)).cell? ta = some (.int .i64 y))
  refine hK _ _ hS3 ?_
  clear hK KK
  refine headY (v := ?_) (some 45) rfl rfl (Or.inl ⟨by rfl, ?_⟩) hS3 ?_
  rotate_left
  · rintro W' ⟨s0, s1, s2, s3⟩; go_simp; try with_reducible rfl
  simp only [Act.put, List.setIfInBounds_toArray, List.set_cons_zero, List.set_cons_succ]
  refine headY (v := ?_) (some 6) rfl rfl (Or.inl ⟨by rfl, ?_⟩) hS3 ?_
  rotate_left
  · rintro W' ⟨s0, s1, s2, s3⟩; go_simp; try with_reducible rfl
  simp only [Act.put, List.setIfInBounds_toArray, List.set_cons_zero, List.set_cons_succ]
  refine headY (v := ?_) (some 7) rfl rfl (Or.inl ⟨by rfl, ?_⟩) hS3 ?_
  rotate_left
  · rintro W' ⟨s0, s1, s2, s3⟩; go_simp; try with_reducible rfl
  simp only [Act.put, List.setIfInBounds_toArray, List.set_cons_zero, List.set_cons_succ]
  refine head0 ?_
  simp only [List.drop_succ_cons, List.drop_zero]
  clear hS hS3
  go_wp2
  refine NoPanic.normal ?_
  go_wp2
  go_ret3
  exact ⟨_, _, _, rfl, Below.step b0 (Below.step b2 ((Below.refl _ _).drew.alloc (Nat.le_refl _) _)), rfl, rfl, rfl⟩
end Go.Proofs.YtmbdmkmomngkkaaGreatDoor
