/-
  Walk: graph.first: breadth first.
  Walk: pairs.Graph.
  Plain mathematics: how far it is; the first of the shortest ways by going down; the first of the shortest loops.
  Plain mathematics: what stays where again and again vertices are taken away to which, or from which, no arrow leads.
  Walk: edenref12.turned: the arrows the other way round, each as often.
  Walk: edenref13.All: the graph of pairs of a working rule.
-/
import Derived.Test.YtilpckngghffoaaGreatDoorMIt4
import Derived.Deep.LoopGhost
import Derived.Deep.DeepCutAuto
namespace Go.Proofs.YtilpckngghffoaaGreatDoor
open Go.RowKit
set_option maxRecDepth 100000

/-- Plain numbers as ints. -/
def castI (l : List Nat) : List Int := l.map fun (x : Nat) => (x : Int)
theorem castI_len (l : List Nat) : (castI l).length = l.length := by simp [castI]
theorem castI_snoc (l : List Nat) (x : Nat) : castI (l ++ [x]) = castI l ++ [(x : Int)] := by simp [castI]
theorem castI_get {l : List Nat} {i x : Nat} (h : l[i]? = some x) : (castI l).getD i 0 = (x : Int) := by simp [castI, List.getD, h]
theorem castI_reverse (l : List Nat) : castI l.reverse = (castI l).reverse := by simp [castI]
theorem nodup_len : ∀ (n : Nat) (l : List Nat), l.Nodup → (∀ x ∈ l, x < n) → l.length ≤ n
  | 0, l, _, h => by
    cases l with
    | nil => exact Nat.le_refl _
    | cons a l => have := h a List.mem_cons_self; omega
  | n + 1, l, hn, h => by
    have hsub := nodup_len n (l.erase n) (hn.erase n) (fun x hx => by
      have h1 := h x (List.mem_of_mem_erase hx)
      have h2 : x ≠ n := fun e => by subst e; exact (List.Nodup.not_mem_erase hn) hx
      omega)
    have : l.length ≤ (l.erase n).length + 1 := by
      by_cases hm : n ∈ l
      · have := List.length_erase_of_mem hm; omega
      · rw [List.erase_of_not_mem hm]; omega
    omega
/-- The arrows from the least on, as plain numbers. -/
def srtN (l : List Int) : List Nat := (srt l).map Int.toNat
theorem srt_mem (l : List Int) (x : Int) : x ∈ srt l ↔ x ∈ l := by unfold srt; exact (List.mergeSort_perm l _).mem_iff
theorem srt_sorted (l : List Int) : (srt l).Pairwise (· ≤ ·) := by
  have := List.pairwise_mergeSort (le := fun (x y : Int) => decide (x ≤ y)) (fun a b c h1 h2 => by simp at *; omega) (fun a b => by simp; omega) l
  unfold srt
  exact this.imp (fun h => by simpa using h)
theorem srtN_sorted (l : List Int) (hp : ∀ x ∈ l, 0 ≤ x) : (srtN l).Pairwise (· ≤ ·) := by
  unfold srtN
  rw [List.pairwise_map]
  refine (srt_sorted l).imp_of_mem fun {a b} ha hb h => ?_
  have := hp a ((srt_mem l a).1 ha)
  omega
theorem srtN_mem (l : List Int) (t : Nat) : t ∈ srtN l ↔ t ∈ l.map Int.toNat := by
  unfold srtN
  simp only [List.mem_map, srt_mem]
theorem srtN_len (l : List Int) : (srtN l).length = l.length := by simp [srtN, srt_length]
theorem srtN_get (l : List Int) (hp : ∀ x ∈ l, 0 ≤ x) (j : Nat) (hj : j < l.length) : (srt l).getD j 0 = ((srtN l).getD j 0 : Int) := by
  have hj' : j < (srt l).length := by rw [srt_length]; exact hj
  have h0 := hp _ ((srt_mem l _).1 (List.getElem_mem hj'))
  simp only [srtN, List.getD_eq_getElem?_getD, List.getElem?_map, List.getElem?_eq_getElem hj', Option.map_some, Option.getD_some]
  omega

theorem tabI_neg1 (n : Nat) : tabI n (fun _ => -1) = List.replicate n (-1) := by
  unfold tabI; apply List.ext_getElem <;> simp
theorem rowsE (B : Nat) (w : World) : Rows B w (fun _ => none) := ⟨fun _ _ h => (by cases h), fun _ _ _ _ h => (by cases h)⟩
/-- What first leaves. -/
def FirstPost (w : World) (adj : Nat → List Nat) (a b : Nat) (x : Value) (w' : World) : Prop :=
  (∃ u, IsFirst adj a b u ∧ OwnI w.heap.size w' x (castI u)) ∨ (¬ Goes adj a b ∧ x = .slice none 0 0)
/-- The search's memory. -/
structure FN (f : Names) (cv qv : Value) (n : Nat) (came : Nat → Int) (q : List Nat) : Prop where
  came : f (1, 0) = some (rowI cv (tabI n came))
  queue : f (2, 0) = some (rowI qv (castI q))
section
variable {B : Nat} {w : World} {f : Names} {cv qv : Value} {n : Nat} {came : Nat → Int} {q : List Nat}
theorem FN.congr {f' : Names} (h : FN f cv qv n came q) (e1 : f' (1, 0) = f (1, 0)) (e2 : f' (2, 0) = f (2, 0)) : FN f' cv qv n came q := ⟨e1.trans h.came, e2.trans h.queue⟩
/-- came[t] = v. -/
theorem FN.set (h : FN f cv qv n came q) (hr : Rows B w f) (t : Nat) (ht : t < n) (v : Int) : ∃ f', Rows B (w.setCell (valAt cv t) (.int .i64 v)) f' ∧ FN f' cv qv n (updN came t v) q ∧ ∀ i, i ≠ (1, 0) → f' i = f i := by
  have hs := hr.setI h.came t (by rw [tabI_len]; exact ht) v
  rw [tabI_upd] at hs
  exact ⟨_, hs, ⟨upd_same _ _ _, by rw [upd_ne _ _ (by simp)]; exact h.queue⟩, fun i hi => upd_ne _ _ hi⟩
/-- queue = append(queue, t). -/
theorem FN.push (h : FN f cv qv n came q) (hr : Rows B w f) {w1 : World} {qv' : Value} (t : Nat) (ho : OwnI B w1 qv' (castI q ++ [(t : Int)]))
    (hal : (roomOf qv' = roomOf qv ∧ w.grownBy w1 qv.ownBlock) ∨ (∃ k, qv'.ownBlock = some k ∧ w.heap.size ≤ k ∧ w.grownBy w1 none)) : ∃ f', Rows B w1 f' ∧ FN f' cv qv' n came (q ++ [t]) ∧ ∀ i, i ≠ (2, 0) → f' i = f i := by
  have hO := hr.ownI h.queue
  have hg : w.grownBy w1 qv.ownBlock := grown_via (hal.imp (·.2) (fun ⟨_, _, _, q⟩ => q))
  have hob : qv'.ownBlock = qv.ownBlock ∨ ∃ k, qv'.ownBlock = some k ∧ w.heap.size ≤ k := by
    rcases hal with ⟨q, _⟩ | ⟨k, h1, h2, _⟩
    · obtain ⟨a1, n1, c1, e1⟩ := hO.at.shape
      obtain ⟨a2, n2, c2, e2⟩ := ho.at.shape
      exact .inl (ownBlock_of_room e1 e2 q)
    · exact .inr ⟨k, h1, h2⟩
  exact ⟨_, hr.grown (r' := rowI qv' (castI q ++ [(t : Int)])) h.queue hg ho hob, ⟨by rw [upd_ne _ _ (by simp)]; exact h.came, by rw [upd_same, castI_snoc]⟩, fun i hi => upd_ne _ _ hi⟩
end

set_option maxHeartbeats 4000000 in
theorem first_any (na : Option Addr) (nc : Nat) (G : List (List Int)) (a b : Nat) (w : World) (h : ListsAt w (.slice na G.length nc) G) (hok : GraphOk G) (hn : G.length ≤ 8200) (ha : a < G.length) (hb : b < G.length) (hsz : ∀ k, k < G.length → (G.getD k []).length ≤ 17592186044416) :
    Calls Tryz.prog 140 #[.slice na G.length nc, .int .i64 a, .int .i64 b] w (Ret1 (FirstPost w (adjOf G) a b) w) := by
  have b0 := belowAlloc w (.cells #[.int .i64 (-1)] 3)
  have hI := (OwnI.lit w.heap.size w (Nat.le_refl _) [-1] (by simp [maxLen]) #[.int .i64 (-1)] rfl 1 rfl).at
  have hRep := repeat_any _ (-1) G.length _ hI (by omega)
  have hinit := BBase.init (adjOf G) a
  replace hI := Lib.hid hI
  replace h := Lib.hid h
  replace hok := Lib.hid hok
  replace hsz := Lib.hid hsz
  replace hinit := Lib.hid hinit
  replace hRep := Lib.hid hRep
  go_enter Tryz.func140, Tryz.ntmps140
  go_wp2_with fail
  refine hRep.out.mono ?_
  rintro e w1 ⟨cv, rfl, b1, hcv⟩
  obtain ⟨w0, hw0⟩ : ∃ w0 : World, w0 = w.alloc (.cells #[.int .i64 (-1)] 3) := ⟨_, rfl⟩
  rw [← hw0] at b0 b1 hcv
  rw [← tabI_neg1] at hcv
  clear hRep hI hw0
  have b01 := Below.step b0 b1
  have R1 := (rowsE w.heap.size w0).add (i := (1, 0)) (r' := rowI cv (tabI G.length fun _ => -1)) b1 (hcv.mono b0.size) (fun k hk => (hcv.lt k hk).1)
  have iA := fun w' => hcv.at.idx a (by rw [tabI_len]; exact ha) w'
  have cA := hcv.at.cellD a (by rw [tabI_len]; exact ha)
  have fA := hcv.frz a (by rw [tabI_len]; exact ha)
  have kA := (hcv.toV.blkB a (by rw [List.length_map, tabI_len]; exact ha)).2
  have R2 := R1.setI (upd_same _ _ _) a (by rw [tabI_len]; exact ha) (a : Int)
  rw [tabI_upd] at R2
  have b2 : Below w.heap.size w (w1.setCell (valAt cv a) (.int .i64 (a : Int))) := b01.setCell (Nat.le_trans b0.size kA) _
  generalize valAt cv a = ca at *
  generalize (tabI G.length fun _ => -1).getD a 0 = oa at cA
  obtain ⟨W2, hW2⟩ : ∃ W2 : World, W2 = w1.setCell ca (.int .i64 (a : Int)) := ⟨_, rfl⟩
  rw [← hW2] at R2 b2
  replace R2 := Lib.hid R2
  replace R1 := Lib.hid R1
  replace hcv := Lib.hid hcv
  go_upto_region 3 with fail
  rw [← hW2]
  clear hW2 iA cA fA
  have hB2 := b2.size
  have hal2 := belowAlloc W2 (.cells #[.int .i64 (a : Int)] 3)
  have hq2 := OwnI.lit W2.heap.size W2 (Nat.le_refl _) [(a : Int)] (by simp [maxLen]) #[.int .i64 (a : Int)] rfl 1 rfl
  have R3 := R2.out.add (i := (2, 0)) (r' := rowI (.slice (some ⟨W2.heap.size, 0, none⟩) 1 1) [(a : Int)]) hal2 (hq2.mono hB2) (fun k hk => (hq2.lt k hk).1)
  have b3 := b2.trans (hal2.mono hB2)
  obtain ⟨W3, hW3⟩ : ∃ W3 : World, W3 = W2.alloc (.cells #[.int .i64 (a : Int)] 3) := ⟨_, rfl⟩
  rw [← hW3] at R3 b3
  obtain ⟨q2, hq2e⟩ : ∃ q2, q2 = W2.heap.size := ⟨_, rfl⟩
  rw [← hq2e] at R3
  have hF0 : FN (upd (upd (upd (fun _ => none) (1, 0) (some (rowI cv (tabI G.length fun _ => -1)))) (1, 0) (some (rowI cv (tabI G.length (updN (fun _ => (-1 : Int)) a (a : Int)))))) (2, 0) (some (rowI (.slice (some ⟨q2, 0, none⟩) 1 1) [(a : Int)]))) cv (.slice (some ⟨q2, 0, none⟩) 1 1) G.length (updN (fun _ => (-1 : Int)) a (a : Int)) [a] :=
    ⟨by rw [upd_ne _ _ (by simp), upd_same], by rw [upd_same]; rfl⟩
  replace R3 := Lib.hid R3
  replace hq2 := Lib.hid hq2
  go_wp2_with fail
  rw [← hW3, ← hq2e]
  clear hW3 hq2e R2 R1 hal2 hq2
  go_loopw [8, 9] (fun qv iv wr => ∃ (i : Nat) (came : Nat → Int) (q : List Nat) (par dist : Nat → Nat) (f' : Names) (qw : Value), qw = qv ∧ iv = .int .i64 i ∧ i ≤ q.length ∧ Rows w.heap.size wr f' ∧ Below w.heap.size w wr ∧ FN f' cv qw G.length came q ∧ BOut (adjOf G) a came q par dist i ∧ ∀ x ∈ q, x < G.length) (fun _ iv _ => G.length + 1 - (intOf iv).toNat)
  case atStart => exact ⟨0, _, [a], _, _, _, _, rfl, rfl, by omega, R3.out, b3, hF0, hinit.out, fun x hx => by cases List.mem_singleton.1 hx; exact ha⟩
  case round =>
    obtain ⟨i, came, q, par, dist, f1, qv, rfl, rfl, hi, hr1, b1', h1, hO, hqn⟩ := hrel
    obtain ⟨wo, rfl⟩ : ∃ wo : World, wo = wr := ⟨_, rfl⟩
    have hql := nodup_len G.length q hO.nodup hqn
    have hOQ := hr1.ownI h1.queue
    have lQ := hOQ.at.len
    rw [castI_len] at lQ
    have hOC := hr1.ownI h1.came
    have iB := fun w' => hOC.at.idx b (by rw [tabI_len]; exact hb) w'
    have cB := hOC.at.cellD b (by rw [tabI_len]; exact hb)
    rw [tabI_get _ _ _ hb] at cB
    generalize valAt cv b = pb at *
    obtain ⟨cb, hcb⟩ : ∃ cb, came b = cb := ⟨_, rfl⟩
    rw [hcb] at cB
    by_cases hil : i < q.length
    · by_cases hneg : cb < 0
      · obtain ⟨v, hv⟩ : ∃ v, q[i]? = some v := ⟨_, List.getElem?_eq_getElem hil⟩
        have hvn := hqn v (List.mem_of_getElem? hv)
        have iV := fun w' => hOQ.at.idx i (by rw [castI_len]; exact hil) w'
        have cV := hOQ.at.cellD i (by rw [castI_len]; exact hil)
        rw [castI_get hv] at cV
        obtain ⟨mv, iR, cR, hM⟩ := (h.out.below (b1' : Below w.heap.size w wo)).row v hvn
        have hgx := hsz.out v hvn
        have hgp : ∀ x ∈ G.getD v [], 0 ≤ x ∧ x < G.length := hok.out v hvn
        have hadj : adjOf G v = (G.getD v []).map Int.toNat := rfl
        generalize G.getD v [] = gx at *
        obtain ⟨ma, mn, mc, rfl⟩ := hM.shape
        generalize valAt qv i = qa at *
        generalize valAt (.slice na G.length nc) v = ra at *
        replace hcb := Lib.hid hcb
        replace hr1 := Lib.hid hr1
        replace hOQ := Lib.hid hOQ
        replace hOC := Lib.hid hOC
        replace hM := Lib.hid hM
        replace hO := Lib.hid hO
        replace hqn := Lib.hid hqn
        replace hgp := Lib.hid hgp
        replace hadj := Lib.hid hadj
        replace hv := Lib.hid hv
        go_wp2_with fail
        refine (vals_any ma mn mc _).mono ?_
        rintro e w2 ⟨rfl, rfl⟩
        have hbv := belowAlloc wo (.cells #[.slice ma mn mc] 22)
        clear iB cB iV cV iR cR
        go_wp2_with fail
        refine (sorted_any wo.heap.size (.slice ma mn mc) gx hgx _ (by simp) (by simp) (hM.out.below hbv)).mono ?_
        rintro e w3 ⟨lv, rfl, b3', hL⟩
        have b4 : Below wo.heap.size wo w3 := hbv.trans (b3'.mono hbv.size)
        have hBo : w.heap.size ≤ wo.heap.size := b1'.size
        have R4 := hr1.out.add (i := (3, 0)) (r' := rowI lv (srt gx)) b4 (hL.mono (Nat.le_trans hBo hbv.size)) (fun k hk => Nat.le_trans hbv.size (hL.lt k hk).1)
        have h4 : FN (upd f1 (3, 0) (some (rowI lv (srt gx)))) cv qv G.length came q := h1.congr (upd_ne _ _ (by simp)) (upd_ne _ _ (by simp))
        have e4 : upd f1 (3, 0) (some (rowI lv (srt gx))) (3, 0) = some (rowI lv (srt gx)) := upd_same _ _ _
        have b5 := b1'.trans (b4.mono hBo)
        have hIn := hO.out.enter hv.out (l := (srtN gx).drop 0) (fun t => by rw [List.drop_zero, hadj.out]; exact srtN_mem gx t) (by rw [List.drop_zero]; exact srtN_sorted gx fun x hx => (hgp.out x hx).1)
        have lL := hL.at.len
        have hsl : (srt gx).length = gx.length := srt_length gx
        generalize upd f1 (3, 0) (some (rowI lv (srt gx))) = f4 at *
        replace R4 := Lib.hid R4
        replace hIn := Lib.hid hIn
        replace hL := Lib.hid hL
        replace e4 := Lib.hid e4
        go_wp2_with fail
        clear lL lQ
        go_loopw [8, 49] (fun qv jv wr => ∃ (j : Nat) (came : Nat → Int) (q : List Nat) (par dist : Nat → Nat) (f' : Names) (qw : Value), qw = qv ∧ jv = .int .i64 j ∧ j ≤ gx.length ∧ Rows w.heap.size wr f' ∧ Below w.heap.size w wr ∧ FN f' cv qw G.length came q ∧ f' (3, 0) = some (rowI lv (srt gx)) ∧ BIn (adjOf G) a came q par dist i v ((srtN gx).drop j) ∧ ∀ x ∈ q, x < G.length) (fun _ jv _ => gx.length - (intOf jv).toNat)
        case atStart => exact ⟨0, came, q, par, dist, f4, qv, rfl, rfl, by omega, R4.out, b5, h4, e4.out, hIn.out, hqn.out⟩
        case round =>
          clear hIn R4 e4 h4 b5 h1 hi hil hO hqn hv hOQ hOC hneg hcb
          obtain ⟨j, came, q, par, dist, f4, qv, rfl, rfl, hj, hr4, b5, h4, e4, hIn, hqn⟩ := hrel
          obtain ⟨wo, rfl⟩ : ∃ wo : World, wo = wr := ⟨_, rfl⟩
          have hOL := hr4.ownI e4
          have lL := hOL.at.len
          rw [hsl] at lL
          by_cases hjl : j < gx.length
          · have hjs : j < (srtN gx).length := by rw [srtN_len]; exact hjl
            obtain ⟨t, ht⟩ : ∃ t, (srtN gx)[j]? = some t := ⟨_, List.getElem?_eq_getElem hjs⟩
            have htd : (srtN gx).getD j 0 = t := by simp [List.getD, ht]
            have hdr : (srtN gx).drop j = t :: (srtN gx).drop (j + 1) := by
              rw [List.drop_eq_getElem_cons hjs]
              rw [List.getElem?_eq_getElem hjs] at ht
              injection ht with ht
              rw [ht]
            have htn : t < G.length := by
              have hm := (srtN_mem gx t).1 (List.mem_of_getElem? ht)
              obtain ⟨x, hx, rfl⟩ := List.mem_map.1 hm
              have := hgp.out x hx
              omega
            have iT := fun w' => hOL.at.idx j (by rw [hsl]; exact hjl) w'
            have cT := hOL.at.cellD j (by rw [hsl]; exact hjl)
            rw [srtN_get gx (fun x hx => (hgp.out x hx).1) j hjl, htd] at cT
            rw [hdr] at hIn
            have hOC := hr4.ownI h4.came
            have iC := fun w' => hOC.at.idx t (by rw [tabI_len]; exact htn) w'
            have cC := hOC.at.cellD t (by rw [tabI_len]; exact htn)
            rw [tabI_get _ _ _ htn] at cC
            have fC := hOC.frz t (by rw [tabI_len]; exact htn)
            have kC := (hOC.toV.blkB t (by rw [List.length_map, tabI_len]; exact htn)).2
            obtain ⟨f5, hr5, h5, k5⟩ := h4.set hr4 t htn (v : Int)
            have e5 : f5 (3, 0) = some (rowI lv (srt gx)) := (k5 _ (by simp)).trans e4
            have b6 : Below w.heap.size w (wo.setCell (valAt cv t) (.int .i64 (v : Int))) := b5.setCell kC _
            generalize valAt lv j = la at *
            generalize valAt cv t = ta at *
            obtain ⟨ct, hct⟩ : ∃ ct, came t = ct := ⟨_, rfl⟩
            rw [hct] at cC
            by_cases htc : ct < 0
            · have hadd := hIn.add (by rw [hct]; exact htc)
              have hqn2 : ∀ x ∈ q ++ [t], x < G.length := fun x hx => by
                rcases List.mem_append.1 hx with hx | hx
                · exact hqn x hx
                · cases List.mem_singleton.1 hx; exact htn
              have hql2 := nodup_len G.length q hIn.base.nodup hqn
              replace hadd := Lib.hid hadd
              replace hqn2 := Lib.hid hqn2
              replace hIn := Lib.hid hIn
              replace hqn := Lib.hid hqn
              replace hr4 := Lib.hid hr4
              replace hr5 := Lib.hid hr5
              replace hOC := Lib.hid hOC
              replace hOL := Lib.hid hOL
              replace hct := Lib.hid hct
              replace hdr := Lib.hid hdr
              replace htd := Lib.hid htd
              replace ht := Lib.hid ht
              replace k5 := Lib.hid k5
              replace e4 := Lib.hid e4
              replace e5 := Lib.hid e5
              go_upto_region 13 with fail
              obtain ⟨W5, hW5⟩ : ∃ W5 : World, W5 = wo.setCell ta (.int .i64 (v : Int)) := ⟨_, rfl⟩
              rw [← hW5]
              rw [← hW5] at hr5 b6
              clear hW5 iT cT iC cC fC lL
              have hOQ5 := hr5.out.ownI h5.queue
              have hB5 : w.heap.size ≤ W5.heap.size := b6.size
              go_wp2_with (at_builtin; refine wpl_app1 rfl _ _ rfl w.heap.size qv (castI q) t hOQ5 rfl rfl (by rw [castI_len]; omega) hB5 ?_)
              intro qv' w7 ho7 b7 hal7
              obtain ⟨f7, hr7, h7, k7⟩ := h5.push hr5.out t ho7 hal7
              replace hr7 := Lib.hid hr7
              replace ho7 := Lib.hid ho7
              replace k7 := Lib.hid k7
              clear hal7
              go_wp2
              go_roundw
              case measure => simp [intOf]; omega
              case rel => exact ⟨j + 1, _, _, _, _, f7, qv', rfl, by go_num, by omega, hr7.out, b6.trans b7, h7, (k7.out _ (by simp)).trans e5.out, hadd.out, hqn2.out⟩
            · have hold := hIn.old (by rw [hct]; omega)
              replace hold := Lib.hid hold
              replace hIn := Lib.hid hIn
              replace hqn := Lib.hid hqn
              replace hr4 := Lib.hid hr4
              replace hr5 := Lib.hid hr5
              replace hOC := Lib.hid hOC
              replace hOL := Lib.hid hOL
              replace hct := Lib.hid hct
              replace hdr := Lib.hid hdr
              replace htd := Lib.hid htd
              replace ht := Lib.hid ht
              replace k5 := Lib.hid k5
              replace e4 := Lib.hid e4
              replace e5 := Lib.hid e5
              go_wp2
              go_roundw
              case measure => simp [intOf]; omega
              case rel => exact ⟨j + 1, came, q, par, dist, f4, qv, rfl, by go_num, by omega, hr4.out, b5, h4, e4.out, hold.out, hqn.out⟩
          · obtain rfl : j = gx.length := by omega
            rw [List.drop_eq_nil_of_le (by rw [srtN_len]; exact Nat.le_refl _)] at hIn
            have hOut := hIn.leave
            have hil := get_of hIn.cur
            have hql2 := nodup_len G.length q hIn.base.nodup hqn
            replace hOut := Lib.hid hOut
            replace hIn := Lib.hid hIn
            replace hqn := Lib.hid hqn
            replace hr4 := Lib.hid hr4
            replace hOL := Lib.hid hOL
            replace e4 := Lib.hid e4
            go_wp2
            go_roundw
            case measure => simp [intOf]; omega
            case rel => exact ⟨i + 1, came, q, par, dist, f4, qv, rfl, by go_num, by omega, hr4.out, b5, h4, hOut.out, hqn.out⟩
      · have hcb0 : ¬ came b < 0 := by rw [hcb]; exact hneg
        have hbq := (hO.cameIff b).1 (by omega)
        obtain ⟨k0, hk0⟩ := List.mem_iff_getElem?.1 hbq
        have hlit := OwnI.lit wo.heap.size wo (Nat.le_refl _) [(b : Int)] (by simp [maxLen]) #[.int .i64 (b : Int)] rfl 1 rfl
        have halw := belowAlloc wo (.cells #[.int .i64 (b : Int)] 3)
        have hBo : w.heap.size ≤ wo.heap.size := b1'.size
        have R8 := hr1.add (i := (4, 0)) (r' := rowI (.slice (some ⟨wo.heap.size, 0, none⟩) 1 1) (castI [b].reverse)) halw (hlit.mono hBo) (fun k hk => (hlit.lt k hk).1)
        have b8 := b1'.trans (halw.mono hBo)
        have hcame8 : (upd f1 (4, 0) (some (rowI (.slice (some ⟨wo.heap.size, 0, none⟩) 1 1) (castI [b].reverse)))) (1, 0) = some (rowI cv (tabI G.length came)) := (upd_ne _ _ (by simp)).trans h1.came
        have hway8 := upd_same f1 (4, 0) (some (rowI (.slice (some ⟨wo.heap.size, 0, none⟩) 1 1) (castI [b].reverse)))
        generalize upd f1 (4, 0) (some (rowI (.slice (some ⟨wo.heap.size, 0, none⟩) 1 1) (castI [b].reverse))) = f8 at *
        obtain ⟨W8, hW8⟩ : ∃ W8 : World, W8 = wo.alloc (.cells #[.int .i64 (b : Int)] 3) := ⟨_, rfl⟩
        obtain ⟨s8, hs8⟩ : ∃ s8, s8 = wo.heap.size := ⟨_, rfl⟩
        rw [← hW8] at R8 b8
        rw [← hs8] at hway8
        have htree : Tree came q (adjOf G) b b [b] := .one b hbq
        replace hcb := Lib.hid hcb
        replace hr1 := Lib.hid hr1
        replace hOQ := Lib.hid hOQ
        replace hOC := Lib.hid hOC
        replace hO := Lib.hid hO
        replace hqn := Lib.hid hqn
        replace hlit := Lib.hid hlit
        replace R8 := Lib.hid R8
        replace hk0 := Lib.hid hk0
        replace hcame8 := Lib.hid hcame8
        replace hway8 := Lib.hid hway8
        replace htree := Lib.hid htree
        clear halw
        go_wp2_with fail
        rw [← hW8, ← hs8]
        clear hW8 hs8 iB cB lQ
        go_loopg [13, 14] k0 (fun k wv vv wr => ∃ (x : Nat) (u : List Nat) (f' : Names) (ww : Value), ww = wv ∧ vv = .int .i64 x ∧ q[k]? = some x ∧ Tree came q (adjOf G) x b u ∧ Rows w.heap.size wr f' ∧ Below w.heap.size w wr ∧ f' (1, 0) = some (rowI cv (tabI G.length came)) ∧ f' (4, 0) = some (rowI ww (castI u.reverse)) ∧ u.length ≤ G.length + 1 - k)
        case atStart => exact ⟨b, [b], f8, _, rfl, rfl, hk0.out, htree.out, R8.out, b8, hcame8.out, hway8.out, by have := get_of hk0.out; simp only [List.length_cons, List.length_nil]; omega⟩
        case round =>
          clear R8 b8 hcame8 hway8 htree hk0
          obtain ⟨x, u, f9, wv, rfl, rfl, hk, hT, hr9, b9, hc9, hw9, hul⟩ := hrel
          obtain ⟨wo, rfl⟩ : ∃ wo : World, wo = wr := ⟨_, rfl⟩
          obtain ⟨k, rfl⟩ : ∃ k : Nat, k = gk := ⟨_, rfl⟩
          have hxn := hqn.out x (List.mem_of_getElem? hk)
          have hkl := get_of hk
          by_cases hxa : x = a
          · subst hxa
            have hfirst := hO.out.first hT
            have hOW := hr9.ownI hw9
            have hrev := reverse_own w.heap.size wv (castI u.reverse) wo hOW (by rw [castI_len, List.length_reverse]; omega)
            have hrr : (castI u.reverse).reverse = castI u := by rw [castI_reverse, List.reverse_reverse]
            rw [hrr] at hrev
            replace hrev := Lib.hid hrev
            replace hfirst := Lib.hid hfirst
            replace hT := Lib.hid hT
            replace hr9 := Lib.hid hr9
            replace hOW := Lib.hid hOW
            replace hc9 := Lib.hid hc9
            replace hw9 := Lib.hid hw9
            replace hk := Lib.hid hk
            replace hrr := Lib.hid hrr
            go_wp2_with fail
            refine hrev.out.mono ?_
            rintro e w10 ⟨rfl, ho10, b10⟩
            replace ho10 := Lib.hid ho10
            go_wp2
            go_ret
            exact ⟨_, rfl, b9.trans b10, .inl ⟨u, hfirst.out, ho10.out⟩⟩
          · have hk1 : 0 < k := by
              by_cases e : 0 < k
              · exact e
              · obtain rfl : k = 0 := by omega
                have := hO.out.hd
                rw [hk] at this
                injection this with this
                exact absurd this hxa
            obtain ⟨p1, p2, p, p3, p4, p5, p6⟩ := hO.out.parLt k x hk1 hk
            have hT2 := Tree.cons _ _ p3 hk hk1 p4 hT
            have hpn := hqn.out p (List.mem_of_getElem? p3)
            have hne : ((x : Int) != (a : Int)) = true := by rw [bne_iff_ne]; omega
            have hOC9 := hr9.ownI hc9
            have iX := fun w' => hOC9.at.idx x (by rw [tabI_len]; exact hxn) w'
            have cX := hOC9.at.cellD x (by rw [tabI_len]; exact hxn)
            rw [tabI_get _ _ _ hxn, p4] at cX
            have hOW := hr9.ownI hw9
            have hB9 : w.heap.size ≤ wo.heap.size := b9.size
            have hlu : (castI u.reverse).length < 4398046511104 := by rw [castI_len, List.length_reverse]; omega
            have hgrow := fun (w' : World) (wv' : Value) (ho : OwnI w.heap.size w' wv' (castI u.reverse ++ [(p : Int)])) (hal : (roomOf wv' = roomOf wv ∧ wo.grownBy w' wv.ownBlock) ∨ (∃ k, wv'.ownBlock = some k ∧ wo.heap.size ≤ k ∧ wo.grownBy w' none)) => show ∃ f', Rows w.heap.size w' f' ∧ f' (1, 0) = some (rowI cv (tabI G.length came)) ∧ f' (4, 0) = some (rowI wv' (castI (p :: u).reverse)) from by
              have hg : wo.grownBy w' wv.ownBlock := grown_via (hal.imp (·.2) (fun ⟨_, _, _, q⟩ => q))
              have hob : wv'.ownBlock = wv.ownBlock ∨ ∃ k, wv'.ownBlock = some k ∧ wo.heap.size ≤ k := by
                rcases hal with ⟨q, _⟩ | ⟨k, h1, h2, _⟩
                · obtain ⟨a1, n1, c1, e1⟩ := hOW.at.shape
                  obtain ⟨a2, n2, c2, e2⟩ := ho.at.shape
                  exact .inl (ownBlock_of_room e1 e2 q)
                · exact .inr ⟨k, h1, h2⟩
              exact ⟨_, hr9.grown (r' := rowI wv' (castI u.reverse ++ [(p : Int)])) hw9 hg ho hob, by rw [upd_ne _ _ (by simp)]; exact hc9, by rw [upd_same, List.reverse_cons, castI_snoc]⟩
            generalize valAt cv x = xa at *
            replace hgrow := Lib.hid hgrow
            replace hT := Lib.hid hT
            replace hT2 := Lib.hid hT2
            replace hr9 := Lib.hid hr9
            replace hOC9 := Lib.hid hOC9
            replace hc9 := Lib.hid hc9
            replace hw9 := Lib.hid hw9
            replace hk := Lib.hid hk
            replace p3 := Lib.hid p3
            replace p4 := Lib.hid p4
            replace p6 := Lib.hid p6
            go_wp2_with (at_builtin; refine wpl_app1 rfl _ _ rfl w.heap.size wv (castI u.reverse) p hOW rfl rfl hlu hB9 ?_)
            intro wv' w11 ho11 b11 hal11
            obtain ⟨f11, hr11, hc11, hw11⟩ := hgrow.out w11 wv' ho11 hal11
            replace ho11 := Lib.hid ho11
            replace hr11 := Lib.hid hr11
            replace hc11 := Lib.hid hc11
            replace hw11 := Lib.hid hw11
            clear hal11
            go_wp2
            go_roundg (par k)
            case measure => exact p2
            case rel => exact ⟨p, p :: u, f11, wv', rfl, rfl, p3.out, hT2.out, hr11.out, b9.trans b11, hc11.out, hw11.out, by simp only [List.length_cons]; omega⟩
    · by_cases hneg : cb < 0
      · have hnone := hO.none (by omega) (by rw [hcb]; exact hneg)
        replace hnone := Lib.hid hnone
        replace hcb := Lib.hid hcb
        replace hr1 := Lib.hid hr1
        replace hOQ := Lib.hid hOQ
        replace hOC := Lib.hid hOC
        replace hO := Lib.hid hO
        replace hqn := Lib.hid hqn
        go_wp2
        go_ret
        exact ⟨_, rfl, b1', .inr ⟨hnone.out, rfl⟩⟩
      · have hcb0 : ¬ came b < 0 := by rw [hcb]; exact hneg
        have hbq := (hO.cameIff b).1 (by omega)
        obtain ⟨k0, hk0⟩ := List.mem_iff_getElem?.1 hbq
        have hlit := OwnI.lit wo.heap.size wo (Nat.le_refl _) [(b : Int)] (by simp [maxLen]) #[.int .i64 (b : Int)] rfl 1 rfl
        have halw := belowAlloc wo (.cells #[.int .i64 (b : Int)] 3)
        have hBo : w.heap.size ≤ wo.heap.size := b1'.size
        have R8 := hr1.add (i := (4, 0)) (r' := rowI (.slice (some ⟨wo.heap.size, 0, none⟩) 1 1) (castI [b].reverse)) halw (hlit.mono hBo) (fun k hk => (hlit.lt k hk).1)
        have b8 := b1'.trans (halw.mono hBo)
        have hcame8 : (upd f1 (4, 0) (some (rowI (.slice (some ⟨wo.heap.size, 0, none⟩) 1 1) (castI [b].reverse)))) (1, 0) = some (rowI cv (tabI G.length came)) := (upd_ne _ _ (by simp)).trans h1.came
        have hway8 := upd_same f1 (4, 0) (some (rowI (.slice (some ⟨wo.heap.size, 0, none⟩) 1 1) (castI [b].reverse)))
        generalize upd f1 (4, 0) (some (rowI (.slice (some ⟨wo.heap.size, 0, none⟩) 1 1) (castI [b].reverse))) = f8 at *
        obtain ⟨W8, hW8⟩ : ∃ W8 : World, W8 = wo.alloc (.cells #[.int .i64 (b : Int)] 3) := ⟨_, rfl⟩
        obtain ⟨s8, hs8⟩ : ∃ s8, s8 = wo.heap.size := ⟨_, rfl⟩
        rw [← hW8] at R8 b8
        rw [← hs8] at hway8
        have htree : Tree came q (adjOf G) b b [b] := .one b hbq
        replace hcb := Lib.hid hcb
        replace hr1 := Lib.hid hr1
        replace hOQ := Lib.hid hOQ
        replace hOC := Lib.hid hOC
        replace hO := Lib.hid hO
        replace hqn := Lib.hid hqn
        replace hlit := Lib.hid hlit
        replace R8 := Lib.hid R8
        replace hk0 := Lib.hid hk0
        replace hcame8 := Lib.hid hcame8
        replace hway8 := Lib.hid hway8
        replace htree := Lib.hid htree
        clear halw
        go_wp2_with fail
        rw [← hW8, ← hs8]
        clear hW8 hs8 iB cB lQ
        go_loopg [13, 14] k0 (fun k wv vv wr => ∃ (x : Nat) (u : List Nat) (f' : Names) (ww : Value), ww = wv ∧ vv = .int .i64 x ∧ q[k]? = some x ∧ Tree came q (adjOf G) x b u ∧ Rows w.heap.size wr f' ∧ Below w.heap.size w wr ∧ f' (1, 0) = some (rowI cv (tabI G.length came)) ∧ f' (4, 0) = some (rowI ww (castI u.reverse)) ∧ u.length ≤ G.length + 1 - k)
        case atStart => exact ⟨b, [b], f8, _, rfl, rfl, hk0.out, htree.out, R8.out, b8, hcame8.out, hway8.out, by have := get_of hk0.out; simp only [List.length_cons, List.length_nil]; omega⟩
        case round =>
          clear R8 b8 hcame8 hway8 htree hk0
          obtain ⟨x, u, f9, wv, rfl, rfl, hk, hT, hr9, b9, hc9, hw9, hul⟩ := hrel
          obtain ⟨wo, rfl⟩ : ∃ wo : World, wo = wr := ⟨_, rfl⟩
          obtain ⟨k, rfl⟩ : ∃ k : Nat, k = gk := ⟨_, rfl⟩
          have hxn := hqn.out x (List.mem_of_getElem? hk)
          have hkl := get_of hk
          by_cases hxa : x = a
          · subst hxa
            have hfirst := hO.out.first hT
            have hOW := hr9.ownI hw9
            have hrev := reverse_own w.heap.size wv (castI u.reverse) wo hOW (by rw [castI_len, List.length_reverse]; omega)
            have hrr : (castI u.reverse).reverse = castI u := by rw [castI_reverse, List.reverse_reverse]
            rw [hrr] at hrev
            replace hrev := Lib.hid hrev
            replace hfirst := Lib.hid hfirst
            replace hT := Lib.hid hT
            replace hr9 := Lib.hid hr9
            replace hOW := Lib.hid hOW
            replace hc9 := Lib.hid hc9
            replace hw9 := Lib.hid hw9
            replace hk := Lib.hid hk
            replace hrr := Lib.hid hrr
            go_wp2_with fail
            refine hrev.out.mono ?_
            rintro e w10 ⟨rfl, ho10, b10⟩
            replace ho10 := Lib.hid ho10
            go_wp2
            go_ret
            exact ⟨_, rfl, b9.trans b10, .inl ⟨u, hfirst.out, ho10.out⟩⟩
          · have hk1 : 0 < k := by
              by_cases e : 0 < k
              · exact e
              · obtain rfl : k = 0 := by omega
                have := hO.out.hd
                rw [hk] at this
                injection this with this
                exact absurd this hxa
            obtain ⟨p1, p2, p, p3, p4, p5, p6⟩ := hO.out.parLt k x hk1 hk
            have hT2 := Tree.cons _ _ p3 hk hk1 p4 hT
            have hpn := hqn.out p (List.mem_of_getElem? p3)
            have hne : ((x : Int) != (a : Int)) = true := by rw [bne_iff_ne]; omega
            have hOC9 := hr9.ownI hc9
            have iX := fun w' => hOC9.at.idx x (by rw [tabI_len]; exact hxn) w'
            have cX := hOC9.at.cellD x (by rw [tabI_len]; exact hxn)
            rw [tabI_get _ _ _ hxn, p4] at cX
            have hOW := hr9.ownI hw9
            have hB9 : w.heap.size ≤ wo.heap.size := b9.size
            have hlu : (castI u.reverse).length < 4398046511104 := by rw [castI_len, List.length_reverse]; omega
            have hgrow := fun (w' : World) (wv' : Value) (ho : OwnI w.heap.size w' wv' (castI u.reverse ++ [(p : Int)])) (hal : (roomOf wv' = roomOf wv ∧ wo.grownBy w' wv.ownBlock) ∨ (∃ k, wv'.ownBlock = some k ∧ wo.heap.size ≤ k ∧ wo.grownBy w' none)) => show ∃ f', Rows w.heap.size w' f' ∧ f' (1, 0) = some (rowI cv (tabI G.length came)) ∧ f' (4, 0) = some (rowI wv' (castI (p :: u).reverse)) from by
              have hg : wo.grownBy w' wv.ownBlock := grown_via (hal.imp (·.2) (fun ⟨_, _, _, q⟩ => q))
              have hob : wv'.ownBlock = wv.ownBlock ∨ ∃ k, wv'.ownBlock = some k ∧ wo.heap.size ≤ k := by
                rcases hal with ⟨q, _⟩ | ⟨k, h1, h2, _⟩
                · obtain ⟨a1, n1, c1, e1⟩ := hOW.at.shape
                  obtain ⟨a2, n2, c2, e2⟩ := ho.at.shape
                  exact .inl (ownBlock_of_room e1 e2 q)
                · exact .inr ⟨k, h1, h2⟩
              exact ⟨_, hr9.grown (r' := rowI wv' (castI u.reverse ++ [(p : Int)])) hw9 hg ho hob, by rw [upd_ne _ _ (by simp)]; exact hc9, by rw [upd_same, List.reverse_cons, castI_snoc]⟩
            generalize valAt cv x = xa at *
            replace hgrow := Lib.hid hgrow
            replace hT := Lib.hid hT
            replace hT2 := Lib.hid hT2
            replace hr9 := Lib.hid hr9
            replace hOC9 := Lib.hid hOC9
            replace hc9 := Lib.hid hc9
            replace hw9 := Lib.hid hw9
            replace hk := Lib.hid hk
            replace p3 := Lib.hid p3
            replace p4 := Lib.hid p4
            replace p6 := Lib.hid p6
            go_wp2_with (at_builtin; refine wpl_app1 rfl _ _ rfl w.heap.size wv (castI u.reverse) p hOW rfl rfl hlu hB9 ?_)
            intro wv' w11 ho11 b11 hal11
            obtain ⟨f11, hr11, hc11, hw11⟩ := hgrow.out w11 wv' ho11 hal11
            replace ho11 := Lib.hid ho11
            replace hr11 := Lib.hid hr11
            replace hc11 := Lib.hid hc11
            replace hw11 := Lib.hid hw11
            clear hal11
            go_wp2
            go_roundg (par k)
            case measure => exact p2
            case rel => exact ⟨p, p :: u, f11, wv', rfl, rfl, p3.out, hT2.out, hr11.out, b9.trans b11, hc11.out, hw11.out, by simp only [List.length_cons]; omega⟩
end Go.Proofs.YtilpckngghffoaaGreatDoor

namespace Go.Proofs.YtilpckngghffoaaGreatDoor
open Go.RowKit
set_option maxRecDepth 100000

theorem lenArr (g K c : Nat) (w : World) : (Builtin.len_ #[119] 3 #[.slice (some ⟨g, 0, none⟩) K c]).run Tryz.prog w = .ok (.int .i64 K) w := by
  rw [run_len_slice _ _ _ _ _ _ (by kernel_rfl)]; rfl
theorem idxArr (g K c s : Nat) (hs : s < K) (w : World) : (Instr.indexAt 119 (.slice (some ⟨g, 0, none⟩) K c) (.int .i64 s)).run Tryz.prog w = .ok (.pointer (some ⟨g, s * 2, none⟩)) w := by
  have e : Tryz.prog.elem 119 = 121 := by kernel_rfl
  have hz : ∀ w : World, (sizeOf 121).run Tryz.prog w = .ok 2 w := fun w => by kernel_rfl
  rw [run_indexAt_slice _ _ _ _ _ _ _ (by rw [e]; kernel_rfl), if_pos (by omega), e, hz]
  simp only [Result.andThen, Addr.add, Int.toNat_natCast]
  by_cases e : s * 2 = 0
  · rw [if_pos e]
    simp only [e]
  · rw [if_neg e]
    simp
/-- While the lists are written. -/
def pairTo (K N : Nat) (T : List Int) (k p : Nat) : List Int := if p < k then castI (pairL K N T p) else []
theorem pairTo_zero (K N : Nat) (T : List Int) : pairTo K N T 0 = fun _ => [] := by funext p; unfold pairTo; rw [if_neg (by omega)]
theorem pairTo_step (K N : Nat) (T : List Int) (k : Nat) : updN (pairTo K N T k) k (castI (pairL K N T k)) = pairTo K N T (k + 1) := by
  funext p
  unfold pairTo
  by_cases e : p = k
  · subst e; rw [updN_same, if_pos (by omega)]
  · rw [updN_other _ _ _ e]
    by_cases h : p < k
    · rw [if_pos h, if_pos (by omega)]
    · rw [if_neg h, if_neg (by omega)]
/-- The graph of pairs. -/
def pairG (K N : Nat) (T : List Int) : List (List Int) := rowsOf (N * N) fun p => castI (pairL K N T p)
theorem cell_grown {w w' : World} {row : Option Nat} {p : Addr} {v : Value} (hg : w.grownBy w' row) (h : w.cell? p = some v) (hne : row ≠ some p.block) : w'.cell? p = some v :=
  (World.cell?_of_block (hg.block _ (World.block_lt_of_cell? _ _ h) (fun e => hne e.symm))).trans h
theorem Rows.monoB {B B' : Nat} {w : World} {f : Names} (h : Rows B w f) (hB : B' ≤ B) : Rows B' w f :=
  ⟨fun i r hi => by
    have ho := h.1 i r hi
    refine ⟨ho.1, ?_⟩
    rcases ho.2 with h2 | ⟨g, cap, cur, e, hb, r⟩
    · exact .inl h2
    · exact .inr ⟨g, cap, cur, e, Nat.le_trans hB hb, r⟩, h.2⟩

set_option maxHeartbeats 1000000 in
theorem pgraph_ok (r : Nat → Addr) (K R : Nat) (va : Option Addr) (vn vc : Nat) (T : List Int) (w : World) (hg : Glob r w) (h : IntsAt w (.slice va vn vc) T) (hr : RuleOk K R T) (hl : T.length ≤ 256) :
    Calls Tryz.prog 35 #[.agg #[.int .i64 K, .int .i64 R, .slice va vn vc]] w (Ret2 (fun x y w' => y = .nilIface ∧ ∃ f vals, Rows w.heap.size w' f ∧ WN f x vals (pw K (2 * wkR R) * pw K (2 * wkR R)) (fun p => castI (pairL K (pw K (2 * wkR R)) (wkT K R T) p))) w) := by
  have b0 := belowAlloc w (.cells #[.int .i64 K, .int .i64 R, .slice va vn vc] 24)
  have q : Box3 (w.alloc (.cells #[.int .i64 K, .int .i64 R, .slice va vn vc] 24)) w.heap.size (.int .i64 K) (.int .i64 R) (.slice va vn vc) := by simp [Box3, go_sem]
  have hk1 := hr.k1
  have hk4 := hr.k4
  have hokW := wk_ok hr
  have hlW := wk_small hr hl
  have hRW := wk_pos R
  have hN81 := nodes_le hokW hRW hlW
  obtain ⟨hdiv, hlen⟩ := hokW.half
  have hN1 := pw_pos (K := K) (2 * wkR R) hk1
  have hwork := fun (w' : World) (hgl : Glob r w') (hT : IntsAt w' (.slice va vn vc) T) => working_ok r K R va vn vc T w' hgl hT hr hl
  have harr := fun (a : Option Addr) (n c : Nat) (w' : World) (hgl : Glob r w') (hT : IntsAt w' (.slice a n c) (wkT K R T)) => arrows_any r K (wkR R) a n c (wkT K R T) w' hgl hT hokW hlW
  rw [hdiv] at harr
  generalize pw K (2 * wkR R) = N at *
  generalize wkT K R T = T' at *
  generalize wkR R = R' at *
  replace hwork := Lib.hid hwork
  replace harr := Lib.hid harr
  replace hg := Lib.hid (hg.below b0)
  replace h := Lib.hid (h.below b0)
  replace hokW := Lib.hid hokW
  replace hr := Lib.hid hr
  replace hdiv := Lib.hid hdiv
  replace hlen := Lib.hid hlen
  go_enter Tryz.func35, Tryz.ntmps35
  go_wp2_with fail
  refine (hwork.out _ hg.out h.out).mono ?_
  rintro e w1 ⟨x, y, rfl, b1, rfl, a, n, c, rfl, hT1⟩
  have b01 := Below.step b0 b1
  have ba := belowAlloc w1 (.cells #[.int .i64 K, .int .i64 R', .slice a n c] 24)
  have q1 : Box3 (w1.alloc (.cells #[.int .i64 K, .int .i64 R', .slice a n c] 24)) w1.heap.size (.int .i64 K) (.int .i64 R') (.slice a n c) := by simp [Box3, go_sem]
  have b02 := Below.step b01 ba
  have b12 := Below.step b1 ba
  have hT2 := hT1.below ba
  clear q
  replace hT1 := Lib.hid hT1
  replace hT2 := Lib.hid hT2
  go_wp2_with fail
  refine (harr.out a n c _ (hg.out.below b12) hT2.out).mono ?_
  rintro e w3 ⟨lv, rfl, b3, hA⟩
  have b03 := Below.step b02 b3
  clear q1
  obtain ⟨vs, hvs, hvl, hrows⟩ := hA
  obtain ⟨la, ln, lc, rfl⟩ := hvs.shape
  have ll := fun w' => hvs.len oneArrows 3 w'
  rw [hvl] at ll
  have hNN : (N : Int) * (N : Int) = ((N * N : Nat) : Int) := by simp
  have hM6 : N * N ≤ 6561 := Nat.mul_le_mul hN81 hN81
  have hNz1 : ¬ (N : Int) = 0 := by omega
  have hNz2 : ((N : Int) == 0) = false := by rw [beq_eq_false_iff_ne]; omega
  have hNz3 : (0 : Int) < N := by omega
  have hNz4 : ¬ N = 0 := by omega
  obtain ⟨M, hM⟩ : ∃ M, N * N = M := ⟨_, rfl⟩
  rw [hM] at hNN hM6
  have hwM : IntKind.i64.wrap (M : Int) = M := wrapK (by omega) (by omega)
  obtain ⟨ov, w4, mk, ho, hb4⟩ := run_makeW oneLists (M : Int) M w3 rfl (by omega)
  obtain ⟨f1, hr1, h1⟩ := WN.made M hb4 (Nat.le_refl _) ho
  obtain ⟨oa, on, oc, rfl⟩ := ho.shape
  have lo := fun w' => (ho.at).len oneLists 3 w'
  rw [List.length_replicate] at lo
  rw [← pairTo_zero K N T'] at h1
  replace hvs := Lib.hid hvs
  replace hrows := Lib.hid hrows
  replace hr1 := Lib.hid hr1
  replace ho := Lib.hid ho
  replace hM := Lib.hid hM
  go_wp2_with fail
  clear mk lo ll
  go_loopw [33] (fun kv wr => ∃ (k : Nat) (f : Names) (vals : List Value), k ≤ M ∧ kv = .int .i64 k ∧ Rows w3.heap.size wr f ∧ Below w3.heap.size w3 wr ∧ WN f (.slice oa on oc) vals M (pairTo K N T' k)) (fun kv _ => M - (intOf kv).toNat)
  case atStart => exact ⟨0, f1, _, by omega, rfl, hr1.out, hb4, h1⟩
  case round =>
    clear h1 ho hr1 hb4
    obtain ⟨k, f2, vals, hk, rfl, hr2, b2, h2⟩ := hrel
    obtain ⟨wo, rfl⟩ : ∃ wo : World, wo = wr := ⟨_, rfl⟩
    by_cases hlt : k < M
    · obtain ⟨u, hu⟩ : ∃ u, k / N = u := ⟨_, rfl⟩
      obtain ⟨v, hv⟩ : ∃ v, k % N = v := ⟨_, rfl⟩
      have hun : u < N := by rw [← hu]; exact div_lt_of (by rw [hM.out]; exact hlt)
      have hvn : v < N := by rw [← hv]; exact Nat.mod_lt _ (by omega)
      have hqu : (k : Int) / (N : Int) = (u : Int) := by rw [← hu]; simp
      have hqv : (k : Int) % (N : Int) = (v : Int) := by rw [← hv]; simp
      have hqu2 : (k : Int).tdiv (N : Int) = (u : Int) := by rw [Int.tdiv_eq_ediv_of_nonneg (by omega)]; exact hqu
      have hqv2 : (k : Int).tmod (N : Int) = (v : Int) := by rw [Int.tmod_eq_emod_of_nonneg (by omega)]; exact hqv
      have hwu : IntKind.i64.wrap (u : Int) = u := wrapK (by omega) (by omega)
      have hwv : IntKind.i64.wrap (v : Int) = v := wrapK (by omega) (by omega)
      obtain ⟨gu, cu, eu, hcu, hcellU⟩ := hrows.out u hun
      obtain ⟨gv, cv, ev, hcv, hcellV⟩ := hrows.out v hvn
      have iU := fun w' => hvs.out.idx oneArrows u (by omega) w'
      have iV := fun w' => hvs.out.idx oneArrows v (by omega) w'
      have cU3 := hvs.out.cellV u (by omega)
      have cV3 := hvs.out.cellV v (by omega)
      rw [eu] at cU3
      rw [ev] at cV3
      have cU := (b2.cell (World.block_lt_of_cell? _ _ cU3)).trans cU3
      generalize valAt (.slice la ln lc) u = ua at *
      have lenU := lenArr gu K cu
      have lenV := lenArr gv K cv
      have idxU := fun s (hs : s < K) w' => idxArr gu K cu s hs w'
      have idxV := fun s (hs : s < K) w' => idxArr gv K cv s hs w'
      have hcU := fun (w' : World) (hb : Below w3.heap.size w3 w') s (hs : s < K) => (⟨cell_keep hb (hcellU s hs).1, cell_keep hb (hcellU s hs).2⟩ : w'.cell? ⟨gu, s * 2, none⟩ = some (.int .i64 (toN K N u s)) ∧ w'.cell? ⟨gu, s * 2 + 1, none⟩ = some (.int .i64 (labN K T' u s)))
      have hcV := fun (w' : World) (hb : Below w3.heap.size w3 w') s (hs : s < K) => (⟨cell_keep hb (hcellV s hs).1, cell_keep hb (hcellV s hs).2⟩ : w'.cell? ⟨gv, s * 2, none⟩ = some (.int .i64 (toN K N v s)) ∧ w'.cell? ⟨gv, s * 2 + 1, none⟩ = some (.int .i64 (labN K T' v s)))
      have cVk := fun (w' : World) (hb : Below w3.heap.size w3 w') => (hb.cell (World.block_lt_of_cell? _ _ cV3)).trans cV3
      generalize valAt (.slice la ln lc) v = va' at *
      replace hcU := Lib.hid hcU
      replace hcV := Lib.hid hcV
      replace cVk := Lib.hid cVk
      replace idxU := Lib.hid idxU
      replace idxV := Lib.hid idxV
      replace hcellU := Lib.hid hcellU
      replace hcellV := Lib.hid hcellV
      replace hr2 := Lib.hid hr2
      replace hu := Lib.hid hu
      replace hv := Lib.hid hv
      replace eu := Lib.hid eu
      replace ev := Lib.hid ev
      clear cU3 cV3
      go_wp2_with fail
      clear cU iU
      go_loopw [10, 43] (fun tv sv wr => ∃ (s : Nat) (tw : Value), s ≤ K ∧ sv = .int .i64 s ∧ tw = tv ∧ OwnI wo.heap.size wr tw (castI (rawP K N T' u v s)) ∧ Below wo.heap.size wo wr) (fun _ sv _ => K - (intOf sv).toNat)
      case atStart => exact ⟨0, _, by omega, rfl, rfl, OwnI.nil _ _, Below.refl _ _⟩
      case round =>
        obtain ⟨s, tv, hs, rfl, rfl, hoT, bT⟩ := hrel
        obtain ⟨wt, rfl⟩ : ∃ wt : World, wt = wr := ⟨_, rfl⟩
        by_cases hsl : s < K
        · have b3t := b2.trans (bT.mono b2.size)
          have iS := fun w' => idxU.out s hsl w'
          obtain ⟨cS0, cS1⟩ := hcU.out wt b3t s hsl
          obtain ⟨X, hX⟩ : ∃ X, toN K N u s = X := ⟨_, rfl⟩
          obtain ⟨Y, hY⟩ : ∃ Y, labN K T' u s = Y := ⟨_, rfl⟩
          rw [hX] at cS0
          rw [hY] at cS1
          have hXN : X < N := by rw [← hX]; exact toN_lt (by omega)
          have bA := belowAlloc wt (.cells #[.int .i64 X, .int .i64 Y] 121)
          have bTA := bT.trans (bA.mono bT.size)
          have b3A := b3t.trans (bA.mono b3t.size)
          have cA0 : (wt.alloc (.cells #[.int .i64 X, .int .i64 Y] 121)).cell? ⟨wt.heap.size, 0, none⟩ = some (.int .i64 X) := by simp [go_sem]
          have cA1 : (wt.alloc (.cells #[.int .i64 X, .int .i64 Y] 121)).cell? ⟨wt.heap.size, 1, none⟩ = some (.int .i64 Y) := by simp [go_sem]
          have cV := cVk.out _ b3A
          have hoA := hoT.below bA
          have hneT : tv.ownBlock ≠ some wt.heap.size := fun e => by have := (hoT.lt _ e).2; omega
          replace hoT := Lib.hid hoT
          replace hoA := Lib.hid hoA
          replace hX := Lib.hid hX
          replace hY := Lib.hid hY
          replace cA0 := Lib.hid cA0
          replace cA1 := Lib.hid cA1
          go_wp2_with fail
          obtain ⟨wa, hwa⟩ : ∃ wa : World, wa = wt.alloc (.cells #[.int .i64 X, .int .i64 Y] 121) := ⟨_, rfl⟩
          rw [← hwa] at bA bTA b3A cA0 cA1 cV hoA ⊢
          replace hwa := Lib.hid hwa
          go_loopw [10, 54] (fun tv' jv wr => ∃ (j : Nat) (tw : Value), j ≤ K ∧ jv = .int .i64 j ∧ tw = tv' ∧ OwnI wo.heap.size wr tw (castI (rawP K N T' u v s ++ rawS K N T' u v s j)) ∧ Below wo.heap.size wo wr ∧ tw.ownBlock ≠ some wt.heap.size ∧ wr.cell? ⟨wt.heap.size, 0, none⟩ = some (.int .i64 X) ∧ wr.cell? ⟨wt.heap.size, 1, none⟩ = some (.int .i64 Y)) (fun _ jv _ => K - (intOf jv).toNat)
          case atStart => exact ⟨0, _, by omega, rfl, rfl, by simpa [rawS] using hoA.out, bTA, hneT, cA0.out, cA1.out⟩
          case round =>
            obtain ⟨j, tj, hj, rfl, rfl, hoJ, bJ, hne, y0, y1⟩ := hrel
            obtain ⟨wj, rfl⟩ : ∃ wj : World, wj = wr := ⟨_, rfl⟩
            by_cases hjl : j < K
            · have b3j := b2.trans (bJ.mono b2.size)
              have iJ := fun w' => idxV.out j hjl w'
              obtain ⟨cJ0, cJ1⟩ := hcV.out wj b3j j hjl
              obtain ⟨X2, hX2⟩ : ∃ X, toN K N v j = X := ⟨_, rfl⟩
              obtain ⟨Y2, hY2⟩ : ∃ Y, labN K T' v j = Y := ⟨_, rfl⟩
              rw [hX2] at cJ0
              rw [hY2] at cJ1
              have hXN2 : X2 < N := by rw [← hX2]; exact toN_lt (by omega)
              have bA2 := belowAlloc wj (.cells #[.int .i64 X2, .int .i64 Y2] 121)
              have y0' := cell_keep bA2 y0
              have y1' := cell_keep bA2 y1
              have bJA := bJ.trans (bA2.mono bJ.size)
              have hoJA := hoJ.below bA2
              have hsz := bJA.size
              have hwt : wt.heap.size < wj.heap.size := World.block_lt_of_cell? _ _ y0
              have hlenJ : (castI (rawP K N T' u v s ++ rawS K N T' u v s j)).length ≤ 100 := by
                rw [castI_len, List.length_append]
                have e1 := rawP_len K N T' u v s
                have e2 := rawS_len K N T' u v s j
                have e3 := Nat.mul_le_mul hs hk4
                omega
              replace hoJ := Lib.hid hoJ
              replace hX2 := Lib.hid hX2
              replace hY2 := Lib.hid hY2
              have cB0 : (wj.alloc (.cells #[.int .i64 X2, .int .i64 Y2] 121)).cell? ⟨wj.heap.size, 0, none⟩ = some (.int .i64 X2) := by simp [go_sem]
              have cB1 : (wj.alloc (.cells #[.int .i64 X2, .int .i64 Y2] 121)).cell? ⟨wj.heap.size, 1, none⟩ = some (.int .i64 Y2) := by simp [go_sem]
              go_upto_region 17 with fail
              obtain ⟨wb, hwb⟩ : ∃ wb : World, wb = wj.alloc (.cells #[.int .i64 X2, .int .i64 Y2] 121) := ⟨_, rfl⟩
              rw [← hwb] at bA2 y0' y1' bJA hoJA hsz cB0 cB1 ⊢
              have hszb : wj.heap.size < wb.heap.size := World.block_lt_of_cell? _ _ cB0
              replace hszb := Lib.hid hszb
              replace hwb := Lib.hid hwb
              by_cases hYY : Y = Y2
              · have hYq : (Y == Y2) = true := by rw [beq_iff_eq]; exact hYY
                have hraw : rawS K N T' u v s (j + 1) = rawS K N T' u v s j ++ [X * N + X2] := by
                  rw [rawS_succ]; unfold rawT
                  rw [hY.out, hY2.out, hX.out, hX2.out, if_pos hYY]
                obtain ⟨m, hm⟩ : ∃ m, X * N = m := ⟨_, rfl⟩
                have hm1 : (X : Int) * (N : Int) = (m : Int) := by rw [← hm]; simp
                have hml : m ≤ 6561 := by rw [← hm]; exact Nat.le_trans (Nat.mul_le_mul (show X ≤ 81 by omega) hN81) (by decide)
                have hwm : IntKind.i64.wrap (m : Int) = m := wrapK (by omega) (by omega)
                have hsum : (m : Int) + (X2 : Int) = ((m + X2 : Nat) : Int) := by simp
                rw [hm] at hraw
                obtain ⟨z, hz⟩ : ∃ z, m + X2 = z := ⟨_, rfl⟩
                rw [hz] at hsum hraw
                have hzl : z ≤ 7000 := by omega
                have hwz : IntKind.i64.wrap (z : Int) = z := wrapK (by omega) (by omega)
                replace hraw := Lib.hid hraw
                replace hm := Lib.hid hm
                replace hz := Lib.hid hz
                replace hYY := Lib.hid hYY
                go_wp2_with (at_builtin; go_loud (refine wpl_app1 rfl _ _ rfl wo.heap.size tj _ z hoJA rfl rfl (by omega) hsz ?_))
                intro v' w7 ho7 b7 hal
                have hne' : v'.ownBlock ≠ some wt.heap.size := by
                  rcases hal with ⟨q1, _⟩ | ⟨m, q1, q2, _⟩
                  · rw [ownBlock_eq hoJA ho7 q1]; exact hne
                  · rw [q1]; intro e; injection e with e; have := hszb.out; omega
                have y07 : w7.cell? ⟨wt.heap.size, 0, none⟩ = some (.int .i64 X) ∧ w7.cell? ⟨wt.heap.size, 1, none⟩ = some (.int .i64 Y) := by
                  rcases hal with ⟨_, q2⟩ | ⟨_, _, _, q2⟩
                  · exact ⟨cell_grown q2 y0' hne, cell_grown q2 y1' hne⟩
                  · exact ⟨cell_grown q2 y0' (by simp), cell_grown q2 y1' (by simp)⟩
                obtain ⟨ta, tn, tc, rfl⟩ := ho7.at.shape
                replace ho7 := Lib.hid ho7
                replace y07 := Lib.hid y07
                clear hal
                go_wp2
                go_roundw
                case measure => simp [intOf]; omega
                case rel => exact ⟨j + 1, _, by omega, by go_num, rfl, by rw [hraw.out, ← List.append_assoc, castI_snoc]; exact ho7.out, bJA.trans b7, hne', y07.out.1, y07.out.2⟩
              · have hYq : (Y == Y2) = false := by rw [beq_eq_false_iff_ne]; exact hYY
                have hraw : rawS K N T' u v s (j + 1) = rawS K N T' u v s j := by
                  rw [rawS_succ]; unfold rawT
                  rw [hY.out, hY2.out, if_neg hYY, List.append_nil]
                replace hraw := Lib.hid hraw
                replace hoJA := Lib.hid hoJA
                replace hYY := Lib.hid hYY
                go_wp2
                go_roundw
                case measure => simp [intOf]; omega
                case rel => exact ⟨j + 1, _, by omega, by go_num, rfl, by rw [hraw.out]; exact hoJA.out, bJA, hne, y0', y1'⟩
            · obtain rfl : j = K := by omega
              rw [← rawP_succ] at hoJ
              replace hoJ := Lib.hid hoJ
              go_wp2
              go_roundw
              case measure => simp [intOf]; omega
              case rel => exact ⟨s + 1, _, by omega, by go_num, rfl, hoJ.out, bJ⟩
        · obtain rfl : s = K := by omega
          have hlT : (castI (rawP s N T' u v s)).length ≤ 17592186044416 := by
            rw [castI_len]
            have e1 := rawP_len s N T' u v s
            have e3 := Nat.mul_le_mul hk4 hk4
            omega
          have hsz := bT.size
          replace hoT := Lib.hid hoT
          go_wp2_with fail
          refine (sort_own wo.heap.size tv _ wt hoT.out hlT hsz).mono ?_
          rintro e w8 ⟨rfl, ho8, b8⟩
          have bT8 := bT.trans b8
          replace ho8 := Lib.hid ho8
          go_wp2_with fail
          refine (compact_own wo.heap.size tv _ w8 ho8.out (by rw [srt_length]; omega)).mono ?_
          rintro e w9 ⟨x, rfl, _, ho9, b9⟩
          have bT9 := bT8.trans b9
          have hded : ded (srt (castI (rawP s N T' u v s))) (srt (castI (rawP s N T' u v s))).length = castI (pairL s N T' k) := by
            refine ded_pair (by omega) (srt_sorted _) (fun x => ?_)
            rw [srt_mem, hu.out, hv.out]; rfl
          rw [hded] at ho9
          have hnew := h2.new hr2.out k bT9 b2.size ho9
          obtain ⟨y1, y2, y3, f8, hr8, h8, _⟩ := h2.put hlt hnew
          rw [pairTo_step] at h8
          have iO := fun w' => ((hr2.out.ownV h2.outer).at).idx oneLists k (by rw [h2.len]; exact hlt) w'
          generalize valAt (.slice oa on oc) k = ka at *
          obtain ⟨xa, xn, xc, rfl⟩ := ho9.at.shape
          have b39 := b2.trans (bT9.mono b2.size)
          replace hr8 := Lib.hid hr8
          replace ho9 := Lib.hid ho9
          replace hded := Lib.hid hded
          replace hnew := Lib.hid hnew
          go_wp2
          go_roundw
          case measure => simp [intOf]; omega
          case rel => exact ⟨k + 1, f8, _, by omega, by go_num, hr8.out, b39.setCell y3 _, h8⟩
    · obtain rfl : k = M := by omega
      have hR := hr2.monoB (Nat.le_trans b03.size (Nat.le_refl _))
      have hW : WN f2 (.slice oa on oc) vals (N * N) (fun p => castI (pairL K N T' p)) := by
        rw [hM.out]
        exact ⟨h2.outer, h2.len, fun u hu => by rw [h2.rows u hu]; unfold pairTo; rw [if_pos hu]⟩
      have bE := Below.step b03 b2
      replace hR := Lib.hid hR
      replace hr2 := Lib.hid hr2
      go_wp2
      go_ret2
      exact ⟨_, _, rfl, bE, rfl, _, _, hR.out, hW⟩
end Go.Proofs.YtilpckngghffoaaGreatDoor

namespace Go.Proofs.YtilpckngghffoaaGreatDoor

/-- D tells how far it is from s. -/
def FarOf (n : Nat) (adj : Nat → List Nat) (s : Nat) (D : Nat → Int) : Prop :=
  ∀ t, t < n → (D t = -1 ∧ ¬ Goes adj s t) ∨ ∃ w, Way adj s t w ∧ (w.length : Int) = D t + 1 ∧ ∀ u, Way adj s t u → w.length ≤ u.length
/-- D tells how far it is to s. -/
def ToOf (n : Nat) (adj : Nat → List Nat) (s : Nat) (D : Nat → Int) : Prop :=
  ∀ t, t < n → (D t = -1 ∧ ¬ Goes adj t s) ∨ ∃ w, Way adj t s w ∧ (w.length : Int) = D t + 1 ∧ ∀ u, Way adj t s u → w.length ≤ u.length
theorem ToOf.low {n : Nat} {adj : Nat → List Nat} {s : Nat} {D : Nat → Int} (h : ToOf n adj s D) {t : Nat} (ht : t < n) : -1 ≤ D t := by
  rcases h t ht with ⟨h1, _⟩ | ⟨w, h1, h2, _⟩
  · omega
  · have := h1.pos; omega
theorem ToOf.pos {n : Nat} {adj : Nat → List Nat} {s : Nat} {D : Nat → Int} (h : ToOf n adj s D) {t : Nat} (ht : t < n) : 0 ≤ D t ↔ Goes adj t s := by
  rcases h t ht with ⟨h1, h2⟩ | ⟨w, h1, h2, _⟩
  · exact ⟨fun q => by omega, fun q => absurd q h2⟩
  · exact ⟨fun _ => h1.goes, fun _ => by have := h1.pos; omega⟩
theorem ToOf.le {n : Nat} {adj : Nat → List Nat} {s : Nat} {D : Nat → Int} (h : ToOf n adj s D) {t : Nat} (ht : t < n) {u : List Nat} (hu : Way adj t s u) : 0 ≤ D t ∧ D t + 1 ≤ u.length := by
  rcases h t ht with ⟨_, h2⟩ | ⟨w, h1, h2, h3⟩
  · exact absurd hu.goes h2
  · have := h1.pos; have := h3 u hu; omega
theorem ToOf.first {n : Nat} {adj : Nat → List Nat} {s : Nat} {D : Nat → Int} (h : ToOf n adj s D) {t : Nat} (ht : t < n) {u : List Nat} (hu : IsFirst adj t s u) : (u.length : Int) = D t + 1 := by
  rcases h t ht with ⟨_, h2⟩ | ⟨w, h1, h2, h3⟩
  · exact absurd hu.way.goes h2
  · have := h3 u hu.way; have := hu.short w h1; omega
theorem FarOf.pos {n : Nat} {adj : Nat → List Nat} {s : Nat} {D : Nat → Int} (h : FarOf n adj s D) {t : Nat} (ht : t < n) : 0 ≤ D t ↔ Goes adj s t := by
  rcases h t ht with ⟨h1, h2⟩ | ⟨w, h1, h2, _⟩
  · exact ⟨fun q => by omega, fun q => absurd q h2⟩
  · exact ⟨fun _ => h1.goes, fun _ => by have := h1.pos; omega⟩

/-- Breadth first, how far only. -/
structure FBase (adj : Nat → List Nat) (s : Nat) (D : Nat → Int) (q : List Nat) (b i : Nat) : Prop where
  hd : q[0]? = some s
  nodup : q.Nodup
  there : ∀ x, 0 ≤ D x ↔ x ∈ q
  low : ∀ x, -1 ≤ D x
  d0 : D s = 0
  sound : ∀ x ∈ q, ∃ w, Way adj s x w ∧ (w.length : Int) = D x + 1
  par : ∀ x ∈ q, x = s ∨ ∃ p y, p < b ∧ q[p]? = some y ∧ D x = D y + 1
  mono : ∀ (j k x y : Nat), j ≤ k → q[j]? = some x → q[k]? = some y → D x ≤ D y
  closed : ∀ p x, p < i → q[p]? = some x → ∀ t ∈ adj x, 0 ≤ D t ∧ D t ≤ D x + 1
structure FIn (adj : Nat → List Nat) (s : Nat) (D : Nat → Int) (q : List Nat) (i v : Nat) (l : List Nat) : Prop where
  base : FBase adj s D q (i + 1) i
  cur : q[i]? = some v
  sub : ∀ t ∈ l, t ∈ adj v
  seen : ∀ t ∈ adj v, t ∈ l ∨ (0 ≤ D t ∧ D t ≤ D v + 1)
section
variable {adj : Nat → List Nat} {s : Nat} {D : Nat → Int} {q : List Nat} {i v b : Nat} {l : List Nat}
theorem FBase.init (adj : Nat → List Nat) (s : Nat) : FBase adj s (updN (fun _ => (-1 : Int)) s 0) [s] 0 0 := by
  have hg : ∀ j x, [s][j]? = some x → j = 0 ∧ x = s := fun j x hx => by
    cases j with
    | zero => simp at hx; exact ⟨rfl, hx.symm⟩
    | succ j => simp at hx
  refine ⟨rfl, by simp, fun x => ?_, fun x => ?_, updN_same _ _ _, fun x hx => ?_, fun x hx => ?_, fun j k x y _ hx hy => ?_, fun p x hp => by omega⟩
  · by_cases e : x = s
    · subst e; rw [updN_same]; simp
    · rw [updN_other _ _ _ e]; simp [e]
  · by_cases e : x = s
    · subst e; rw [updN_same]; omega
    · rw [updN_other _ _ _ e]; omega
  · cases List.mem_singleton.1 hx; exact ⟨_, .one _, by rw [updN_same]; simp⟩
  · exact .inl (List.mem_singleton.1 hx)
  · rw [(hg j x hx).2, (hg k y hy).2]; exact Int.le_refl _
theorem FBase.enter (h : FBase adj s D q i i) (hv : q[i]? = some v) : FIn adj s D q i v (adj v) :=
  ⟨⟨h.hd, h.nodup, h.there, h.low, h.d0, h.sound, fun x hx => (h.par x hx).imp id (fun ⟨p, y, h1, h2⟩ => ⟨p, y, by omega, h2⟩), h.mono, h.closed⟩, hv, fun t ht => ht, fun t ht => .inl ht⟩
theorem FIn.leave (h : FIn adj s D q i v []) : FBase adj s D q (i + 1) (i + 1) := by
  refine ⟨h.base.hd, h.base.nodup, h.base.there, h.base.low, h.base.d0, h.base.sound, h.base.par, h.base.mono, fun p x hp hx t ht => ?_⟩
  by_cases e : p = i
  · subst e
    rw [h.cur] at hx; cases hx
    exact (h.seen t ht).resolve_left (by simp)
  · exact h.base.closed p x (by omega) hx t ht
theorem FIn.top (h : FIn adj s D q i v l) : ∀ x ∈ q, D x ≤ D v + 1 := by
  intro x hx
  have hv0 := (h.base.there v).2 (List.mem_of_getElem? h.cur)
  rcases h.base.par x hx with rfl | ⟨p, y, h1, h2, h3⟩
  · have := h.base.d0; omega
  · have := h.base.mono p i y v (by omega) h2 h.cur; omega
theorem FIn.old {t : Nat} (h : FIn adj s D q i v (t :: l)) (ht : 0 ≤ D t) : FIn adj s D q i v l := by
  refine ⟨h.base, h.cur, fun x hx => h.sub x (List.mem_cons_of_mem _ hx), fun x hx => ?_⟩
  rcases h.seen x hx with q1 | q1
  · rcases List.mem_cons.1 q1 with e | e
    · subst e; exact .inr ⟨ht, h.top x ((h.base.there x).1 ht)⟩
    · exact .inl e
  · exact .inr q1
theorem FIn.add {t : Nat} (h : FIn adj s D q i v (t :: l)) (ht : D t < 0) : FIn adj s (updN D t (D v + 1)) (q ++ [t]) i v l := by
  have hB := h.base
  have htq : t ∉ q := fun hm => by have := (hB.there t).2 hm; omega
  have hil := get_of h.cur
  have hvq := List.mem_of_getElem? h.cur
  have hv0 := (hB.there v).2 hvq
  have hga : ∀ j x, (q ++ [t])[j]? = some x → q[j]? = some x ∧ j < q.length ∧ x ≠ t ∨ j = q.length ∧ x = t := fun j x hx => by
    by_cases e : j < q.length
    · rw [List.getElem?_append_left e] at hx
      exact .inl ⟨hx, e, fun e2 => htq (by rw [← e2]; exact List.mem_of_getElem? hx)⟩
    · rw [List.getElem?_append_right (by omega)] at hx
      by_cases e2 : j = q.length
      · rw [e2] at hx; simp at hx; exact .inr ⟨e2, hx.symm⟩
      · rw [List.getElem?_eq_none (by simp; omega)] at hx; cases hx
  have hgo : ∀ {j x}, q[j]? = some x → (q ++ [t])[j]? = some x := fun {j x} hx => by rw [List.getElem?_append_left (get_of hx)]; exact hx
  have hne : ∀ x, x ∈ q → x ≠ t := fun x hx e => htq (by rw [← e]; exact hx)
  have dq : ∀ x, x ∈ q → updN D t (D v + 1) x = D x := fun x hx => updN_other _ _ _ (hne x hx)
  have hsq : s ∈ q := List.mem_of_getElem? hB.hd
  have htop := h.top
  refine ⟨⟨hgo hB.hd, ?_, fun x => ?_, fun x => ?_, ?_, fun x hx => ?_, fun x hx => ?_, fun j k x y hjk hx hy => ?_, fun p x hp hx t' ht' => ?_⟩, hgo h.cur, fun x hx => h.sub x (List.mem_cons_of_mem _ hx), fun x hx => ?_⟩
  · exact List.nodup_append.2 ⟨hB.nodup, by simp, fun x hx y hy => by cases List.mem_singleton.1 hy; exact hne x hx⟩
  · by_cases e : x = t
    · subst e; rw [updN_same]; simp; omega
    · rw [updN_other _ _ _ e, hB.there]; simp [e]
  · by_cases e : x = t
    · subst e; rw [updN_same]; omega
    · rw [updN_other _ _ _ e]; exact hB.low x
  · rw [dq s hsq]; exact hB.d0
  · rcases List.mem_append.1 hx with hx | hx
    · rw [dq x hx]; exact hB.sound x hx
    · cases List.mem_singleton.1 hx
      obtain ⟨w, h1, h2⟩ := hB.sound v hvq
      refine ⟨w ++ [t], h1.snoc (h.sub _ List.mem_cons_self), ?_⟩
      rw [updN_same, List.length_append, List.length_singleton]; omega
  · rcases List.mem_append.1 hx with hx | hx
    · rcases hB.par x hx with e | ⟨p, y, h1, h2, h3⟩
      · exact .inl e
      · exact .inr ⟨p, y, h1, hgo h2, by rw [dq x hx, dq y (List.mem_of_getElem? h2)]; exact h3⟩
    · cases List.mem_singleton.1 hx
      exact .inr ⟨i, v, by omega, hgo h.cur, by rw [updN_same, dq v hvq]⟩
  · rcases hga k y hy with ⟨k1, k2, k3⟩ | ⟨rfl, rfl⟩
    · rcases hga j x hx with ⟨h1, h2, h3⟩ | ⟨rfl, rfl⟩
      · rw [dq x (List.mem_of_getElem? h1), dq y (List.mem_of_getElem? k1)]; exact hB.mono j k x y hjk h1 k1
      · omega
    · rcases hga j x hx with ⟨h1, h2, h3⟩ | ⟨h1, rfl⟩
      · rw [dq x (List.mem_of_getElem? h1), updN_same]; exact htop x (List.mem_of_getElem? h1)
      · exact Int.le_refl _
  · rcases hga p x hx with ⟨h1, h2, h3⟩ | ⟨h1, rfl⟩
    · have := hB.closed p x hp h1 t' ht'
      have e : t' ≠ t := fun e => by subst e; omega
      rw [updN_other _ _ _ e, dq x (List.mem_of_getElem? h1)]
      exact this
    · omega
  · by_cases e : x = t
    · subst e; right; rw [updN_same, dq v hvq]; omega
    · rcases h.seen x hx with q1 | q1
      · exact .inl ((List.mem_cons.1 q1).resolve_left e)
      · right; rw [updN_other _ _ _ e, dq v hvq]; exact q1
theorem FBase.far (h : FBase adj s D q b i) (hi : q.length ≤ i) {x y : Nat} {u : List Nat} (hu : Way adj x y u) (hx : x ∈ q) : y ∈ q ∧ D y + 1 ≤ D x + u.length := by
  induction hu with
  | one => exact ⟨hx, by simp⟩
  | @cons x t y w ht hu ih =>
    obtain ⟨j, hj⟩ := List.mem_iff_getElem?.1 hx
    have := h.closed j x (by have := get_of hj; omega) hj t ht
    have := ih ((h.there t).1 this.1)
    exact ⟨this.1, by simp only [List.length_cons]; omega⟩
theorem FBase.end_ (h : FBase adj s D q b i) (hi : q.length ≤ i) (n : Nat) : FarOf n adj s D := by
  intro t _
  by_cases ht : t ∈ q
  · obtain ⟨w, h1, h2⟩ := h.sound t ht
    refine .inr ⟨w, h1, h2, fun u hu => ?_⟩
    have := (h.far hi hu (List.mem_of_getElem? h.hd)).2
    have := h.d0
    omega
  · refine .inl ⟨?_, fun hg => ?_⟩
    · have := h.low t
      have : ¬ 0 ≤ D t := fun q => ht ((h.there t).1 q)
      omega
    · obtain ⟨u, hu⟩ := hg.way
      exact ht (h.far hi hu (List.mem_of_getElem? h.hd)).1
end

/-- Going down: the least of the neighbours that are nearer by one. -/
theorem step_first {n : Nat} {adj : Nat → List Nat} {s : Nat} {D : Nat → Int} (h : ToOf n adj s D) (hlt : ∀ v, v < n → ∀ t ∈ adj v, t < n) {v best : Nat} (hv : v < n)
    (hb : best ∈ adj v) (hd : D best = D v - 1) (h0 : 0 ≤ D best) (hm : ∀ t ∈ adj v, D t = D v - 1 → best ≤ t) {u : List Nat} (hu : IsFirst adj best s u) : IsFirst adj v s (v :: u) := by
  have hbn := hlt v hv best hb
  have hul := h.first hbn hu
  refine ⟨.cons hb hu.way, fun x hx => ?_, fun x hx hl => ?_⟩
  · have := h.le hv hx
    simp only [List.length_cons]; omega
  · cases hx with
    | one => simp only [List.length_cons, List.length_nil] at hl; have := hu.way.pos; omega
    | @cons _ t _ x' ht hx' =>
      have htn := hlt v hv t ht
      have h1 := h.le htn hx'
      have h2 := h.le hv (.cons ht hx')
      simp only [List.length_cons] at hl h2
      have hdt : D t = D v - 1 := by
        rcases h t htn with ⟨_, q⟩ | ⟨w, w1, w2, w3⟩
        · exact absurd hx'.goes q
        · have := h.le hv (.cons ht w1)
          simp only [List.length_cons] at this
          omega
      have hbt := hm t ht hdt
      refine .inr ⟨rfl, ?_⟩
      by_cases e : best = t
      · subst e; exact hu.least x' hx' (by omega)
      · obtain ⟨_, rfl⟩ := hx'.ne
        obtain ⟨_, rfl⟩ := hu.way.ne
        exact .inl (by omega)
theorem ToOf.next {n : Nat} {adj : Nat → List Nat} {s : Nat} {D : Nat → Int} (h : ToOf n adj s D) (hlt : ∀ v, v < n → ∀ t ∈ adj v, t < n) {v : Nat} (hv : v < n) (hne : v ≠ s) (h0 : 0 ≤ D v) : 1 ≤ D v ∧ ∃ t ∈ adj v, D t = D v - 1 := by
  rcases h v hv with ⟨q, _⟩ | ⟨w, w1, w2, w3⟩
  · omega
  · cases w1 with
    | one => exact absurd rfl hne
    | @cons _ t _ w' ht hw =>
      have htn := hlt v hv t ht
      have := hw.pos
      simp only [List.length_cons] at w2 w3
      refine ⟨by omega, t, ht, ?_⟩
      rcases h t htn with ⟨_, q⟩ | ⟨x, x1, x2, x3⟩
      · exact absurd hw.goes q
      · have := x3 w' hw
        have := w3 _ (.cons ht x1)
        simp only [List.length_cons] at this
        omega
end Go.Proofs.YtilpckngghffoaaGreatDoor

namespace Go.Proofs.YtilpckngghffoaaGreatDoor

/-- The sum of F over the first n. -/
def sumN (F : Nat → Nat) : Nat → Nat
  | 0 => 0
  | n + 1 => sumN F n + F n
theorem sumN_congr {F F' : Nat → Nat} : ∀ {n}, (∀ v, v < n → F v = F' v) → sumN F n = sumN F' n
  | 0, _ => rfl
  | n + 1, h => by
    show sumN F n + F n = sumN F' n + F' n
    rw [sumN_congr (n := n) (fun v hv => h v (by omega)), h n (by omega)]
theorem sumN_pos {F : Nat → Nat} : ∀ {n}, 0 < sumN F n ↔ ∃ v, v < n ∧ 0 < F v
  | 0 => by simp [sumN]
  | n + 1 => by
    show 0 < sumN F n + F n ↔ _
    constructor
    · intro h
      by_cases e : 0 < sumN F n
      · obtain ⟨v, h1, h2⟩ := sumN_pos.1 e; exact ⟨v, by omega, h2⟩
      · exact ⟨n, by omega, by omega⟩
    · rintro ⟨v, h1, h2⟩
      by_cases e : v = n
      · subst e; omega
      · have := sumN_pos.2 ⟨v, show v < n by omega, h2⟩; omega
theorem sumN_upd {F F' : Nat → Nat} {v : Nat} (h : ∀ u, u ≠ v → F' u = F u) : ∀ {n}, v < n → sumN F' n + F v = sumN F n + F' v
  | 0, q => by omega
  | n + 1, q => by
    show sumN F' n + F' n + F v = sumN F n + F n + F' v
    by_cases e : v = n
    · subst e
      rw [sumN_congr (n := v) (fun u hu => h u (by omega))]; omega
    · have := sumN_upd h (n := n) (by omega)
      rw [h n (fun q => e q.symm)]; omega
theorem sumN_zero : ∀ n, sumN (fun _ => 0) n = 0
  | 0 => rfl
  | n + 1 => by show sumN _ n + 0 = 0; rw [sumN_zero n]
theorem sumN_add (F F' : Nat → Nat) : ∀ n, sumN (fun v => F v + F' v) n = sumN F n + sumN F' n
  | 0 => rfl
  | n + 1 => by show sumN _ n + (F n + F' n) = sumN F n + F n + (sumN F' n + F' n); rw [sumN_add F F' n]; omega
theorem sumN_one (x : Nat) : ∀ n, sumN (fun v => if v = x then 1 else 0) n = if x < n then 1 else 0
  | 0 => rfl
  | n + 1 => by
    show sumN _ n + (if n = x then 1 else 0) = _
    rw [sumN_one x n]
    by_cases e : n = x
    · subst e; simp
    · rw [if_neg e]
      by_cases q : x < n
      · rw [if_pos q, if_pos (by omega)]
      · rw [if_neg q, if_neg (by omega)]
/-- A list of numbers below n: its length, counted number by number. -/
theorem length_counts (n : Nat) : ∀ (l : List Nat), (∀ x ∈ l, x < n) → l.length = sumN (fun v => l.count v) n
  | [], _ => by simp [sumN_zero]
  | x :: l, h => by
    have ih := length_counts n l (fun y hy => h y (List.mem_cons_of_mem _ hy))
    have e : (fun v => (x :: l).count v) = fun v => l.count v + if v = x then 1 else 0 := by
      funext v
      rw [List.count_cons]
      by_cases q : x = v
      · simp [q]
      · rw [if_neg (by simpa using q), if_neg (fun r => q r.symm)]
    rw [e, sumN_add, sumN_one, if_pos (h x List.mem_cons_self), ← ih, List.length_cons]

/-- inn tells how many arrows lead to t, of those not gone through: the first c v of v's are. -/
def Deg (n : Nat) (A : Nat → List Nat) (c inn : Nat → Nat) : Prop := ∀ t, t < n → inn t = sumN (fun v => ((A v).drop (c v)).count t) n
theorem Deg.init {n : Nat} {A B : Nat → List Nat} (hB : ∀ t, t < n → ∀ x ∈ B t, x < n) (hc : ∀ v t, v < n → t < n → (B t).count v = (A v).count t) : Deg n A (fun _ => 0) (fun t => (B t).length) := by
  intro t ht
  show (B t).length = _
  rw [length_counts n _ (hB t ht)]
  exact sumN_congr fun v hv => by rw [hc v t hv ht, List.drop_zero]
theorem Deg.step {n : Nat} {A : Nat → List Nat} {c inn : Nat → Nat} {v j t : Nat} (h : Deg n A c inn) (hv : v < n) (hj : c v = j) (ht : (A v)[j]? = some t) (htn : t < n) :
    0 < inn t ∧ Deg n A (updN c v (j + 1)) (updN inn t (inn t - 1)) := by
  have hjl : j < (A v).length := get_of ht
  have hd : (A v).drop j = t :: (A v).drop (j + 1) := by
    rw [List.drop_eq_getElem_cons hjl]
    rw [List.getElem?_eq_getElem hjl] at ht; injection ht with ht; rw [ht]
  have key : ∀ x, sumN (fun u => ((A u).drop (updN c v (j + 1) u)).count x) n + (if x = t then 1 else 0) = sumN (fun u => ((A u).drop (c u)).count x) n := by
    intro x
    have := sumN_upd (F := fun u => ((A u).drop (c u)).count x) (F' := fun u => ((A u).drop (updN c v (j + 1) u)).count x) (v := v) (fun u hu => by simp only [updN_other _ _ _ hu]) hv
    simp only [updN_same, hj, hd, List.count_cons] at this
    by_cases e : x = t
    · subst e; rw [if_pos rfl]; simp at this; omega
    · rw [if_neg e]
      have e2 : (t == x) = false := by simpa using fun q => e q.symm
      rw [e2] at this; simp at this; omega
  have h1 := key t
  rw [if_pos rfl, ← h t htn] at h1
  refine ⟨by omega, fun x hx => ?_⟩
  have h2 := key x
  by_cases e : x = t
  · subst e; rw [updN_same]; omega
  · rw [updN_other _ _ _ e, h x hx]; rw [if_neg e] at h2; omega

/-- The peeling: what has gone stands in the queue; the first i of it have been gone through, and of the next the first j and k arrows. -/
structure Peel (n : Nat) (A B : Nat → List Nat) (inn out : Nat → Nat) (c d : Nat → Nat) (gone : Nat → Bool) (q : List Nat) (lives : Nat → Prop) : Prop where
  deg1 : Deg n A c inn
  deg2 : Deg n B d out
  nodup : q.Nodup
  goneq : ∀ x, gone x = true ↔ x ∈ q
  low : ∀ x ∈ q, x < n
  fresh : ∀ v, v ∉ q → c v = 0 ∧ d v = 0
  keep : ∀ t, t < n → lives t → gone t = false
/-- A live vertex has live neighbours on both sides. -/
structure LiveSet (n : Nat) (A B : Nat → List Nat) (lives : Nat → Prop) : Prop where
  behind : ∀ t, t < n → lives t → ∃ p, p < n ∧ lives p ∧ t ∈ A p
  ahead : ∀ t, t < n → lives t → ∃ p, p < n ∧ lives p ∧ t ∈ B p
section
variable {n : Nat} {A B : Nat → List Nat} {inn out c d : Nat → Nat} {gone : Nat → Bool} {q : List Nat} {lives : Nat → Prop}
theorem Peel.live_in (h : Peel n A B inn out c d gone q lives) (hL : LiveSet n A B lives) {t : Nat} (ht : t < n) (hl : lives t) : 0 < inn t ∧ 0 < out t := by
  have aux : ∀ p, p < n → lives p → c p = 0 ∧ d p = 0 := fun p hp hlp => h.fresh p (fun q => by have := (h.goneq p).2 q; rw [h.keep p hp hlp] at this; cases this)
  refine ⟨?_, ?_⟩
  · obtain ⟨p, hp, hlp, hm⟩ := hL.behind t ht hl
    rw [h.deg1 t ht]
    refine sumN_pos.2 ⟨p, hp, ?_⟩
    rw [(aux p hp hlp).1, List.drop_zero]
    exact List.count_pos_iff.2 hm
  · obtain ⟨p, hp, hlp, hm⟩ := hL.ahead t ht hl
    rw [h.deg2 t ht]
    refine sumN_pos.2 ⟨p, hp, ?_⟩
    rw [(aux p hp hlp).2, List.drop_zero]
    exact List.count_pos_iff.2 hm
/-- A vertex goes. -/
theorem Peel.goes (h : Peel n A B inn out c d gone q lives) (hL : LiveSet n A B lives) {t : Nat} (ht : t < n) (hg : gone t = false) (h0 : inn t = 0 ∨ out t = 0) : Peel n A B inn out c d (updN gone t true) (q ++ [t]) lives := by
  have htq : t ∉ q := fun r => by have := (h.goneq t).2 r; rw [hg] at this; cases this
  refine ⟨h.deg1, h.deg2, ?_, fun x => ?_, fun x hx => ?_, fun v hv => h.fresh v (fun r => hv (List.mem_append_left _ r)), fun x hx hl => ?_⟩
  · exact List.nodup_append.2 ⟨h.nodup, by simp, fun x hx y hy e => by cases List.mem_singleton.1 hy; subst e; exact htq hx⟩
  · by_cases e : x = t
    · subst e; rw [updN_same]; simp
    · rw [updN_other _ _ _ e, h.goneq]; simp [e]
  · rcases List.mem_append.1 hx with hx | hx
    · exact h.low x hx
    · cases List.mem_singleton.1 hx; exact ht
  · by_cases e : x = t
    · subst e
      have := h.live_in hL hx hl; omega
    · rw [updN_other _ _ _ e]; exact h.keep x hx hl
/-- An arrow of a vertex that has gone. -/
theorem Peel.arrow1 (h : Peel n A B inn out c d gone q lives) {v j t : Nat} (hv : v ∈ q) (hj : c v = j) (ht : (A v)[j]? = some t) (htn : t < n) :
    0 < inn t ∧ Peel n A B (updN inn t (inn t - 1)) out (updN c v (j + 1)) d gone q lives := by
  obtain ⟨h1, h2⟩ := h.deg1.step (h.low v hv) hj ht htn
  exact ⟨h1, h2, h.deg2, h.nodup, h.goneq, h.low, fun u hu => by
    have e : u ≠ v := fun e => hu (by rw [e]; exact hv)
    rw [updN_other _ _ _ e]; exact h.fresh u hu, h.keep⟩
/-- At the end each vertex that is left has neighbours that are left, on both sides. -/
theorem Peel.left (h : Peel n A B inn out c d gone q lives) (hall : ∀ v ∈ q, c v = (A v).length ∧ d v = (B v).length) (hpos : ∀ t, t < n → gone t = false → 0 < inn t ∧ 0 < out t) {t : Nat} (ht : t < n) (hg : gone t = false) :
    (∃ p, p < n ∧ gone p = false ∧ t ∈ A p) ∧ ∃ p, p < n ∧ gone p = false ∧ t ∈ B p := by
  obtain ⟨h1, h2⟩ := hpos t ht hg
  rw [h.deg1 t ht] at h1
  rw [h.deg2 t ht] at h2
  obtain ⟨p, hp, hc⟩ := sumN_pos.1 h1
  obtain ⟨p2, hp2, hc2⟩ := sumN_pos.1 h2
  refine ⟨⟨p, hp, ?_, List.mem_of_mem_drop (List.count_pos_iff.1 hc)⟩, ⟨p2, hp2, ?_, List.mem_of_mem_drop (List.count_pos_iff.1 hc2)⟩⟩
  · cases hgp : gone p with
    | false => rfl
    | true => rw [(hall p ((h.goneq p).1 hgp)).1, List.drop_length] at hc; simp at hc
  · cases hgp : gone p2 with
    | false => rfl
    | true => rw [(hall p2 ((h.goneq p2).1 hgp)).2, List.drop_length] at hc2; simp at hc2
end
/-- From a set that one never has to leave, a loop can be reached. -/
theorem set_loop {n : Nat} {A : Nat → List Nat} {S : Nat → Prop} (hS : ∀ x, S x → x < n) (hs : ∀ x, S x → ∃ t ∈ A x, S t) {x : Nat} (hx : S x) : ∃ u, u < n ∧ (∃ t ∈ A u, Goes A t u) ∧ Goes A x u := by
  apply Classical.byContradiction
  intro hno
  have key : ∀ k, ∃ w y, Way A x y w ∧ w.length = k + 1 ∧ w.Nodup ∧ (∀ z ∈ w, S z) ∧ S y := by
    intro k
    induction k with
    | zero => exact ⟨[x], x, .one x, rfl, by simp, fun z hz => by cases List.mem_singleton.1 hz; exact hx, hx⟩
    | succ k ih =>
      obtain ⟨w, y, h1, h2, h3, h4, h5⟩ := ih
      obtain ⟨t, ht, hst⟩ := hs y h5
      have htw : t ∉ w := fun hm => by
        obtain ⟨u, hu, _⟩ := h1.mem t hm
        exact hno ⟨y, hS y h5, ⟨t, ht, hu.goes⟩, h1.goes⟩
      refine ⟨w ++ [t], t, h1.snoc ht, by simp [h2], List.nodup_append.2 ⟨h3, by simp, fun a ha b hb e => by cases List.mem_singleton.1 hb; subst e; exact htw ha⟩, fun z hz => ?_, hst⟩
      rcases List.mem_append.1 hz with hz | hz
      · exact h4 z hz
      · cases List.mem_singleton.1 hz; exact hst
  obtain ⟨w, y, h1, h2, h3, h4, _⟩ := key n
  have hl : ∀ (n : Nat) (l : List Nat), l.Nodup → (∀ x ∈ l, x < n) → l.length ≤ n := by
    intro n
    induction n with
    | zero => intro l _ h; cases l with
      | nil => simp
      | cons a l => exact absurd (h a List.mem_cons_self) (by omega)
    | succ n ih =>
      intro l hl h
      have h1 := ih (l.erase n) (hl.erase n) (fun x hx => by
        have := h x (List.mem_of_mem_erase hx)
        have : x ≠ n := fun e => by subst e; exact (List.Nodup.not_mem_erase hl) hx
        omega)
      have := List.length_erase (a := n) (l := l)
      split at this <;> omega
  have := hl n w h3 (fun z hz => hS z (h4 z hz))
  omega
end Go.Proofs.YtilpckngghffoaaGreatDoor

namespace Go.Proofs.YtilpckngghffoaaGreatDoor
open Go.RowKit
set_option maxRecDepth 100000

/-- How often what is told stands there. -/
def CntTo (G : List (List Int)) (k j : Nat) (F : Nat → List Int) : Prop :=
  ∀ t, t < G.length → ∀ v : Nat, (F t).count (v : Int) = if v < k then (G.getD v []).count (t : Int) else if v = k then ((G.getD k []).take j).count (t : Int) else 0
theorem CntTo.zero (G : List (List Int)) : CntTo G 0 0 (fun _ => []) := by
  intro t _ v
  rw [if_neg (by omega)]
  split <;> simp
theorem CntTo.next {G : List (List Int)} {k : Nat} {F : Nat → List Int} (h : CntTo G k (G.getD k []).length F) : CntTo G (k + 1) 0 F := by
  intro t ht v
  rw [h t ht v, List.take_length]
  by_cases e : v < k
  · rw [if_pos e, if_pos (by omega)]
  · rw [if_neg e]
    by_cases e2 : v = k
    · subst e2; rw [if_pos rfl, if_pos (by omega)]
    · rw [if_neg e2, if_neg (by omega)]
      split <;> simp
theorem CntTo.add {G : List (List Int)} {k j u : Nat} {F : Nat → List Int} (h : CntTo G k j F) (hj : (G.getD k [])[j]? = some (u : Int)) : CntTo G k (j + 1) (updN F u (F u ++ [(k : Int)])) := by
  have htk : (G.getD k []).take (j + 1) = (G.getD k []).take j ++ [(u : Int)] := by
    rw [List.take_add_one, hj]; rfl
  intro t ht v
  have h1 := h t ht v
  rw [htk, List.count_append]
  by_cases e : t = u
  · subst e
    rw [updN_same, List.count_append, h1]
    by_cases e1 : v < k
    · rw [if_pos e1, if_pos e1]
      have : ([(k : Int)] : List Int).count (v : Int) = 0 := by
        rw [List.count_eq_zero]; simp; omega
      omega
    · rw [if_neg e1, if_neg e1]
      by_cases e2 : v = k
      · subst e2; rw [if_pos rfl, if_pos rfl]; simp
      · rw [if_neg e2, if_neg e2]
        rw [Nat.zero_add, List.count_eq_zero]; simp; omega
  · rw [updN_other _ _ _ e, h1]
    have : ([(u : Int)] : List Int).count (t : Int) = 0 := by
      rw [List.count_eq_zero]; simp; omega
    rw [this, Nat.add_zero]
/-- Turned, with how often. -/
structure TurnedX (G H : List (List Int)) : Prop where
  t : TurnedOf G H
  cnt : ∀ t v, t < G.length → v < G.length → (adjOf H t).count v = (adjOf G v).count t
theorem count_toNat : ∀ (l : List Int) (x : Nat), (∀ y ∈ l, 0 ≤ y) → (l.map Int.toNat).count x = l.count (x : Int)
  | [], _, _ => rfl
  | a :: l, x, h => by
    rw [List.map_cons, List.count_cons, List.count_cons, count_toNat l x (fun y hy => h y (List.mem_cons_of_mem _ hy))]
    have ha := h a List.mem_cons_self
    by_cases e : a = (x : Int)
    · subst e; simp
    · have : ¬ a.toNat = x := by omega
      simp [e, this]
theorem TurnedX.of {G : List (List Int)} {F : Nat → List Int} (hok : GraphOk G) (h : BackTo G G.length 0 F) (hc : CntTo G G.length 0 F) : TurnedX G (rowsOf G.length F) := by
  have hT := h.turned
  refine ⟨hT, fun t v ht hv => ?_⟩
  unfold adjOf
  rw [rowsOf_get _ _ _ ht, count_toNat, count_toNat, hc t ht v, if_pos hv]
  · exact fun y hy => (hok v hv y hy).1
  · intro y hy
    obtain ⟨v, rfl, _⟩ := ((h t ht).2 y).1 hy
    omega

/-- Lists of which all was made from block B on. -/
def ListsFrom (B : Nat) (w : World) (v : Value) (G : List (List Int)) : Prop :=
  ∃ vs : List Value, OwnV 22 B w v vs ∧ vs.length = G.length ∧ ∀ i, i < G.length → OwnI B w (vAt vs i) (G.getD i [])
theorem ListsFrom.at {B : Nat} {w : World} {v : Value} {G : List (List Int)} (h : ListsFrom B w v G) : ListsAt w v G := by
  obtain ⟨vs, h1, h2, h3⟩ := h
  exact ⟨vs, h1.at, h2, fun i hi => (h3 i hi).at⟩
theorem ListsFrom.below {B : Nat} {w w' : World} {v : Value} {G : List (List Int)} (h : ListsFrom B w v G) (hb : Below w.heap.size w w') : ListsFrom B w' v G := by
  obtain ⟨vs, h1, h2, h3⟩ := h
  exact ⟨vs, h1.below hb, h2, fun i hi => (h3 i hi).below hb⟩
theorem ListsFrom.set {B : Nat} {w : World} {v : Value} {G : List (List Int)} (h : ListsFrom B w v G) {a : Addr} (ha : a.block < B) (u : Value) : ListsFrom B (w.setCell a u) v G := by
  obtain ⟨vs, h1, h2, h3⟩ := h
  exact ⟨vs, OwnV.setBelowBase h1 ha u, h2, fun i hi => OwnV.toI (OwnV.setBelowBase (h3 i hi).toV ha u)⟩
theorem WN.from {B : Nat} {w : World} {f : Names} {ov : Value} {vals : List Value} {n : Nat} {F : Nat → List Int} (h : WN f ov vals n F) (hr : Rows B w f) : ListsFrom B w ov (rowsOf n F) :=
  ⟨vals, hr.ownV h.outer, by rw [h.len, rowsOf_len], fun i hi => by
    rw [rowsOf_len] at hi
    rw [rowsOf_get n F i hi]
    exact hr.ownI (h.rows i hi)⟩

set_option maxHeartbeats 4000000 in
theorem ref_turned (na : Option Addr) (nc : Nat) (G : List (List Int)) (w : World) (h : ListsAt w (.slice na G.length nc) G) (hok : GraphOk G) (hn : G.length ≤ 8200) (harr : arrowsTo G G.length ≤ 262144) :
    Calls Tryz.prog 175 #[.slice na G.length nc] w (Ret1 (fun x w' => ∃ H, TurnedX G H ∧ ListsFrom w.heap.size w' x H) w) := by
  obtain ⟨ov, w1, mk, ho, hb1⟩ := run_makeW oneLists (G.length : Int) G.length w rfl (by omega)
  obtain ⟨f1, hr1, h1⟩ := WN.made G.length hb1 (Nat.le_refl _) ho
  obtain ⟨oa, on, oc, rfl⟩ := ho.shape
  have hlen : ∀ k, k < G.length → (G.getD k []).length ≤ 262144 := fun k hk => by
    have := arrowsTo_mono G (show k + 1 ≤ G.length by omega)
    simp only [arrowsTo] at this; omega
  replace h := Lib.hid h
  replace hok := Lib.hid hok
  replace hr1 := Lib.hid hr1
  replace ho := Lib.hid ho
  replace hlen := Lib.hid hlen
  go_enter Tryz.func175, Tryz.ntmps175
  go_wp2_with fail
  clear mk
  go_loopw [4] (fun kv wr => ∃ (k : Nat) (F : Nat → List Int) (f : Names) (vals : List Value), k ≤ G.length ∧ kv = .int .i64 k ∧ Rows w.heap.size wr f ∧ Below w.heap.size w wr ∧ WN f (.slice oa on oc) vals G.length F ∧ BackTo G k 0 F ∧ CntTo G k 0 F) (fun kv _ => G.length - (intOf kv).toNat)
  case atStart => exact ⟨0, _, f1, _, by omega, rfl, hr1.out, hb1, h1, BackTo.zero G, CntTo.zero G⟩
  case round =>
    clear h1 ho hr1
    obtain ⟨k, F, f2, vals, hk, rfl, hr2, b2, h2, hB, hC⟩ := hrel
    obtain ⟨wo, rfl⟩ : ∃ wo : World, wo = wr := ⟨_, rfl⟩
    by_cases hlt : k < G.length
    · obtain ⟨mv, iR, cR0, hM0⟩ := h.out.row k hlt
      have hgl := hlen.out k hlt
      have hgp := hok.out k hlt
      have hBadd := fun (j u : Nat) (F : Nat → List Int) (h : BackTo G k j F) => h.add (u := u)
      have hBnext := fun (F : Nat → List Int) (h : BackTo G k (G.getD k []).length F) => h.next
      have hCadd := fun (j u : Nat) (F : Nat → List Int) (h : CntTo G k j F) => h.add (u := u)
      have hCnext := fun (F : Nat → List Int) (h : CntTo G k (G.getD k []).length F) => h.next
      have hBlen := fun (j t : Nat) (F : Nat → List Int) (h : BackTo G k j F) (ht : t < G.length) => (h t ht).1
      have harrk := arrowsTo_mono G hk
      generalize G.getD k [] = gk at *
      have lM := hM0.len
      generalize valAt (.slice na G.length nc) k = ra at *
      have cR1 := Lib.hid cR0
      clear cR0
      replace hB := Lib.hid hB
      replace hC := Lib.hid hC
      replace hBadd := Lib.hid hBadd
      replace hBnext := Lib.hid hBnext
      replace hCadd := Lib.hid hCadd
      replace hCnext := Lib.hid hCnext
      replace hBlen := Lib.hid hBlen
      replace hgp := Lib.hid hgp
      replace hr2 := Lib.hid hr2
      replace hM0 := Lib.hid hM0
      go_wp2_with fail
      go_loopw [5] (fun jv wr => ∃ (j : Nat) (F : Nat → List Int) (f : Names) (vals : List Value), j ≤ gk.length ∧ jv = .int .i64 j ∧ Rows w.heap.size wr f ∧ Below w.heap.size w wr ∧ WN f (.slice oa on oc) vals G.length F ∧ BackTo G k j F ∧ CntTo G k j F) (fun jv _ => gk.length - (intOf jv).toNat)
      case atStart => exact ⟨0, F, f2, vals, by omega, rfl, hr2.out, b2, h2, hB.out, hC.out⟩
      case round =>
        clear hB hC hr2 h2 b2
        obtain ⟨j, F, f3, vals, hj, rfl, hr3, b3, h3, hB, hC⟩ := hrel
        obtain ⟨wo, rfl⟩ : ∃ wo : World, wo = wr := ⟨_, rfl⟩
        have cR := (b3.cell (World.block_lt_of_cell? _ _ cR1.out)).trans cR1.out
        by_cases hjl : j < gk.length
        · have hMj := hM0.out.below b3
          have hgj := hgp.out gk[j] (List.getElem_mem hjl)
          obtain ⟨u, hu⟩ : ∃ u : Nat, gk[j] = u := Int.eq_ofNat_of_zero_le hgj.1
          have hun : u < G.length := by rw [hu] at hgj; omega
          have hgu : gk[j]? = some (u : Int) := by rw [List.getElem?_eq_getElem hjl, hu]
          have hgd : gk.getD j 0 = (u : Int) := by rw [List.getD_eq_getElem?_getD, hgu]; rfl
          have iJ := fun w' => hMj.idx j hjl w'
          have cJ := hMj.cellD j hjl
          rw [hgd] at cJ
          have hadd := hBadd.out j u F hB hgu
          have hcadd := hCadd.out j u F hC hgu
          have hfl := hBlen.out j u F hB hun
          have hOV := (hr3.ownV h3.outer).at
          have iO := fun w' => hOV.idx oneLists u (by rw [h3.len]; exact hun) w'
          have cO := hOV.cellV u (by rw [h3.len]; exact hun)
          have hT := hr3.ownI (h3.rows u hun)
          have happ := fun (w1 : World) (v' : Value) => h3.app hr3 hun (w1 := w1) (v' := v') (k : Int)
          have hput := fun (w1 : World) (v' : Value) (xs : List Int) => h3.put (B := w.heap.size) (w1 := w1) hun (v' := v') (xs := xs)
          have hB3 : w.heap.size ≤ wo.heap.size := b3.size
          generalize valAt mv j = ja at *
          generalize vAt vals u = tv at *
          generalize valAt (.slice oa on oc) u = ua at *
          replace hadd := Lib.hid hadd
          replace hcadd := Lib.hid hcadd
          replace happ := Lib.hid happ
          replace hput := Lib.hid hput
          replace hB := Lib.hid hB
          replace hC := Lib.hid hC
          replace hr3 := Lib.hid hr3
          replace hOV := Lib.hid hOV
          replace hgu := Lib.hid hgu
          replace hgd := Lib.hid hgd
          replace hu := Lib.hid hu
          replace hgj := Lib.hid hgj
          go_wp2_with (at_builtin; refine wpl_app1 rfl _ _ rfl w.heap.size tv (F u) k hT rfl rfl (by omega) hB3 ?_)
          intro v' w7 ho7 b7 hal7
          have hR7 := happ.out w7 v' ho7 hal7
          obtain ⟨y1, y2, y3, f8, hr8, h8, _⟩ := hput.out w7 v' _ hR7
          obtain ⟨va, vn, vc, rfl⟩ := ho7.at.shape
          replace hr8 := Lib.hid hr8
          replace ho7 := Lib.hid ho7
          replace hR7 := Lib.hid hR7
          clear hal7 hT iJ cJ cO
          go_wp2
          go_roundw
          case measure => simp [intOf]; omega
          case rel => exact ⟨j + 1, _, f8, _, by omega, by go_num, hr8.out, (b3.trans b7).setCell y3 _, h8, hadd.out, hcadd.out⟩
        · obtain rfl : j = gk.length := by omega
          have hnext := hBnext.out F hB
          have hcnext := hCnext.out F hC
          replace hnext := Lib.hid hnext
          replace hcnext := Lib.hid hcnext
          replace hB := Lib.hid hB
          replace hC := Lib.hid hC
          replace hr3 := Lib.hid hr3
          go_wp2
          go_roundw
          case measure => simp [intOf]; omega
          case rel => exact ⟨k + 1, F, f3, vals, by omega, by go_num, hr3.out, b3, h3, hnext.out, hcnext.out⟩
    · obtain rfl : k = G.length := by omega
      have hT := TurnedX.of hok.out hB hC
      have hL := h2.from hr2
      replace hB := Lib.hid hB
      replace hC := Lib.hid hC
      replace hT := Lib.hid hT
      replace hL := Lib.hid hL
      replace hr2 := Lib.hid hr2
      go_wp2
      go_ret
      exact ⟨_, rfl, b2, _, hT.out, hL.out⟩
end Go.Proofs.YtilpckngghffoaaGreatDoor

namespace Go.Proofs.YtilpckngghffoaaGreatDoor
open Go.RowKit
set_option maxRecDepth 100000

theorem sort_ints (B : Nat) (v : Value) (xs : List Int) (w : World) (h : OwnI B w v xs) (hl : xs.length ≤ 17592186044416) (hB : B ≤ w.heap.size) :
    Calls Tryz.prog 128 #[v] w fun e w' => e = .returned (.tuple #[]) ∧ OwnI B w' v (srt xs) ∧ Below B w w' := by
  have hs := sort_own B v xs w h hl hB
  replace hs := Lib.hid hs
  go_enter Tryz.func128, Tryz.ntmps128
  go_wp2_with fail
  refine hs.out.mono ?_
  rintro e w1 ⟨rfl, ho, hb⟩
  replace ho := Lib.hid ho
  go_wp2
  go_end0
  exact ⟨rfl, ho.out, hb⟩

theorem uks_lt {N K u s : Nat} (hu : u < N) (hs : s < K) : u * K + s < N * K := by
  have := Nat.mul_le_mul_right K (show u + 1 ≤ N by omega)
  rw [Nat.add_mul] at this
  omega

set_option maxHeartbeats 8000000 in
theorem ref_all (K R : Nat) (va : Option Addr) (vn vc : Nat) (T : List Int) (w : World) (h : IntsAt w (.slice va vn vc) T) (hr : RuleOk K R T) (hR : 1 ≤ R) (hl : T.length ≤ 256) :
    Calls Tryz.prog 86 #[.agg #[.int .i64 K, .int .i64 R, .slice va vn vc]] w (Ret1 (fun x w' => ListsFrom w.heap.size w' x (pairG K (pw K (2 * R)) T)) w) := by
  have b0 := belowAlloc w (.cells #[.int .i64 K, .int .i64 R, .slice va vn vc] 24)
  have q : Box3 (w.alloc (.cells #[.int .i64 K, .int .i64 R, .slice va vn vc] 24)) w.heap.size (.int .i64 K) (.int .i64 R) (.slice va vn vc) := by simp [Box3, go_sem]
  have hk1 := hr.k1
  have hk4 := hr.k4
  have hR3 := hr.r3
  have hN81 := nodes_le hr hR hl
  have hN1 := pw_pos (K := K) (2 * R) hk1
  obtain ⟨hdiv, hlen⟩ := hr.half
  have hNK : pw K (2 * R) * K ≤ 256 := by rw [← hlen]; exact hl
  have hcnt := fun (w' : World) => ref_count K R va vn vc w' hk1 hk4 hR3
  generalize hN9 : pw K (2 * R) = N at *
  obtain ⟨M, hM⟩ : ∃ M, N * N = M := ⟨_, rfl⟩
  have hM6 : M ≤ 6561 := by rw [← hM]; exact Nat.mul_le_mul hN81 hN81
  have hNN : (N : Int) * (N : Int) = (M : Int) := by rw [← hM]; simp
  replace h := Lib.hid (h.below b0)
  replace hr := Lib.hid hr
  replace hcnt := Lib.hid hcnt
  replace hN9 := Lib.hid hN9
  replace hM := Lib.hid hM
  replace hlen := Lib.hid hlen
  have hNK2 := Lib.hid hNK
  clear hdiv
  have q0 := q
  obtain ⟨⟨z0, z1, z2⟩, -, -, -⟩ := q0
  go_enter Tryz.func86, Tryz.ntmps86
  go_wp2_with fail
  refine (hcnt.out _).mono ?_
  rintro e W1 ⟨_, rfl, b1, rfl⟩
  have q1 := q.below b1
  have h1 := h.out.below b1
  have b01 := Below.step b0 b1
  replace h1 := Lib.hid h1
  obtain ⟨ov, w2, mk, hov, hb2⟩ := run_makeW oneLists (M : Int) M W1 rfl (by omega)
  obtain ⟨f2, hr2, g2⟩ := WN.made M hb2 (Nat.le_refl _) hov
  obtain ⟨oa, on, oc, rfl⟩ := hov.shape
  replace hov := Lib.hid hov
  replace hr2 := Lib.hid hr2
  clear z0 z1 z2
  go_wp2_with fail
  clear mk
  go_loopw [5] (fun uv wr => ∃ (u : Nat) (f : Names) (vals : List Value), u ≤ N ∧ uv = .int .i64 u ∧ Rows W1.heap.size wr f ∧ Below W1.heap.size W1 wr ∧ WN f (.slice oa on oc) vals M (pairTo K N T (u * N))) (fun uv _ => N - (intOf uv).toNat)
  case atStart => exact ⟨0, f2, _, Nat.zero_le _, rfl, hr2.out, hb2, by rw [Nat.zero_mul, pairTo_zero]; exact g2⟩
  case round =>
    clear g2 hr2 hov
    obtain ⟨u, f3, vals, hu, rfl, hr3, b3, g3⟩ := hrel
    obtain ⟨w3, rfl⟩ : ∃ wo : World, wo = wr := ⟨_, rfl⟩
    by_cases hul : u < N
    · have duN : decide ((u : Int) < (N : Int)) = true := decide_eq_true (by omega)
      replace hr3 := Lib.hid hr3
      go_wp2_with fail
      go_loopw [6] (fun vv wr => ∃ (v : Nat) (f : Names) (vals : List Value), v ≤ N ∧ vv = .int .i64 v ∧ Rows W1.heap.size wr f ∧ Below W1.heap.size W1 wr ∧ WN f (.slice oa on oc) vals M (pairTo K N T (u * N + v))) (fun vv _ => N - (intOf vv).toNat)
      case atStart => exact ⟨0, f3, _, Nat.zero_le _, rfl, hr3.out, b3, g3⟩
      case round =>
        clear g3 hr3 b3
        obtain ⟨v, f4, vals, hv, rfl, hr4, b4, g4⟩ := hrel
        obtain ⟨wo, rfl⟩ : ∃ wo : World, wo = wr := ⟨_, rfl⟩
        by_cases hvl : v < N
        · have dvN : decide ((v : Int) < (N : Int)) = true := decide_eq_true (by omega)
          have hkM : u * N + v < M := by rw [← hM.out]; exact pair_lt hul hvl
          have ba := belowAlloc wo (.cells #[] 3)
          have hlit := OwnI.lit wo.heap.size wo (Nat.le_refl _) [] (by unfold maxLen; simp) #[] rfl 0 rfl
          replace hr4 := Lib.hid hr4
          replace hlit := Lib.hid hlit
          have hlit2 := hlit
          go_wp2_with fail
          go_loopw [7, 8] (fun sv cv wr => ∃ (s : Nat) (sw : Value), sw = sv ∧ cv = .int .i64 s ∧ s ≤ K ∧ OwnI wo.heap.size wr sw (castI (rawP K N T u v s)) ∧ Below wo.heap.size wo wr) (fun _ cv _ => K - (intOf cv).toNat)
          case atStart => exact ⟨0, _, rfl, rfl, Nat.zero_le _, hlit.out, ba⟩
          case round =>
            clear hlit hlit2 ba
            obtain ⟨s, sw, rfl, rfl, hs, hsO, bS⟩ := hrel
            obtain ⟨ws, rfl⟩ : ∃ wo : World, wo = wr := ⟨_, rfl⟩
            have b5 := b4.trans (bS.mono b4.size)
            obtain ⟨⟨z0, z1, z2⟩, -, -, -⟩ := q1.below b5
            replace hsO := Lib.hid hsO
            by_cases hsl : s < K
            · have dsK : decide ((s : Int) < (K : Int)) = true := decide_eq_true (by omega)
              go_wp2_with fail
              clear z0 z1 z2
              go_loopw [7, 9] (fun sv cv wr => ∃ (t : Nat) (sw : Value), sw = sv ∧ cv = .int .i64 t ∧ t ≤ K ∧ OwnI wo.heap.size wr sw (castI (rawP K N T u v s ++ rawS K N T u v s t)) ∧ Below wo.heap.size wo wr) (fun _ cv _ => K - (intOf cv).toNat)
              case atStart => exact ⟨0, _, rfl, rfl, Nat.zero_le _, by simpa [rawS] using hsO.out, bS⟩
              case round =>
                clear hsO bS b5
                obtain ⟨t, sw, rfl, rfl, ht, hsO, bT⟩ := hrel
                obtain ⟨wt, rfl⟩ : ∃ wo : World, wo = wr := ⟨_, rfl⟩
                have b5 := b4.trans (bT.mono b4.size)
                have qt := q1.below b5
                obtain ⟨⟨z0, z1, z2⟩, -, -, -⟩ := qt
                replace hsO := Lib.hid hsO
                by_cases htl : t < K
                · have dtK : decide ((t : Int) < (K : Int)) = true := decide_eq_true (by omega)
                  obtain ⟨W, hW⟩ : ∃ W : World, wt.drew = W := ⟨_, rfl⟩
                  have b5W : Below W1.heap.size W1 W := by rw [← hW]; exact b5.drew
                  have bTW : Below wo.heap.size wo W := by rw [← hW]; exact bT.drew
                  have hsW : OwnI wo.heap.size W sw (castI (rawP K N T u v s ++ rawS K N T u v s t)) := by rw [← hW]; exact hsO.out
                  have hTt := h1.out.below b5W
                  have hA : u * K + s < T.length := by rw [hlen.out]; exact uks_lt hul hsl
                  have hB : v * K + t < T.length := by rw [hlen.out]; exact uks_lt hvl htl
                  have iA := fun w' => hTt.idx _ hA w'
                  have cA := hTt.cellD _ hA
                  have iB := fun w' => hTt.idx _ hB w'
                  have cB := hTt.cellD _ hB
                  have hlA : labN K T u s = T.getD (u * K + s) 0 := rfl
                  have hlB : labN K T v t = T.getD (v * K + t) 0 := rfl
                  have haA : u * K + s ≤ 256 := by have := hl; omega
                  have haB : v * K + t ≤ 256 := by have := hl; omega
                  have hrt : rawT K N T u v s t = if labN K T u s = labN K T v t then [toN K N u s * N + toN K N v t] else [] := rfl
                  have hrs := rawS_succ K N T u v s t
                  rw [hlA, hlB] at hrt
                  generalize T.getD (u * K + s) 0 = y1 at *
                  generalize T.getD (v * K + t) 0 = y2 at *
                  generalize valAt (.slice va vn vc) (u * K + s) = ta at *
                  generalize valAt (.slice va vn vc) (v * K + t) = tb at *
                  have ea : (u : Int) * (K : Int) + (s : Int) = ((u * K + s : Nat) : Int) := by simp
                  have eb : (v : Int) * (K : Int) + (t : Int) = ((v * K + t : Nat) : Int) := by simp
                  have ea2 : (u : Int) * (K : Int) = ((u * K : Nat) : Int) := by simp
                  have eb2 : (v : Int) * (K : Int) = ((v * K : Nat) : Int) := by simp
                  have wa1 : IntKind.i64.wrap ((u : Int) * (K : Int)) = (u : Int) * (K : Int) := wrapK (by omega) (by omega)
                  have wb1 : IntKind.i64.wrap ((v : Int) * (K : Int)) = (v : Int) * (K : Int) := wrapK (by omega) (by omega)
                  have wa2 : IntKind.i64.wrap ((u : Int) * (K : Int) + (s : Int)) = ((u * K + s : Nat) : Int) := by rw [ea]; exact wrapK (by omega) (by omega)
                  have wb2 : IntKind.i64.wrap ((v : Int) * (K : Int) + (t : Int)) = ((v * K + t : Nat) : Int) := by rw [eb]; exact wrapK (by omega) (by omega)
                  have htoA : toN K N u s = (u * K + s) % N := rfl
                  have htoB : toN K N v t = (v * K + t) % N := rfl
                  generalize u * K + s = A at *
                  generalize v * K + t = B at *
                  have hS : W.cell? ⟨w.heap.size, 0, none⟩ = some (.int .i64 K) ∧ W.cell? ⟨w.heap.size, 2, none⟩ = some (.slice va vn vc) ∧ W.cell? ta = some (.int .i64 y1) ∧ W.cell? tb = some (.int .i64 y2) := by
                    obtain ⟨⟨p0, p1, p2⟩, -, -, -⟩ := q1.below b5W
                    exact ⟨p0, p2, cA, cB⟩
                  replace hTt := Lib.hid hTt
                  replace hsW := Lib.hid hsW
                  replace hlA := Lib.hid hlA
                  replace hlB := Lib.hid hlB
                  replace hrt := Lib.hid hrt
                  replace hrs := Lib.hid hrs
                  replace htoA := Lib.hid htoA
                  replace htoB := Lib.hid htoB
                  replace hW := Lib.hid hW
                  replace ea := Lib.hid ea
                  replace eb := Lib.hid eb
                  replace ea2 := Lib.hid ea2
                  replace eb2 := Lib.hid eb2
                  clear cA cB
                  go_upto_region 16 with fail
                  refine wp_region_plan (fun w' => w'.cell? ⟨w.heap.size, 0, none⟩ = some (.int .i64 K) ∧ w'.cell? ⟨w.heap.size, 2, none⟩ = some (.slice va vn vc) ∧ w'.cell? ta = some (.int .i64 y1) ∧ w'.cell? tb = some (.int .i64 y2)) 20 [(0, true), (1, true), (2, true), (3, true), (4, true), (5, true), (6, true), (7, true), (8, true), (9, true), (10, true), (11, true), (12, true), (13, true), (14, true), (15, true), (16, true), (17, true), (18, true), (19, true)] (by kernel_rfl) (by kernel_rfl) ?_
                  rw [hW.out]
                  clear z0 z1 z2
                  refine headY (v := ?_) (some 41) rfl rfl (Or.inl ⟨by rfl, ?_⟩) hS ?_
                  rotate_left
                  · rintro W' ⟨s0, s1, s2, s3⟩; go_simp; try with_reducible rfl
                  simp only [Act.put, List.setIfInBounds_toArray, List.set_cons_zero, List.set_cons_succ]
                  refine headY (v := ?_) (some 42) rfl rfl (Or.inl ⟨by rfl, ?_⟩) hS ?_
                  rotate_left
                  · rintro W' ⟨s0, s1, s2, s3⟩; go_simp; try with_reducible rfl
                  simp only [Act.put, List.setIfInBounds_toArray, List.set_cons_zero, List.set_cons_succ]
                  refine headY (v := ?_) (some 43) rfl rfl (Or.inl ⟨by rfl, ?_⟩) hS ?_
                  rotate_left
                  · rintro W' ⟨s0, s1, s2, s3⟩; go_simp; try with_reducible rfl
                  simp only [Act.put, List.setIfInBounds_toArray, List.set_cons_zero, List.set_cons_succ]
                  refine headY (v := ?_) (some 44) rfl rfl (Or.inl ⟨by rfl, ?_⟩) hS ?_
                  rotate_left
                  · rintro W' ⟨s0, s1, s2, s3⟩; go_simp; try with_reducible rfl
                  simp only [Act.put, List.setIfInBounds_toArray, List.set_cons_zero, List.set_cons_succ]
                  refine headY (v := ?_) (some 45) rfl rfl (Or.inl ⟨by rfl, ?_⟩) hS ?_
                  rotate_left
                  · rintro W' ⟨s0, s1, s2, s3⟩; go_simp; try with_reducible rfl
                  simp only [Act.put, List.setIfInBounds_toArray, List.set_cons_zero, List.set_cons_succ]
                  refine headY (v := ?_) (some 46) rfl rfl (Or.inl ⟨by rfl, ?_⟩) hS ?_
                  rotate_left
                  · rintro W' ⟨s0, s1, s2, s3⟩; go_simp; try with_reducible rfl
                  simp only [Act.put, List.setIfInBounds_toArray, List.set_cons_zero, List.set_cons_succ]
                  refine headY (v := ?_) (some 47) rfl rfl (Or.inl ⟨by rfl, ?_⟩) hS ?_
                  rotate_left
                  · rintro W' ⟨s0, s1, s2, s3⟩; go_simp; try with_reducible rfl
                  simp only [Act.put, List.setIfInBounds_toArray, List.set_cons_zero, List.set_cons_succ]
                  refine headY (v := ?_) (some 48) rfl rfl (Or.inl ⟨by rfl, ?_⟩) hS ?_
                  rotate_left
                  · rintro W' ⟨s0, s1, s2, s3⟩; go_simp; try with_reducible rfl
                  simp only [Act.put, List.setIfInBounds_toArray, List.set_cons_zero, List.set_cons_succ]
                  refine headY (v := ?_) (some 49) rfl rfl (Or.inl ⟨by rfl, ?_⟩) hS ?_
                  rotate_left
                  · rintro W' ⟨s0, s1, s2, s3⟩; go_simp; try with_reducible rfl
                  simp only [Act.put, List.setIfInBounds_toArray, List.set_cons_zero, List.set_cons_succ]
                  refine headY (v := ?_) (some 50) rfl rfl (Or.inl ⟨by rfl, ?_⟩) hS ?_
                  rotate_left
                  · rintro W' ⟨s0, s1, s2, s3⟩; go_simp; try with_reducible rfl
                  simp only [Act.put, List.setIfInBounds_toArray, List.set_cons_zero, List.set_cons_succ]
                  refine headY (v := ?_) (some 51) rfl rfl (Or.inl ⟨by rfl, ?_⟩) hS ?_
                  rotate_left
                  · rintro W' ⟨s0, s1, s2, s3⟩; go_simp; try with_reducible rfl
                  simp only [Act.put, List.setIfInBounds_toArray, List.set_cons_zero, List.set_cons_succ]
                  refine headY (v := ?_) (some 52) rfl rfl (Or.inl ⟨by rfl, ?_⟩) hS ?_
                  rotate_left
                  · rintro W' ⟨s0, s1, s2, s3⟩; go_simp; try with_reducible rfl
                  simp only [Act.put, List.setIfInBounds_toArray, List.set_cons_zero, List.set_cons_succ]
                  refine headY (v := ?_) (some 53) rfl rfl (Or.inl ⟨by rfl, ?_⟩) hS ?_
                  rotate_left
                  · rintro W' ⟨s0, s1, s2, s3⟩; go_simp; try with_reducible rfl
                  simp only [Act.put, List.setIfInBounds_toArray, List.set_cons_zero, List.set_cons_succ]
                  refine headY (v := ?_) (some 54) rfl rfl (Or.inl ⟨by rfl, ?_⟩) hS ?_
                  rotate_left
                  · rintro W' ⟨s0, s1, s2, s3⟩; go_simp; try with_reducible rfl
                  simp only [Act.put, List.setIfInBounds_toArray, List.set_cons_zero, List.set_cons_succ]
                  refine headY (v := ?_) (some 55) rfl rfl (Or.inl ⟨by rfl, ?_⟩) hS ?_
                  rotate_left
                  · rintro W' ⟨s0, s1, s2, s3⟩; go_simp; try with_reducible rfl
                  simp only [Act.put, List.setIfInBounds_toArray, List.set_cons_zero, List.set_cons_succ]
                  refine headY (v := ?_) (some 56) rfl rfl (Or.inl ⟨by rfl, ?_⟩) hS ?_
                  rotate_left
                  · rintro W' ⟨s0, s1, s2, s3⟩; go_simp; try with_reducible rfl
                  simp only [Act.put, List.setIfInBounds_toArray, List.set_cons_zero, List.set_cons_succ]
                  refine headY (v := ?_) (some 57) rfl rfl (Or.inl ⟨by rfl, ?_⟩) hS ?_
                  rotate_left
                  · rintro W' ⟨s0, s1, s2, s3⟩; go_simp; try with_reducible rfl
                  simp only [Act.put, List.setIfInBounds_toArray, List.set_cons_zero, List.set_cons_succ]
                  refine headY (v := ?_) (some 58) rfl rfl (Or.inl ⟨by rfl, ?_⟩) hS ?_
                  rotate_left
                  · rintro W' ⟨s0, s1, s2, s3⟩; go_simp; try with_reducible rfl
                  simp only [Act.put, List.setIfInBounds_toArray, List.set_cons_zero, List.set_cons_succ]
                  refine headY (v := ?_) (some 59) rfl rfl (Or.inl ⟨by rfl, ?_⟩) hS ?_
                  rotate_left
                  · rintro W' ⟨s0, s1, s2, s3⟩; go_simp; try with_reducible rfl
                  simp only [Act.put, List.setIfInBounds_toArray, List.set_cons_zero, List.set_cons_succ]
                  refine headY (v := ?_) (some 60) rfl rfl (Or.inl ⟨by rfl, ?_⟩) hS ?_
                  rotate_left
                  · rintro W' ⟨s0, s1, s2, s3⟩; go_simp; try with_reducible rfl
                  simp only [Act.put, List.setIfInBounds_toArray, List.set_cons_zero, List.set_cons_succ]
                  refine head0 ?_
                  simp only [List.drop_succ_cons, List.drop_zero]
                  by_cases hy : y1 = y2
                  · have heq : (y1 == y2) = true := by rw [beq_iff_eq]; exact hy
                    replace hy := Lib.hid hy
                    go_wp2
                    refine NoPanic.normal ?_
                    obtain ⟨V, hV⟩ : ∃ V : World, W.drew = V := ⟨_, rfl⟩
                    have b5V : Below W1.heap.size W1 V := by rw [← hV]; exact b5W.drew
                    have bTV : Below wo.heap.size wo V := by rw [← hV]; exact bTW.drew
                    have hsV : OwnI wo.heap.size V sw (castI (rawP K N T u v s ++ rawS K N T u v s t)) := by rw [← hV]; exact hsW.out
                    have hSV : V.cell? ⟨w.heap.size, 0, none⟩ = some (.int .i64 K) := by rw [← hV]; exact hS.1
                    replace hV := Lib.hid hV
                    replace hsV := Lib.hid hsV
                    have hN0 : ((N : Int) == 0) = false := by rw [beq_eq_false_iff_ne]; omega
                    have hN2 : ¬ (N : Int) = 0 := by omega
                    have hN3 : ¬ N = 0 := by omega
                    have hP := Nat.mod_lt A (show N > 0 by omega)
                    have hQ := Nat.mod_lt B (show N > 0 by omega)
                    have hmA : (A : Int).tmod (N : Int) = ((A % N : Nat) : Int) := by rw [Int.tmod_eq_emod_of_nonneg (Int.natCast_nonneg A)]; exact (Int.natCast_emod A N).symm
                    have hmB : (B : Int).tmod (N : Int) = ((B % N : Nat) : Int) := by rw [Int.tmod_eq_emod_of_nonneg (Int.natCast_nonneg B)]; exact (Int.natCast_emod B N).symm
                    have htA := htoA.out
                    have htB := htoB.out
                    generalize A % N = P at *
                    generalize B % N = Q at *
                    have hPQ : P * N + Q < M := by rw [← hM.out]; exact pair_lt hP hQ
                    have hZ : (P : Int) * (N : Int) + (Q : Int) = ((P * N + Q : Nat) : Int) := by simp
                    have hZ2 : (P : Int) * (N : Int) = ((P * N : Nat) : Int) := by simp
                    have wz1 : IntKind.i64.wrap ((P : Int) * (N : Int)) = (P : Int) * (N : Int) := by rw [hZ2]; exact wrapK (by omega) (by omega)
                    have wz2 : IntKind.i64.wrap ((P : Int) * (N : Int) + (Q : Int)) = ((P * N + Q : Nat) : Int) := by rw [hZ]; exact wrapK (by omega) (by omega)
                    have hcat : castI (rawP K N T u v s ++ rawS K N T u v s t) ++ [((P * N + Q : Nat) : Int)] = castI (rawP K N T u v s ++ rawS K N T u v s (t + 1)) := by
                      rw [hrs.out, hrt.out, if_pos hy.out, htA, htB]; simp [castI]
                    have hln : (castI (rawP K N T u v s ++ rawS K N T u v s t)).length ≤ 1000 := by
                      rw [castI_len, List.length_append]
                      have e1 := rawP_len K N T u v s
                      have e2 := rawS_len K N T u v s t
                      have e3 := Nat.mul_le_mul hs hk4
                      omega
                    generalize P * N + Q = Z at *
                    have bl := belowAlloc V (.cells #[.int .i64 (Z : Int)] 3)
                    have hlit := OwnI.lit V.heap.size V (Nat.le_refl _) [(Z : Int)] (by simp [maxLen]) #[.int .i64 (Z : Int)] rfl 1 rfl
                    have hOl := hsV.out.below bl
                    have sV := bTV.size
                    have hBl : wo.heap.size ≤ (V.alloc (.cells #[.int .i64 (Z : Int)] 3)).heap.size := by simp; omega
                    have hSl : (V.alloc (.cells #[.int .i64 (Z : Int)] 3)).cell? ⟨w.heap.size, 0, none⟩ = some (.int .i64 K) := (bl.cell (World.block_lt_of_cell? _ _ hSV)).trans hSV
                    replace hcat := Lib.hid hcat
                    replace hlit := Lib.hid hlit
                    replace hOl := Lib.hid hOl
                    replace htA := Lib.hid htA
                    replace htB := Lib.hid htB
                    replace hZ := Lib.hid hZ
                    replace hZ2 := Lib.hid hZ2
                    go_upto_region 17 with fail
                    refine wp_region_plan (fun w' => w'.cell? ⟨w.heap.size, 0, none⟩ = some (.int .i64 K)) 22 [(0, true), (1, true), (2, true), (3, true), (4, true), (5, true), (6, true), (7, true), (8, true), (9, true), (10, true), (11, true), (12, true), (13, true), (14, true), (15, true), (16, true), (17, true), (18, true), (19, true), (20, false), (21, false)] (by kernel_rfl) (by kernel_rfl) ?_
                    rw [hV.out]
                    clear hS
                    refine headY (v := ?_) (some 62) rfl rfl (Or.inl ⟨by rfl, ?_⟩) hSV ?_
                    rotate_left
                    · rintro W' s0; go_simp; try with_reducible rfl
                    simp only [Act.put, List.setIfInBounds_toArray, List.set_cons_zero, List.set_cons_succ]
                    refine headY (v := ?_) (some 63) rfl rfl (Or.inl ⟨by rfl, ?_⟩) hSV ?_
                    rotate_left
                    · rintro W' s0; go_simp; try with_reducible rfl
                    simp only [Act.put, List.setIfInBounds_toArray, List.set_cons_zero, List.set_cons_succ]
                    refine headY (v := ?_) (some 64) rfl rfl (Or.inl ⟨by rfl, ?_⟩) hSV ?_
                    rotate_left
                    · rintro W' s0; go_simp; try with_reducible rfl
                    simp only [Act.put, List.setIfInBounds_toArray, List.set_cons_zero, List.set_cons_succ]
                    refine headY (v := ?_) (some 65) rfl rfl (Or.inl ⟨by rfl, ?_⟩) hSV ?_
                    rotate_left
                    · rintro W' s0; go_simp; try with_reducible rfl
                    simp only [Act.put, List.setIfInBounds_toArray, List.set_cons_zero, List.set_cons_succ]
                    refine headY (v := ?_) (some 66) rfl rfl (Or.inl ⟨by rfl, ?_⟩) hSV ?_
                    rotate_left
                    · rintro W' s0; go_simp; try with_reducible rfl
                    simp only [Act.put, List.setIfInBounds_toArray, List.set_cons_zero, List.set_cons_succ]
                    refine headY (v := ?_) (some 67) rfl rfl (Or.inl ⟨by rfl, ?_⟩) hSV ?_
                    rotate_left
                    · rintro W' s0; go_simp; try with_reducible rfl
                    simp only [Act.put, List.setIfInBounds_toArray, List.set_cons_zero, List.set_cons_succ]
                    refine headY (v := ?_) (some 68) rfl rfl (Or.inl ⟨by rfl, ?_⟩) hSV ?_
                    rotate_left
                    · rintro W' s0; go_simp; try with_reducible rfl
                    simp only [Act.put, List.setIfInBounds_toArray, List.set_cons_zero, List.set_cons_succ]
                    refine headY (v := ?_) (some 69) rfl rfl (Or.inl ⟨by rfl, ?_⟩) hSV ?_
                    rotate_left
                    · rintro W' s0; go_simp; try with_reducible rfl
                    simp only [Act.put, List.setIfInBounds_toArray, List.set_cons_zero, List.set_cons_succ]
                    refine headY (v := ?_) (some 70) rfl rfl (Or.inl ⟨by rfl, ?_⟩) hSV ?_
                    rotate_left
                    · rintro W' s0; go_simp; try with_reducible rfl
                    simp only [Act.put, List.setIfInBounds_toArray, List.set_cons_zero, List.set_cons_succ]
                    refine headY (v := ?_) (some 71) rfl rfl (Or.inl ⟨by rfl, ?_⟩) hSV ?_
                    rotate_left
                    · rintro W' s0; go_simp; try with_reducible rfl
                    simp only [Act.put, List.setIfInBounds_toArray, List.set_cons_zero, List.set_cons_succ]
                    refine headY (v := ?_) (some 72) rfl rfl (Or.inl ⟨by rfl, ?_⟩) hSV ?_
                    rotate_left
                    · rintro W' s0; go_simp; try with_reducible rfl
                    simp only [Act.put, List.setIfInBounds_toArray, List.set_cons_zero, List.set_cons_succ]
                    refine headY (v := ?_) (some 73) rfl rfl (Or.inl ⟨by rfl, ?_⟩) hSV ?_
                    rotate_left
                    · rintro W' s0; go_simp; try with_reducible rfl
                    simp only [Act.put, List.setIfInBounds_toArray, List.set_cons_zero, List.set_cons_succ]
                    refine headY (v := ?_) (some 74) rfl rfl (Or.inl ⟨by rfl, ?_⟩) hSV ?_
                    rotate_left
                    · rintro W' s0; go_simp; try with_reducible rfl
                    simp only [Act.put, List.setIfInBounds_toArray, List.set_cons_zero, List.set_cons_succ]
                    refine headY (v := ?_) (some 75) rfl rfl (Or.inl ⟨by rfl, ?_⟩) hSV ?_
                    rotate_left
                    · rintro W' s0; go_simp; try with_reducible rfl
                    simp only [Act.put, List.setIfInBounds_toArray, List.set_cons_zero, List.set_cons_succ]
                    refine headY (v := ?_) (some 76) rfl rfl (Or.inl ⟨by rfl, ?_⟩) hSV ?_
                    rotate_left
                    · rintro W' s0; go_simp; try with_reducible rfl
                    simp only [Act.put, List.setIfInBounds_toArray, List.set_cons_zero, List.set_cons_succ]
                    refine headY (v := ?_) (some 77) rfl rfl (Or.inl ⟨by rfl, ?_⟩) hSV ?_
                    rotate_left
                    · rintro W' s0; go_simp; try with_reducible rfl
                    simp only [Act.put, List.setIfInBounds_toArray, List.set_cons_zero, List.set_cons_succ]
                    refine headY (v := ?_) (some 78) rfl rfl (Or.inl ⟨by rfl, ?_⟩) hSV ?_
                    rotate_left
                    · rintro W' s0; go_simp; try with_reducible rfl
                    simp only [Act.put, List.setIfInBounds_toArray, List.set_cons_zero, List.set_cons_succ]
                    refine headY (v := ?_) (some 79) rfl rfl (Or.inl ⟨by rfl, ?_⟩) hSV ?_
                    rotate_left
                    · rintro W' s0; go_simp; try with_reducible rfl
                    simp only [Act.put, List.setIfInBounds_toArray, List.set_cons_zero, List.set_cons_succ]
                    refine headY (v := ?_) (some 80) rfl rfl (Or.inl ⟨by rfl, ?_⟩) hSV ?_
                    rotate_left
                    · rintro W' s0; go_simp; try with_reducible rfl
                    simp only [Act.put, List.setIfInBounds_toArray, List.set_cons_zero, List.set_cons_succ]
                    refine headY (v := ?_) (some 81) rfl rfl (Or.inl ⟨by rfl, ?_⟩) hSV ?_
                    rotate_left
                    · rintro W' s0; go_simp; try with_reducible rfl
                    simp only [Act.put, List.setIfInBounds_toArray, List.set_cons_zero, List.set_cons_succ]
                    refine headC rfl (fun KK hK => ?_)
                    go_simp
                    refine hK _ _ hSl ?_
                    clear hK KK
                    refine headC rfl (fun KK hK => ?_)
                    refine step_appI rfl _ _ rfl wo.heap.size sw (.slice (some ⟨V.heap.size, 0, none⟩) 1 1) _ [(Z : Int)] rfl rfl hOl.out hlit.out.at (by simp only [List.length_cons, List.length_nil]; omega) hBl ?_
                    intro v9 w9 ho9 b9
                    rw [hcat.out] at ho9
                    obtain ⟨v9a, v9b, v9c, rfl⟩ := ho9.at.shape
                    have bT9 : Below wo.heap.size wo w9 := (bTV.trans (bl.mono sV)).trans b9
                    have hS9 : w9.cell? ⟨w.heap.size, 0, none⟩ = some (.int .i64 K) := by
                      obtain ⟨⟨p0, p1, p2⟩, -, -, -⟩ := q1.below (b4.trans (bT9.mono b4.size))
                      exact p0
                    replace ho9 := Lib.hid ho9
                    refine hK _ _ hS9 ?_
                    clear hK KK
                    refine head0 ?_
                    simp only [List.drop_succ_cons, List.drop_zero]
                    clear hSV hSl hS9
                    go_wp2
                    refine NoPanic.normal ?_
                    go_wp2
                    go_roundw
                    case measure => simp [intOf]; omega
                    case rel => exact ⟨t + 1, _, rfl, by go_num, by omega, ho9.out, bT9⟩
                  · have heq : (y1 == y2) = false := by rw [beq_eq_false_iff_ne]; exact hy
                    have hcat : castI (rawP K N T u v s ++ rawS K N T u v s t) = castI (rawP K N T u v s ++ rawS K N T u v s (t + 1)) := by
                      rw [hrs.out, hrt.out, if_neg hy]; simp
                    have hs9 := hsW.out
                    rw [hcat] at hs9
                    replace hs9 := Lib.hid hs9
                    replace hcat := Lib.hid hcat
                    replace hy := Lib.hid hy
                    clear hS
                    go_wp2
                    refine NoPanic.normal ?_
                    go_wp2
                    go_roundw
                    case measure => simp [intOf]; omega
                    case rel => exact ⟨t + 1, _, rfl, by go_num, by omega, hs9.out, bTW⟩
                · obtain rfl : t = K := by omega
                  have hs9 := hsO.out
                  rw [← rawP_succ] at hs9
                  have dtK : decide ((t : Int) < (t : Int)) = false := decide_eq_false (by omega)
                  replace hs9 := Lib.hid hs9
                  go_wp2
                  go_roundw
                  case measure => simp [intOf]; omega
                  case rel => exact ⟨s + 1, _, rfl, by go_num, by omega, hs9.out, bT⟩
            · obtain rfl : s = K := by omega
              have dsK : decide ((s : Int) < (s : Int)) = false := decide_eq_false (by omega)
              have hlT : (castI (rawP s N T u v s)).length ≤ 1000 := by
                rw [castI_len]
                have e1 := rawP_len s N T u v s
                have e3 := Nat.mul_le_mul hk4 hk4
                omega
              have hsort := sort_ints wo.heap.size sw _ ws hsO.out (by omega) bS.size
              have hded : ded (srt (castI (rawP s N T u v s))) (srt (castI (rawP s N T u v s))).length = castI (pairL s N T (u * N + v)) := by
                refine ded_pair (by omega) (srt_sorted _) (fun x => ?_)
                rw [srt_mem, pair_div hvl, pair_mod hvl]; rfl
              have hzl : (srt (castI (rawP s N T u v s))).length ≤ 1000 := by rw [srt_length]; exact hlT
              generalize srt (castI (rawP s N T u v s)) = zs at *
              replace hsort := Lib.hid hsort
              replace hded := Lib.hid hded
              go_wp2_with fail
              refine hsort.out.mono ?_
              rintro e w8 ⟨rfl, hz8, b8⟩
              have bS8 := bS.trans b8
              have lZ := hz8.at.len
              have ba := belowAlloc w8 (.cells #[] 3)
              have hlit := OwnI.lit w8.heap.size w8 (Nat.le_refl _) [] (by unfold maxLen; simp) #[] rfl 0 rfl
              obtain ⟨swa, swb, swc, rfl⟩ := hz8.at.shape
              replace hz8 := Lib.hid hz8
              replace hlit := Lib.hid hlit
              clear z0 z1 z2 hsort
              go_wp2_with fail
              go_loopw [10, 11] (fun lv iv wr => ∃ (i : Nat) (lw : Value), lw = lv ∧ iv = .int .i64 i ∧ i ≤ zs.length ∧ OwnI w8.heap.size wr lw (ded zs i) ∧ Below w8.heap.size w8 wr) (fun _ iv _ => zs.length - (intOf iv).toNat)
              case atStart => exact ⟨0, _, rfl, rfl, Nat.zero_le _, hlit.out, ba⟩
              case round =>
                clear hlit ba
                obtain ⟨i, lw, rfl, rfl, hi, hlO, bL⟩ := hrel
                obtain ⟨wl, rfl⟩ : ∃ wo : World, wo = wr := ⟨_, rfl⟩
                have hzL := hz8.out.at.below bL
                have hdl := ded_len zs i
                replace hlO := Lib.hid hlO
                by_cases hil : i < zs.length
                · have diL : decide ((i : Int) < (zs.length : Int)) = true := decide_eq_true (by omega)
                  obtain ⟨V, hV⟩ : ∃ V : World, wl.drew = V := ⟨_, rfl⟩
                  have bLV : Below w8.heap.size w8 V := by rw [← hV]; exact bL.drew
                  have hlV : OwnI w8.heap.size V lw (ded zs i) := by rw [← hV]; exact hlO.out
                  have hzV := hz8.out.at.below bLV
                  have iI := fun w' => hzV.idx i hil w'
                  have cI := hzV.cellD i hil
                  have hds : ded zs (i + 1) = ded zs i ++ if i = 0 ∨ zs.getD i 0 ≠ zs.getD (i - 1) 0 then [zs.getD i 0] else [] := rfl
                  have bLs := bLV.size
                  by_cases hi0 : i = 0
                  · have di0 : ((i : Int) == 0) = true := by rw [beq_iff_eq]; omega
                    rw [if_pos (.inl hi0)] at hds
                    generalize zs.getD i 0 = x at *
                    generalize valAt (.slice swa swb swc) i = xa at *
                    have hS : True := trivial
                    replace hds := Lib.hid hds
                    replace hV := Lib.hid hV
                    replace hlV := Lib.hid hlV
                    replace hzV := Lib.hid hzV
                    replace hzL := Lib.hid hzL
                    replace hi0 := Lib.hid hi0
                    go_upto_region 23 with fail
                    refine wp_region_plan (fun _ => True) 13 [(0, true), (1, true), (2, true), (3, true), (4, true), (5, true), (6, true), (7, true), (8, true), (9, true), (10, true), (11, true), (12, true)] (by kernel_rfl) (by kernel_rfl) ?_
                    rw [hV.out]
                    refine headY (v := ?_) (some 93) rfl rfl (Or.inl ⟨by rfl, ?_⟩) hS ?_
                    rotate_left
                    · rintro W' _; go_simp; try with_reducible rfl
                    simp only [Act.put, List.setIfInBounds_toArray, List.set_cons_zero, List.set_cons_succ]
                    refine headY (v := ?_) (some 94) rfl rfl (Or.inl ⟨by rfl, ?_⟩) hS ?_
                    rotate_left
                    · rintro W' _; go_simp; try with_reducible rfl
                    simp only [Act.put, List.setIfInBounds_toArray, List.set_cons_zero, List.set_cons_succ]
                    refine headY (v := ?_) (some 95) rfl rfl (Or.inl ⟨by rfl, ?_⟩) hS ?_
                    rotate_left
                    · rintro W' _; go_simp; try with_reducible rfl
                    simp only [Act.put, List.setIfInBounds_toArray, List.set_cons_zero, List.set_cons_succ]
                    refine headY (v := undef) (some 96) rfl rfl (Or.inr ⟨by rfl, rfl⟩) hS ?_
                    simp only [Act.put, List.setIfInBounds_toArray, List.set_cons_zero, List.set_cons_succ]
                    refine headY (v := undef) (some 97) rfl rfl (Or.inr ⟨by rfl, rfl⟩) hS ?_
                    simp only [Act.put, List.setIfInBounds_toArray, List.set_cons_zero, List.set_cons_succ]
                    refine headY (v := undef) (some 98) rfl rfl (Or.inr ⟨by rfl, rfl⟩) hS ?_
                    simp only [Act.put, List.setIfInBounds_toArray, List.set_cons_zero, List.set_cons_succ]
                    refine headY (v := undef) (some 99) rfl rfl (Or.inr ⟨by rfl, rfl⟩) hS ?_
                    simp only [Act.put, List.setIfInBounds_toArray, List.set_cons_zero, List.set_cons_succ]
                    refine headY (v := undef) (some 100) rfl rfl (Or.inr ⟨by rfl, rfl⟩) hS ?_
                    simp only [Act.put, List.setIfInBounds_toArray, List.set_cons_zero, List.set_cons_succ]
                    refine headY (v := undef) (some 101) rfl rfl (Or.inr ⟨by rfl, rfl⟩) hS ?_
                    simp only [Act.put, List.setIfInBounds_toArray, List.set_cons_zero, List.set_cons_succ]
                    refine headY (v := undef) (some 102) rfl rfl (Or.inr ⟨by rfl, rfl⟩) hS ?_
                    simp only [Act.put, List.setIfInBounds_toArray, List.set_cons_zero, List.set_cons_succ]
                    refine headY (v := undef) (some 103) rfl rfl (Or.inr ⟨by rfl, rfl⟩) hS ?_
                    simp only [Act.put, List.setIfInBounds_toArray, List.set_cons_zero, List.set_cons_succ]
                    refine headY (v := undef) (some 104) rfl rfl (Or.inr ⟨by rfl, rfl⟩) hS ?_
                    simp only [Act.put, List.setIfInBounds_toArray, List.set_cons_zero, List.set_cons_succ]
                    refine headY (v := undef) (some 105) rfl rfl (Or.inr ⟨by rfl, rfl⟩) hS ?_
                    simp only [Act.put, List.setIfInBounds_toArray, List.set_cons_zero, List.set_cons_succ]
                    refine head0 ?_
                    simp only [List.drop_succ_cons, List.drop_zero]
                    go_wp2
                    refine NoPanic.normal ?_
                    go_wp2_with (at_builtin; refine wpl_app1 rfl _ _ rfl w8.heap.size lw (ded zs i) x hlV.out rfl rfl (by omega) bLs ?_)
                    intro v' w7 ho7 b7 _
                    rw [← hds.out] at ho7
                    obtain ⟨v7a, v7b, v7c, rfl⟩ := ho7.at.shape
                    replace ho7 := Lib.hid ho7
                    go_wp2
                    go_roundw
                    case measure => simp [intOf]; omega
                    case rel => exact ⟨i + 1, _, rfl, by go_num, by omega, ho7.out, bLV.trans b7⟩
                  · have di0 : ((i : Int) == 0) = false := by rw [beq_eq_false_iff_ne]; omega
                    have wi : IntKind.i64.wrap ((i : Int) - 1) = (i : Int) - 1 := wrapK (by omega) (by omega)
                    have iP : ∀ w', (Instr.indexAt 22 (.slice swa swb swc) (.int .i64 ((i : Int) - 1))).run Tryz.prog w' = .ok (.pointer (some (valAt (.slice swa swb swc) (i - 1)))) w' := by
                      intro w'
                      have := hzV.idx (i - 1) (by omega) w'
                      rwa [show (((i - 1 : Nat) : Nat) : Int) = (i : Int) - 1 by omega] at this
                    have cP := hzV.cellD (i - 1) (by omega)
                    generalize zs.getD i 0 = x at *
                    generalize zs.getD (i - 1) 0 = x' at *
                    generalize valAt (.slice swa swb swc) i = xa at *
                    generalize valAt (.slice swa swb swc) (i - 1) = xb at *
                    have hS : V.cell? xa = some (.int .i64 x) ∧ V.cell? xb = some (.int .i64 x') := ⟨cI, cP⟩
                    replace hV := Lib.hid hV
                    replace hlV := Lib.hid hlV
                    replace hzV := Lib.hid hzV
                    replace hzL := Lib.hid hzL
                    replace hds := Lib.hid hds
                    go_upto_region 23 with fail
                    refine wp_region_plan (fun w' => w'.cell? xa = some (.int .i64 x) ∧ w'.cell? xb = some (.int .i64 x')) 13 [(0, true), (1, true), (2, true), (3, true), (4, true), (5, true), (6, true), (7, true), (8, true), (9, true), (10, true), (11, true), (12, true)] (by kernel_rfl) (by kernel_rfl) ?_
                    rw [hV.out]
                    refine headY (v := ?_) (some 93) rfl rfl (Or.inl ⟨by rfl, ?_⟩) hS ?_
                    rotate_left
                    · rintro W' ⟨s0, s1⟩; go_simp; try with_reducible rfl
                    simp only [Act.put, List.setIfInBounds_toArray, List.set_cons_zero, List.set_cons_succ]
                    refine headY (v := ?_) (some 94) rfl rfl (Or.inl ⟨by rfl, ?_⟩) hS ?_
                    rotate_left
                    · rintro W' ⟨s0, s1⟩; go_simp; try with_reducible rfl
                    simp only [Act.put, List.setIfInBounds_toArray, List.set_cons_zero, List.set_cons_succ]
                    refine headY (v := ?_) (some 95) rfl rfl (Or.inl ⟨by rfl, ?_⟩) hS ?_
                    rotate_left
                    · rintro W' ⟨s0, s1⟩; go_simp; try with_reducible rfl
                    simp only [Act.put, List.setIfInBounds_toArray, List.set_cons_zero, List.set_cons_succ]
                    refine headY (v := ?_) (some 96) rfl rfl (Or.inl ⟨by rfl, ?_⟩) hS ?_
                    rotate_left
                    · rintro W' ⟨s0, s1⟩; go_simp; try with_reducible rfl
                    simp only [Act.put, List.setIfInBounds_toArray, List.set_cons_zero, List.set_cons_succ]
                    refine headY (v := ?_) (some 97) rfl rfl (Or.inl ⟨by rfl, ?_⟩) hS ?_
                    rotate_left
                    · rintro W' ⟨s0, s1⟩; go_simp; try with_reducible rfl
                    simp only [Act.put, List.setIfInBounds_toArray, List.set_cons_zero, List.set_cons_succ]
                    refine headY (v := ?_) (some 98) rfl rfl (Or.inl ⟨by rfl, ?_⟩) hS ?_
                    rotate_left
                    · rintro W' ⟨s0, s1⟩; go_simp; try with_reducible rfl
                    simp only [Act.put, List.setIfInBounds_toArray, List.set_cons_zero, List.set_cons_succ]
                    refine headY (v := ?_) (some 99) rfl rfl (Or.inl ⟨by rfl, ?_⟩) hS ?_
                    rotate_left
                    · rintro W' ⟨s0, s1⟩; go_simp; try with_reducible rfl
                    simp only [Act.put, List.setIfInBounds_toArray, List.set_cons_zero, List.set_cons_succ]
                    refine headY (v := ?_) (some 100) rfl rfl (Or.inl ⟨by rfl, ?_⟩) hS ?_
                    rotate_left
                    · rintro W' ⟨s0, s1⟩; go_simp; try with_reducible rfl
                    simp only [Act.put, List.setIfInBounds_toArray, List.set_cons_zero, List.set_cons_succ]
                    refine headY (v := ?_) (some 101) rfl rfl (Or.inl ⟨by rfl, ?_⟩) hS ?_
                    rotate_left
                    · rintro W' ⟨s0, s1⟩; go_simp; try with_reducible rfl
                    simp only [Act.put, List.setIfInBounds_toArray, List.set_cons_zero, List.set_cons_succ]
                    refine headY (v := ?_) (some 102) rfl rfl (Or.inl ⟨by rfl, ?_⟩) hS ?_
                    rotate_left
                    · rintro W' ⟨s0, s1⟩; go_simp; try with_reducible rfl
                    simp only [Act.put, List.setIfInBounds_toArray, List.set_cons_zero, List.set_cons_succ]
                    refine headY (v := ?_) (some 103) rfl rfl (Or.inl ⟨by rfl, ?_⟩) hS ?_
                    rotate_left
                    · rintro W' ⟨s0, s1⟩; go_simp; try with_reducible rfl
                    simp only [Act.put, List.setIfInBounds_toArray, List.set_cons_zero, List.set_cons_succ]
                    refine headY (v := ?_) (some 104) rfl rfl (Or.inl ⟨by rfl, ?_⟩) hS ?_
                    rotate_left
                    · rintro W' ⟨s0, s1⟩; go_simp; try with_reducible rfl
                    simp only [Act.put, List.setIfInBounds_toArray, List.set_cons_zero, List.set_cons_succ]
                    refine headY (v := ?_) (some 105) rfl rfl (Or.inl ⟨by rfl, ?_⟩) hS ?_
                    rotate_left
                    · rintro W' ⟨s0, s1⟩; go_simp; try with_reducible rfl
                    simp only [Act.put, List.setIfInBounds_toArray, List.set_cons_zero, List.set_cons_succ]
                    refine head0 ?_
                    simp only [List.drop_succ_cons, List.drop_zero]
                    clear hS
                    by_cases hxx : x = x'
                    · have hne : (x != x') = false := by simp [hxx]
                      have hds2 := hds.out
                      rw [if_neg (by rintro (q | q); exact hi0 q; exact q hxx), List.append_nil] at hds2
                      have hl2 := hlV.out
                      rw [← hds2] at hl2
                      replace hl2 := Lib.hid hl2
                      replace hds2 := Lib.hid hds2
                      replace hxx := Lib.hid hxx
                      go_wp2
                      refine NoPanic.normal ?_
                      go_wp2
                      go_roundw
                      case measure => simp [intOf]; omega
                      case rel => exact ⟨i + 1, _, rfl, by go_num, by omega, hl2.out, bLV⟩
                    · have hne : (x != x') = true := by rw [bne_iff_ne]; exact hxx
                      have hds2 := hds.out
                      rw [if_pos (.inr hxx)] at hds2
                      replace hds2 := Lib.hid hds2
                      replace hxx := Lib.hid hxx
                      go_wp2
                      refine NoPanic.normal ?_
                      go_wp2_with (at_builtin; refine wpl_app1 rfl _ _ rfl w8.heap.size lw (ded zs i) x hlV.out rfl rfl (by omega) bLs ?_)
                      intro v' w7 ho7 b7 _
                      rw [← hds2.out] at ho7
                      obtain ⟨v7a, v7b, v7c, rfl⟩ := ho7.at.shape
                      replace ho7 := Lib.hid ho7
                      go_wp2
                      go_roundw
                      case measure => simp [intOf]; omega
                      case rel => exact ⟨i + 1, _, rfl, by go_num, by omega, ho7.out, bLV.trans b7⟩
                · obtain rfl : i = zs.length := by omega
                  have diL : decide ((zs.length : Int) < (zs.length : Int)) = false := decide_eq_false (by omega)
                  have hl2 := hlO.out
                  rw [hded.out] at hl2
                  have bT9 : Below wo.heap.size wo wl := bS8.trans (bL.mono bS8.size)
                  have hnew := g4.new hr4.out (u * N + v) bT9 b4.size (hl2.mono bS8.size)
                  obtain ⟨y1, y2, y3, f8, hr8, h8, _⟩ := g4.put hkM hnew
                  rw [pairTo_step] at h8
                  have iO := fun w' => ((hr4.out.ownV g4.outer).at).idx oneLists (u * N + v) (by rw [g4.len]; exact hkM) w'
                  have ek : (u : Int) * (N : Int) + (v : Int) = ((u * N + v : Nat) : Int) := by simp
                  have ek2 : (u : Int) * (N : Int) = ((u * N : Nat) : Int) := by simp
                  have wk1 : IntKind.i64.wrap ((u : Int) * (N : Int)) = (u : Int) * (N : Int) := by rw [ek2]; exact wrapK (by omega) (by omega)
                  have wk2 : IntKind.i64.wrap ((u : Int) * (N : Int) + (v : Int)) = ((u * N + v : Nat) : Int) := by rw [ek]; exact wrapK (by omega) (by omega)
                  have hk9 : u * N + (v + 1) = u * N + v + 1 := by omega
                  rw [← hk9] at h8
                  generalize valAt (.slice oa on oc) (u * N + v) = ka at *
                  obtain ⟨xa, xn, xc, rfl⟩ := hl2.at.shape
                  have b39 := b4.trans (bT9.mono b4.size)
                  replace hr8 := Lib.hid hr8
                  replace hl2 := Lib.hid hl2
                  replace hnew := Lib.hid hnew
                  replace hzL := Lib.hid hzL
                  replace hk9 := Lib.hid hk9
                  generalize hkk : u * N + v = kk at *
                  replace hkk := Lib.hid hkk
                  replace ek := Lib.hid ek
                  replace ek2 := Lib.hid ek2
                  go_wp2
                  go_roundw
                  case measure => simp [intOf]; omega
                  case rel => exact ⟨v + 1, f8, _, by omega, by go_num, hr8.out, b39.setCell y3 _, h8⟩
        · obtain rfl : v = N := by omega
          have dvN : decide ((v : Int) < (v : Int)) = false := decide_eq_false (by omega)
          have g5 := g4
          rw [show u * v + v = (u + 1) * v by rw [Nat.add_mul]; omega] at g5
          replace hr4 := Lib.hid hr4
          go_wp2
          go_roundw
          case measure => simp [intOf]; omega
          case rel => exact ⟨u + 1, f4, _, by omega, by go_num, hr4.out, b4, g5⟩
    · obtain rfl : u = N := by omega
      have duN : decide ((u : Int) < (u : Int)) = false := decide_eq_false (by omega)
      have g5 : WN f3 (.slice oa on oc) vals (u * u) (fun p => castI (pairL K u T p)) := by
        rw [hM.out]
        exact ⟨g3.outer, g3.len, fun z hz => by rw [g3.rows z hz]; unfold pairTo; rw [if_pos (by rw [hM.out]; exact hz)]⟩
      have hL := g5.from (hr3.monoB b01.size)
      have bE := Below.step b01 b3
      replace hr3 := Lib.hid hr3
      replace hL := Lib.hid hL
      go_wp2
      go_ret
      exact ⟨_, rfl, bE, hL.out⟩
end Go.Proofs.YtilpckngghffoaaGreatDoor
