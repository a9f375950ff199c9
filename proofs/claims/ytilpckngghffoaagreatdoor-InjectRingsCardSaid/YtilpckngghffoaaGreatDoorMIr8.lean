/-
  Walk: inject.witness: two rows along a loop, a way, a loop.
  Plain mathematics of layer 14: a live pair that is apart is there just if words of any length differ in the middle and have one image.
  What a call with four results leaves.
-/
import Derived.Test.YtilpckngghffoaaGreatDoorMIr7
namespace Go.Proofs.YtilpckngghffoaaGreatDoor
open Go.RowKit
set_option maxRecDepth 100000

/-- A vertex on a loop has a way to its double. -/
theorem loop_goes {G : List (List Int)} (hok : GraphOk G) {c : Nat} (hc : c < G.length) (h : OnLoop (adjOf G) c) : Goes (adjOf (wideG G c)) c G.length := by
  have claim : ∀ a z, Goes (adjOf G) a z → a < G.length → Goes (adjOf (wideG G c)) a G.length ∨ (Goes (adjOf (wideG G c)) a z ∧ (z = c → a = c)) := by
    intro a z hg ha
    induction hg with
    | refl => exact .inr ⟨.refl _, id⟩
    | @step b t hb ht ih =>
      have hbn := goes_lt hok hb ha
      rcases ih with ih | ⟨ih, _⟩
      · exact .inl ih
      · by_cases e : t = c
        · subst e
          exact .inl (.step ih ((wide_adj hok t hbn _).2 (.inr ⟨rfl, ht⟩)))
        · exact .inr ⟨.step ih ((wide_adj hok c hbn _).2 (.inl ⟨e, ht, hok.lt _ hbn _ ht⟩)), fun q => absurd q e⟩
  obtain ⟨t, ht, hg⟩ := h
  have htn := hok.lt _ hc _ ht
  by_cases e : t = c
  · subst e
    exact .one ((wide_adj hok t hc _).2 (.inr ⟨rfl, ht⟩))
  · have h1 : Goes (adjOf (wideG G c)) c t := .one ((wide_adj hok c hc _).2 (.inl ⟨e, ht, htn⟩))
    rcases claim t c hg htn with h2 | ⟨_, h2⟩
    · exact h1.trans h2
    · exact absurd (h2 rfl) e
/-- The vertices of the witness. -/
def WitIs (G : List (List Int)) (v : Nat) (L C Q : List Nat) : Prop :=
  ∃ c d u1 u2 I O, NearIs (adjOf (turnG G)) (OnLoop (adjOf G)) v c ∧ NearIs (adjOf G) (OnLoop (adjOf G)) v d ∧ c < G.length ∧ d < G.length ∧ IsFirst (adjOf (wideG G c)) c G.length u1 ∧ IsFirst (adjOf (wideG G d)) d G.length u2 ∧ IsFirst (adjOf G) c v I ∧ IsFirst (adjOf G) v d O ∧ L = u1.dropLast ∧ C = I ++ O.drop 1 ∧ Q = u2.dropLast.drop 1 ++ [d]
theorem WitIs.unique {G : List (List Int)} {v : Nat} {L C Q L' C' Q' : List Nat} (h : WitIs G v L C Q) (k : WitIs G v L' C' Q') : L = L' ∧ C = C' ∧ Q = Q' := by
  obtain ⟨c, d, u1, u2, I, O, h1, h2, _, _, h3, h4, h5, h6, rfl, rfl, rfl⟩ := h
  obtain ⟨c', d', u1', u2', I', O', k1, k2, _, _, k3, k4, k5, k6, rfl, rfl, rfl⟩ := k
  obtain rfl := h1.unique k1
  obtain rfl := h2.unique k2
  obtain rfl := h3.unique k3
  obtain rfl := h4.unique k4
  obtain rfl := h5.unique k5
  obtain rfl := h6.unique k6
  exact ⟨rfl, rfl, rfl⟩
theorem first_bound {G : List (List Int)} (hok : GraphOk G) {x y : Nat} {u : List Nat} (h : IsFirst (adjOf G) x y u) (hx : x < G.length) : u.length ≤ G.length ∧ ∀ z ∈ u, z < G.length := by
  have hlt : ∀ z ∈ u, z < G.length := by
    have hw := h.way
    clear h
    induction hw with
    | one x => intro z hz; rw [List.mem_singleton] at hz; subst hz; exact hx
    | @cons x t y w ht hw ih =>
      intro z hz
      rcases List.mem_cons.1 hz with rfl | hz
      · exact hx
      · exact ih (hok.lt _ hx _ ht) z hz
  exact ⟨nodup_len _ _ h.nodup hlt, hlt⟩
/-- What the loop's way is made of: it begins at c, and all ahead of its end are vertices. -/
theorem wide_bound {G : List (List Int)} (hok : GraphOk G) {c : Nat} (hc : c < G.length) {u : List Nat} (h : IsFirst (adjOf (wideG G c)) c G.length u) : 2 ≤ u.length ∧ u.length ≤ G.length + 1 ∧ ∀ z ∈ u.dropLast, z < G.length := by
  obtain ⟨h1, h2⟩ := first_bound (wideG_ok hok c) h (by rw [wideG_len]; omega)
  rw [wideG_len] at h1 h2
  have hnd := h.nodup
  have he := h.way.ends
  have hp := h.way.pos
  refine ⟨?_, h1, fun z hz => ?_⟩
  · apply Classical.byContradiction
    intro q
    have hl : u.length = 1 := by omega
    obtain ⟨w', rfl⟩ := h.way.ne
    have : w' = [] := List.length_eq_zero_iff.1 (by simpa using hl)
    subst this
    simp at he
    omega
  · have h3 := h2 z (List.dropLast_subset _ hz)
    have : z ≠ G.length := fun e => by
      subst e
      rw [← he] at hnd
      have := (List.nodup_append.1 hnd).2.2 _ hz _ (List.mem_singleton.2 rfl)
      exact this rfl
    omega
theorem castI_app (a b : List Nat) : castI (a ++ b) = castI a ++ castI b := by simp [castI]
theorem castI_drop (a : List Nat) (k : Nat) : castI (a.drop k) = (castI a).drop k := by simp [castI]
/-- What witness leaves. -/
def WitPost (w : World) (k N : Nat) (G : List (List Int)) (v : Nat) (x y e : Value) (w' : World) : Prop :=
  e = .nilIface ∧ ∃ L C Q aL aC aQ bL bC bQ, WitIs G v L C Q ∧ x = .agg #[.int .i64 0, aL, aC, aQ] ∧ y = .agg #[.int .i64 0, bL, bC, bQ] ∧ ∃ f, Rows w.heap.size w' f ∧
    f (1, 0) = some (rowI aL (sideA k N L)) ∧ f (1, 1) = some (rowI bL (sideB k N L)) ∧ f (2, 0) = some (rowI aC (sideA k N C)) ∧ f (2, 1) = some (rowI bC (sideB k N C)) ∧ f (3, 0) = some (rowI aQ (sideA k N Q)) ∧ f (3, 1) = some (rowI bQ (sideB k N Q))

set_option maxHeartbeats 4000000 in
theorem witness_ok (r : Nat → Addr) (k N : Nat) (na : Option Addr) (nc : Nat) (G : List (List Int)) (v : Nat) (w : World) (hg : Glob r w) (h : ListsAt w (.slice na G.length nc) G) (hsz : ∀ k, k < G.length → (G.getD k []).length ≤ 17592186044416)
    (hck : checkG G = none) (hok : GraphOk G) (hN : G.length = N * N) (hN1 : 1 ≤ N) (hN2 : N ≤ 81) (hk : 1 ≤ k) (hv : v < G.length) (hlive : IsLive G.length (adjOf G) v) :
    Calls Tryz.prog 56 #[.int .i64 k, .slice na G.length nc, .int .i64 v] w (Ret3 (WitPost w k N G v) w) := by
  have hn : G.length ≤ 8200 := by rw [hN]; have := Nat.mul_le_mul hN2 hN2; omega
  have hM6 : G.length ≤ 6561 := by rw [hN]; exact Nat.mul_le_mul hN2 hN2
  obtain ⟨_, harr, _⟩ := checkG_none hck
  obtain ⟨f0, R0, i02, o02⟩ := (Rows.void w.heap.size w).box4 (0, 2) (Nat.le_refl _) 42 (.int .i64 0) (.slice none 0 0) (.slice none 0 0) (.slice none 0 0)
  obtain ⟨f1, R1, i03, o03⟩ := R0.box4 (0, 3) (by simp) 42 (.int .i64 0) (.slice none 0 0) (.slice none 0 0) (.slice none 0 0)
  have b0 : Below w.heap.size w ((w.alloc (.cells #[.int .i64 0, .slice none 0 0, .slice none 0 0, .slice none 0 0] 42)).alloc (.cells #[.int .i64 0, .slice none 0 0, .slice none 0 0, .slice none 0 0] 42)) := Below.step (belowAlloc w _) (belowAlloc _ _)
  replace i02 := (o03 (0, 2) (by decide)).trans i02
  rw [World.size_alloc] at i03
  clear o02 o03 R0
  have hp1 := fun (w' : World) (hgl : Glob r w') (hT : ListsAt w' (.slice na G.length nc) G) => loops14_any r na nc G w' hgl hT hsz hck hok hn
  have hp2 := fun (w' : World) (hT : ListsAt w' (.slice na G.length nc) G) => turned14_any na nc G w' hT hok hn harr
  have hp3 := fun (bv : Value) (on : Nat → Bool) (w' : World) (hT : ListsAt w' (.slice na G.length nc) G) (hb : ValsAt w' bv (tabB G.length on)) => near_any na nc G bv on v w' hT hok hn hb hv
  have hp4 := fun (c : Nat) (w' : World) (hgl : Glob r w') (hT : ListsAt w' (.slice na G.length nc) G) => loopG_any r na nc G (c : Int) w' hgl hT hsz
  have hp5 := fun (a b : Nat) (w' : World) (hgl : Glob r w') (hT : ListsAt w' (.slice na G.length nc) G) => path_any r na nc G (a : Int) (b : Int) w' hgl hT hsz
  have lG := h.len 3 w
  replace hp1 := Lib.hid hp1
  replace hp2 := Lib.hid hp2
  replace hp3 := Lib.hid hp3
  replace hp4 := Lib.hid hp4
  replace hp5 := Lib.hid hp5
  replace hg := Lib.hid (hg.below b0)
  replace h := Lib.hid (h.below b0)
  replace hsz := Lib.hid hsz
  replace hck := Lib.hid hck
  replace hok := Lib.hid hok
  replace hlive := Lib.hid hlive
  replace R1 := Lib.hid R1
  replace i02 := Lib.hid i02
  replace i03 := Lib.hid i03
  replace lG := Lib.hid lG
  replace harr := Lib.hid harr
  replace hN := Lib.hid hN
  go_enter Tryz.func56, Tryz.ntmps56
  go_wp2_with fail
  refine (hp1.out _ hg.out h.out).mono ?_
  rintro e w2 ⟨ov, y, rfl, b1, rfl, on, hon, hOn⟩
  obtain ⟨oa, on', oc, rfl⟩ := hon.shape
  have b2 := Below.step b0 b1
  replace hon := Lib.hid hon
  replace hOn := Lib.hid hOn
  have lG2 := h.out.len 3 w2
  go_wp2_with fail
  go_loop [11] (fun nv => ∃ k : Nat, k ≤ N ∧ nv = .int .i64 k) (fun nv => N - (intOf nv).toNat)
  case atStart => exact ⟨1, hN1, rfl⟩
  case round =>
    obtain ⟨k1, hk1, rfl⟩ := hrel
    obtain ⟨kk, hkk⟩ : ∃ z, k1 * k1 = z := ⟨_, rfl⟩
    have hkk2 : (k1 : Int) * (k1 : Int) = (kk : Int) := by rw [← hkk]; simp
    have hkkM : kk ≤ G.length := by rw [← hkk, hN.out]; exact Nat.mul_le_mul hk1 hk1
    by_cases hlt : kk < G.length
    · have hkN : k1 < N := Nat.lt_of_le_of_ne hk1 (fun e => by have := hN.out; rw [← e, hkk] at this; omega)
      replace hkk := Lib.hid hkk
      go_wp2
      go_round
      case measure => simp [intOf]; omega
      case rel => exact ⟨k1 + 1, by omega, by go_num⟩
    · have hkN : k1 = N := by
        apply Classical.byContradiction
        intro e
        have h2 : k1 * k1 < N * N := Nat.mul_lt_mul_of_lt_of_lt (by omega) (by omega)
        rw [hkk, ← hN.out] at h2
        omega
      subst hkN
      replace hkk := Lib.hid hkk
      clear hk1
      obtain ⟨⟨ua, ha1, ha2, ha3⟩, ⟨ub, hb1, hb2, hb3⟩⟩ := hlive.out
      go_wp2_with fail
      refine (hp2.out _ (h.out.below b1)).mono ?_
      rintro e w3 ⟨tv, rfl, b3, hT, hTL⟩
      have hl3 := hT.1
      obtain ⟨ta, tc, rfl⟩ := hTL.shape
      have hval3 : ValsAt w3 (.slice oa on' oc) (tabB (turnG G).length on) := by rw [hl3]; exact hon.out.at.below b3
      have hnear := near_any ta tc (turnG G) (.slice oa on' oc) on v w3 hTL (turned_ok hT) (by omega) hval3 (by omega) ⟨ua, (hOn.out ua ha1).2 ha2, goes_turned hT hok.out ha3 ha1⟩ (OnLoop (adjOf G)) (fun x hx => hOn.out x (by omega))
      rw [hl3] at hnear
      rw [hl3]
      replace hnear := Lib.hid hnear
      replace hl3 := Lib.hid hl3
      clear hTL hval3
      replace hT := Lib.hid hT
      go_wp2_with fail
      refine hnear.out.mono ?_
      rintro e w4 ⟨cv, rfl, b4, c, rfl, hcn, hcon, hcg, hcN⟩
      clear hnear
      have b24 := Below.step b1 (Below.step b3 b4)
      replace hcg := turned_goes hT.out hok.out hcg hv
      have hnear := hp3.out (.slice oa on' oc) on w4 (h.out.below b24) (hon.out.at.below (Below.step b3 b4)) ⟨ub, (hOn.out ub hb1).2 hb2, hb3⟩ (OnLoop (adjOf G)) hOn.out
      replace hnear := Lib.hid hnear
      replace hcN := Lib.hid hcN
      replace hcg := Lib.hid hcg
      have hcon2 := (hOn.out c hcn).1 hcon
      replace hcon := Lib.hid hcon
      replace hcon2 := Lib.hid hcon2
      go_wp2_with fail
      refine hnear.out.mono ?_
      rintro e w5 ⟨dv, rfl, b5, d, rfl, hdn, hdon, hdg, hdN⟩
      clear hnear hb1 hb2 hb3 ha1 ha2 ha3
      have b25 := Below.step b24 b5
      have hdon2 := (hOn.out d hdn).1 hdon
      replace hdon := Lib.hid hdon
      replace hdon2 := Lib.hid hdon2
      replace hdN := Lib.hid hdN
      replace hdg := Lib.hid hdg
      go_wp2_with fail
      refine (hp4.out c w5 (hg.out.below b25) (h.out.below b25)).mono ?_
      rintro e w6 ⟨lv, y, rfl, b6, hE, hW, -⟩
      rw [loopE_ok hck.out hcn] at hE
      obtain rfl := hE.none_eq
      clear hE
      have hW' := hW (loopE_ok hck.out hcn)
      rw [Int.toNat_natCast] at hW'
      obtain ⟨u1, hu1, ho1⟩ : ∃ u, IsFirst (adjOf (wideG G c)) c G.length u ∧ OwnI w5.heap.size w6 lv (castI u.dropLast) := hW'.elim id fun q => absurd (loop_goes hok.out hcn hcon2.out) q.1
      clear hW hW'
      obtain ⟨l1, l2, l3⟩ := wide_bound hok.out hcn hu1
      have b26 := Below.step b25 b6
      obtain ⟨la, ln, lc, rfl⟩ := ho1.at.shape
      replace hu1 := Lib.hid hu1
      replace ho1 := Lib.hid ho1
      replace l3 := Lib.hid l3
      go_wp2_with fail
      refine (hp4.out d w6 (hg.out.below b26) (h.out.below b26)).mono ?_
      rintro e w7 ⟨rv, y, rfl, b7, hE, hW, -⟩
      rw [loopE_ok hck.out hdn] at hE
      obtain rfl := hE.none_eq
      clear hE
      have hW' := hW (loopE_ok hck.out hdn)
      rw [Int.toNat_natCast] at hW'
      obtain ⟨u2, hu2, ho2⟩ : ∃ u, IsFirst (adjOf (wideG G d)) d G.length u ∧ OwnI w6.heap.size w7 rv (castI u.dropLast) := hW'.elim id fun q => absurd (loop_goes hok.out hdn hdon2.out) q.1
      clear hW hW'
      obtain ⟨m1, m2, m3⟩ := wide_bound hok.out hdn hu2
      have b27 := Below.step b26 b7
      have lr2 : (castI u2.dropLast).length = u2.length - 1 := by rw [castI_len, List.length_dropLast]
      obtain ⟨rg, rc, hrv, _⟩ : ∃ g cap, rv = .slice (some ⟨g, 0, none⟩) (castI u2.dropLast).length cap ∧ w6.heap.size ≤ g := Row.own.shape (r := rowI rv (castI u2.dropLast)) ho2 (by show 0 < (castI u2.dropLast).length; omega)
      subst hrv
      replace hu2 := Lib.hid hu2
      replace ho2 := Lib.hid ho2
      replace m3 := Lib.hid m3
      replace lr2 := Lib.hid lr2
      go_wp2_with fail
      refine (hp5.out c v w7 (hg.out.below b27) (h.out.below b27)).mono ?_
      rintro e w8 ⟨iv, y, rfl, b8, hE, hW, -⟩
      rw [pathE_ok hck.out hcn hv] at hE
      obtain rfl := hE.none_eq
      clear hE
      have hW' := hW (pathE_ok hck.out hcn hv)
      rw [Int.toNat_natCast, Int.toNat_natCast] at hW'
      obtain ⟨I, hI, ho3⟩ : ∃ u, IsFirst (adjOf G) c v u ∧ OwnI w7.heap.size w8 iv (castI u) := hW'.elim id fun q => absurd hcg.out q.1
      clear hW hW'
      obtain ⟨p1, p2⟩ := first_bound hok.out hI hcn
      have b28 := Below.step b27 b8
      obtain ⟨ia, in', ic, rfl⟩ := ho3.at.shape
      replace hI := Lib.hid hI
      replace ho3 := Lib.hid ho3
      replace p2 := Lib.hid p2
      go_wp2_with fail
      refine (hp5.out v d w8 (hg.out.below b28) (h.out.below b28)).mono ?_
      rintro e w9 ⟨ov, y, rfl, b9, hE, hW, -⟩
      rw [pathE_ok hck.out hv hdn] at hE
      obtain rfl := hE.none_eq
      clear hE
      have hW' := hW (pathE_ok hck.out hv hdn)
      rw [Int.toNat_natCast, Int.toNat_natCast] at hW'
      obtain ⟨O, hO, ho4⟩ : ∃ u, IsFirst (adjOf G) v d u ∧ OwnI w8.heap.size w9 ov (castI u) := hW'.elim id fun q => absurd hdg.out q.1
      clear hW hW'
      obtain ⟨q1, q2⟩ := first_bound hok.out hO hv
      have q3 := hO.way.pos
      have b29 := Below.step b28 b9
      replace hO := Lib.hid hO
      replace ho4 := Lib.hid ho4
      replace q2 := Lib.hid q2
      have hB9 : w.heap.size ≤ w9.heap.size := (Below.step b0 b29).size
      have ho2m : OwnI w.heap.size w9 (.slice (some ⟨rg, 0, none⟩) (castI u2.dropLast).length rc) (castI u2.dropLast) := ((ho2.out.below b8).below b9).mono (Below.step b0 b26).size
      have ho3m : OwnI w.heap.size w9 (.slice ia in' ic) (castI I) := (ho3.out.below b9).mono (Below.step b0 b27).size
      have ho1m : IntsAt w9 (.slice la ln lc) (castI u1.dropLast) := ((ho1.out.at.below b7).below b8).below b9
      have ho4m := ho4.out.at
      have n02 := i02.out
      have n03 := i03.out
      obtain ⟨fc, Rc, n42, oc'⟩ := (R1.out.below b26).addE (4, 2) (r' := rowI (.slice (some ⟨rg, 0, none⟩) (castI u2.dropLast).length rc) (castI u2.dropLast)) b7 (ho2.out.mono (Below.step b0 b26).size) (fun q hq => (ho2.out.lt q hq).1)
      replace n02 := (oc' (0, 2) (by decide)).trans n02
      replace n03 := (oc' (0, 3) (by decide)).trans n03
      obtain ⟨fd, Rd, n40, od⟩ := Rc.addE (4, 0) (r' := rowI (.slice ia in' ic) (castI I)) b8 (ho3.out.mono (Below.step b0 b27).size) (fun q hq => (ho3.out.lt q hq).1)
      replace n02 := (od (0, 2) (by decide)).trans n02
      replace n03 := (od (0, 3) (by decide)).trans n03
      replace n42 := (od (4, 2) (by decide)).trans n42
      obtain ⟨fe, Re, n41, oe⟩ := Rd.addE (4, 1) (r' := rowI ov (castI O)) b9 (ho4.out.mono (Below.step b0 b28).size) (fun q hq => (ho4.out.lt q hq).1)
      replace n02 := (oe (0, 2) (by decide)).trans n02
      replace n03 := (oe (0, 3) (by decide)).trans n03
      replace n42 := (oe (4, 2) (by decide)).trans n42
      replace n40 := (oe (4, 0) (by decide)).trans n40
      clear oc' od oe Rc Rd
      obtain ⟨fA, RA, n00, oA⟩ := Re.box4 (0, 0) hB9 42 (.int .i64 0) (.slice none 0 0) (.slice none 0 0) (.slice none 0 0)
      replace n02 := (oA (0, 2) (by decide)).trans n02
      replace n03 := (oA (0, 3) (by decide)).trans n03
      replace n42 := (oA (4, 2) (by decide)).trans n42
      replace n40 := (oA (4, 0) (by decide)).trans n40
      replace n41 := (oA (4, 1) (by decide)).trans n41
      obtain ⟨fB, RB, n01, oB⟩ := RA.box4 (0, 1) (by simp; omega) 42 (.int .i64 0) (.slice none 0 0) (.slice none 0 0) (.slice none 0 0)
      replace n02 := (oB (0, 2) (by decide)).trans n02
      replace n03 := (oB (0, 3) (by decide)).trans n03
      replace n42 := (oB (4, 2) (by decide)).trans n42
      replace n40 := (oB (4, 0) (by decide)).trans n40
      replace n41 := (oB (4, 1) (by decide)).trans n41
      replace n00 := (oB (0, 0) (by decide)).trans n00
      rw [World.size_alloc] at n01
      clear oA oB RA
      have bAB : Below w9.heap.size w9 ((w9.alloc (.cells #[.int .i64 0, .slice none 0 0, .slice none 0 0, .slice none 0 0] 42)).alloc (.cells #[.int .i64 0, .slice none 0 0, .slice none 0 0, .slice none 0 0] 42)) := Below.step (belowAlloc w9 _) (belowAlloc _ _)
      obtain ⟨WB, hWB⟩ : ∃ WB : World, (w9.alloc (.cells #[.int .i64 0, .slice none 0 0, .slice none 0 0, .slice none 0 0] 42)).alloc (.cells #[.int .i64 0, .slice none 0 0, .slice none 0 0, .slice none 0 0] 42) = WB := ⟨_, rfl⟩
      rw [hWB] at RB bAB
      have e00 : ∀ (l : List Nat) (m : Nat), (∀ z ∈ l, z < m) → m ≤ 6561 → ∀ z ∈ l, z ≤ 1000000 := fun l m h1 h2 z hz => by have := h1 z hz; omega
      have hs1 := sides14_any k k1 (.slice la ln lc) u1.dropLast WB (ho1m.below bAB) hk hN1 (e00 _ _ l3.out hM6) (by rw [List.length_dropLast]; omega)
      have bB0 : Below w.heap.size w WB := Below.step b0 (Below.step b29 bAB)
      have hB10 : w.heap.size ≤ WB.heap.size := bB0.size
      clear ho1m ho2m ho3m ho4m
      replace hs1 := Lib.hid hs1
      replace RB := Lib.hid RB
      replace hWB := Lib.hid hWB
      replace e00 := Lib.hid e00
      replace n02 := Lib.hid n02
      replace n03 := Lib.hid n03
      replace n42 := Lib.hid n42
      replace n40 := Lib.hid n40
      replace n41 := Lib.hid n41
      replace n00 := Lib.hid n00
      replace n01 := Lib.hid n01
      go_upto_region 13 with fail
      rw [hWB.out]
      go_wp2_with fail
      refine hs1.out.mono ?_
      rintro e w10 ⟨x1, y1, rfl, b10, oa1, ob1, hd1⟩
      replace n02 := n02.out
      replace n03 := n03.out
      replace n42 := n42.out
      replace n40 := n40.out
      replace n41 := n41.out
      replace n00 := n00.out
      replace n01 := n01.out
      obtain ⟨f10, R10, n10, n11, o10⟩ := RB.out.add2E (1, 0) (1, 1) (by decide) (r' := rowI x1 (sideA k k1 u1.dropLast)) (s' := rowI y1 (sideB k k1 u1.dropLast)) b10 (oa1.mono hB10) (fun q hq => (oa1.lt q hq).1) (ob1.mono hB10) (fun q hq => (ob1.lt q hq).1) hd1
      replace n02 := (o10 (0, 2) (by decide) (by decide)).trans n02
      replace n03 := (o10 (0, 3) (by decide) (by decide)).trans n03
      replace n42 := (o10 (4, 2) (by decide) (by decide)).trans n42
      replace n40 := (o10 (4, 0) (by decide) (by decide)).trans n40
      replace n41 := (o10 (4, 1) (by decide) (by decide)).trans n41
      replace n00 := (o10 (0, 0) (by decide) (by decide)).trans n00
      replace n01 := (o10 (0, 1) (by decide) (by decide)).trans n01
      obtain ⟨a0, a1, a2, a3⟩ := R10.cells4 n00
      obtain ⟨d0, d1, d2, d3⟩ := R10.cells4 n01
      have fa := R10.frz4 n00 1
      have fb := R10.frz4 n01 1
      have la0 := (R10.low4 n00).1
      have lb0 := (R10.low4 n01).1
      obtain ⟨fx10, Rx10, m00, ox⟩ := R10.st4 n00 1 x1
      replace n02 := (ox (0, 2) (by decide)).trans n02
      replace n03 := (ox (0, 3) (by decide)).trans n03
      replace n42 := (ox (4, 2) (by decide)).trans n42
      replace n40 := (ox (4, 0) (by decide)).trans n40
      replace n41 := (ox (4, 1) (by decide)).trans n41
      replace n01 := (ox (0, 1) (by decide)).trans n01
      replace n10 := (ox (1, 0) (by decide)).trans n10
      replace n11 := (ox (1, 1) (by decide)).trans n11
      clear n00
      have n00 := m00
      obtain ⟨fy10, Ry10, m01, oy⟩ := Rx10.st4 n01 1 y1
      replace n02 := (oy (0, 2) (by decide)).trans n02
      replace n03 := (oy (0, 3) (by decide)).trans n03
      replace n42 := (oy (4, 2) (by decide)).trans n42
      replace n40 := (oy (4, 0) (by decide)).trans n40
      replace n41 := (oy (4, 1) (by decide)).trans n41
      replace n00 := (oy (0, 0) (by decide)).trans n00
      replace n10 := (oy (1, 0) (by decide)).trans n10
      replace n11 := (oy (1, 1) (by decide)).trans n11
      clear n01
      have n01 := m01
      simp only [List.set_cons_zero, List.set_cons_succ] at n00 n01
      have by10 : Below w.heap.size w ((w10.setCell ⟨w9.heap.size, 1, none⟩ x1).setCell ⟨w9.heap.size + 1, 1, none⟩ y1) := (((bB0.trans (b10.mono hB10)).setCell (show w.heap.size ≤ (⟨w9.heap.size, 1, none⟩ : Addr).block from la0) _)).setCell (show w.heap.size ≤ (⟨w9.heap.size + 1, 1, none⟩ : Addr).block from lb0) _
      obtain ⟨x1a, x1b, x1c, hx1⟩ := oa1.at.shape
      obtain ⟨y1a, y1b, y1c, hy1⟩ := ob1.at.shape
      subst hx1; subst hy1
      clear oa1 ob1 hd1 R10 Rx10 o10 ox oy m00 m01 la0 lb0
      obtain ⟨V10, hV10⟩ : ∃ V : World, (w10.setCell ⟨w9.heap.size, 1, none⟩ (.slice x1a x1b x1c)).setCell ⟨w9.heap.size + 1, 1, none⟩ (.slice y1a y1b y1c) = V := ⟨_, rfl⟩
      rw [hV10] at Ry10 by10
      replace Ry10 := Lib.hid Ry10
      replace hV10 := Lib.hid hV10
      replace n02 := Lib.hid n02
      replace n03 := Lib.hid n03
      replace n42 := Lib.hid n42
      replace n40 := Lib.hid n40
      replace n41 := Lib.hid n41
      replace n00 := Lib.hid n00
      replace n01 := Lib.hid n01
      replace n10 := Lib.hid n10
      replace n11 := Lib.hid n11
      go_upto_region 14 with fail
      rw [hV10.out]
      clear a0 a1 a2 a3 d0 d1 d2 d3 fa fb
      have hB11 : w.heap.size ≤ V10.heap.size := by10.size
      clear hs1
      obtain ⟨tl, htl, hti⟩ := (Ry10.out.ownI n41.out).at.post 1 (by rw [castI_len]; omega)
      rw [← castI_drop] at hti
      have htl1 : ∀ w', (Instr.slice 22 ov (some (.int .i64 1)) none none).run Tryz.prog w' = .ok tl w' := htl
      clear htl
      have hio := Ry10.out.ownI n40.out
      obtain ⟨ova, ovb, ovc, hov⟩ := (Ry10.out.ownI n41.out).at.shape
      subst hov
      obtain ⟨tla, tlb, tlc, htlv⟩ := hti.shape
      subst htlv
      replace hti := Lib.hid hti
      replace hio := Lib.hid hio
      go_wp2_with (at_builtin; refine wpl_append rfl _ _ rfl w.heap.size (.slice ia in' ic) (.slice tla tlb tlc) (castI I) (castI (O.drop 1)) hio.out hti.out rfl rfl (by rw [castI_len, castI_len, List.length_drop]; omega) hB11 ?_)
      intro cv' w11 hco b11 hcg' hcal
      replace n02 := n02.out
      replace n03 := n03.out
      replace n42 := n42.out
      replace n40 := n40.out
      replace n41 := n41.out
      replace n00 := n00.out
      replace n01 := n01.out
      replace n10 := n10.out
      replace n11 := n11.out
      have hcal2 : (rowI cv' (castI (I ++ O.drop 1))).v.ownBlock = (rowI (.slice ia in' ic) (castI I)).v.ownBlock ∨ ∃ k, (rowI cv' (castI (I ++ O.drop 1))).v.ownBlock = some k ∧ V10.heap.size ≤ k := hcal
      replace hco : OwnI w.heap.size w11 cv' (castI (I ++ O.drop 1)) := by rw [castI_app, List.drop_one]; exact hco
      have R11 := Ry10.out.grown (r' := rowI cv' (castI (I ++ O.drop 1))) n40 hcg' hco hcal2
      have o11 : ∀ j, j ≠ (4, 0) → upd fy10 (4, 0) (some (rowI cv' (castI (I ++ O.drop 1)))) j = fy10 j := fun j e => upd_ne _ _ e
      clear n40
      replace n02 := (o11 (0, 2) (by decide)).trans n02
      replace n03 := (o11 (0, 3) (by decide)).trans n03
      replace n42 := (o11 (4, 2) (by decide)).trans n42
      replace n41 := (o11 (4, 1) (by decide)).trans n41
      replace n00 := (o11 (0, 0) (by decide)).trans n00
      replace n01 := (o11 (0, 1) (by decide)).trans n01
      replace n10 := (o11 (1, 0) (by decide)).trans n10
      replace n11 := (o11 (1, 1) (by decide)).trans n11
      generalize upd fy10 (4, 0) (some (rowI cv' (castI (I ++ O.drop 1)))) = f11 at *
      have bw11 : Below w.heap.size w w11 := by10.trans b11
      have hB12 : w.heap.size ≤ w11.heap.size := bw11.size
      have hlowC : ∀ z ∈ I ++ O.drop 1, z < G.length := fun z hz => by
        rcases List.mem_append.1 hz with hz | hz
        · exact p2.out z hz
        · exact q2.out z (List.mem_of_mem_drop hz)
      have hs2 := sides14_any k k1 cv' (I ++ O.drop 1) w11 hco.at hk hN1 (e00.out _ _ hlowC hM6) (by rw [List.length_append, List.length_drop]; omega)
      obtain ⟨cva, cvb, cvc, hcv⟩ := hco.at.shape
      subst hcv
      clear hcal hcal2 hcg' hco o11 hlowC htl1
      replace hs2 := Lib.hid hs2
      replace R11 := Lib.hid R11
      replace n02 := Lib.hid n02
      replace n03 := Lib.hid n03
      replace n42 := Lib.hid n42
      replace n41 := Lib.hid n41
      replace n00 := Lib.hid n00
      replace n01 := Lib.hid n01
      replace n10 := Lib.hid n10
      replace n11 := Lib.hid n11
      go_wp2_with fail
      refine hs2.out.mono ?_
      rintro e w12 ⟨x2, y2, rfl, b12, oa2, ob2, hd2⟩
      have bw12 := bw11
      replace n02 := n02.out
      replace n03 := n03.out
      replace n42 := n42.out
      replace n41 := n41.out
      replace n00 := n00.out
      replace n01 := n01.out
      replace n10 := n10.out
      replace n11 := n11.out
      obtain ⟨f12, R12, n20, n21, o12⟩ := R11.out.add2E (2, 0) (2, 1) (by decide) (r' := rowI x2 (sideA k k1 (I ++ O.drop 1))) (s' := rowI y2 (sideB k k1 (I ++ O.drop 1))) b12 (oa2.mono hB12) (fun q hq => (oa2.lt q hq).1) (ob2.mono hB12) (fun q hq => (ob2.lt q hq).1) hd2
      replace n02 := (o12 (0, 2) (by decide) (by decide)).trans n02
      replace n03 := (o12 (0, 3) (by decide) (by decide)).trans n03
      replace n42 := (o12 (4, 2) (by decide) (by decide)).trans n42
      replace n41 := (o12 (4, 1) (by decide) (by decide)).trans n41
      replace n00 := (o12 (0, 0) (by decide) (by decide)).trans n00
      replace n01 := (o12 (0, 1) (by decide) (by decide)).trans n01
      replace n10 := (o12 (1, 0) (by decide) (by decide)).trans n10
      replace n11 := (o12 (1, 1) (by decide) (by decide)).trans n11
      obtain ⟨a0, a1, a2, a3⟩ := R12.cells4 n00
      obtain ⟨d0, d1, d2, d3⟩ := R12.cells4 n01
      have fa := R12.frz4 n00 2
      have fb := R12.frz4 n01 2
      have la0 := (R12.low4 n00).1
      have lb0 := (R12.low4 n01).1
      obtain ⟨fx12, Rx12, m00, ox⟩ := R12.st4 n00 2 x2
      replace n02 := (ox (0, 2) (by decide)).trans n02
      replace n03 := (ox (0, 3) (by decide)).trans n03
      replace n42 := (ox (4, 2) (by decide)).trans n42
      replace n41 := (ox (4, 1) (by decide)).trans n41
      replace n01 := (ox (0, 1) (by decide)).trans n01
      replace n10 := (ox (1, 0) (by decide)).trans n10
      replace n11 := (ox (1, 1) (by decide)).trans n11
      replace n20 := (ox (2, 0) (by decide)).trans n20
      replace n21 := (ox (2, 1) (by decide)).trans n21
      clear n00
      have n00 := m00
      obtain ⟨fy12, Ry12, m01, oy⟩ := Rx12.st4 n01 2 y2
      replace n02 := (oy (0, 2) (by decide)).trans n02
      replace n03 := (oy (0, 3) (by decide)).trans n03
      replace n42 := (oy (4, 2) (by decide)).trans n42
      replace n41 := (oy (4, 1) (by decide)).trans n41
      replace n00 := (oy (0, 0) (by decide)).trans n00
      replace n10 := (oy (1, 0) (by decide)).trans n10
      replace n11 := (oy (1, 1) (by decide)).trans n11
      replace n20 := (oy (2, 0) (by decide)).trans n20
      replace n21 := (oy (2, 1) (by decide)).trans n21
      clear n01
      have n01 := m01
      simp only [List.set_cons_zero, List.set_cons_succ] at n00 n01
      have by12 : Below w.heap.size w ((w12.setCell ⟨w9.heap.size, 2, none⟩ x2).setCell ⟨w9.heap.size + 1, 2, none⟩ y2) := (((bw12.trans (b12.mono hB12)).setCell (show w.heap.size ≤ (⟨w9.heap.size, 2, none⟩ : Addr).block from la0) _)).setCell (show w.heap.size ≤ (⟨w9.heap.size + 1, 2, none⟩ : Addr).block from lb0) _
      obtain ⟨x2a, x2b, x2c, hx2⟩ := oa2.at.shape
      obtain ⟨y2a, y2b, y2c, hy2⟩ := ob2.at.shape
      subst hx2; subst hy2
      clear oa2 ob2 hd2 R12 Rx12 o12 ox oy m00 m01 la0 lb0
      obtain ⟨V12, hV12⟩ : ∃ V : World, (w12.setCell ⟨w9.heap.size, 2, none⟩ (.slice x2a x2b x2c)).setCell ⟨w9.heap.size + 1, 2, none⟩ (.slice y2a y2b y2c) = V := ⟨_, rfl⟩
      rw [hV12] at Ry12 by12
      replace Ry12 := Lib.hid Ry12
      replace hV12 := Lib.hid hV12
      replace n02 := Lib.hid n02
      replace n03 := Lib.hid n03
      replace n42 := Lib.hid n42
      replace n41 := Lib.hid n41
      replace n00 := Lib.hid n00
      replace n01 := Lib.hid n01
      replace n10 := Lib.hid n10
      replace n11 := Lib.hid n11
      replace n20 := Lib.hid n20
      replace n21 := Lib.hid n21
      go_upto_region 15 with fail
      rw [hV12.out]
      clear a0 a1 a2 a3 d0 d1 d2 d3 fa fb
      have hB13 : w.heap.size ≤ V12.heap.size := by12.size
      clear hs2
      have hri := Ry12.out.ownI n42.out
      have bl := belowAlloc V12 (.cells #[.int .i64 (d : Int)] 3)
      have hcl : (V12.alloc (.cells #[.int .i64 (d : Int)] 3)).cell? ⟨V12.heap.size, 0, none⟩ = some (.int .i64 d) := by simp [go_sem]
      obtain ⟨qv, w13, hqr, hqi, hqb, hqg⟩ := run_appTail w.heap.size 22 (V12.alloc (.cells #[.int .i64 (d : Int)] 3)) rg rc V12.heap.size (castI u2.dropLast) (d : Int) (hri.below bl) (by rw [lr2.out]; omega) hcl (by simp; omega) (by rw [lr2.out]; omega)
      have htl := run_sliceTail rg (castI u2.dropLast).length rc (by rw [lr2.out]; omega)
      generalize sliced (some ⟨rg, 0, none⟩) 1 (castI u2.dropLast).length rc 1 = tq at *
      rw [← castI_drop, show [(d : Int)] = castI [d] from rfl, ← castI_app] at hqi
      have bw13 : Below w.heap.size w w13 := (by12.trans (bl.mono hB13)).trans hqb
      have hB14 : w.heap.size ≤ w13.heap.size := bw13.size
      replace n02 := n02.out
      replace n03 := n03.out
      replace n42 := n42.out
      replace n41 := n41.out
      replace n00 := n00.out
      replace n01 := n01.out
      replace n10 := n10.out
      replace n11 := n11.out
      replace n20 := n20.out
      replace n21 := n21.out
      obtain ⟨f13, R13, o13⟩ := (Ry12.out.below bl).lose n42 hqg
      clear n42 hqg
      replace n02 := (o13 (0, 2) (by decide)).trans n02
      replace n03 := (o13 (0, 3) (by decide)).trans n03
      replace n41 := (o13 (4, 1) (by decide)).trans n41
      replace n00 := (o13 (0, 0) (by decide)).trans n00
      replace n01 := (o13 (0, 1) (by decide)).trans n01
      replace n10 := (o13 (1, 0) (by decide)).trans n10
      replace n11 := (o13 (1, 1) (by decide)).trans n11
      replace n20 := (o13 (2, 0) (by decide)).trans n20
      replace n21 := (o13 (2, 1) (by decide)).trans n21
      clear o13
      have hlowQ : ∀ z ∈ u2.dropLast.drop 1 ++ [d], z < G.length := fun z hz => by
        rcases List.mem_append.1 hz with hz | hz
        · exact m3.out z (List.mem_of_mem_drop hz)
        · rw [List.mem_singleton] at hz; subst hz; exact hdn
      have hs3 := sides14_any k k1 qv (u2.dropLast.drop 1 ++ [d]) w13 hqi hk hN1 (e00.out _ _ hlowQ hM6) (by simp; omega)
      obtain ⟨qva, qvb, qvc, hqv⟩ := hqi.shape
      subst hqv
      clear hqi hlowQ hri hcl
      replace hs3 := Lib.hid hs3
      replace R13 := Lib.hid R13
      replace hqr := Lib.hid hqr
      replace htl := Lib.hid htl
      replace n02 := Lib.hid n02
      replace n03 := Lib.hid n03
      replace n41 := Lib.hid n41
      replace n00 := Lib.hid n00
      replace n01 := Lib.hid n01
      replace n10 := Lib.hid n10
      replace n11 := Lib.hid n11
      replace n20 := Lib.hid n20
      replace n21 := Lib.hid n21
      have htl1 : ∀ w', (Instr.slice 22 (.slice (some ⟨rg, 0, none⟩) (castI u2.dropLast).length rc) (some (.int .i64 1)) none none).run Tryz.prog w' = .ok tq w' := htl.out
      go_wp2_with (at_builtin; refine wpl_app_run rfl _ _ _ rfl _ _ rfl rfl hqr.out ?_)
      go_wp2_with fail
      refine hs3.out.mono ?_
      rintro e w14 ⟨x3, y3, rfl, b14, oa3, ob3, hd3⟩
      have bw14 := bw13
      replace n02 := n02.out
      replace n03 := n03.out
      replace n41 := n41.out
      replace n00 := n00.out
      replace n01 := n01.out
      replace n10 := n10.out
      replace n11 := n11.out
      replace n20 := n20.out
      replace n21 := n21.out
      obtain ⟨f14, R14, n30, n31, o14⟩ := R13.out.add2E (3, 0) (3, 1) (by decide) (r' := rowI x3 (sideA k k1 (u2.dropLast.drop 1 ++ [d]))) (s' := rowI y3 (sideB k k1 (u2.dropLast.drop 1 ++ [d]))) b14 (oa3.mono hB14) (fun q hq => (oa3.lt q hq).1) (ob3.mono hB14) (fun q hq => (ob3.lt q hq).1) hd3
      replace n02 := (o14 (0, 2) (by decide) (by decide)).trans n02
      replace n03 := (o14 (0, 3) (by decide) (by decide)).trans n03
      replace n41 := (o14 (4, 1) (by decide) (by decide)).trans n41
      replace n00 := (o14 (0, 0) (by decide) (by decide)).trans n00
      replace n01 := (o14 (0, 1) (by decide) (by decide)).trans n01
      replace n10 := (o14 (1, 0) (by decide) (by decide)).trans n10
      replace n11 := (o14 (1, 1) (by decide) (by decide)).trans n11
      replace n20 := (o14 (2, 0) (by decide) (by decide)).trans n20
      replace n21 := (o14 (2, 1) (by decide) (by decide)).trans n21
      obtain ⟨a0, a1, a2, a3⟩ := R14.cells4 n00
      obtain ⟨d0, d1, d2, d3⟩ := R14.cells4 n01
      have fa := R14.frz4 n00 3
      have fb := R14.frz4 n01 3
      have la0 := (R14.low4 n00).1
      have lb0 := (R14.low4 n01).1
      obtain ⟨fx14, Rx14, m00, ox⟩ := R14.st4 n00 3 x3
      replace n02 := (ox (0, 2) (by decide)).trans n02
      replace n03 := (ox (0, 3) (by decide)).trans n03
      replace n41 := (ox (4, 1) (by decide)).trans n41
      replace n01 := (ox (0, 1) (by decide)).trans n01
      replace n10 := (ox (1, 0) (by decide)).trans n10
      replace n11 := (ox (1, 1) (by decide)).trans n11
      replace n20 := (ox (2, 0) (by decide)).trans n20
      replace n21 := (ox (2, 1) (by decide)).trans n21
      replace n30 := (ox (3, 0) (by decide)).trans n30
      replace n31 := (ox (3, 1) (by decide)).trans n31
      clear n00
      have n00 := m00
      obtain ⟨fy14, Ry14, m01, oy⟩ := Rx14.st4 n01 3 y3
      replace n02 := (oy (0, 2) (by decide)).trans n02
      replace n03 := (oy (0, 3) (by decide)).trans n03
      replace n41 := (oy (4, 1) (by decide)).trans n41
      replace n00 := (oy (0, 0) (by decide)).trans n00
      replace n10 := (oy (1, 0) (by decide)).trans n10
      replace n11 := (oy (1, 1) (by decide)).trans n11
      replace n20 := (oy (2, 0) (by decide)).trans n20
      replace n21 := (oy (2, 1) (by decide)).trans n21
      replace n30 := (oy (3, 0) (by decide)).trans n30
      replace n31 := (oy (3, 1) (by decide)).trans n31
      clear n01
      have n01 := m01
      simp only [List.set_cons_zero, List.set_cons_succ] at n00 n01
      have by14 : Below w.heap.size w ((w14.setCell ⟨w9.heap.size, 3, none⟩ x3).setCell ⟨w9.heap.size + 1, 3, none⟩ y3) := (((bw14.trans (b14.mono hB14)).setCell (show w.heap.size ≤ (⟨w9.heap.size, 3, none⟩ : Addr).block from la0) _)).setCell (show w.heap.size ≤ (⟨w9.heap.size + 1, 3, none⟩ : Addr).block from lb0) _
      obtain ⟨x3a, x3b, x3c, hx3⟩ := oa3.at.shape
      obtain ⟨y3a, y3b, y3c, hy3⟩ := ob3.at.shape
      subst hx3; subst hy3
      clear oa3 ob3 hd3 R14 Rx14 o14 ox oy m00 m01 la0 lb0
      obtain ⟨V14, hV14⟩ : ∃ V : World, (w14.setCell ⟨w9.heap.size, 3, none⟩ (.slice x3a x3b x3c)).setCell ⟨w9.heap.size + 1, 3, none⟩ (.slice y3a y3b y3c) = V := ⟨_, rfl⟩
      rw [hV14] at Ry14 by14
      replace Ry14 := Lib.hid Ry14
      replace hV14 := Lib.hid hV14
      replace n02 := Lib.hid n02
      replace n03 := Lib.hid n03
      replace n41 := Lib.hid n41
      replace n00 := Lib.hid n00
      replace n01 := Lib.hid n01
      replace n10 := Lib.hid n10
      replace n11 := Lib.hid n11
      replace n20 := Lib.hid n20
      replace n21 := Lib.hid n21
      replace n30 := Lib.hid n30
      replace n31 := Lib.hid n31
      go_upto_region 16 with fail
      rw [hV14.out]
      clear a0 a1 a2 a3 d0 d1 d2 d3 fa fb
      have hB15 : w.heap.size ≤ V14.heap.size := by14.size
      clear hs3
      replace n02 := n02.out
      replace n03 := n03.out
      replace n41 := n41.out
      replace n00 := n00.out
      replace n01 := n01.out
      replace n10 := n10.out
      replace n11 := n11.out
      replace n20 := n20.out
      replace n21 := n21.out
      replace n30 := n30.out
      replace n31 := n31.out
      obtain ⟨V, hVd⟩ : ∃ V : World, V14.drew = V := ⟨_, rfl⟩
      have RV := Ry14.out.drew
      have bV := by14.drew
      rw [hVd] at RV bV
      clear Ry14 by14
      replace hVd := Lib.hid hVd
      have hS : V.cell? ⟨w9.heap.size, 0, none⟩ = some (.int .i64 0) ∧ V.cell? ⟨w9.heap.size, 1, none⟩ = some (.slice x1a x1b x1c) ∧ V.cell? ⟨w9.heap.size, 2, none⟩ = some (.slice x2a x2b x2c) ∧ V.cell? ⟨w9.heap.size, 3, none⟩ = some (.slice x3a x3b x3c) ∧ V.cell? ⟨w9.heap.size + 1, 0, none⟩ = some (.int .i64 0) ∧ V.cell? ⟨w9.heap.size + 1, 1, none⟩ = some (.slice y1a y1b y1c) ∧ V.cell? ⟨w9.heap.size + 1, 2, none⟩ = some (.slice y2a y2b y2c) ∧ V.cell? ⟨w9.heap.size + 1, 3, none⟩ = some (.slice y3a y3b y3c) := by
        obtain ⟨a0, a1, a2, a3⟩ := RV.cells4 n00
        obtain ⟨d0, d1, d2, d3⟩ := RV.cells4 n01
        exact ⟨a0, a1, a2, a3, d0, d1, d2, d3⟩
      obtain ⟨g0, g1, g2, g3⟩ := RV.cells4 n02
      have fg0 := RV.frz4 n02 0
      have fg1 := RV.frz4 n02 1
      have fg2 := RV.frz4 n02 2
      have fg3 := RV.frz4 n02 3
      have lg0 := (RV.low4 n02).1
      obtain ⟨f15, R15, m02, o15⟩ := RV.all4 n02 (.int .i64 0) (.slice x1a x1b x1c) (.slice x2a x2b x2c) (.slice x3a x3b x3c)
      replace n03 := (o15 (0, 3) (by decide)).trans n03
      replace n41 := (o15 (4, 1) (by decide)).trans n41
      replace n00 := (o15 (0, 0) (by decide)).trans n00
      replace n01 := (o15 (0, 1) (by decide)).trans n01
      replace n10 := (o15 (1, 0) (by decide)).trans n10
      replace n11 := (o15 (1, 1) (by decide)).trans n11
      replace n20 := (o15 (2, 0) (by decide)).trans n20
      replace n21 := (o15 (2, 1) (by decide)).trans n21
      replace n30 := (o15 (3, 0) (by decide)).trans n30
      replace n31 := (o15 (3, 1) (by decide)).trans n31
      have b15 := Below.all4 (g := w.heap.size) bV lg0 (.int .i64 0) (.slice x1a x1b x1c) (.slice x2a x2b x2c) (.slice x3a x3b x3c)
      obtain ⟨V15, hV15⟩ : ∃ V', (((V.setCell ⟨w.heap.size, 0, none⟩ (.int .i64 0)).setCell ⟨w.heap.size, 1, none⟩ (.slice x1a x1b x1c)).setCell ⟨w.heap.size, 2, none⟩ (.slice x2a x2b x2c)).setCell ⟨w.heap.size, 3, none⟩ (.slice x3a x3b x3c) = V' := ⟨_, rfl⟩
      rw [hV15] at R15 b15
      have hS15 : V15.cell? ⟨w9.heap.size, 0, none⟩ = some (.int .i64 0) ∧ V15.cell? ⟨w9.heap.size, 1, none⟩ = some (.slice x1a x1b x1c) ∧ V15.cell? ⟨w9.heap.size, 2, none⟩ = some (.slice x2a x2b x2c) ∧ V15.cell? ⟨w9.heap.size, 3, none⟩ = some (.slice x3a x3b x3c) ∧ V15.cell? ⟨w9.heap.size + 1, 0, none⟩ = some (.int .i64 0) ∧ V15.cell? ⟨w9.heap.size + 1, 1, none⟩ = some (.slice y1a y1b y1c) ∧ V15.cell? ⟨w9.heap.size + 1, 2, none⟩ = some (.slice y2a y2b y2c) ∧ V15.cell? ⟨w9.heap.size + 1, 3, none⟩ = some (.slice y3a y3b y3c) := by
        obtain ⟨a0, a1, a2, a3⟩ := R15.cells4 n00
        obtain ⟨d0, d1, d2, d3⟩ := R15.cells4 n01
        exact ⟨a0, a1, a2, a3, d0, d1, d2, d3⟩
      replace hV15 := Lib.hid hV15
      clear n02 o15 RV bV lg0
      have n02 := m02
      clear m02
      refine wp_region_plan (fun w' => w'.cell? ⟨w9.heap.size, 0, none⟩ = some (.int .i64 0) ∧ w'.cell? ⟨w9.heap.size, 1, none⟩ = some (.slice x1a x1b x1c) ∧ w'.cell? ⟨w9.heap.size, 2, none⟩ = some (.slice x2a x2b x2c) ∧ w'.cell? ⟨w9.heap.size, 3, none⟩ = some (.slice x3a x3b x3c) ∧ w'.cell? ⟨w9.heap.size + 1, 0, none⟩ = some (.int .i64 0) ∧ w'.cell? ⟨w9.heap.size + 1, 1, none⟩ = some (.slice y1a y1b y1c) ∧ w'.cell? ⟨w9.heap.size + 1, 2, none⟩ = some (.slice y2a y2b y2c) ∧ w'.cell? ⟨w9.heap.size + 1, 3, none⟩ = some (.slice y3a y3b y3c)) 4 [(0, true), (1, true), (2, false), (3, false)] (by kernel_rfl) (by kernel_rfl) ?_
      rw [hVd.out]
      refine headY (v := ?_) (some 111) rfl rfl (Or.inl ⟨by rfl, ?_⟩) hS ?_
      rotate_left
      · rintro W' ⟨s0, s1, s2, s3, s4, s5, s6, s7⟩; go_simp; try with_reducible rfl
      simp only [Act.put, List.setIfInBounds_toArray, List.set_cons_zero, List.set_cons_succ]
      refine headY (v := ?_) (some 112) rfl rfl (Or.inl ⟨by rfl, ?_⟩) hS ?_
      rotate_left
      · rintro W' ⟨s0, s1, s2, s3, s4, s5, s6, s7⟩; go_simp; try with_reducible rfl
      simp only [Act.put, List.setIfInBounds_toArray, List.set_cons_zero, List.set_cons_succ]
      refine headC rfl (fun KK hK => ?_)
      go_simp
      rw [hV15.out]
      refine hK _ _ hS15 ?_
      clear hK KK hS g0 g1 g2 g3 fg0 fg1 fg2 fg3
      obtain ⟨h0, h1, h2, h3⟩ := R15.cells4 n03
      have fh0 := R15.frz4 n03 0
      have fh1 := R15.frz4 n03 1
      have fh2 := R15.frz4 n03 2
      have fh3 := R15.frz4 n03 3
      have lh0 := (R15.low4 n03).1
      obtain ⟨f16, R16, m03, o16⟩ := R15.all4 n03 (.int .i64 0) (.slice y1a y1b y1c) (.slice y2a y2b y2c) (.slice y3a y3b y3c)
      replace n02 := (o16 (0, 2) (by decide)).trans n02
      replace n41 := (o16 (4, 1) (by decide)).trans n41
      replace n00 := (o16 (0, 0) (by decide)).trans n00
      replace n01 := (o16 (0, 1) (by decide)).trans n01
      replace n10 := (o16 (1, 0) (by decide)).trans n10
      replace n11 := (o16 (1, 1) (by decide)).trans n11
      replace n20 := (o16 (2, 0) (by decide)).trans n20
      replace n21 := (o16 (2, 1) (by decide)).trans n21
      replace n30 := (o16 (3, 0) (by decide)).trans n30
      replace n31 := (o16 (3, 1) (by decide)).trans n31
      have b16 := Below.all4 (g := w.heap.size + 1) b15 lh0 (.int .i64 0) (.slice y1a y1b y1c) (.slice y2a y2b y2c) (.slice y3a y3b y3c)
      obtain ⟨V16, hV16⟩ : ∃ V', (((V15.setCell ⟨w.heap.size + 1, 0, none⟩ (.int .i64 0)).setCell ⟨w.heap.size + 1, 1, none⟩ (.slice y1a y1b y1c)).setCell ⟨w.heap.size + 1, 2, none⟩ (.slice y2a y2b y2c)).setCell ⟨w.heap.size + 1, 3, none⟩ (.slice y3a y3b y3c) = V' := ⟨_, rfl⟩
      rw [hV16] at R16 b16
      have hS16 : V16.cell? ⟨w9.heap.size, 0, none⟩ = some (.int .i64 0) ∧ V16.cell? ⟨w9.heap.size, 1, none⟩ = some (.slice x1a x1b x1c) ∧ V16.cell? ⟨w9.heap.size, 2, none⟩ = some (.slice x2a x2b x2c) ∧ V16.cell? ⟨w9.heap.size, 3, none⟩ = some (.slice x3a x3b x3c) ∧ V16.cell? ⟨w9.heap.size + 1, 0, none⟩ = some (.int .i64 0) ∧ V16.cell? ⟨w9.heap.size + 1, 1, none⟩ = some (.slice y1a y1b y1c) ∧ V16.cell? ⟨w9.heap.size + 1, 2, none⟩ = some (.slice y2a y2b y2c) ∧ V16.cell? ⟨w9.heap.size + 1, 3, none⟩ = some (.slice y3a y3b y3c) := by
        obtain ⟨a0, a1, a2, a3⟩ := R16.cells4 n00
        obtain ⟨d0, d1, d2, d3⟩ := R16.cells4 n01
        exact ⟨a0, a1, a2, a3, d0, d1, d2, d3⟩
      replace hV16 := Lib.hid hV16
      clear n03 o16 R15 b15 lh0
      have n03 := m03
      clear m03
      refine headC rfl (fun KK hK => ?_)
      go_simp
      rw [hV16.out]
      refine hK _ _ hS16 ?_
      clear hK KK hS15 h0 h1 h2 h3 fh0 fh1 fh2 fh3
      refine head0 ?_
      simp only [List.drop_succ_cons, List.drop_zero]
      clear hS16
      obtain ⟨g0, g1, g2, g3⟩ := R16.cells4 n02
      obtain ⟨h0, h1, h2, h3⟩ := R16.cells4 n03
      replace R16 := Lib.hid R16
      replace n00 := Lib.hid n00
      replace n01 := Lib.hid n01
      replace n02 := Lib.hid n02
      replace n03 := Lib.hid n03
      replace n41 := Lib.hid n41
      replace n10 := Lib.hid n10
      replace n11 := Lib.hid n11
      replace n20 := Lib.hid n20
      replace n21 := Lib.hid n21
      replace n30 := Lib.hid n30
      replace n31 := Lib.hid n31
      go_wp2
      refine NoPanic.normal ?_
      go_wp2
      refine bodyPost_ret (v := .tuple #[.agg #[.int .i64 0, .slice x1a x1b x1c, .slice x2a x2b x2c, .slice x3a x3b x3c], .agg #[.int .i64 0, .slice y1a y1b y1c, .slice y2a y2b y2c, .slice y3a y3b y3c], .nilIface]) (by simp [results, Tryz.results56, go_sem, g0, g1, g2, g3, h0, h1, h2, h3]) rfl ?_
      exact ⟨_, _, _, rfl, b16, rfl, u1.dropLast, I ++ O.drop 1, u2.dropLast.drop 1 ++ [d], _, _, _, _, _, _, ⟨c, d, u1, u2, I, O, hcN.out, hdN.out, hcn, hdn, hu1.out, hu2.out, hI.out, hO.out, rfl, rfl, rfl⟩, rfl, rfl, f16, R16.out, n10.out, n11.out, n20.out, n21.out, n30.out, n31.out⟩
end Go.Proofs.YtilpckngghffoaaGreatDoor

namespace Go.Proofs.YtilpckngghffoaaGreatDoor

/-- Between two loops. -/
def LiveP (n : Nat) (adj : Nat → List Nat) (v : Nat) : Prop := (∃ u, u < n ∧ (∃ t ∈ adj u, Goes adj t u) ∧ Goes adj u v) ∧ ∃ u, u < n ∧ (∃ t ∈ adj u, Goes adj t u) ∧ Goes adj v u
/-- One step follows the other. -/
def Steps (adj : Nat → List Nat) (l : List Nat) : Prop := ∀ i, i + 1 < l.length → l.getD (i + 1) 0 ∈ adj (l.getD i 0)
theorem getD_left {l : List Nat} {y i : Nat} (h : i < l.length) : (l ++ [y]).getD i 0 = l.getD i 0 := by
  rw [List.getD_eq_getElem?_getD, List.getElem?_append_left h, ← List.getD_eq_getElem?_getD]
theorem getD_last {l : List Nat} {y i : Nat} (h : i = l.length) : (l ++ [y]).getD i 0 = y := by
  subst h; simp [List.getD]
theorem Steps.snoc {adj : Nat → List Nat} {l : List Nat} {x y : Nat} (h : Steps adj l) (hx : l.getD (l.length - 1) 0 = x) (hy : y ∈ adj x) : Steps adj (l ++ [y]) := by
  intro i hi
  simp only [List.length_append, List.length_singleton] at hi
  by_cases e : i + 1 = l.length
  · rw [getD_last e, getD_left (by omega), show i = l.length - 1 by omega, hx]; exact hy
  · rw [getD_left (by omega), getD_left (by omega)]; exact h i (by omega)
theorem Goes.head {adj : Nat → List Nat} {x z : Nat} (h : Goes adj x z) : x = z ∨ ∃ y ∈ adj x, Goes adj y z := by
  induction h with
  | refl => exact .inl rfl
  | step h hz ih =>
    rcases ih with rfl | ⟨t, ht, hg⟩
    · exact .inr ⟨_, hz, .refl _⟩
    · exact .inr ⟨t, ht, .step hg hz⟩
/-- Ways of any length into a vertex that a loop reaches. -/
theorem ways_into {M : Nat} {adj : Nat → List Nat} (hc : ∀ x, x < M → ∀ t ∈ adj x, t < M) (a : Nat) : ∀ v, (∃ u, u < M ∧ (∃ t ∈ adj u, Goes adj t u) ∧ Goes adj u v) →
    ∃ l, l.length = a + 1 ∧ l.getD a 0 = v ∧ Steps adj l ∧ ∀ x ∈ l, x < M := by
  have low : ∀ {u v}, u < M → Goes adj u v → v < M := fun hu h => Goes.closed (P := (· < M)) hc h hu
  induction a with
  | zero =>
    rintro v ⟨u, hu, _, hg⟩
    exact ⟨[v], rfl, rfl, fun i hi => by simp at hi, fun x hx => by rw [List.mem_singleton] at hx; subst hx; exact low hu hg⟩
  | succ a ih =>
    rintro v ⟨u, hu, hl, hg⟩
    have hv := low hu hg
    have key : ∃ y, v ∈ adj y ∧ ∃ u, u < M ∧ (∃ t ∈ adj u, Goes adj t u) ∧ Goes adj u y := by
      cases hg with
      | refl =>
        obtain ⟨t, ht, hgt⟩ := hl
        cases hgt with
        | refl => exact ⟨_, ht, _, hu, ⟨_, ht, .refl _⟩, .refl _⟩
        | step h2 hz => exact ⟨_, hz, _, hu, ⟨t, ht, .step h2 hz⟩, (Goes.one ht).trans h2⟩
      | step h2 hz => exact ⟨_, hz, _, hu, hl, h2⟩
    obtain ⟨y, hy, hu2⟩ := key
    obtain ⟨l, l1, l2, l3, l4⟩ := ih y hu2
    refine ⟨l ++ [v], by simp [l1], getD_last l1.symm, l3.snoc (by rw [l1, Nat.add_sub_cancel]; exact l2) hy, fun x hx => ?_⟩
    rcases List.mem_append.1 hx with hx | hx
    · exact l4 x hx
    · rw [List.mem_singleton] at hx; subst hx; exact hv
/-- .. and on from it. -/
theorem ways_through {M : Nat} {adj : Nat → List Nat} (hc : ∀ x, x < M → ∀ t ∈ adj x, t < M) {v : Nat} (h : LiveP M adj v) (a m : Nat) :
    ∃ l, l.length = a + 1 + m ∧ l.getD a 0 = v ∧ Steps adj l ∧ (∀ x ∈ l, x < M) ∧ ∃ u, u < M ∧ (∃ t ∈ adj u, Goes adj t u) ∧ Goes adj (l.getD (a + m) 0) u := by
  induction m with
  | zero =>
    obtain ⟨l, l1, l2, l3, l4⟩ := ways_into hc a v h.1
    exact ⟨l, l1, l2, l3, l4, by rw [Nat.add_zero, l2]; exact h.2⟩
  | succ m ih =>
    obtain ⟨l, l1, l2, l3, l4, u, hu, ht, hg⟩ := ih
    obtain ⟨x, hx⟩ : ∃ x, l.getD (a + m) 0 = x := ⟨_, rfl⟩
    have hxM : x < M := l4 x (by rw [← hx, List.getD_eq_getElem?_getD, List.getElem?_eq_getElem (by omega), Option.getD_some]; exact List.getElem_mem _)
    rw [hx] at hg
    have key : ∃ y ∈ adj x, ∃ u, u < M ∧ (∃ t ∈ adj u, Goes adj t u) ∧ Goes adj y u := by
      rcases hg.head with rfl | ⟨y, hy, hg2⟩
      · obtain ⟨t, ht1, ht2⟩ := ht
        exact ⟨t, ht1, x, hu, ⟨t, ht1, ht2⟩, ht2⟩
      · exact ⟨y, hy, u, hu, ht, hg2⟩
    obtain ⟨y, hy, hu2⟩ := key
    refine ⟨l ++ [y], by simp [l1]; omega, by rw [getD_left (by omega)]; exact l2, l3.snoc (by rw [l1, show a + 1 + m - 1 = a + m by omega]; exact hx) hy, fun z hz => ?_, ?_⟩
    · rcases List.mem_append.1 hz with hz | hz
      · exact l4 z hz
      · rw [List.mem_singleton] at hz; subst hz; exact hc x hxM z hy
    · rw [getD_last (by omega)]; exact hu2
theorem node_ne {K m : Nat} {x y : List Int} {i : Nat} (hx : i + m ≤ x.length) (hy : i + m ≤ y.length) (h : nodeAt K m x i ≠ nodeAt K m y i) : ∃ j, j < m ∧ x.getD (i + j) 0 ≠ y.getD (i + j) 0 := by
  apply Classical.byContradiction
  intro q
  apply h
  unfold nodeAt
  congr 1
  refine ext_getD (by simp; omega) fun t ht => ?_
  have ht2 : t < m := by simp only [List.length_take] at ht; omega
  rw [sub_get ht2, sub_get ht2]
  exact Classical.byContradiction fun q2 => q ⟨t, ht2, q2⟩
theorem pairL_closed {K N : Nat} (hN : 0 < N) {T : List Int} : ∀ x, x < N * N → ∀ t ∈ pairL K N T x, t < N * N := fun _ _ _ ht => ((mem_pairL hN).1 ht).lt hN
theorem notOne_of_live {K R : Nat} {T : List Int} (h : RuleOk K R T) (hR : 1 ≤ R) {p : Nat} (hp : LiveP (pw K (2 * R) * pw K (2 * R)) (pairL K (pw K (2 * R)) T) p) (hd : ¬ Diag (pw K (2 * R)) p) : NotOne K R T := by
  intro n
  have hK := h.k1
  have hN := pw_pos (K := K) (2 * R) hK
  obtain ⟨l, l1, l2, l3, l4, -⟩ := ways_through (pairL_closed (by omega)) hp n n
  have low : ∀ i, i < l.length → l.getD i 0 < pw K (2 * R) * pw K (2 * R) := fun i hi => l4 _ (by
    rw [List.getD_eq_getElem?_getD, List.getElem?_eq_getElem hi, Option.getD_some]; exact List.getElem_mem _)
  obtain ⟨hn, hi⟩ := ways_words hK hR (by omega) low l3
  have la := alongW_len K (2 * R) (· / pw K (2 * R)) l
  have lb := alongW_len K (2 * R) (· % pw K (2 * R)) l
  obtain ⟨e1, e2⟩ := hn n (by omega)
  rw [l2] at e1 e2
  obtain ⟨j, hj, hne⟩ := node_ne (K := K) (m := 2 * R) (x := alongW K (2 * R) (· / pw K (2 * R)) l) (y := alongW K (2 * R) (· % pw K (2 * R)) l) (i := n) (by omega) (by omega) (by rw [e1, e2]; exact hd)
  exact split_img (alongW_syms hK _ _) (alongW_syms hK _ _) (by omega) (j := n + j) (by omega) (by omega) hne hi
theorem pigeon {M : Nat} {f : Nat → Nat} (h : ∀ i, i ≤ M → f i < M) : ∃ i j, i < j ∧ j ≤ M ∧ f i = f j := by
  apply Classical.byContradiction
  intro q
  have hn : ((List.range (M + 1)).map f).Nodup := by
    refine List.pairwise_map.2 (List.Pairwise.imp_of_mem ?_ List.pairwise_lt_range)
    intro a b ha hb hab e
    exact q ⟨a, b, hab, by have := List.mem_range.1 hb; omega, e⟩
  have hs : (List.range (M + 1)).map f ⊆ List.range M := fun y hy => by
    obtain ⟨i, hi, rfl⟩ := List.mem_map.1 hy
    exact List.mem_range.2 (h i (by have := List.mem_range.1 hi; omega))
  have := nodup_sub hn hs
  simp at this
  omega
theorem goes_along {adj : Nat → List Nat} {f : Nat → Nat} {a : Nat} : ∀ d, (∀ k, a ≤ k → k < a + d → f (k + 1) ∈ adj (f k)) → Goes adj (f a) (f (a + d))
  | 0, _ => .refl _
  | d + 1, h => .step (goes_along d fun k h1 h2 => h k h1 (by omega)) (h (a + d) (by omega) (by omega))
theorem live_of_notOne {K R : Nat} {T : List Int} (h : RuleOk K R T) (hR : 1 ≤ R) (ho : NotOne K R T) : ∃ p, p < pw K (2 * R) * pw K (2 * R) ∧ LiveP (pw K (2 * R) * pw K (2 * R)) (pairL K (pw K (2 * R)) T) p ∧ ¬ Diag (pw K (2 * R)) p := by
  have hK := h.k1
  have hN := pw_pos (K := K) (2 * R) hK
  obtain ⟨M, hM⟩ : ∃ M, pw K (2 * R) * pw K (2 * R) = M := ⟨_, rfl⟩
  obtain ⟨n, hn⟩ : ∃ n, M + 2 * R = n := ⟨_, rfl⟩
  obtain ⟨x, y, sx, sy, lx, ly, hne, e⟩ := ho n
  obtain ⟨f, hf⟩ : ∃ f : Nat → Nat, f = fun i => nodeAt K (2 * R) x i * pw K (2 * R) + nodeAt K (2 * R) y i := ⟨_, rfl⟩
  have nx : ∀ i, i + 2 * R ≤ 2 * n + 1 → nodeAt K (2 * R) x i < pw K (2 * R) := fun i hi => node_lt sx (by omega)
  have ny : ∀ i, i + 2 * R ≤ 2 * n + 1 → nodeAt K (2 * R) y i < pw K (2 * R) := fun i hi => node_lt sy (by omega)
  have low : ∀ i, i + 2 * R ≤ 2 * n + 1 → f i < M := fun i hi => by rw [hf, ← hM]; exact pair_lt (nx i hi) (ny i hi)
  have step : ∀ i, i + 1 + 2 * R ≤ 2 * n + 1 → f (i + 1) ∈ pairL K (pw K (2 * R)) T (f i) := fun i hi => by
    rw [mem_pairL (by omega), hf]
    show Arr K _ T ((nodeAt K (2 * R) x i * pw K (2 * R) + nodeAt K (2 * R) y i) / pw K (2 * R)) ((nodeAt K (2 * R) x i * pw K (2 * R) + nodeAt K (2 * R) y i) % pw K (2 * R)) _
    rw [pair_div (ny i (by omega)), pair_mod (ny i (by omega))]
    exact wayW_arr sx sy (by omega) e (by omega)
  have goes : ∀ a b, a ≤ b → b + 2 * R ≤ 2 * n + 1 → Goes (pairL K (pw K (2 * R)) T) (f a) (f b) := fun a b hab hb => by
    obtain ⟨d, rfl⟩ : ∃ d, b = a + d := ⟨b - a, by omega⟩
    exact goes_along d fun k _ _ => step k (by omega)
  refine ⟨f n, by rw [hM]; exact low n (by omega), ⟨?_, ?_⟩, ?_⟩
  · obtain ⟨i, j, hij, hj, eij⟩ := pigeon (M := M) (f := f) fun i hi => low i (by omega)
    exact ⟨f i, by rw [hM]; exact low i (by omega), ⟨f (i + 1), step i (by omega), by rw [eij]; exact goes _ _ (by omega) (by omega)⟩, goes _ _ (by omega) (by omega)⟩
  · obtain ⟨i, j, hij, hj, eij⟩ := pigeon (M := M) (f := fun i => f (n + i)) fun i hi => low (n + i) (by omega)
    exact ⟨f (n + i), by rw [hM]; exact low _ (by omega), ⟨f (n + i + 1), step _ (by omega), by show Goes _ _ (f (n + i)); rw [show f (n + i) = f (n + j) from eij]; exact goes _ _ (by omega) (by omega)⟩, goes _ _ (by omega) (by omega)⟩
  · intro hd
    unfold Diag at hd
    rw [hf] at hd
    dsimp only at hd
    rw [pair_div (ny n (by omega)), pair_mod (ny n (by omega))] at hd
    have e1 := digs_numW hK _ (syms_take (syms_drop sx n) (2 * R))
    have e2 := digs_numW hK _ (syms_take (syms_drop sy n) (2 * R))
    rw [show ((x.drop n).take (2 * R)).length = 2 * R by simp; omega] at e1
    rw [show ((y.drop n).take (2 * R)).length = 2 * R by simp; omega] at e2
    have e3 : (x.drop n).take (2 * R) = (y.drop n).take (2 * R) := by rw [← e1, ← e2]; exact congrArg (digs K (2 * R)) hd
    have e4 : ((x.drop n).take (2 * R)).getD 0 0 = ((y.drop n).take (2 * R)).getD 0 0 := by rw [e3]
    rw [sub_get (by omega), sub_get (by omega), Nat.add_zero] at e4
    exact hne e4
end Go.Proofs.YtilpckngghffoaaGreatDoor

namespace Go.Proofs.YtilpckngghffoaaGreatDoor
open Go.RowKit

def Ret4 (Φ : Value → Value → Value → Value → World → Prop) (w : World) (e : Ending) (w' : World) : Prop := ∃ x y z u, e = .returned (.tuple #[x, y, z, u]) ∧ Below w.heap.size w w' ∧ Φ x y z u w'
theorem results_tmp4 {fn : Func} {t u v x : Tmp} (h : fn.results = #[.tmp t, .tmp u, .tmp v, .tmp x]) (tmps : Array Value) (P : Program) (w : World) :
    (results fn tmps).run P w = .ok (.tuple #[tmps.getD t undef, tmps.getD u undef, tmps.getD v undef, tmps.getD x undef]) w := by
  simp [results, h]
end Go.Proofs.YtilpckngghffoaaGreatDoor
