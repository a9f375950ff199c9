/-
  The law edenlaw12.GraphLives holds of the given program, where what it reads is of bulk at most the bound of the second form: no other condition.
  Walk: edenlaw12.goes at a way.
  What Path and Loop answer, as plain lists.
  Pieces of a slice of ints: s[k:], s[k:l].
  Walk: the law edenlaw12.GraphLives.
  Opening what a call is handed: []int, api.Rule, the package-level errors.
  Opening a [][]int that a call is handed.
-/
import Derived.Test.YtbpdmpcakenjhaaDoorMGl5
import Derived.BigQuiet
import Derived.Test.YtbpdmpcakenjhaaDoorRows
import Derived.ProofKit
import Derived.OpenShut
import Derived.ShutString
import Derived.ChangeOld
import Derived.LaidMore
import Derived.Stop.Joined
import Derived.Stop.LaidErr
import Derived.Lib.SmallJoins
import Derived.Test.YtbpdmpcakenjhaaDoorCards
import Derived.Test.YtbpdmpcakenjhaaDoorTie
import Derived.SevenTiedAt
import Derived.Deep.DeepHandedRow
import Derived.Deep.DeepWitnessRowRef
namespace Go.Proofs.YtbpdmpcakenjhaaDoor
open Go.RowKit
set_option maxRecDepth 100000

/-- Vertices, each led to by an arrow from the one ahead. -/
def ChainOk (G : List (List Int)) (u : List Nat) : Prop := ∀ i x, u[i]? = some x → x < G.length ∧ ∀ j y, i = j + 1 → u[j]? = some y → (x : Int) ∈ G.getD y []
theorem adj_mem {G : List (List Int)} (hok : GraphOk G) {y x : Nat} (hy : y < G.length) (h : x ∈ adjOf G y) : (x : Int) ∈ G.getD y [] := by
  obtain ⟨z, hz, rfl⟩ := List.mem_map.1 h
  have := hok y hy z hz
  rwa [Int.toNat_of_nonneg this.1]
theorem way_chain {G : List (List Int)} (hok : GraphOk G) {x y : Nat} {w : List Nat} (h : Way (adjOf G) x y w) (hx : x < G.length) : ChainOk G w := by
  induction h with
  | one x =>
    intro i z hz
    have hi := get_of hz
    simp only [List.length_cons, List.length_nil] at hi
    obtain rfl : i = 0 := by omega
    injection hz with hz; subst hz
    exact ⟨hx, fun j y e => by omega⟩
  | @cons x t y w ht h ih =>
    have htn := hok.lt x hx t ht
    have ih := ih htn
    intro i z hz
    cases i with
    | zero => injection hz with hz; subst hz; exact ⟨hx, fun j y e => by omega⟩
    | succ i =>
      have hz' : w[i]? = some z := hz
      refine ⟨(ih i z hz').1, fun j y e hy => ?_⟩
      have e : j = i := by omega
      subst e
      cases j with
      | zero =>
        injection hy with hy; subst hy
        obtain ⟨w', rfl⟩ := h.ne
        injection hz' with hz'; subst hz'
        exact adj_mem hok hx ht
      | succ j => exact (ih (j + 1) z hz').2 j y rfl hy
theorem ChainOk.dropLast {G : List (List Int)} {u : List Nat} (h : ChainOk G u) : ChainOk G u.dropLast := by
  have up : ∀ i x, u.dropLast[i]? = some x → u[i]? = some x := fun i x hx => by
    rw [List.getElem?_dropLast] at hx
    split at hx
    · exact hx
    · cases hx
  intro i x hx
  exact ⟨(h i x (up i x hx)).1, fun j y e hy => (h i x (up i x hx)).2 j y e (up j y hy)⟩
theorem ChainOk.nil (G : List (List Int)) : ChainOk G [] := fun i x hx => by simp at hx

set_option maxHeartbeats 2000000 in
theorem goes_any (na : Option Addr) (nc : Nat) (G : List (List Int)) (wv : Value) (u : List Nat) (w : World) (h : ListsAt w (.slice na G.length nc) G) (hw : IntsAt w wv (castI u)) (hc : ChainOk G u) (hsz : ∀ k, k < G.length → (G.getD k []).length ≤ 17592186044416) :
    Calls Tryd.prog 22 #[.slice na G.length nc, wv] w (RetB true w) := by
  have lW := hw.len
  rw [castI_len] at lW
  have hul := hw.len_le
  rw [castI_len] at hul
  replace h := Lib.hid h
  replace hw := Lib.hid hw
  replace hc := Lib.hid hc
  replace hsz := Lib.hid hsz
  go_enter Tryd.func22, Tryd.ntmps22
  go_wp2_with fail
  go_loopw [5] (fun kv wr => ∃ k n : Nat, k ≤ u.length ∧ kv = .int .i64 k ∧ wr = w.drewN n) (fun kv _ => u.length - (intOf kv).toNat)
  case atStart => exact ⟨0, 0, by omega, rfl, rfl⟩
  case round =>
    obtain ⟨k, n, hk, rfl, rfl⟩ := hrel
    by_cases hlt : k < u.length
    · obtain ⟨x, hx⟩ : ∃ x, u[k]? = some x := ⟨_, List.getElem?_eq_getElem hlt⟩
      obtain ⟨hxn, hxp⟩ := hc.out k x hx
      have iX := fun w' => hw.out.idx k (by rw [castI_len]; exact hlt) w'
      have cX := (hw.out.drewN n).cellD k (by rw [castI_len]; exact hlt)
      rw [castI_get hx] at cX
      have hd1 : decide ((x : Int) < 0) = false := by simp
      have hd2 : decide (G.length ≤ x) = false := by simp; omega
      cases k with
      | zero =>
        clear hxp
        replace hx := Lib.hid hx
        obtain ⟨xa, hxa⟩ : ∃ xa, valAt wv 0 = xa := ⟨_, rfl⟩
        rw [hxa] at iX cX
        replace hxa := Lib.hid hxa
        have iX0 : ∀ w', (Instr.indexAt 22 wv (.int .i64 0)).run Tryd.prog w' = .ok (.pointer (some xa)) w' := iX
        clear iX
        go_upto_region 4 with fail
        refine wp_region_plan (fun w' => w'.cell? xa = some (.int .i64 (x : Int))) 31 [(0, true), (1, true), (2, true), (3, true), (4, true), (5, true), (6, true), (7, true), (8, true), (9, true), (10, true), (11, true), (12, true), (13, true), (14, true), (15, true), (16, true), (17, true), (18, true), (19, true), (20, true), (21, true), (22, true), (23, true), (24, true), (25, true), (26, true), (27, true), (28, false), (29, true), (30, true)] (by kernel_rfl) (by kernel_rfl) ?_
        have hS : (w.drewN n).drew.cell? xa = some (.int .i64 (x : Int)) := cX
        refine headY (v := ?_) (some 12) rfl rfl (Or.inl ⟨by rfl, ?_⟩) hS ?_
        rotate_left
        · rintro W' s0; go_simp; try with_reducible rfl
        simp only [Act.put, List.setIfInBounds_toArray, List.set_cons_zero, List.set_cons_succ]
        refine headY (v := ?_) (some 13) rfl rfl (Or.inl ⟨by rfl, ?_⟩) hS ?_
        rotate_left
        · rintro W' s0; go_simp; try with_reducible rfl
        simp only [Act.put, List.setIfInBounds_toArray, List.set_cons_zero, List.set_cons_succ]
        refine headY (v := ?_) (some 14) rfl rfl (Or.inl ⟨by rfl, ?_⟩) hS ?_
        rotate_left
        · rintro W' s0; go_simp; try with_reducible rfl
        simp only [Act.put, List.setIfInBounds_toArray, List.set_cons_zero, List.set_cons_succ]
        refine headY (v := ?_) (some 15) rfl rfl (Or.inl ⟨by rfl, ?_⟩) hS ?_
        rotate_left
        · rintro W' s0; go_simp; try with_reducible rfl
        simp only [Act.put, List.setIfInBounds_toArray, List.set_cons_zero, List.set_cons_succ]
        refine headY (v := ?_) (some 16) rfl rfl (Or.inl ⟨by rfl, ?_⟩) hS ?_
        rotate_left
        · rintro W' s0; go_simp; try with_reducible rfl
        simp only [Act.put, List.setIfInBounds_toArray, List.set_cons_zero, List.set_cons_succ]
        refine headY (v := ?_) (some 17) rfl rfl (Or.inl ⟨by rfl, ?_⟩) hS ?_
        rotate_left
        · rintro W' s0; go_simp; try with_reducible rfl
        simp only [Act.put, List.setIfInBounds_toArray, List.set_cons_zero, List.set_cons_succ]
        refine headY (v := ?_) (some 18) rfl rfl (Or.inl ⟨by rfl, ?_⟩) hS ?_
        rotate_left
        · rintro W' s0; go_simp; try with_reducible rfl
        simp only [Act.put, List.setIfInBounds_toArray, List.set_cons_zero, List.set_cons_succ]
        refine headY (v := ?_) (some 19) rfl rfl (Or.inl ⟨by rfl, ?_⟩) hS ?_
        rotate_left
        · rintro W' s0; go_simp; try with_reducible rfl
        simp only [Act.put, List.setIfInBounds_toArray, List.set_cons_zero, List.set_cons_succ]
        refine headY (v := ?_) (some 20) rfl rfl (Or.inl ⟨by rfl, ?_⟩) hS ?_
        rotate_left
        · rintro W' s0; go_simp; try with_reducible rfl
        simp only [Act.put, List.setIfInBounds_toArray, List.set_cons_zero, List.set_cons_succ]
        refine headY (v := ?_) (some 21) rfl rfl (Or.inl ⟨by rfl, ?_⟩) hS ?_
        rotate_left
        · rintro W' s0; go_simp; try with_reducible rfl
        simp only [Act.put, List.setIfInBounds_toArray, List.set_cons_zero, List.set_cons_succ]
        refine headY (v := ?_) (some 22) rfl rfl (Or.inl ⟨by rfl, ?_⟩) hS ?_
        rotate_left
        · rintro W' s0; go_simp; try with_reducible rfl
        simp only [Act.put, List.setIfInBounds_toArray, List.set_cons_zero, List.set_cons_succ]
        refine headY (v := ?_) (some 23) rfl rfl (Or.inl ⟨by rfl, ?_⟩) hS ?_
        rotate_left
        · rintro W' s0; go_simp; try with_reducible rfl
        simp only [Act.put, List.setIfInBounds_toArray, List.set_cons_zero, List.set_cons_succ]
        refine headY (v := ?_) (some 24) rfl rfl (Or.inl ⟨by rfl, ?_⟩) hS ?_
        rotate_left
        · rintro W' s0; go_simp; try with_reducible rfl
        simp only [Act.put, List.setIfInBounds_toArray, List.set_cons_zero, List.set_cons_succ]
        refine headY (v := ?_) (some 25) rfl rfl (Or.inl ⟨by rfl, ?_⟩) hS ?_
        rotate_left
        · rintro W' s0; go_simp; try with_reducible rfl
        simp only [Act.put, List.setIfInBounds_toArray, List.set_cons_zero, List.set_cons_succ]
        refine headY (v := ?_) (some 26) rfl rfl (Or.inl ⟨by rfl, ?_⟩) hS ?_
        rotate_left
        · rintro W' s0; go_simp; try with_reducible rfl
        simp only [Act.put, List.setIfInBounds_toArray, List.set_cons_zero, List.set_cons_succ]
        refine headY (v := ?_) (some 27) rfl rfl (Or.inl ⟨by rfl, ?_⟩) hS ?_
        rotate_left
        · rintro W' s0; go_simp; try with_reducible rfl
        simp only [Act.put, List.setIfInBounds_toArray, List.set_cons_zero, List.set_cons_succ]
        refine headY (v := ?_) (some 28) rfl rfl (Or.inl ⟨by rfl, ?_⟩) hS ?_
        rotate_left
        · rintro W' s0; go_simp; try with_reducible rfl
        simp only [Act.put, List.setIfInBounds_toArray, List.set_cons_zero, List.set_cons_succ]
        refine headY (v := ?_) (some 29) rfl rfl (Or.inl ⟨by rfl, ?_⟩) hS ?_
        rotate_left
        · rintro W' s0; go_simp; try with_reducible rfl
        simp only [Act.put, List.setIfInBounds_toArray, List.set_cons_zero, List.set_cons_succ]
        refine headY (v := undef) (some 30) rfl rfl (Or.inr ⟨by rfl, rfl⟩) hS ?_
        simp only [Act.put, List.setIfInBounds_toArray, List.set_cons_zero, List.set_cons_succ]
        refine headY (v := undef) (some 31) rfl rfl (Or.inr ⟨by rfl, rfl⟩) hS ?_
        simp only [Act.put, List.setIfInBounds_toArray, List.set_cons_zero, List.set_cons_succ]
        refine headY (v := undef) (some 32) rfl rfl (Or.inr ⟨by rfl, rfl⟩) hS ?_
        simp only [Act.put, List.setIfInBounds_toArray, List.set_cons_zero, List.set_cons_succ]
        refine headY (v := undef) (some 33) rfl rfl (Or.inr ⟨by rfl, rfl⟩) hS ?_
        simp only [Act.put, List.setIfInBounds_toArray, List.set_cons_zero, List.set_cons_succ]
        refine headY (v := undef) (some 34) rfl rfl (Or.inr ⟨by rfl, rfl⟩) hS ?_
        simp only [Act.put, List.setIfInBounds_toArray, List.set_cons_zero, List.set_cons_succ]
        refine headY (v := undef) (some 35) rfl rfl (Or.inr ⟨by rfl, rfl⟩) hS ?_
        simp only [Act.put, List.setIfInBounds_toArray, List.set_cons_zero, List.set_cons_succ]
        refine headY (v := undef) (some 36) rfl rfl (Or.inr ⟨by rfl, rfl⟩) hS ?_
        simp only [Act.put, List.setIfInBounds_toArray, List.set_cons_zero, List.set_cons_succ]
        refine headY (v := undef) (some 37) rfl rfl (Or.inr ⟨by rfl, rfl⟩) hS ?_
        simp only [Act.put, List.setIfInBounds_toArray, List.set_cons_zero, List.set_cons_succ]
        refine headY (v := undef) (some 38) rfl rfl (Or.inr ⟨by rfl, rfl⟩) hS ?_
        simp only [Act.put, List.setIfInBounds_toArray, List.set_cons_zero, List.set_cons_succ]
        refine headY (v := undef) (some 39) rfl rfl (Or.inr ⟨by rfl, rfl⟩) hS ?_
        simp only [Act.put, List.setIfInBounds_toArray, List.set_cons_zero, List.set_cons_succ]
        refine headC rfl (fun KK hK => ?_)
        go_simp
        refine hK _ _ hS ?_
        clear hK KK
        refine headY (v := undef) (some 41) rfl rfl (Or.inr ⟨by rfl, rfl⟩) hS ?_
        simp only [Act.put, List.setIfInBounds_toArray, List.set_cons_zero, List.set_cons_succ]
        refine headY (v := ?_) (some 42) rfl rfl (Or.inl ⟨by rfl, ?_⟩) hS ?_
        rotate_left
        · rintro W' s0; go_simp; try with_reducible rfl
        simp only [Act.put, List.setIfInBounds_toArray, List.set_cons_zero, List.set_cons_succ]
        refine head0 ?_
        simp only [List.drop_succ_cons, List.drop_zero]
        clear hS
        go_wp2
        refine NoPanic.normal ?_
        go_wp2
        go_roundw
        case measure => simp [intOf]; omega
        case rel => exact ⟨1, n + 1, by omega, by go_num, rfl⟩
      | succ k =>
        obtain ⟨y, hy⟩ : ∃ y, u[k]? = some y := ⟨_, List.getElem?_eq_getElem (by omega)⟩
        have hyn := (hc.out k y hy).1
        have hmem := hxp k y rfl hy
        have hle := leads_any na nc G y (x : Int) (w.drewN n).drew (h.out.drewN n) hyn hsz.out
        rw [show decide ((x : Int) ∈ G.getD y []) = true by simpa using hmem] at hle
        have iY := fun w' => hw.out.idx k (by rw [castI_len]; omega) w'
        have cY := (hw.out.drewN n).cellD k (by rw [castI_len]; omega)
        rw [castI_get hy] at cY
        clear hxp hmem
        replace hx := Lib.hid hx
        replace hy := Lib.hid hy
        replace hle := Lib.hid hle
        obtain ⟨xa, hxa⟩ : ∃ xa, valAt wv (k + 1) = xa := ⟨_, rfl⟩
        rw [hxa] at iX cX
        replace hxa := Lib.hid hxa
        obtain ⟨ya, hya⟩ : ∃ ya, valAt wv k = ya := ⟨_, rfl⟩
        rw [hya] at iY cY
        replace hya := Lib.hid hya
        have hk1 : (((k + 1 : Nat) : Int)) = (k : Int) + 1 := by omega
        rw [hk1] at iX
        replace hk1 := Lib.hid hk1
        have hwr : IntKind.i64.wrap (k : Int) = k := wrapK (by omega) (by omega)
        go_upto_region 4 with fail
        refine wp_region_plan (fun w' => w'.cell? xa = some (.int .i64 (x : Int)) ∧ w'.cell? ya = some (.int .i64 (y : Int))) 31 [(0, true), (1, true), (2, true), (3, true), (4, true), (5, true), (6, true), (7, true), (8, true), (9, true), (10, true), (11, true), (12, true), (13, true), (14, true), (15, true), (16, true), (17, true), (18, true), (19, true), (20, true), (21, true), (22, true), (23, true), (24, true), (25, true), (26, true), (27, true), (28, false), (29, true), (30, true)] (by kernel_rfl) (by kernel_rfl) ?_
        have hS : (w.drewN n).drew.cell? xa = some (.int .i64 (x : Int)) ∧ (w.drewN n).drew.cell? ya = some (.int .i64 (y : Int)) := ⟨cX, cY⟩
        refine headY (v := ?_) (some 12) rfl rfl (Or.inl ⟨by rfl, ?_⟩) hS ?_
        rotate_left
        · rintro W' ⟨s0, s1⟩; go_simp; try with_reducible rfl
        simp only [Act.put, List.setIfInBounds_toArray, List.set_cons_zero, List.set_cons_succ]
        refine headY (v := ?_) (some 13) rfl rfl (Or.inl ⟨by rfl, ?_⟩) hS ?_
        rotate_left
        · rintro W' ⟨s0, s1⟩; go_simp; try with_reducible rfl
        simp only [Act.put, List.setIfInBounds_toArray, List.set_cons_zero, List.set_cons_succ]
        refine headY (v := ?_) (some 14) rfl rfl (Or.inl ⟨by rfl, ?_⟩) hS ?_
        rotate_left
        · rintro W' ⟨s0, s1⟩; go_simp; try with_reducible rfl
        simp only [Act.put, List.setIfInBounds_toArray, List.set_cons_zero, List.set_cons_succ]
        refine headY (v := ?_) (some 15) rfl rfl (Or.inl ⟨by rfl, ?_⟩) hS ?_
        rotate_left
        · rintro W' ⟨s0, s1⟩; go_simp; try with_reducible rfl
        simp only [Act.put, List.setIfInBounds_toArray, List.set_cons_zero, List.set_cons_succ]
        refine headY (v := ?_) (some 16) rfl rfl (Or.inl ⟨by rfl, ?_⟩) hS ?_
        rotate_left
        · rintro W' ⟨s0, s1⟩; go_simp; try with_reducible rfl
        simp only [Act.put, List.setIfInBounds_toArray, List.set_cons_zero, List.set_cons_succ]
        refine headY (v := ?_) (some 17) rfl rfl (Or.inl ⟨by rfl, ?_⟩) hS ?_
        rotate_left
        · rintro W' ⟨s0, s1⟩; go_simp; try with_reducible rfl
        simp only [Act.put, List.setIfInBounds_toArray, List.set_cons_zero, List.set_cons_succ]
        refine headY (v := ?_) (some 18) rfl rfl (Or.inl ⟨by rfl, ?_⟩) hS ?_
        rotate_left
        · rintro W' ⟨s0, s1⟩; go_simp; try with_reducible rfl
        simp only [Act.put, List.setIfInBounds_toArray, List.set_cons_zero, List.set_cons_succ]
        refine headY (v := ?_) (some 19) rfl rfl (Or.inl ⟨by rfl, ?_⟩) hS ?_
        rotate_left
        · rintro W' ⟨s0, s1⟩; go_simp; try with_reducible rfl
        simp only [Act.put, List.setIfInBounds_toArray, List.set_cons_zero, List.set_cons_succ]
        refine headY (v := ?_) (some 20) rfl rfl (Or.inl ⟨by rfl, ?_⟩) hS ?_
        rotate_left
        · rintro W' ⟨s0, s1⟩; go_simp; try with_reducible rfl
        simp only [Act.put, List.setIfInBounds_toArray, List.set_cons_zero, List.set_cons_succ]
        refine headY (v := ?_) (some 21) rfl rfl (Or.inl ⟨by rfl, ?_⟩) hS ?_
        rotate_left
        · rintro W' ⟨s0, s1⟩; go_simp; try with_reducible rfl
        simp only [Act.put, List.setIfInBounds_toArray, List.set_cons_zero, List.set_cons_succ]
        refine headY (v := ?_) (some 22) rfl rfl (Or.inl ⟨by rfl, ?_⟩) hS ?_
        rotate_left
        · rintro W' ⟨s0, s1⟩; go_simp; try with_reducible rfl
        simp only [Act.put, List.setIfInBounds_toArray, List.set_cons_zero, List.set_cons_succ]
        refine headY (v := ?_) (some 23) rfl rfl (Or.inl ⟨by rfl, ?_⟩) hS ?_
        rotate_left
        · rintro W' ⟨s0, s1⟩; go_simp; try with_reducible rfl
        simp only [Act.put, List.setIfInBounds_toArray, List.set_cons_zero, List.set_cons_succ]
        refine headY (v := ?_) (some 24) rfl rfl (Or.inl ⟨by rfl, ?_⟩) hS ?_
        rotate_left
        · rintro W' ⟨s0, s1⟩; go_simp; try with_reducible rfl
        simp only [Act.put, List.setIfInBounds_toArray, List.set_cons_zero, List.set_cons_succ]
        refine headY (v := ?_) (some 25) rfl rfl (Or.inl ⟨by rfl, ?_⟩) hS ?_
        rotate_left
        · rintro W' ⟨s0, s1⟩; go_simp; try with_reducible rfl
        simp only [Act.put, List.setIfInBounds_toArray, List.set_cons_zero, List.set_cons_succ]
        refine headY (v := ?_) (some 26) rfl rfl (Or.inl ⟨by rfl, ?_⟩) hS ?_
        rotate_left
        · rintro W' ⟨s0, s1⟩; go_simp; try with_reducible rfl
        simp only [Act.put, List.setIfInBounds_toArray, List.set_cons_zero, List.set_cons_succ]
        refine headY (v := ?_) (some 27) rfl rfl (Or.inl ⟨by rfl, ?_⟩) hS ?_
        rotate_left
        · rintro W' ⟨s0, s1⟩; go_simp; try with_reducible rfl
        simp only [Act.put, List.setIfInBounds_toArray, List.set_cons_zero, List.set_cons_succ]
        refine headY (v := ?_) (some 28) rfl rfl (Or.inl ⟨by rfl, ?_⟩) hS ?_
        rotate_left
        · rintro W' ⟨s0, s1⟩; go_simp; try with_reducible rfl
        simp only [Act.put, List.setIfInBounds_toArray, List.set_cons_zero, List.set_cons_succ]
        refine headY (v := ?_) (some 29) rfl rfl (Or.inl ⟨by rfl, ?_⟩) hS ?_
        rotate_left
        · rintro W' ⟨s0, s1⟩; go_simp; try with_reducible rfl
        simp only [Act.put, List.setIfInBounds_toArray, List.set_cons_zero, List.set_cons_succ]
        refine headY (v := ?_) (some 30) rfl rfl (Or.inl ⟨by rfl, ?_⟩) hS ?_
        rotate_left
        · rintro W' ⟨s0, s1⟩; go_simp; try with_reducible rfl
        simp only [Act.put, List.setIfInBounds_toArray, List.set_cons_zero, List.set_cons_succ]
        refine headY (v := ?_) (some 31) rfl rfl (Or.inl ⟨by rfl, ?_⟩) hS ?_
        rotate_left
        · rintro W' ⟨s0, s1⟩; go_simp; try with_reducible rfl
        simp only [Act.put, List.setIfInBounds_toArray, List.set_cons_zero, List.set_cons_succ]
        refine headY (v := ?_) (some 32) rfl rfl (Or.inl ⟨by rfl, ?_⟩) hS ?_
        rotate_left
        · rintro W' ⟨s0, s1⟩; go_simp; try with_reducible rfl
        simp only [Act.put, List.setIfInBounds_toArray, List.set_cons_zero, List.set_cons_succ]
        refine headY (v := ?_) (some 33) rfl rfl (Or.inl ⟨by rfl, ?_⟩) hS ?_
        rotate_left
        · rintro W' ⟨s0, s1⟩; go_simp; try with_reducible rfl
        simp only [Act.put, List.setIfInBounds_toArray, List.set_cons_zero, List.set_cons_succ]
        refine headY (v := ?_) (some 34) rfl rfl (Or.inl ⟨by rfl, ?_⟩) hS ?_
        rotate_left
        · rintro W' ⟨s0, s1⟩; go_simp; try with_reducible rfl
        simp only [Act.put, List.setIfInBounds_toArray, List.set_cons_zero, List.set_cons_succ]
        refine headY (v := ?_) (some 35) rfl rfl (Or.inl ⟨by rfl, ?_⟩) hS ?_
        rotate_left
        · rintro W' ⟨s0, s1⟩; go_simp; try with_reducible rfl
        simp only [Act.put, List.setIfInBounds_toArray, List.set_cons_zero, List.set_cons_succ]
        refine headY (v := ?_) (some 36) rfl rfl (Or.inl ⟨by rfl, ?_⟩) hS ?_
        rotate_left
        · rintro W' ⟨s0, s1⟩; go_simp; try with_reducible rfl
        simp only [Act.put, List.setIfInBounds_toArray, List.set_cons_zero, List.set_cons_succ]
        refine headY (v := ?_) (some 37) rfl rfl (Or.inl ⟨by rfl, ?_⟩) hS ?_
        rotate_left
        · rintro W' ⟨s0, s1⟩; go_simp; try with_reducible rfl
        simp only [Act.put, List.setIfInBounds_toArray, List.set_cons_zero, List.set_cons_succ]
        refine headY (v := ?_) (some 38) rfl rfl (Or.inl ⟨by rfl, ?_⟩) hS ?_
        rotate_left
        · rintro W' ⟨s0, s1⟩; go_simp; try with_reducible rfl
        simp only [Act.put, List.setIfInBounds_toArray, List.set_cons_zero, List.set_cons_succ]
        refine headY (v := ?_) (some 39) rfl rfl (Or.inl ⟨by rfl, ?_⟩) hS ?_
        rotate_left
        · rintro W' ⟨s0, s1⟩; go_simp; try with_reducible rfl
        simp only [Act.put, List.setIfInBounds_toArray, List.set_cons_zero, List.set_cons_succ]
        refine headC rfl (fun KK hK => ?_)
        go_simp
        refine hle.out.mono ?_
        rintro e w2 ⟨n2, rfl, rfl⟩
        refine hK _ _ hS ?_
        clear hK KK
        refine headY (v := ?_) (some 41) rfl rfl (Or.inl ⟨by rfl, ?_⟩) hS ?_
        rotate_left
        · rintro W' ⟨s0, s1⟩; go_simp; try with_reducible rfl
        simp only [Act.put, List.setIfInBounds_toArray, List.set_cons_zero, List.set_cons_succ]
        refine headY (v := ?_) (some 42) rfl rfl (Or.inl ⟨by rfl, ?_⟩) hS ?_
        rotate_left
        · rintro W' ⟨s0, s1⟩; go_simp; try with_reducible rfl
        simp only [Act.put, List.setIfInBounds_toArray, List.set_cons_zero, List.set_cons_succ]
        refine head0 ?_
        simp only [List.drop_succ_cons, List.drop_zero]
        clear hS
        go_wp2
        refine NoPanic.normal ?_
        go_wp2
        go_roundw
        case measure => simp [intOf]; omega
        case rel => exact ⟨k + 2, _, by omega, by go_num, rfl⟩
    · obtain rfl : k = u.length := by omega
      go_wp2
      go_ret
      exact ⟨n, rfl, rfl⟩
end Go.Proofs.YtbpdmpcakenjhaaDoor

namespace Go.Proofs.YtbpdmpcakenjhaaDoor
open Go.RowKit
set_option maxRecDepth 100000

/-- What Path answers, as one list: the first of the shortest ways, or none. -/
def WayList (adj : Nat → List Nat) (a b : Nat) (u : List Nat) : Prop := (u ≠ [] ∧ IsFirst adj a b u) ∨ (u = [] ∧ ¬ Goes adj a b)
theorem FirstPost.list {w w' : World} {adj : Nat → List Nat} {a b : Nat} {x : Value} (h : FirstPost w adj a b x w') : ∃ u, WayList adj a b u ∧ OwnI w.heap.size w' x (castI u) := by
  rcases h with ⟨u, h1, h2⟩ | ⟨h1, rfl⟩
  · exact ⟨u, .inl ⟨by intro e; subst e; exact absurd h1.way.pos (by simp), h1⟩, h2⟩
  · exact ⟨[], .inr ⟨rfl, h1⟩, OwnI.nil _ _⟩
theorem WayList.goes {adj : Nat → List Nat} {a b : Nat} {u : List Nat} (h : WayList adj a b u) : u ≠ [] ↔ Goes adj a b := by
  rcases h with ⟨h1, h2⟩ | ⟨h1, h2⟩
  · exact ⟨fun _ => h2.way.goes, fun _ => h1⟩
  · exact ⟨fun q => absurd h1 q, fun q => absurd q h2⟩
theorem WayList.chain {G : List (List Int)} (hok : GraphOk G) {a b : Nat} {u : List Nat} (h : WayList (adjOf G) a b u) (ha : a < G.length) : ChainOk G u := by
  rcases h with ⟨_, h2⟩ | ⟨h1, _⟩
  · exact way_chain hok h2.way ha
  · subst h1; exact ChainOk.nil G
theorem WayList.len {G : List (List Int)} (hok : GraphOk G) {a b : Nat} {u : List Nat} (h : WayList (adjOf G) a b u) (ha : a < G.length) : u.length ≤ G.length := by
  have hc := h.chain hok ha
  rcases h with ⟨_, q⟩ | ⟨q, _⟩
  · exact nodup_len G.length u q.nodup (fun x hx => by
      obtain ⟨i, hi⟩ := List.mem_iff_getElem?.1 hx
      exact (hc i x hi).1)
  · subst q; simp
/-- The ends. -/
theorem way_ends {adj : Nat → List Nat} {x y : Nat} {w : List Nat} (h : Way adj x y w) : w[0]? = some x ∧ w[w.length - 1]? = some y := by
  induction h with
  | one x => exact ⟨rfl, rfl⟩
  | @cons x t y w ht h ih =>
    refine ⟨rfl, ?_⟩
    have := h.pos
    rw [List.length_cons, Nat.add_sub_cancel, ← ih.2]
    obtain ⟨n, hn⟩ : ∃ n, w.length = n + 1 := ⟨w.length - 1, by omega⟩
    rw [hn, Nat.add_sub_cancel]; rfl
/-- A way in the graph with the end doubled, its last vertex left away. -/
theorem wide_way {G : List (List Int)} (hok : GraphOk G) {v : Nat} {x e : Nat} {u : List Nat} (h : Way (adjOf (wideG G v)) x e u) (he : e = G.length) (hx : x < G.length) : ∃ y, y < G.length ∧ v ∈ adjOf G y ∧ Way (adjOf G) x y u.dropLast := by
  induction h with
  | one x => omega
  | @cons x t y w ht h ih =>
    rcases (wide_adj hok v hx t).1 ht with ⟨_, h1, h2⟩ | ⟨h1, h2⟩
    · obtain ⟨z, z1, z2, z3⟩ := ih he h2
      have := h.pos
      refine ⟨z, z1, z2, ?_⟩
      rw [List.dropLast_cons_of_ne_nil (by intro q; subst q; simp at this)]
      exact .cons h1 z3
    · subst h1
      refine ⟨x, hx, h2, ?_⟩
      cases h with
      | one => exact .one x
      | cons ht' _ => rw [wide_end] at ht'; cases ht'
/-- What Loop answers, as one list: a way from a to a vertex with an arrow back to a; or none. -/
def LoopList (G : List (List Int)) (a : Nat) (l : List Nat) : Prop := l = [] ∨ ∃ y, y < G.length ∧ a ∈ adjOf G y ∧ Way (adjOf G) a y l
theorem LoopWay.list {w w' : World} {G : List (List Int)} (hok : GraphOk G) {a : Nat} (ha : a < G.length) {x : Value} (h : LoopWay w G a x w') : ∃ l, LoopList G a l ∧ OwnI w.heap.size w' x (castI l) := by
  rcases h with ⟨u, h1, h2⟩ | ⟨_, rfl⟩
  · exact ⟨u.dropLast, .inr (wide_way hok h1.way rfl ha), h2⟩
  · exact ⟨[], .inl rfl, OwnI.nil _ _⟩
theorem LoopList.chain {G : List (List Int)} (hok : GraphOk G) {a : Nat} {l : List Nat} (h : LoopList G a l) (ha : a < G.length) : ChainOk G l := by
  rcases h with h | ⟨y, _, _, h⟩
  · subst h; exact ChainOk.nil G
  · exact way_chain hok h ha
end Go.Proofs.YtbpdmpcakenjhaaDoor

namespace Go.Proofs.YtbpdmpcakenjhaaDoor
open Go.RowKit

theorem IntsAt.piece {w : World} {a : Option Addr} {cap : Nat} {xs : List Int} (h : IntsAt w (.slice a xs.length cap) xs) (k l : Nat) (hk : k ≤ l) (hl : l ≤ xs.length) :
    IntsAt w (sliced a k l cap 1) ((xs.take l).drop k) := by
  obtain ⟨a', cap', e, h1, h2, h3, h4⟩ := h
  injection e with e1 _ e3
  subst e1 e3
  have hlen : ((xs.take l).drop k).length = l - k := by simp; omega
  refine ⟨if cap = k then a else a.map (·.add (k * 1)), cap - k, by rw [hlen]; rfl, by rw [hlen]; omega, by omega, ?_, fun i hi => ?_⟩
  · intro hn
    by_cases hc : cap = k
    · omega
    · rw [if_neg hc] at hn
      have := h3 (Option.map_eq_none_iff.1 hn)
      omega
  · rw [hlen] at hi
    have hc : ¬ cap = k := by omega
    show w.cell? (valAt (.slice (if cap = k then a else a.map (·.add (k * 1))) _ _) i) = _
    rw [if_neg hc]
    cases a with
    | none => have := h3 rfl; omega
    | some p =>
      have h5 := h4 (k + i) (by omega)
      simp only [valAt] at h5
      show w.cell? ((p.add (k * 1)).add i) = _
      rw [Nat.mul_one, show (p.add k).add i = p.add (k + i) by unfold Addr.add; by_cases hk0 : k = 0 <;> by_cases hi0 : i = 0 <;> simp [hk0, hi0, Nat.add_assoc], h5]
      simp

/-- s[k:]. -/
theorem IntsAt.post {w : World} {v : Value} {xs : List Int} (h : IntsAt w v xs) (k : Nat) (hk : k ≤ xs.length) :
    ∃ u, (∀ w', (Instr.slice 22 v (some (.int .i64 k)) none none).run Tryd.prog w' = .ok u w') ∧ IntsAt w u (xs.drop k) := by
  have h' := h
  obtain ⟨a, cap, rfl, _⟩ := h'
  refine ⟨sliced a k xs.length cap 1, fun w' => ?_, ?_⟩
  · rw [run_slice_l w' 22 a xs.length cap uIntsE .i64 k (by omega) (by omega), eInts, sInt]
    rfl
  · have := h.piece k xs.length hk (Nat.le_refl _)
    rwa [List.take_length] at this

/-- s[k:l]. -/
theorem IntsAt.mid {w : World} {v : Value} {xs : List Int} (h : IntsAt w v xs) (k l : Nat) (hk : k ≤ l) (hl : l ≤ xs.length) :
    ∃ u, (∀ w', (Instr.slice 22 v (some (.int .i64 k)) (some (.int .i64 l)) none).run Tryd.prog w' = .ok u w') ∧ IntsAt w u ((xs.take l).drop k) := by
  have h' := h
  obtain ⟨a, cap, rfl, h1, _⟩ := h'
  refine ⟨sliced a k l cap 1, fun w' => ?_, h.piece k l hk hl⟩
  rw [run_slice_lh w' 22 a xs.length cap uIntsE .i64 .i64 k l (by omega) (by omega) (by omega), eInts, sInt]
  rfl

/-- s[:l]. -/
theorem IntsAt.front {w : World} {v : Value} {xs : List Int} (h : IntsAt w v xs) (l : Nat) (hl : l ≤ xs.length) :
    ∃ u, (∀ w', (Instr.slice 22 v none (some (.int .i64 l)) none).run Tryd.prog w' = .ok u w') ∧ IntsAt w u (xs.take l) := by
  have h' := h
  obtain ⟨a, cap, rfl, h1, _⟩ := h'
  refine ⟨sliced a 0 l cap 1, fun w' => ?_, ?_⟩
  · rw [run_slice_h w' 22 a xs.length cap uIntsE .i64 l (by omega) (by omega), eInts, sInt]
    rfl
  · have := h.piece 0 l (Nat.zero_le _) hl
    simpa using this
end Go.Proofs.YtbpdmpcakenjhaaDoor

namespace Go.Proofs.YtbpdmpcakenjhaaDoor
open Go.RowKit
set_option maxRecDepth 100000

theorem Goes.loop {adj : Nat → List Nat} {x y : Nat} (h : Goes adj x y) (ha : x ∈ adj y) : OnLoop adj x := by
  obtain ⟨w, hw⟩ := h.way
  cases hw with
  | one => exact ⟨x, ha, .refl x⟩
  | @cons _ t _ w ht hw => exact ⟨t, ht, .step hw.goes ha⟩
theorem goes_wide {G : List (List Int)} (hok : GraphOk G) {v x y : Nat} (h : Goes (adjOf G) x y) (hx : x < G.length) (hv : v < G.length) (hy : v ∈ adjOf G y) : Goes (adjOf (wideG G v)) x G.length := by
  have hw : ∀ {w : List Nat} {x y : Nat}, Way (adjOf G) x y w → x < G.length → v ∈ adjOf G y → Goes (adjOf (wideG G v)) x G.length := by
    intro w x y h
    induction h with
    | one x => exact fun hx hy => .one ((wide_adj hok v hx _).2 (.inr ⟨rfl, hy⟩))
    | @cons x t y w ht h ih =>
      intro hx hy
      by_cases e : t = v
      · subst e; exact .one ((wide_adj hok t hx _).2 (.inr ⟨rfl, ht⟩))
      · have htn := hok.lt x hx t ht
        exact .trans (.one ((wide_adj hok v hx t).2 (.inl ⟨e, ht, htn⟩))) (ih htn hy)
  obtain ⟨w, hw'⟩ := h.way
  exact hw hw' hx hy
theorem LoopWay.on {w w' : World} {G : List (List Int)} (hok : GraphOk G) {a : Nat} (ha : a < G.length) {x : Value} (h : LoopWay w G a x w') :
    ∃ l : List Nat, (l ≠ [] ↔ OnLoop (adjOf G) a) ∧ OwnI w.heap.size w' x (castI l) := by
  rcases h with ⟨u, h1, h2⟩ | ⟨h1, rfl⟩
  · refine ⟨u.dropLast, ⟨fun _ => ?_, fun _ => ?_⟩, h2⟩
    · obtain ⟨y, hy, h3, h4⟩ := wide_way hok h1.way rfl ha
      exact h4.goes.loop h3
    · obtain ⟨y, hy, h3, h4⟩ := wide_way hok h1.way rfl ha
      exact List.length_pos_iff.1 h4.pos
  · refine ⟨[], ⟨fun q => absurd rfl q, fun ⟨t, ht, hg⟩ => absurd ?_ h1⟩, OwnI.nil _ _⟩
    cases hg with
    | refl => exact .one ((wide_adj hok a ha _).2 (.inr ⟨rfl, ht⟩))
    | @step y z hg hz =>
      have htn := hok.lt a ha t ht
      by_cases e : t = a
      · subst e; exact .one ((wide_adj hok t ha _).2 (.inr ⟨rfl, ht⟩))
      · exact .trans (.one ((wide_adj hok a ha t).2 (.inl ⟨e, ht, htn⟩))) (goes_wide hok hg htn ha hz)
/-- What the loop over all vertices has seen. -/
def SeenLive (G : List (List Int)) (v k : Nat) (a b : Bool) : Prop :=
  (a = true ↔ ∃ u, u < k ∧ OnLoop (adjOf G) u ∧ Goes (adjOf G) u v) ∧ (b = true ↔ ∃ u, u < k ∧ OnLoop (adjOf G) u ∧ Goes (adjOf G) v u)
theorem SeenLive.zero (G : List (List Int)) (v : Nat) : SeenLive G v 0 false false := by
  refine ⟨⟨fun q => (by cases q), ?_⟩, ⟨fun q => (by cases q), ?_⟩⟩
  all_goals
    rintro ⟨_, q, _⟩; omega
theorem SeenLive.pass {G : List (List Int)} {v k : Nat} {a b : Bool} (h : SeenLive G v k a b) (hn : ¬ OnLoop (adjOf G) k) : SeenLive G v (k + 1) a b := by
  refine ⟨h.1.trans ⟨?_, ?_⟩, h.2.trans ⟨?_, ?_⟩⟩
  · rintro ⟨u, h1, h2⟩; exact ⟨u, by omega, h2⟩
  rotate_left
  · rintro ⟨u, h1, h2⟩; exact ⟨u, by omega, h2⟩
  all_goals
    rintro ⟨u, h1, h2, h3⟩
    refine ⟨u, ?_, h2, h3⟩
  · by_cases e : u = k
    · subst e; exact absurd h2 hn
    · omega
  · by_cases e : u = k
    · subst e; exact absurd h2 hn
    · omega
theorem SeenLive.step {G : List (List Int)} {v k : Nat} {a b p q : Bool} (h : SeenLive G v k a b) (hn : OnLoop (adjOf G) k) (hp : p = true ↔ Goes (adjOf G) k v) (hq : q = true ↔ Goes (adjOf G) v k) : SeenLive G v (k + 1) (a || p) (b || q) := by
  refine ⟨?_, ?_⟩
  · rw [Bool.or_eq_true, h.1, hp]
    constructor
    · rintro (⟨u, h1, h2⟩ | h1)
      · exact ⟨u, by omega, h2⟩
      · exact ⟨k, by omega, hn, h1⟩
    · rintro ⟨u, h1, h2, h3⟩
      by_cases e : u = k
      · subst e; exact .inr h3
      · exact .inl ⟨u, by omega, h2, h3⟩
  · rw [Bool.or_eq_true, h.2, hq]
    constructor
    · rintro (⟨u, h1, h2⟩ | h1)
      · exact ⟨u, by omega, h2⟩
      · exact ⟨k, by omega, hn, h1⟩
    · rintro ⟨u, h1, h2, h3⟩
      by_cases e : u = k
      · subst e; exact .inr h3
      · exact .inl ⟨u, by omega, h2, h3⟩
theorem SeenLive.end_ {G : List (List Int)} {v : Nat} {a b : Bool} {L : List Nat} (h : SeenLive G v G.length a b) (hL : LiveList G.length (adjOf G) L) (hv : v < G.length) : (decide (v ∈ L) == (a && b)) = true := by
  rw [beq_iff_eq, Bool.eq_iff_iff, decide_eq_true_iff, Bool.and_eq_true, h.1, h.2, hL.mem]
  exact ⟨fun q => q.2, fun q => ⟨hv, q⟩⟩

/-- Is v among the first k? -/
def isIn (L : List Nat) (v k : Nat) : Bool := decide (v ∈ L.take k)
theorem isIn_zero (L : List Nat) (v : Nat) : isIn L v 0 = false := by simp [isIn]
theorem isIn_step {L : List Nat} {v k x : Nat} (h : L[k]? = some x) : isIn L v (k + 1) = (isIn L v k || ((x : Int) == (v : Int))) := by
  unfold isIn
  rw [List.take_add_one, h, Bool.eq_iff_iff, decide_eq_true_iff, Bool.or_eq_true, decide_eq_true_iff, beq_iff_eq]
  simp only [Option.toList, List.mem_append, List.mem_singleton]
  constructor
  · rintro (q | q)
    · exact .inl q
    · exact .inr (by omega)
  · rintro (q | q)
    · exact .inl q
    · exact .inr (by omega)
theorem isIn_all (L : List Nat) (v : Nat) : isIn L v L.length = decide (v ∈ L) := by simp [isIn]

set_option maxHeartbeats 8000000 in
theorem graphLives_any (r : Nat → Addr) (na : Option Addr) (nc : Nat) (G : List (List Int)) (v : Int) (w : World) (hg : Glob r w) (h : ListsAt w (.slice na G.length nc) G) (hsz : ∀ k, k < G.length → (G.getD k []).length ≤ 17592186044416) :
    Calls Tryd.prog 5 #[.slice na G.length nc, .int .i64 v] w (Ret1 (fun x _ => x = .bool true) w) := by
  replace hg := Lib.hid hg
  replace h := Lib.hid h
  replace hsz := Lib.hid hsz
  go_enter Tryd.func5, Tryd.ntmps5
  go_wp2_with fail
  refine (awake12 r _ hg.out).mono ?_
  rintro e w1 ⟨_, rfl, b1, rfl⟩
  go_wp2_with fail
  refine (vertex_any r na nc G v w1 (hg.out.below b1) (h.out.below b1) hsz.out).mono ?_
  rintro e w2 ⟨x, rfl, b2, v1, rfl, hv1⟩
  have b02 := Below.step b1 b2
  cases v1 with
  | false =>
    clear hv1
    go_wp2
    go_ret
    exact ⟨_, rfl, b02, rfl⟩
  | true =>
    obtain ⟨hn, harr, hck, v, rfl, hv⟩ := hv1 rfl
    clear hv1
    by_cases h60 : 60 < G.length
    · go_wp2
      go_ret
      exact ⟨_, rfl, b02, rfl⟩
    have hok := (checkG_none hck).2.2
    have hpath := fun (W : World) (x y : Nat) (hx : x < G.length) (hy : y < G.length) (bW : Below w.heap.size w W) => show Calls Tryd.prog 19 #[.slice na G.length nc, .int .i64 x, .int .i64 y] W (Ret2 (fun z e W' => e = .nilIface ∧ ∃ u, WayList (adjOf G) x y u ∧ OwnI W.heap.size W' z (castI u)) W) from by
      refine (path_any r na nc G x y W (hg.out.below bW) (h.out.below bW) hsz.out).mono ?_
      rintro e W' ⟨z, ev, rfl, bb, he, hf, _⟩
      rw [pathE_ok hck hx hy] at he
      have hf := hf (pathE_ok hck hx hy)
      rw [Int.toNat_natCast, Int.toNat_natCast] at hf
      exact ⟨_, _, rfl, bb, he.none_eq, hf.list⟩
    have hloop := fun (W : World) (x : Nat) (hx : x < G.length) (bW : Below w.heap.size w W) => show Calls Tryd.prog 21 #[.slice na G.length nc, .int .i64 x] W (Ret2 (fun z e W' => e = .nilIface ∧ ∃ l, (l ≠ [] ↔ OnLoop (adjOf G) x) ∧ OwnI W.heap.size W' z (castI l)) W) from by
      refine (loopG_any r na nc G x W (hg.out.below bW) (h.out.below bW) hsz.out).mono ?_
      rintro e W' ⟨z, ev, rfl, bb, he, hf, _⟩
      rw [loopE_ok hck hx] at he
      have hf := hf (loopE_ok hck hx)
      rw [Int.toNat_natCast] at hf
      exact ⟨_, _, rfl, bb, he.none_eq, hf.on hok hx⟩
    replace hpath := Lib.hid hpath
    replace hloop := Lib.hid hloop
    replace hck := Lib.hid hck
    replace hok := Lib.hid hok
    go_wp2_with fail
    refine (live_any r na nc G w2 (hg.out.below b02) (h.out.below b02) hsz.out).mono ?_
    rintro e w3 ⟨lv, y, rfl, b3, he, hls, _⟩
    rw [hck.out] at he hls
    obtain rfl := he.none_eq
    obtain ⟨L, hL, hLo⟩ := hls rfl
    have b03 := Below.step b02 b3
    clear he hls
    have hLa := hLo.at
    have lL := hLa.len
    rw [castI_len] at lL
    have hll := hLa.len_le
    rw [castI_len] at hll
    have hsorted := hL.sorted
    replace hL := Lib.hid hL
    replace hLo := Lib.hid hLo
    replace hLa := Lib.hid hLa
    replace hsorted := Lib.hid hsorted
    go_wp2_with fail
    go_loopw [7, 8] (fun sv kv wr => ∃ k n : Nat, k ≤ L.length ∧ kv = .int .i64 k ∧ sv = .bool (isIn L v k) ∧ wr = w3.drewN n) (fun _ kv _ => L.length - (intOf kv).toNat)
    case atStart => exact ⟨0, 0, by omega, rfl, by rw [isIn_zero], rfl⟩
    case round =>
      obtain ⟨k, n, hk, rfl, rfl, rfl⟩ := hrel
      by_cases hlt : k < L.length
      · obtain ⟨x, hx⟩ : ∃ x, L[k]? = some x := ⟨_, List.getElem?_eq_getElem hlt⟩
        have hst := isIn_step (v := v) hx
        have iX := fun w' => hLa.out.idx k (by rw [castI_len]; exact hlt) w'
        have cX := hLa.out.cellD k (by rw [castI_len]; exact hlt)
        rw [castI_get hx] at cX
        obtain ⟨s2, hs2⟩ : ∃ s2, isIn L v (k + 1) = s2 := ⟨_, rfl⟩
        rw [hs2] at hst
        replace hs2 := Lib.hid hs2
        generalize isIn L v k = s1 at *
        by_cases hk0 : k = 0
        · have hgt : decide ((0 : Int) < (k : Int)) = false := by simp; omega
          have hgt2 : decide (0 < k) = false := by simp; omega
          generalize valAt lv k = xa at *
          replace hx := Lib.hid hx
          replace hk0 := Lib.hid hk0
          go_upto_region 12 with fail
          go_quiet (fail)
          cases hs1 : s1 with
          | true =>
            rw [hs1, Bool.true_or] at hst
            replace hs1 := Lib.hid hs1
            go_wp2
            go_roundw
            case measure => simp [intOf]; omega
            case rel => exact ⟨k + 1, _, by omega, by go_num, by rw [hs2.out, hst], rfl⟩
          | false =>
            rw [hs1, Bool.false_or] at hst
            replace hs1 := Lib.hid hs1
            replace hst := Lib.hid hst
            go_wp2
            go_roundw
            case measure => simp [intOf]; omega
            case rel => exact ⟨k + 1, _, by omega, by go_num, by rw [hs2.out, hst.out], rfl⟩
        · obtain ⟨j, hj⟩ : ∃ j, k = j + 1 := ⟨k - 1, by omega⟩
          obtain ⟨y, hy⟩ : ∃ y, L[j]? = some y := ⟨_, List.getElem?_eq_getElem (by omega)⟩
          have iY := fun w' => hLa.out.idx j (by rw [castI_len]; omega) w'
          have cY := hLa.out.cellD j (by rw [castI_len]; omega)
          rw [castI_get hy] at cY
          have hyx : decide ((x : Int) ≤ (y : Int)) = false := by
            have q := List.pairwise_iff_getElem.1 hsorted.out j k (by omega) hlt (by omega)
            rw [List.getElem?_eq_getElem (by omega)] at hx hy
            injection hx with hx
            injection hy with hy
            rw [hx, hy] at q
            simp; omega
          have hwr : IntKind.i64.wrap ((k : Int) - 1) = (j : Int) := by
            rw [show (k : Int) - 1 = (j : Int) by omega]; exact wrapK (by omega) (by omega)
          have hgt : decide ((0 : Int) < (k : Int)) = true := by simp; omega
          have hgt2 : decide (0 < k) = true := by simp; omega
          have hyx2 : decide (x ≤ y) = false := by simpa using hyx
          generalize valAt lv j = ya at *
          generalize valAt lv k = xa at *
          replace hx := Lib.hid hx
          replace hy := Lib.hid hy
          replace hj := Lib.hid hj
          go_upto_region 12 with fail
          go_quiet (fail)
          cases hs1 : s1 with
          | true =>
            rw [hs1, Bool.true_or] at hst
            replace hs1 := Lib.hid hs1
            go_wp2
            go_roundw
            case measure => simp [intOf]; omega
            case rel => exact ⟨k + 1, _, by omega, by go_num, by rw [hs2.out, hst], rfl⟩
          | false =>
            rw [hs1, Bool.false_or] at hst
            replace hs1 := Lib.hid hs1
            replace hst := Lib.hid hst
            go_wp2
            go_roundw
            case measure => simp [intOf]; omega
            case rel => exact ⟨k + 1, _, by omega, by go_num, by rw [hs2.out, hst.out], rfl⟩
      · obtain rfl : k = L.length := by omega
        rw [isIn_all]
        obtain ⟨s, hs⟩ : ∃ s, decide (v ∈ L) = s := ⟨_, rfl⟩
        rw [hs]
        replace hs := Lib.hid hs
        have b3n : Below w.heap.size w (w3.drewN n) := below_drewN b03 n
        generalize w3.drewN n = w4 at *
        go_wp2_with fail
        go_loopw [9, 10, 11] (fun av bv kv wr => ∃ (k : Nat) (a b : Bool), k ≤ G.length ∧ kv = .int .i64 k ∧ av = .bool a ∧ bv = .bool b ∧ SeenLive G v k a b ∧ Below w.heap.size w wr) (fun _ _ kv _ => G.length - (intOf kv).toNat)
        case atStart => exact ⟨0, _, _, by omega, rfl, rfl, rfl, SeenLive.zero G v, b3n⟩
        case round =>
          obtain ⟨k, a, b, hk, rfl, rfl, rfl, hseen, bw⟩ := hrel
          by_cases hlt : k < G.length
          · replace hseen := Lib.hid hseen
            go_wp2_with fail
            refine (hloop.out _ k hlt bw).mono ?_
            rintro e w5 ⟨cv, _, rfl, b5, rfl, l, hl, hlo⟩
            have b05 := Below.step bw b5
            have lC := hlo.at.len
            rw [castI_len] at lC
            replace hlo := Lib.hid hlo
            cases l with
            | nil =>
              have lC0 : ∀ w' : World, (Builtin.len_ #[22] 3 #[cv]).run Tryd.prog w' = .ok (.int .i64 0) w' := fun w' => by rw [lC]; rfl
              clear lC
              replace hl := Lib.hid hl
              go_wp2
              go_roundw
              case measure => simp [intOf]; omega
              case rel => exact ⟨k + 1, a, b, by omega, by go_num, rfl, rfl, hseen.out.pass (fun q => absurd rfl (hl.out.2 q)), b05⟩
            | cons l0 ls =>
              have hon := hl.1 (by simp)
              have hq0 : (((l0 :: ls).length : Int) == 0) = false := by simp [List.length_cons]; omega
              generalize (l0 :: ls).length = ln at *
              clear hl
              replace hon := Lib.hid hon
              go_wp2_with fail
              refine (hpath.out w5 k v hlt hv b05).mono ?_
              rintro e w6 ⟨xv, _, rfl, b6, rfl, p, hp, hpo⟩
              have b06 := Below.step b05 b6
              have lX := hpo.at.len
              rw [castI_len] at lX
              replace hp := Lib.hid hp
              replace hpo := Lib.hid hpo
              go_wp2_with fail
              refine (hpath.out w6 v k hv hlt b06).mono ?_
              rintro e w7 ⟨yv, _, rfl, b7, rfl, q, hq, hqo⟩
              have b07 := Below.step b06 b7
              have lY := hqo.at.len
              rw [castI_len] at lY
              replace hq := Lib.hid hq
              replace hqo := Lib.hid hqo
              have hend := hseen.out.step (p := decide (0 < p.length)) (q := decide (0 < q.length)) hon.out (by
                rw [decide_eq_true_iff, ← hp.out.goes, ← List.length_pos_iff]) (by
                rw [decide_eq_true_iff, ← hq.out.goes, ← List.length_pos_iff])
              generalize p.length = pn at *
              generalize q.length = qn at *
              cases a with
              | true =>
                rw [Bool.true_or] at hend
                cases b with
                | true =>
                  rw [Bool.true_or] at hend
                  replace hend := Lib.hid hend
                  go_wp2
                  go_roundw
                  case measure => simp [intOf]; omega
                  case rel => exact ⟨k + 1, _, _, by omega, by go_num, rfl, rfl, hend.out, b07⟩
                | false =>
                  rw [Bool.false_or] at hend
                  replace hend := Lib.hid hend
                  go_wp2
                  go_roundw
                  case measure => simp [intOf]; omega
                  case rel => exact ⟨k + 1, _, _, by omega, by go_num, rfl, rfl, hend.out, b07⟩
              | false =>
                rw [Bool.false_or] at hend
                cases b with
                | true =>
                  rw [Bool.true_or] at hend
                  replace hend := Lib.hid hend
                  go_wp2
                  go_roundw
                  case measure => simp [intOf]; omega
                  case rel => exact ⟨k + 1, _, _, by omega, by go_num, rfl, rfl, hend.out, b07⟩
                | false =>
                  rw [Bool.false_or] at hend
                  replace hend := Lib.hid hend
                  go_wp2
                  go_roundw
                  case measure => simp [intOf]; omega
                  case rel => exact ⟨k + 1, _, _, by omega, by go_num, rfl, rfl, hend.out, b07⟩
          · obtain rfl : k = G.length := by omega
            have hend := hseen.end_ hL.out hv
            rw [hs.out] at hend
            clear hseen
            cases a with
            | true =>
              rw [Bool.true_and] at hend
              go_wp2
              go_ret
              exact ⟨_, rfl, bw, rfl⟩
            | false =>
              rw [Bool.false_and] at hend
              go_wp2
              go_ret
              exact ⟨_, rfl, bw, rfl⟩
end Go.Proofs.YtbpdmpcakenjhaaDoor

namespace Go.Proofs.YtbpdmpcakenjhaaDoor
open Go.ChangeShapes Go.WideShapes Go.ChangeAt Go.RowKit Go.Joins
set_option maxRecDepth 100000

theorem own : ownKnob Tryd.prog.godebug = none := by kernel_rfl
theorem laidOut : laidOutB Tryd.prog = true := by kernel_rfl
theorem cellsInt : Tryd.prog.cellsOf 3 = 1 := by kernel_rfl
theorem uInt : Tryd.prog.underlying 3 = some (.int .i64) := by kernel_rfl
theorem bytesInt : Tryd.prog.bytesOf 3 = 8 := by kernel_rfl

theorem i64_of_wf {n : Int} (h : (Lit.int .i64 n).wf = true) : I64 n := by
  have := bounds_i64 h
  unfold I64
  omega

/-- A []int that came in. -/
theorem open_intsV {H : Type} {enc : TypeId × Value → H} {W : World} {held : Bool} {fuel : Nat} {v : Value} {y : DataW H × List MemPlace}
    (h : DataW.trod enc Tryd.prog W 0 (fun _ => true) held fuel 22 [v] = some y) (hw : ∀ n ∈ y.1.weights Tryd.prog 22, n ≤ reachBytes) :
    ∃ xs, IntsAt W v xs ∧ xs.length ≤ 17592186043904 ∧ ∀ x ∈ xs, I64 x := by
  rcases open_ints uInts uInt cellsInt h with ⟨hcs, _⟩ | ⟨a, len, cap, zs, hcs, _, hl, hm, hz, hx, hcell, hwz⟩
  · simp at hcs
    subst hcs
    exact ⟨[], (OwnI.nil 0 W).at, by simp, by simp⟩
  · simp at hcs
    subst hcs
    simp only [if_true] at hz
    have hzl : (zs.take len).length = len := by simp; omega
    refine ⟨zs.take len, ⟨some a, cap, by rw [hzl], by rw [hzl]; exact hl, hm, (fun e => by cases e), fun i hi => ?_⟩, ?_, fun x hx => i64_of_wf (hwz x (List.mem_of_mem_take hx))⟩
    · have hi' : i < zs.length := by rw [hzl] at hi; omega
      show W.cell? (a.add i) = _
      rw [hcell i hi']
      simp [List.getD, hi']
    · rw [hx] at hw
      have := hw ((lits (H := H) .i64 (zs.take len)).length * 8 + (lits (H := H) .i64 (zs.drop len)).length * 8) (by
        simp only [DataW.weights, uInts, bytesInt, List.mem_cons]
        left; omega)
      simp only [lits, List.length_map, reachBytes] at this
      omega

theorem open_intsT {H : Type} {enc : TypeId × Value → H} {W : World} {held : Bool} {v : Value} {d : DataW H} {p : List MemPlace} {b0 : Nat}
    (hv : Value.okWide Tryd.prog W .any b0 22 v) (h : DataW.Trod enc Tryd.prog W 0 (fun _ => true) held 22 v d p) (hw : ∀ n ∈ d.weights Tryd.prog 22, n ≤ reachBytes) :
    ∃ xs, IntsAt W v xs ∧ xs.length ≤ 17592186043904 ∧ ∀ x ∈ xs, I64 x := by
  obtain ⟨a, l, c, rfl⟩ := okWide_slice uInts hv
  obtain ⟨fuel, hf⟩ := h
  exact open_intsV (y := (d, p)) (by simpa [Value.cells] using hf) hw

theorem weights_each3 {H : Type} {t0 t1 t2 : TypeId} {y0 y1 y2 : DataW H} {n : Nat} (h : n ∈ y2.weights Tryd.prog t2) : n ∈ DataW.weightsEach Tryd.prog [t0, t1, t2] [y0, y1, y2] := by
  simp only [DataW.weightsEach, List.mem_append]
  exact .inr (.inr (.inl h))

/-- A rule that came in. -/
theorem open_ruleV {H : Type} {enc : TypeId × Value → H} {W : World} {held : Bool} {v : Value} {d : DataW H} {p : List MemPlace} {b0 : Nat}
    (hv : Value.okWide Tryd.prog W .any b0 24 v) (h : DataW.Trod enc Tryd.prog W 0 (fun _ => true) held 24 v d p) (hw : ∀ n ∈ d.weights Tryd.prog 24, n ≤ reachBytes) :
    ∃ (k R : Int) (u : Value) (xs : List Int), v = .agg #[.int .i64 k, .int .i64 R, u] ∧ IntsAt W u xs ∧ xs.length ≤ 17592186043904 ∧ (∀ x ∈ xs, I64 x) ∧ I64 k ∧ I64 R := by
  obtain ⟨v0, v1, v2, y0, y1, y2, n, rfl, rfl, rfl, h0, h1, h2⟩ := open_agg3 Tryd.underlying24 (by kernel_rfl) (by kernel_rfl) hv h
  obtain ⟨a, e0, _, wa⟩ := DataW.trod_int uInt h0
  obtain ⟨b, e1, _, wb⟩ := DataW.trod_int uInt h1
  simp at e0 e1
  subst e0 e1
  obtain ⟨xs, hx, hl, hb⟩ := open_intsV h2 fun n hn => hw n (by
    simp only [DataW.weights, Tryd.underlying24]
    exact weights_each3 (t0 := 3) (t1 := 3) (t2 := 22) hn)
  exact ⟨a, b, v2, xs, rfl, hx, hl, hb, i64_of_wf wa, i64_of_wf wb⟩

/-! The package-level errors. -/
theorem star : "*" ++ "errors.errorString" = "*errors.errorString" := by decide
theorem rowES (u : TypeId) (h : Tryd.prog.typeName? 3 u = some "*errors.errorString") : u = 174 :=
  typeName_ptr_named (nm := "errors.errorString") (by rw [star]; kernel_rfl) (by kernel_rfl) (by decide) u (by rw [star]; exact h)
theorem pES : Tryd.prog.underlying 174 = some (.pointer 195) := by kernel_rfl
theorem cES : Tryd.prog.cellsOf 195 = 1 := by kernel_rfl
theorem cStr : Tryd.prog.cellsOf 9 = 1 := by kernel_rfl

def laid12 : List (String × DataW Unit) := [("eden/api.BadRule", Rows.laid_eden_api_BadRule), ("eden/api.BadWord", Rows.laid_eden_api_BadWord), ("eden/api.BadArg", Rows.laid_eden_api_BadArg), ("eden/api.TooBig", Rows.laid_eden_api_TooBig), ("eden/api.NoBudget", Rows.laid_eden_api_NoBudget), ("eden/api.BadText", Rows.laid_eden_api_BadText), ("eden/api.BadPatch", Rows.laid_eden_api_BadPatch), ("eden/api.BadCert", Rows.laid_eden_api_BadCert), ("eden/api.NoInverse", Rows.laid_eden_api_NoInverse), ("eden/api.BadLine", Rows.laid_eden_api_BadLine), ("eden/api.BadState", Rows.laid_eden_api_BadState), ("eden/api.Unknown", Rows.laid_eden_api_Unknown)]

theorem sentinel {n : String} {text : List UInt8} {r : List (String × DataW Unit)} {W : World} {g : Nat}
    (h : laidMet Tryd.prog ((n, .iface "*errors.errorString" (.ptr (.agg [.lit (.string text)]))) :: r) W)
    (hg : Tryd.prog.globalNamed n = some g) (ht : (Tryd.prog.globals[g]?).map (·.type) = some 27) :
    (∃ a : Addr, W.cell? ⟨g, 0, none⟩ = some (.iface 174 (.pointer (some a))) ∧ ∃ s, W.cell? a = some (.string s) ∧ s.data.toList = text) ∧ laidMet Tryd.prog r W := by
  refine ⟨?_, h.tail⟩
  obtain ⟨a, s, hv, hc, hs, _⟩ := laid_sentinel h hg ht Tryd.underlying27 rowES pES Tryd.underlying195 rfl rfl Tryd.underlying9 cES cStr
  exact ⟨a, by simpa using World.var?_cell hg hv 0, s, hc, hs⟩

def txt : Nat → List UInt8
  | 1 => [98, 97, 100, 32, 114, 117, 108, 101]
  | 2 => [98, 97, 100, 32, 119, 111, 114, 100]
  | 3 => [98, 97, 100, 32, 97, 114, 103, 117, 109, 101, 110, 116]
  | 4 => [116, 111, 111, 32, 98, 105, 103]
  | 5 => [110, 111, 32, 98, 117, 100, 103, 101, 116]
  | 6 => [98, 97, 100, 32, 116, 101, 120, 116]
  | 7 => [98, 97, 100, 32, 112, 97, 116, 99, 104]
  | 8 => [98, 97, 100, 32, 99, 101, 114, 116, 105, 102, 105, 99, 97, 116, 101]
  | 9 => [110, 111, 32, 105, 110, 118, 101, 114, 115, 101]
  | 10 => [98, 97, 100, 32, 108, 105, 110, 101]
  | 11 => [98, 97, 100, 32, 115, 116, 97, 116, 101]
  | 99 => [117, 110, 107, 110, 111, 119, 110]
  | _ => []
theorem txt_apart : ∀ m n : Fin 12, 1 ≤ m.val → 1 ≤ n.val → txt m.val = txt n.val → m = n := by decide

theorem glob_of_laid {W : World} (h : laidMet Tryd.prog laid12 W) : ∃ r, Glob r W := by
  obtain ⟨⟨a1, c1, s1, e1, t1⟩, h⟩ := sentinel (text := txt 1) h (g := 0) (by kernel_rfl) (by kernel_rfl)
  obtain ⟨⟨a2, c2, s2, e2, t2⟩, h⟩ := sentinel (text := txt 2) h (g := 1) (by kernel_rfl) (by kernel_rfl)
  obtain ⟨⟨a3, c3, s3, e3, t3⟩, h⟩ := sentinel (text := txt 3) h (g := 2) (by kernel_rfl) (by kernel_rfl)
  obtain ⟨⟨a4, c4, s4, e4, t4⟩, h⟩ := sentinel (text := txt 4) h (g := 3) (by kernel_rfl) (by kernel_rfl)
  obtain ⟨⟨a5, c5, s5, e5, t5⟩, h⟩ := sentinel (text := txt 5) h (g := 4) (by kernel_rfl) (by kernel_rfl)
  obtain ⟨⟨a6, c6, s6, e6, t6⟩, h⟩ := sentinel (text := txt 6) h (g := 5) (by kernel_rfl) (by kernel_rfl)
  obtain ⟨⟨a7, c7, s7, e7, t7⟩, h⟩ := sentinel (text := txt 7) h (g := 6) (by kernel_rfl) (by kernel_rfl)
  obtain ⟨⟨a8, c8, s8, e8, t8⟩, h⟩ := sentinel (text := txt 8) h (g := 7) (by kernel_rfl) (by kernel_rfl)
  obtain ⟨⟨a9, c9, s9, e9, t9⟩, h⟩ := sentinel (text := txt 9) h (g := 8) (by kernel_rfl) (by kernel_rfl)
  obtain ⟨⟨a10, c10, s10, e10, t10⟩, h⟩ := sentinel (text := txt 10) h (g := 9) (by kernel_rfl) (by kernel_rfl)
  obtain ⟨⟨a11, c11, s11, e11, t11⟩, h⟩ := sentinel (text := txt 11) h (g := 10) (by kernel_rfl) (by kernel_rfl)
  obtain ⟨⟨a99, c99, s99, e99, t99⟩, h⟩ := sentinel (text := txt 99) h (g := 11) (by kernel_rfl) (by kernel_rfl)
  clear h
  have key : ∀ n : Nat, (1 ≤ n ∧ n ≤ 11) ∨ n = 99 → ∃ s, W.cell? ((fun n : Nat => match n with | 1 => a1 | 2 => a2 | 3 => a3 | 4 => a4 | 5 => a5 | 6 => a6 | 7 => a7 | 8 => a8 | 9 => a9 | 10 => a10 | 11 => a11 | _ => a99) n) = some (.string s) ∧ s.data.toList = txt n := by
    intro n hn
    have : n = 1 ∨ n = 2 ∨ n = 3 ∨ n = 4 ∨ n = 5 ∨ n = 6 ∨ n = 7 ∨ n = 8 ∨ n = 9 ∨ n = 10 ∨ n = 11 ∨ n = 99 := by omega
    rcases this with rfl | rfl | rfl | rfl | rfl | rfl | rfl | rfl | rfl | rfl | rfl | rfl
    · exact ⟨s1, e1, t1⟩
    · exact ⟨s2, e2, t2⟩
    · exact ⟨s3, e3, t3⟩
    · exact ⟨s4, e4, t4⟩
    · exact ⟨s5, e5, t5⟩
    · exact ⟨s6, e6, t6⟩
    · exact ⟨s7, e7, t7⟩
    · exact ⟨s8, e8, t8⟩
    · exact ⟨s9, e9, t9⟩
    · exact ⟨s10, e10, t10⟩
    · exact ⟨s11, e11, t11⟩
    · exact ⟨s99, e99, t99⟩
  refine ⟨(fun n : Nat => match n with | 1 => a1 | 2 => a2 | 3 => a3 | 4 => a4 | 5 => a5 | 6 => a6 | 7 => a7 | 8 => a8 | 9 => a9 | 10 => a10 | 11 => a11 | _ => a99), c1, c2, c3, c4, c5, c6, c7, c8, c9, c10, c11, c99, (fun n hn => ?_), fun m n hm1 hm2 hn1 hn2 he => ?_⟩
  · obtain ⟨s, hs, _⟩ := key n hn
    exact ⟨s, hs⟩
  · obtain ⟨s, hs, ts⟩ := key m.toNat (by omega)
    obtain ⟨s', hs', ts'⟩ := key n.toNat (by omega)
    have hss : s = s' := by
      have := hs.symm.trans ((congrArg W.cell? he).trans hs')
      simpa using this
    subst hss
    have := txt_apart ⟨m.toNat, by omega⟩ ⟨n.toNat, by omega⟩ (by simp; omega) (by simp; omega) (ts.symm.trans ts')
    have := congrArg Fin.val this
    simp at this
    omega
end Go.Proofs.YtbpdmpcakenjhaaDoor

namespace Go.Proofs.YtbpdmpcakenjhaaDoor
open Go.ChangeShapes Go.WideShapes Go.ChangeAt Go.RowKit Go.Joins
set_option maxRecDepth 100000

theorem uLists : Tryd.prog.underlying 32 = some (.slice 22) := by kernel_rfl
theorem cellsInts : Tryd.prog.cellsOf 22 = 1 := by kernel_rfl
theorem bytesInts : Tryd.prog.bytesOf 22 = 24 := by kernel_rfl

theorem weightsAll_mem {H : Type} {P : Program} {e : TypeId} : ∀ {l : List (DataW H)} {d : DataW H}, d ∈ l → ∀ n ∈ d.weights P e, n ∈ DataW.weightsAll P e l
  | x :: l, d, hd, n, hn => by
    simp only [DataW.weightsAll]
    rcases List.mem_cons.1 hd with rfl | hd
    · exact List.mem_append_left _ hn
    · exact List.mem_append_right _ (weightsAll_mem hd n hn)

theorem open_listsV {H : Type} {enc : TypeId × Value → H} {W : World} {held : Bool} {fuel : Nat} {v : Value} {y : DataW H × List MemPlace}
    (h : DataW.trod enc Tryd.prog W 0 (fun _ => true) held fuel 32 [v] = some y) (hw : ∀ n ∈ y.1.weights Tryd.prog 32, n ≤ reachBytes) :
    ∃ (na : Option Addr) (nc : Nat) (G : List (List Int)), v = .slice na G.length nc ∧ ListsAt W v G ∧ G.length ≤ 5864062014805 ∧ ∀ k, k < G.length → (G.getD k []).length ≤ 17592186043904 ∧ ∀ x ∈ G.getD k [], I64 x := by
  rcases DataW.trod_slice uLists h with ⟨hcs, _⟩ | ⟨a, len, cap, elems, rest, n, _, hcs, hy, _, hl, hm, hlen, hel, _, _⟩
  · simp at hcs
    subst hcs
    refine ⟨none, 0, [], rfl, ⟨[], ⟨none, 0, rfl, Nat.le_refl 0, by unfold maxLen; omega, fun _ => rfl, fun i hi => absurd hi (by simp)⟩, rfl, fun i hi => absurd hi (by simp)⟩, by simp, fun k hk => absurd hk (by simp)⟩
  · simp only [List.cons.injEq, and_true] at hcs
    subst hcs
    subst hy
    have hone : ∀ i, i < len → ∃ u d p, W.cell? (a.add i) = some u ∧ elems[i]? = some (d, p) ∧ DataW.trod enc Tryd.prog W 0 (fun _ => true) held n 22 [u] = some (d, p) := by
      intro i hi
      have hi' : i < elems.length := by omega
      have := hel i hi
      rw [List.getElem?_eq_getElem hi', cellsInts, Nat.mul_one, Option.bind_eq_some_iff] at this
      obtain ⟨cs', h1, h2⟩ := this
      obtain ⟨_, hcl, hcc⟩ := World.cells?_some h1
      match cs', hcl with
      | [c], _ =>
        have h0 := hcc 0 (by omega)
        exact ⟨c, _, _, by simpa [Addr.add] using h0, List.getElem?_eq_getElem hi', h2⟩
    have hall : ∀ i, i < len → ∃ u xs, W.cell? (a.add i) = some u ∧ IntsAt W u xs ∧ xs.length ≤ 17592186043904 ∧ ∀ x ∈ xs, I64 x := by
      intro i hi
      obtain ⟨u, d, p, h1, h2, h3⟩ := hone i hi
      obtain ⟨xs, q1, q2, q3⟩ := open_intsV (y := (d, p)) h3 (fun m hm' => hw m (by
        simp only [DataW.weights, uLists]
        refine List.mem_cons_of_mem _ (List.mem_append_left _ (weightsAll_mem (d := d) (List.mem_map.2 ⟨(d, p), List.mem_of_getElem? h2, rfl⟩) _ hm'))))
      exact ⟨u, xs, h1, q1, q2, q3⟩
    have hN : len ≤ 5864062014805 := by
      have := hw ((List.map (fun x => x.1) elems).length * 24 + (List.map (fun x => x.1) rest).length * 24) (by
        simp only [DataW.weights, uLists, bytesInts, List.mem_cons]
        left; omega)
      simp only [List.length_map, reachBytes] at this
      omega
    let U : Nat → Value := fun i => if hi : i < len then (hall i hi).choose else undef
    let X : Nat → List Int := fun i => if hi : i < len then (hall i hi).choose_spec.choose else []
    have hUX : ∀ i, i < len → W.cell? (a.add i) = some (U i) ∧ IntsAt W (U i) (X i) ∧ (X i).length ≤ 17592186043904 ∧ ∀ x ∈ X i, I64 x := by
      intro i hi
      simp only [U, X, dif_pos hi]
      exact (hall i hi).choose_spec.choose_spec
    have hGl : ((List.range len).map X).length = len := by simp
    have hG : ∀ i, i < len → ((List.range len).map X).getD i [] = X i := by
      intro i hi
      simp [List.getD, hi]
    have hVl : ((List.range len).map U).length = len := by simp
    refine ⟨some a, cap, (List.range len).map X, by rw [hGl], ⟨(List.range len).map U, ⟨some a, cap, by rw [hVl], by rw [hVl]; exact hl, hm, (fun e => by cases e), fun i hi => ?_⟩, by rw [hVl, hGl], fun i hi => ?_⟩, by rw [hGl]; exact hN, fun k hk => ?_⟩
    · rw [hVl] at hi
      show W.cell? (a.add i) = _
      rw [(hUX i hi).1]
      simp
    · rw [hGl] at hi
      rw [hG i hi]
      have : vAt ((List.range len).map U) i = U i := by simp [vAt, List.getD, hi]
      rw [this]
      exact (hUX i hi).2.1
    · rw [hGl] at hk
      rw [hG k hk]
      exact (hUX k hk).2.2

theorem open_listsT {H : Type} {enc : TypeId × Value → H} {W : World} {held : Bool} {v : Value} {d : DataW H} {p : List MemPlace} {b0 : Nat}
    (hv : Value.okWide Tryd.prog W .any b0 32 v) (h : DataW.Trod enc Tryd.prog W 0 (fun _ => true) held 32 v d p) (hw : ∀ n ∈ d.weights Tryd.prog 32, n ≤ reachBytes) :
    ∃ (na : Option Addr) (nc : Nat) (G : List (List Int)), v = .slice na G.length nc ∧ ListsAt W v G ∧ G.length ≤ 5864062014805 ∧ ∀ k, k < G.length → (G.getD k []).length ≤ 17592186043904 ∧ ∀ x ∈ G.getD k [], I64 x := by
  obtain ⟨a, l, c, rfl⟩ := okWide_slice uLists hv
  obtain ⟨fuel, hf⟩ := h
  exact open_listsV (y := (d, p)) (by simpa [Value.cells] using hf) hw
end Go.Proofs.YtbpdmpcakenjhaaDoor

namespace Go.Proofs.YtbpdmpcakenjhaaDoor
open Go.ChangeShapes Go.WideShapes Go.ChangeAt Go.RowKit Go.Joins
namespace GraphLivesP

set_option maxRecDepth 100000 in
theorem door_met (os : Os) (args : Array Value) : laidMetH Tryd.prog Rows.graphLivesUptoRow.laid ((World.doorLaid Tryd.prog 400 os).forCall (fun _ _ => 0) ⟨#[], args, []⟩).memory :=
  laidMetH_of_parts3 (fuel := 8) (laidMet_of_run' 8 (by kernel_rfl) (by kernel_rfl)) (by kernel_rfl) (by kernel_rfl)

theorem reads (os : Os) {H : Type} (enc : TypeId × Value → H) : ∃ x, DataW.whole enc Tryd.prog ((World.doorLaid Tryd.prog 400 os).forCall (fun _ _ => 0) ⟨#[], #[.slice none 0 0, .int .i64 0], []⟩).memory Tryd.f5.params.toList Rows.graphLivesSpec.vars false #[Value.slice none 0 0, Value.int .i64 0].toList 8 = some ([.nil, .lit (.int .i64 0)], [], x) :=
  ⟨[], by kernel_rfl⟩

set_option maxRecDepth 100000 in
theorem lifted (os : Os) (started : os.Started) (H : Type) (enc : TypeId × Value → H) (F : Stop.Interp) :
    ReturnsInHanded {} Tryd.checked os 5 .any ((Rows.OpenSpec.upto Rows.graphLivesSpec).preRow enc Tryd.prog Tryd.f5 Rows.graphLivesUptoRow.domain false Rows.graphLivesUptoRow.laid) (((Rows.OpenSpec.upto Rows.graphLivesSpec).at F).post enc Tryd.prog Tryd.f5 false true false false) := by
  obtain ⟨places, hx⟩ := reads os enc
  refine returnsInHanded_of_row (C := Tryd.checked) (s := Rows.OpenSpec.upto Rows.graphLivesSpec) own started (by kernel_rfl) Tryd.func5
    (witness_row_atRef (enc := enc) (C := Tryd.checked) false (World.doorLaid Tryd.prog 400 os) #[.slice none 0 0, .int .i64 0] rfl (by kernel_rfl) (by kernel_rfl) (by kernel_rfl)
      (OpenSpec.preRow_of_cond 8 hx (by kernel_rfl) (fun k hk => by cases hk; kernel_rfl) (by kernel_rfl) (door_met os _))) ?_
  intro W base args ds gs before hval0 hW _ _ hsz hL _ _
  have hval : ∀ (j : Nat) t v, Tryd.f5.params[j]? = some t → args[j]? = some v → Value.okWide Tryd.prog W .any base t v := hval0
  have hW' := hW
  obtain ⟨p, q, hA0, hV, rfl, hfz, hnd⟩ := hW
  have hA : DataW.TrodAll enc Tryd.prog W 0 (fun _ => true) true Tryd.f5.params.toList args.toList ds p := hA0
  rw [Tryd.params5] at hA hval hsz
  obtain ⟨v0, vs0, d0, ds0, p0, q0, hargs, rfl, rfl, g0, t0⟩ := trodAll_cons hA
  obtain ⟨v1, vs1, d1, ds1, p1, q1, rfl, rfl, rfl, g1, t1⟩ := trodAll_cons t0
  obtain ⟨rfl, rfl, rfl⟩ := trodAll_nil t1
  obtain rfl : args = #[v0, v1] := by cases args; simp_all
  obtain ⟨rfl, rfl⟩ := trodVars_none hV
  have kk0 := g0
  have lt0 : ∀ x ∈ p0, x.block < W.heap.size := by obtain ⟨m, hm⟩ := kk0; exact DataW.trod_lt m _ _ _ hm
  obtain ⟨na0, nc0, G0, rfl, h0, l0, b0⟩ := open_listsT (hval 0 32 v0 rfl rfl) g0 (fun n hn => by
    have := List.all_eq_true.1 hsz n (DataW.weights_mem_each (j := 0) (t := 32) rfl rfl n hn)
    simpa using this)
  obtain ⟨k1, rfl, rfl, rfl, w1⟩ := open_int uInt (hval 1 3 v1 rfl rfl) g1
  have b1 := i64_of_wf w1
  obtain ⟨r, hg⟩ := glob_of_laid (W := W) (by
    rw [MakeChecks.laidMetH_plain _ _ _ (by kernel_rfl)] at hL
    exact hL)
  clear hA0 hval0
  refine (graphLives_any r na0 nc0 G0 k1 W hg h0 (fun k hk => Nat.le_trans (b0 k hk).1 (by omega))).mono fun e W' ⟨x, he, bel, hxx⟩ => ?_
  subst he; subst hxx
  exact ⟨_, rfl, _, _, _, [], _, [], hW', trodAll_mk1 (shut_bool Tryd.underlying4 _), (trodAll_cons_mk (Below.trod laidOut (by kernel_rfl) (of_decide_eq_true (by kernel_rfl)) kk0 bel lt0) (trodAll_cons_mk (shut_int uInt w1) trodAll_mk0)), rfl, bel.frame _, fun h => by cases h⟩

theorem over : Rows.GraphLivesUptoSaid :=
  OpenClaim.holds_of_cond 5 Tryd.f5 rfl rfl rfl rfl rfl rfl rfl ⟨rfl, rfl, rfl, rfl, rfl⟩ rfl rfl rfl rfl rfl (by kernel_rfl) Tryd.func5 (by kernel_rfl)
    (of_decide_eq_true (by kernel_rfl)) (by unfold Func.isWrapper; first | (rw [if_pos (by decide +kernel)]; kernel_rfl) | (rw [if_neg (by decide +kernel)]; exact ⟨rfl, rfl⟩))
    (fun os started H enc _ F => by rw [OpenClaim.pre_eq_preRow]; exact lifted os started H enc F)

/-- The tied card. -/
theorem card_holds : Rows.GraphLivesUptoCardSaid :=
  Claim7.holds_tied_plain_at .later [] [.sentinel, .sentinel, .sentinel, .sentinel, .sentinel, .sentinel, .sentinel, .sentinel, .sentinel, .sentinel, .sentinel, .sentinel] true _ true
    over (fun _ h => by cases h) (by kernel_rfl) (fun _ h => by cases h) graphLivesUpto_row_tie rfl ⟨rfl, rfl⟩ (by kernel_rfl) rfl
    (fun f fn hf hfn => by
      obtain rfl : f = 5 := Option.some.inj ((show Tryd.prog.funcNamed Rows.graphLivesUptoRow.func = some 5 by kernel_rfl).symm.trans hf) |>.symm
      obtain rfl : fn = Tryd.f5 := (Option.some.inj (Tryd.func5.symm.trans hfn)).symm
      exact ⟨by kernel_rfl, fun j t ht => by
        rw [Tryd.params5] at ht
        have hm : t ∈ [32, 3] := by simpa using Array.mem_of_getElem? ht
        have hall : ([32, 3].all fun u => !Tryd.prog.wantsStandIn u) = true := by kernel_rfl
        exact (show Tryd.prog.wantsStandIn t = false by simpa using List.all_eq_true.1 hall t hm)⟩)
    (by kernel_rfl)
end GraphLivesP
#print axioms GraphLivesP.card_holds
end Go.Proofs.YtbpdmpcakenjhaaDoor
