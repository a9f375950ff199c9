/-
  Proved: the law edenlaw12.GraphKeeps as its tied card: it returns true and never panics, for any lists and any two numbers. No conditions beyond the card's own.
  Walk: edenlaw12.goes at a way.
  What Path and Loop answer, as plain lists.
  edenlaw12.lent, kept: a graph's lists lent, marks behind each; whether they are as they were.
  Walk: the law edenlaw12.GraphKeeps.
  Opening what a call is handed: []int, api.Rule, the package-level errors.
  Opening a [][]int that a call is handed.
-/
import Derived.Test.YtbpdmpcakenjhaaDoorMGk5
import Derived.Deep.DeepCutAuto
import Derived.Test.YtbpdmpcakenjhaaDoorRows
import Derived.ProofKit
import Derived.OpenShut
import Derived.ShutString
import Derived.ChangeOld
import Derived.LaidMore
import Derived.Stop.Joined
import Derived.Stop.LaidErr
import Derived.Lib.SmallJoins
import Derived.Test.YtbpdmpcakenjhaaDoorCards
import Derived.Test.YtbpdmpcakenjhaaDoorTie
import Derived.SevenTiedAt
namespace Go.Proofs.YtbpdmpcakenjhaaDoor
open Go.RowKit
set_option maxRecDepth 100000

/-- Vertices, each led to by an arrow from the one ahead. -/
def ChainOk (G : List (List Int)) (u : List Nat) : Prop := ∀ i x, u[i]? = some x → x < G.length ∧ ∀ j y, i = j + 1 → u[j]? = some y → (x : Int) ∈ G.getD y []
theorem adj_mem {G : List (List Int)} (hok : GraphOk G) {y x : Nat} (hy : y < G.length) (h : x ∈ adjOf G y) : (x : Int) ∈ G.getD y [] := by
  obtain ⟨z, hz, rfl⟩ := List.mem_map.1 h
  have := hok y hy z hz
  rwa [Int.toNat_of_nonneg this.1]
theorem way_chain {G : List (List Int)} (hok : GraphOk G) {x y : Nat} {w : List Nat} (h : Way (adjOf G) x y w) (hx : x < G.length) : ChainOk G w := by
  induction h with
  | one x =>
    intro i z hz
    have hi := get_of hz
    simp only [List.length_cons, List.length_nil] at hi
    obtain rfl : i = 0 := by omega
    injection hz with hz; subst hz
    exact ⟨hx, fun j y e => by omega⟩
  | @cons x t y w ht h ih =>
    have htn := hok.lt x hx t ht
    have ih := ih htn
    intro i z hz
    cases i with
    | zero => injection hz with hz; subst hz; exact ⟨hx, fun j y e => by omega⟩
    | succ i =>
      have hz' : w[i]? = some z := hz
      refine ⟨(ih i z hz').1, fun j y e hy => ?_⟩
      have e : j = i := by omega
      subst e
      cases j with
      | zero =>
        injection hy with hy; subst hy
        obtain ⟨w', rfl⟩ := h.ne
        injection hz' with hz'; subst hz'
        exact adj_mem hok hx ht
      | succ j => exact (ih (j + 1) z hz').2 j y rfl hy
theorem ChainOk.dropLast {G : List (List Int)} {u : List Nat} (h : ChainOk G u) : ChainOk G u.dropLast := by
  have up : ∀ i x, u.dropLast[i]? = some x → u[i]? = some x := fun i x hx => by
    rw [List.getElem?_dropLast] at hx
    split at hx
    · exact hx
    · cases hx
  intro i x hx
  exact ⟨(h i x (up i x hx)).1, fun j y e hy => (h i x (up i x hx)).2 j y e (up j y hy)⟩
theorem ChainOk.nil (G : List (List Int)) : ChainOk G [] := fun i x hx => by simp at hx

set_option maxHeartbeats 2000000 in
theorem goes_any (na : Option Addr) (nc : Nat) (G : List (List Int)) (wv : Value) (u : List Nat) (w : World) (h : ListsAt w (.slice na G.length nc) G) (hw : IntsAt w wv (castI u)) (hc : ChainOk G u) (hsz : ∀ k, k < G.length → (G.getD k []).length ≤ 17592186044416) :
    Calls Tryd.prog 22 #[.slice na G.length nc, wv] w (RetB true w) := by
  have lW := hw.len
  rw [castI_len] at lW
  have hul := hw.len_le
  rw [castI_len] at hul
  replace h := Lib.hid h
  replace hw := Lib.hid hw
  replace hc := Lib.hid hc
  replace hsz := Lib.hid hsz
  go_enter Tryd.func22, Tryd.ntmps22
  go_wp2_with fail
  go_loopw [5] (fun kv wr => ∃ k n : Nat, k ≤ u.length ∧ kv = .int .i64 k ∧ wr = w.drewN n) (fun kv _ => u.length - (intOf kv).toNat)
  case atStart => exact ⟨0, 0, by omega, rfl, rfl⟩
  case round =>
    obtain ⟨k, n, hk, rfl, rfl⟩ := hrel
    by_cases hlt : k < u.length
    · obtain ⟨x, hx⟩ : ∃ x, u[k]? = some x := ⟨_, List.getElem?_eq_getElem hlt⟩
      obtain ⟨hxn, hxp⟩ := hc.out k x hx
      have iX := fun w' => hw.out.idx k (by rw [castI_len]; exact hlt) w'
      have cX := (hw.out.drewN n).cellD k (by rw [castI_len]; exact hlt)
      rw [castI_get hx] at cX
      have hd1 : decide ((x : Int) < 0) = false := by simp
      have hd2 : decide (G.length ≤ x) = false := by simp; omega
      cases k with
      | zero =>
        clear hxp
        replace hx := Lib.hid hx
        obtain ⟨xa, hxa⟩ : ∃ xa, valAt wv 0 = xa := ⟨_, rfl⟩
        rw [hxa] at iX cX
        replace hxa := Lib.hid hxa
        have iX0 : ∀ w', (Instr.indexAt 22 wv (.int .i64 0)).run Tryd.prog w' = .ok (.pointer (some xa)) w' := iX
        clear iX
        go_upto_region 4 with fail
        refine wp_region_plan (fun w' => w'.cell? xa = some (.int .i64 (x : Int))) 31 [(0, true), (1, true), (2, true), (3, true), (4, true), (5, true), (6, true), (7, true), (8, true), (9, true), (10, true), (11, true), (12, true), (13, true), (14, true), (15, true), (16, true), (17, true), (18, true), (19, true), (20, true), (21, true), (22, true), (23, true), (24, true), (25, true), (26, true), (27, true), (28, false), (29, true), (30, true)] (by kernel_rfl) (by kernel_rfl) ?_
        have hS : (w.drewN n).drew.cell? xa = some (.int .i64 (x : Int)) := cX
        refine headY (v := ?_) (some 12) rfl rfl (Or.inl ⟨by rfl, ?_⟩) hS ?_
        rotate_left
        · rintro W' s0; go_simp; try with_reducible rfl
        simp only [Act.put, List.setIfInBounds_toArray, List.set_cons_zero, List.set_cons_succ]
        refine headY (v := ?_) (some 13) rfl rfl (Or.inl ⟨by rfl, ?_⟩) hS ?_
        rotate_left
        · rintro W' s0; go_simp; try with_reducible rfl
        simp only [Act.put, List.setIfInBounds_toArray, List.set_cons_zero, List.set_cons_succ]
        refine headY (v := ?_) (some 14) rfl rfl (Or.inl ⟨by rfl, ?_⟩) hS ?_
        rotate_left
        · rintro W' s0; go_simp; try with_reducible rfl
        simp only [Act.put, List.setIfInBounds_toArray, List.set_cons_zero, List.set_cons_succ]
        refine headY (v := ?_) (some 15) rfl rfl (Or.inl ⟨by rfl, ?_⟩) hS ?_
        rotate_left
        · rintro W' s0; go_simp; try with_reducible rfl
        simp only [Act.put, List.setIfInBounds_toArray, List.set_cons_zero, List.set_cons_succ]
        refine headY (v := ?_) (some 16) rfl rfl (Or.inl ⟨by rfl, ?_⟩) hS ?_
        rotate_left
        · rintro W' s0; go_simp; try with_reducible rfl
        simp only [Act.put, List.setIfInBounds_toArray, List.set_cons_zero, List.set_cons_succ]
        refine headY (v := ?_) (some 17) rfl rfl (Or.inl ⟨by rfl, ?_⟩) hS ?_
        rotate_left
        · rintro W' s0; go_simp; try with_reducible rfl
        simp only [Act.put, List.setIfInBounds_toArray, List.set_cons_zero, List.set_cons_succ]
        refine headY (v := ?_) (some 18) rfl rfl (Or.inl ⟨by rfl, ?_⟩) hS ?_
        rotate_left
        · rintro W' s0; go_simp; try with_reducible rfl
        simp only [Act.put, List.setIfInBounds_toArray, List.set_cons_zero, List.set_cons_succ]
        refine headY (v := ?_) (some 19) rfl rfl (Or.inl ⟨by rfl, ?_⟩) hS ?_
        rotate_left
        · rintro W' s0; go_simp; try with_reducible rfl
        simp only [Act.put, List.setIfInBounds_toArray, List.set_cons_zero, List.set_cons_succ]
        refine headY (v := ?_) (some 20) rfl rfl (Or.inl ⟨by rfl, ?_⟩) hS ?_
        rotate_left
        · rintro W' s0; go_simp; try with_reducible rfl
        simp only [Act.put, List.setIfInBounds_toArray, List.set_cons_zero, List.set_cons_succ]
        refine headY (v := ?_) (some 21) rfl rfl (Or.inl ⟨by rfl, ?_⟩) hS ?_
        rotate_left
        · rintro W' s0; go_simp; try with_reducible rfl
        simp only [Act.put, List.setIfInBounds_toArray, List.set_cons_zero, List.set_cons_succ]
        refine headY (v := ?_) (some 22) rfl rfl (Or.inl ⟨by rfl, ?_⟩) hS ?_
        rotate_left
        · rintro W' s0; go_simp; try with_reducible rfl
        simp only [Act.put, List.setIfInBounds_toArray, List.set_cons_zero, List.set_cons_succ]
        refine headY (v := ?_) (some 23) rfl rfl (Or.inl ⟨by rfl, ?_⟩) hS ?_
        rotate_left
        · rintro W' s0; go_simp; try with_reducible rfl
        simp only [Act.put, List.setIfInBounds_toArray, List.set_cons_zero, List.set_cons_succ]
        refine headY (v := ?_) (some 24) rfl rfl (Or.inl ⟨by rfl, ?_⟩) hS ?_
        rotate_left
        · rintro W' s0; go_simp; try with_reducible rfl
        simp only [Act.put, List.setIfInBounds_toArray, List.set_cons_zero, List.set_cons_succ]
        refine headY (v := ?_) (some 25) rfl rfl (Or.inl ⟨by rfl, ?_⟩) hS ?_
        rotate_left
        · rintro W' s0; go_simp; try with_reducible rfl
        simp only [Act.put, List.setIfInBounds_toArray, List.set_cons_zero, List.set_cons_succ]
        refine headY (v := ?_) (some 26) rfl rfl (Or.inl ⟨by rfl, ?_⟩) hS ?_
        rotate_left
        · rintro W' s0; go_simp; try with_reducible rfl
        simp only [Act.put, List.setIfInBounds_toArray, List.set_cons_zero, List.set_cons_succ]
        refine headY (v := ?_) (some 27) rfl rfl (Or.inl ⟨by rfl, ?_⟩) hS ?_
        rotate_left
        · rintro W' s0; go_simp; try with_reducible rfl
        simp only [Act.put, List.setIfInBounds_toArray, List.set_cons_zero, List.set_cons_succ]
        refine headY (v := ?_) (some 28) rfl rfl (Or.inl ⟨by rfl, ?_⟩) hS ?_
        rotate_left
        · rintro W' s0; go_simp; try with_reducible rfl
        simp only [Act.put, List.setIfInBounds_toArray, List.set_cons_zero, List.set_cons_succ]
        refine headY (v := ?_) (some 29) rfl rfl (Or.inl ⟨by rfl, ?_⟩) hS ?_
        rotate_left
        · rintro W' s0; go_simp; try with_reducible rfl
        simp only [Act.put, List.setIfInBounds_toArray, List.set_cons_zero, List.set_cons_succ]
        refine headY (v := undef) (some 30) rfl rfl (Or.inr ⟨by rfl, rfl⟩) hS ?_
        simp only [Act.put, List.setIfInBounds_toArray, List.set_cons_zero, List.set_cons_succ]
        refine headY (v := undef) (some 31) rfl rfl (Or.inr ⟨by rfl, rfl⟩) hS ?_
        simp only [Act.put, List.setIfInBounds_toArray, List.set_cons_zero, List.set_cons_succ]
        refine headY (v := undef) (some 32) rfl rfl (Or.inr ⟨by rfl, rfl⟩) hS ?_
        simp only [Act.put, List.setIfInBounds_toArray, List.set_cons_zero, List.set_cons_succ]
        refine headY (v := undef) (some 33) rfl rfl (Or.inr ⟨by rfl, rfl⟩) hS ?_
        simp only [Act.put, List.setIfInBounds_toArray, List.set_cons_zero, List.set_cons_succ]
        refine headY (v := undef) (some 34) rfl rfl (Or.inr ⟨by rfl, rfl⟩) hS ?_
        simp only [Act.put, List.setIfInBounds_toArray, List.set_cons_zero, List.set_cons_succ]
        refine headY (v := undef) (some 35) rfl rfl (Or.inr ⟨by rfl, rfl⟩) hS ?_
        simp only [Act.put, List.setIfInBounds_toArray, List.set_cons_zero, List.set_cons_succ]
        refine headY (v := undef) (some 36) rfl rfl (Or.inr ⟨by rfl, rfl⟩) hS ?_
        simp only [Act.put, List.setIfInBounds_toArray, List.set_cons_zero, List.set_cons_succ]
        refine headY (v := undef) (some 37) rfl rfl (Or.inr ⟨by rfl, rfl⟩) hS ?_
        simp only [Act.put, List.setIfInBounds_toArray, List.set_cons_zero, List.set_cons_succ]
        refine headY (v := undef) (some 38) rfl rfl (Or.inr ⟨by rfl, rfl⟩) hS ?_
        simp only [Act.put, List.setIfInBounds_toArray, List.set_cons_zero, List.set_cons_succ]
        refine headY (v := undef) (some 39) rfl rfl (Or.inr ⟨by rfl, rfl⟩) hS ?_
        simp only [Act.put, List.setIfInBounds_toArray, List.set_cons_zero, List.set_cons_succ]
        refine headC rfl (fun KK hK => ?_)
        go_simp
        refine hK _ _ hS ?_
        clear hK KK
        refine headY (v := undef) (some 41) rfl rfl (Or.inr ⟨by rfl, rfl⟩) hS ?_
        simp only [Act.put, List.setIfInBounds_toArray, List.set_cons_zero, List.set_cons_succ]
        refine headY (v := ?_) (some 42) rfl rfl (Or.inl ⟨by rfl, ?_⟩) hS ?_
        rotate_left
        · rintro W' s0; go_simp; try with_reducible rfl
        simp only [Act.put, List.setIfInBounds_toArray, List.set_cons_zero, List.set_cons_succ]
        refine head0 ?_
        simp only [List.drop_succ_cons, List.drop_zero]
        clear hS
        go_wp2
        refine NoPanic.normal ?_
        go_wp2
        go_roundw
        case measure => simp [intOf]; omega
        case rel => exact ⟨1, n + 1, by omega, by go_num, rfl⟩
      | succ k =>
        obtain ⟨y, hy⟩ : ∃ y, u[k]? = some y := ⟨_, List.getElem?_eq_getElem (by omega)⟩
        have hyn := (hc.out k y hy).1
        have hmem := hxp k y rfl hy
        have hle := leads_any na nc G y (x : Int) (w.drewN n).drew (h.out.drewN n) hyn hsz.out
        rw [show decide ((x : Int) ∈ G.getD y []) = true by simpa using hmem] at hle
        have iY := fun w' => hw.out.idx k (by rw [castI_len]; omega) w'
        have cY := (hw.out.drewN n).cellD k (by rw [castI_len]; omega)
        rw [castI_get hy] at cY
        clear hxp hmem
        replace hx := Lib.hid hx
        replace hy := Lib.hid hy
        replace hle := Lib.hid hle
        obtain ⟨xa, hxa⟩ : ∃ xa, valAt wv (k + 1) = xa := ⟨_, rfl⟩
        rw [hxa] at iX cX
        replace hxa := Lib.hid hxa
        obtain ⟨ya, hya⟩ : ∃ ya, valAt wv k = ya := ⟨_, rfl⟩
        rw [hya] at iY cY
        replace hya := Lib.hid hya
        have hk1 : (((k + 1 : Nat) : Int)) = (k : Int) + 1 := by omega
        rw [hk1] at iX
        replace hk1 := Lib.hid hk1
        have hwr : IntKind.i64.wrap (k : Int) = k := wrapK (by omega) (by omega)
        go_upto_region 4 with fail
        refine wp_region_plan (fun w' => w'.cell? xa = some (.int .i64 (x : Int)) ∧ w'.cell? ya = some (.int .i64 (y : Int))) 31 [(0, true), (1, true), (2, true), (3, true), (4, true), (5, true), (6, true), (7, true), (8, true), (9, true), (10, true), (11, true), (12, true), (13, true), (14, true), (15, true), (16, true), (17, true), (18, true), (19, true), (20, true), (21, true), (22, true), (23, true), (24, true), (25, true), (26, true), (27, true), (28, false), (29, true), (30, true)] (by kernel_rfl) (by kernel_rfl) ?_
        have hS : (w.drewN n).drew.cell? xa = some (.int .i64 (x : Int)) ∧ (w.drewN n).drew.cell? ya = some (.int .i64 (y : Int)) := ⟨cX, cY⟩
        refine headY (v := ?_) (some 12) rfl rfl (Or.inl ⟨by rfl, ?_⟩) hS ?_
        rotate_left
        · rintro W' ⟨s0, s1⟩; go_simp; try with_reducible rfl
        simp only [Act.put, List.setIfInBounds_toArray, List.set_cons_zero, List.set_cons_succ]
        refine headY (v := ?_) (some 13) rfl rfl (Or.inl ⟨by rfl, ?_⟩) hS ?_
        rotate_left
        · rintro W' ⟨s0, s1⟩; go_simp; try with_reducible rfl
        simp only [Act.put, List.setIfInBounds_toArray, List.set_cons_zero, List.set_cons_succ]
        refine headY (v := ?_) (some 14) rfl rfl (Or.inl ⟨by rfl, ?_⟩) hS ?_
        rotate_left
        · rintro W' ⟨s0, s1⟩; go_simp; try with_reducible rfl
        simp only [Act.put, List.setIfInBounds_toArray, List.set_cons_zero, List.set_cons_succ]
        refine headY (v := ?_) (some 15) rfl rfl (Or.inl ⟨by rfl, ?_⟩) hS ?_
        rotate_left
        · rintro W' ⟨s0, s1⟩; go_simp; try with_reducible rfl
        simp only [Act.put, List.setIfInBounds_toArray, List.set_cons_zero, List.set_cons_succ]
        refine headY (v := ?_) (some 16) rfl rfl (Or.inl ⟨by rfl, ?_⟩) hS ?_
        rotate_left
        · rintro W' ⟨s0, s1⟩; go_simp; try with_reducible rfl
        simp only [Act.put, List.setIfInBounds_toArray, List.set_cons_zero, List.set_cons_succ]
        refine headY (v := ?_) (some 17) rfl rfl (Or.inl ⟨by rfl, ?_⟩) hS ?_
        rotate_left
        · rintro W' ⟨s0, s1⟩; go_simp; try with_reducible rfl
        simp only [Act.put, List.setIfInBounds_toArray, List.set_cons_zero, List.set_cons_succ]
        refine headY (v := ?_) (some 18) rfl rfl (Or.inl ⟨by rfl, ?_⟩) hS ?_
        rotate_left
        · rintro W' ⟨s0, s1⟩; go_simp; try with_reducible rfl
        simp only [Act.put, List.setIfInBounds_toArray, List.set_cons_zero, List.set_cons_succ]
        refine headY (v := ?_) (some 19) rfl rfl (Or.inl ⟨by rfl, ?_⟩) hS ?_
        rotate_left
        · rintro W' ⟨s0, s1⟩; go_simp; try with_reducible rfl
        simp only [Act.put, List.setIfInBounds_toArray, List.set_cons_zero, List.set_cons_succ]
        refine headY (v := ?_) (some 20) rfl rfl (Or.inl ⟨by rfl, ?_⟩) hS ?_
        rotate_left
        · rintro W' ⟨s0, s1⟩; go_simp; try with_reducible rfl
        simp only [Act.put, List.setIfInBounds_toArray, List.set_cons_zero, List.set_cons_succ]
        refine headY (v := ?_) (some 21) rfl rfl (Or.inl ⟨by rfl, ?_⟩) hS ?_
        rotate_left
        · rintro W' ⟨s0, s1⟩; go_simp; try with_reducible rfl
        simp only [Act.put, List.setIfInBounds_toArray, List.set_cons_zero, List.set_cons_succ]
        refine headY (v := ?_) (some 22) rfl rfl (Or.inl ⟨by rfl, ?_⟩) hS ?_
        rotate_left
        · rintro W' ⟨s0, s1⟩; go_simp; try with_reducible rfl
        simp only [Act.put, List.setIfInBounds_toArray, List.set_cons_zero, List.set_cons_succ]
        refine headY (v := ?_) (some 23) rfl rfl (Or.inl ⟨by rfl, ?_⟩) hS ?_
        rotate_left
        · rintro W' ⟨s0, s1⟩; go_simp; try with_reducible rfl
        simp only [Act.put, List.setIfInBounds_toArray, List.set_cons_zero, List.set_cons_succ]
        refine headY (v := ?_) (some 24) rfl rfl (Or.inl ⟨by rfl, ?_⟩) hS ?_
        rotate_left
        · rintro W' ⟨s0, s1⟩; go_simp; try with_reducible rfl
        simp only [Act.put, List.setIfInBounds_toArray, List.set_cons_zero, List.set_cons_succ]
        refine headY (v := ?_) (some 25) rfl rfl (Or.inl ⟨by rfl, ?_⟩) hS ?_
        rotate_left
        · rintro W' ⟨s0, s1⟩; go_simp; try with_reducible rfl
        simp only [Act.put, List.setIfInBounds_toArray, List.set_cons_zero, List.set_cons_succ]
        refine headY (v := ?_) (some 26) rfl rfl (Or.inl ⟨by rfl, ?_⟩) hS ?_
        rotate_left
        · rintro W' ⟨s0, s1⟩; go_simp; try with_reducible rfl
        simp only [Act.put, List.setIfInBounds_toArray, List.set_cons_zero, List.set_cons_succ]
        refine headY (v := ?_) (some 27) rfl rfl (Or.inl ⟨by rfl, ?_⟩) hS ?_
        rotate_left
        · rintro W' ⟨s0, s1⟩; go_simp; try with_reducible rfl
        simp only [Act.put, List.setIfInBounds_toArray, List.set_cons_zero, List.set_cons_succ]
        refine headY (v := ?_) (some 28) rfl rfl (Or.inl ⟨by rfl, ?_⟩) hS ?_
        rotate_left
        · rintro W' ⟨s0, s1⟩; go_simp; try with_reducible rfl
        simp only [Act.put, List.setIfInBounds_toArray, List.set_cons_zero, List.set_cons_succ]
        refine headY (v := ?_) (some 29) rfl rfl (Or.inl ⟨by rfl, ?_⟩) hS ?_
        rotate_left
        · rintro W' ⟨s0, s1⟩; go_simp; try with_reducible rfl
        simp only [Act.put, List.setIfInBounds_toArray, List.set_cons_zero, List.set_cons_succ]
        refine headY (v := ?_) (some 30) rfl rfl (Or.inl ⟨by rfl, ?_⟩) hS ?_
        rotate_left
        · rintro W' ⟨s0, s1⟩; go_simp; try with_reducible rfl
        simp only [Act.put, List.setIfInBounds_toArray, List.set_cons_zero, List.set_cons_succ]
        refine headY (v := ?_) (some 31) rfl rfl (Or.inl ⟨by rfl, ?_⟩) hS ?_
        rotate_left
        · rintro W' ⟨s0, s1⟩; go_simp; try with_reducible rfl
        simp only [Act.put, List.setIfInBounds_toArray, List.set_cons_zero, List.set_cons_succ]
        refine headY (v := ?_) (some 32) rfl rfl (Or.inl ⟨by rfl, ?_⟩) hS ?_
        rotate_left
        · rintro W' ⟨s0, s1⟩; go_simp; try with_reducible rfl
        simp only [Act.put, List.setIfInBounds_toArray, List.set_cons_zero, List.set_cons_succ]
        refine headY (v := ?_) (some 33) rfl rfl (Or.inl ⟨by rfl, ?_⟩) hS ?_
        rotate_left
        · rintro W' ⟨s0, s1⟩; go_simp; try with_reducible rfl
        simp only [Act.put, List.setIfInBounds_toArray, List.set_cons_zero, List.set_cons_succ]
        refine headY (v := ?_) (some 34) rfl rfl (Or.inl ⟨by rfl, ?_⟩) hS ?_
        rotate_left
        · rintro W' ⟨s0, s1⟩; go_simp; try with_reducible rfl
        simp only [Act.put, List.setIfInBounds_toArray, List.set_cons_zero, List.set_cons_succ]
        refine headY (v := ?_) (some 35) rfl rfl (Or.inl ⟨by rfl, ?_⟩) hS ?_
        rotate_left
        · rintro W' ⟨s0, s1⟩; go_simp; try with_reducible rfl
        simp only [Act.put, List.setIfInBounds_toArray, List.set_cons_zero, List.set_cons_succ]
        refine headY (v := ?_) (some 36) rfl rfl (Or.inl ⟨by rfl, ?_⟩) hS ?_
        rotate_left
        · rintro W' ⟨s0, s1⟩; go_simp; try with_reducible rfl
        simp only [Act.put, List.setIfInBounds_toArray, List.set_cons_zero, List.set_cons_succ]
        refine headY (v := ?_) (some 37) rfl rfl (Or.inl ⟨by rfl, ?_⟩) hS ?_
        rotate_left
        · rintro W' ⟨s0, s1⟩; go_simp; try with_reducible rfl
        simp only [Act.put, List.setIfInBounds_toArray, List.set_cons_zero, List.set_cons_succ]
        refine headY (v := ?_) (some 38) rfl rfl (Or.inl ⟨by rfl, ?_⟩) hS ?_
        rotate_left
        · rintro W' ⟨s0, s1⟩; go_simp; try with_reducible rfl
        simp only [Act.put, List.setIfInBounds_toArray, List.set_cons_zero, List.set_cons_succ]
        refine headY (v := ?_) (some 39) rfl rfl (Or.inl ⟨by rfl, ?_⟩) hS ?_
        rotate_left
        · rintro W' ⟨s0, s1⟩; go_simp; try with_reducible rfl
        simp only [Act.put, List.setIfInBounds_toArray, List.set_cons_zero, List.set_cons_succ]
        refine headC rfl (fun KK hK => ?_)
        go_simp
        refine hle.out.mono ?_
        rintro e w2 ⟨n2, rfl, rfl⟩
        refine hK _ _ hS ?_
        clear hK KK
        refine headY (v := ?_) (some 41) rfl rfl (Or.inl ⟨by rfl, ?_⟩) hS ?_
        rotate_left
        · rintro W' ⟨s0, s1⟩; go_simp; try with_reducible rfl
        simp only [Act.put, List.setIfInBounds_toArray, List.set_cons_zero, List.set_cons_succ]
        refine headY (v := ?_) (some 42) rfl rfl (Or.inl ⟨by rfl, ?_⟩) hS ?_
        rotate_left
        · rintro W' ⟨s0, s1⟩; go_simp; try with_reducible rfl
        simp only [Act.put, List.setIfInBounds_toArray, List.set_cons_zero, List.set_cons_succ]
        refine head0 ?_
        simp only [List.drop_succ_cons, List.drop_zero]
        clear hS
        go_wp2
        refine NoPanic.normal ?_
        go_wp2
        go_roundw
        case measure => simp [intOf]; omega
        case rel => exact ⟨k + 2, _, by omega, by go_num, rfl⟩
    · obtain rfl : k = u.length := by omega
      go_wp2
      go_ret
      exact ⟨n, rfl, rfl⟩
end Go.Proofs.YtbpdmpcakenjhaaDoor

namespace Go.Proofs.YtbpdmpcakenjhaaDoor
open Go.RowKit
set_option maxRecDepth 100000

/-- What Path answers, as one list: the first of the shortest ways, or none. -/
def WayList (adj : Nat → List Nat) (a b : Nat) (u : List Nat) : Prop := (u ≠ [] ∧ IsFirst adj a b u) ∨ (u = [] ∧ ¬ Goes adj a b)
theorem FirstPost.list {w w' : World} {adj : Nat → List Nat} {a b : Nat} {x : Value} (h : FirstPost w adj a b x w') : ∃ u, WayList adj a b u ∧ OwnI w.heap.size w' x (castI u) := by
  rcases h with ⟨u, h1, h2⟩ | ⟨h1, rfl⟩
  · exact ⟨u, .inl ⟨by intro e; subst e; exact absurd h1.way.pos (by simp), h1⟩, h2⟩
  · exact ⟨[], .inr ⟨rfl, h1⟩, OwnI.nil _ _⟩
theorem WayList.goes {adj : Nat → List Nat} {a b : Nat} {u : List Nat} (h : WayList adj a b u) : u ≠ [] ↔ Goes adj a b := by
  rcases h with ⟨h1, h2⟩ | ⟨h1, h2⟩
  · exact ⟨fun _ => h2.way.goes, fun _ => h1⟩
  · exact ⟨fun q => absurd h1 q, fun q => absurd q h2⟩
theorem WayList.chain {G : List (List Int)} (hok : GraphOk G) {a b : Nat} {u : List Nat} (h : WayList (adjOf G) a b u) (ha : a < G.length) : ChainOk G u := by
  rcases h with ⟨_, h2⟩ | ⟨h1, _⟩
  · exact way_chain hok h2.way ha
  · subst h1; exact ChainOk.nil G
theorem WayList.len {G : List (List Int)} (hok : GraphOk G) {a b : Nat} {u : List Nat} (h : WayList (adjOf G) a b u) (ha : a < G.length) : u.length ≤ G.length := by
  have hc := h.chain hok ha
  rcases h with ⟨_, q⟩ | ⟨q, _⟩
  · exact nodup_len G.length u q.nodup (fun x hx => by
      obtain ⟨i, hi⟩ := List.mem_iff_getElem?.1 hx
      exact (hc i x hi).1)
  · subst q; simp
/-- The ends. -/
theorem way_ends {adj : Nat → List Nat} {x y : Nat} {w : List Nat} (h : Way adj x y w) : w[0]? = some x ∧ w[w.length - 1]? = some y := by
  induction h with
  | one x => exact ⟨rfl, rfl⟩
  | @cons x t y w ht h ih =>
    refine ⟨rfl, ?_⟩
    have := h.pos
    rw [List.length_cons, Nat.add_sub_cancel, ← ih.2]
    obtain ⟨n, hn⟩ : ∃ n, w.length = n + 1 := ⟨w.length - 1, by omega⟩
    rw [hn, Nat.add_sub_cancel]; rfl
/-- A way in the graph with the end doubled, its last vertex left away. -/
theorem wide_way {G : List (List Int)} (hok : GraphOk G) {v : Nat} {x e : Nat} {u : List Nat} (h : Way (adjOf (wideG G v)) x e u) (he : e = G.length) (hx : x < G.length) : ∃ y, y < G.length ∧ v ∈ adjOf G y ∧ Way (adjOf G) x y u.dropLast := by
  induction h with
  | one x => omega
  | @cons x t y w ht h ih =>
    rcases (wide_adj hok v hx t).1 ht with ⟨_, h1, h2⟩ | ⟨h1, h2⟩
    · obtain ⟨z, z1, z2, z3⟩ := ih he h2
      have := h.pos
      refine ⟨z, z1, z2, ?_⟩
      rw [List.dropLast_cons_of_ne_nil (by intro q; subst q; simp at this)]
      exact .cons h1 z3
    · subst h1
      refine ⟨x, hx, h2, ?_⟩
      cases h with
      | one => exact .one x
      | cons ht' _ => rw [wide_end] at ht'; cases ht'
/-- What Loop answers, as one list: a way from a to a vertex with an arrow back to a; or none. -/
def LoopList (G : List (List Int)) (a : Nat) (l : List Nat) : Prop := l = [] ∨ ∃ y, y < G.length ∧ a ∈ adjOf G y ∧ Way (adjOf G) a y l
theorem LoopWay.list {w w' : World} {G : List (List Int)} (hok : GraphOk G) {a : Nat} (ha : a < G.length) {x : Value} (h : LoopWay w G a x w') : ∃ l, LoopList G a l ∧ OwnI w.heap.size w' x (castI l) := by
  rcases h with ⟨u, h1, h2⟩ | ⟨_, rfl⟩
  · exact ⟨u.dropLast, .inr (wide_way hok h1.way rfl ha), h2⟩
  · exact ⟨[], .inl rfl, OwnI.nil _ _⟩
theorem LoopList.chain {G : List (List Int)} (hok : GraphOk G) {a : Nat} {l : List Nat} (h : LoopList G a l) (ha : a < G.length) : ChainOk G l := by
  rcases h with h | ⟨y, _, _, h⟩
  · subst h; exact ChainOk.nil G
  · exact way_chain hok h ha
end Go.Proofs.YtbpdmpcakenjhaaDoor

namespace Go.Proofs.YtbpdmpcakenjhaaDoor
open Go.RowKit
set_option maxRecDepth 100000

theorem OwnV.belowB {E : TypeId} {B B' : Nat} {w w' : World} {v : Value} {xs : List Value} (h : OwnV E B w v xs) (hb : Below B' w w') (hlt : ∀ k, v.ownBlock = some k → k < B') : OwnV E B w' v xs := by
  refine ⟨h.1, ?_⟩
  rcases h.2 with h2 | ⟨g, cap, cur, rfl, hB, hg, r⟩
  · exact .inl h2
  · exact .inr ⟨g, cap, cur, rfl, hB, by rw [hb.block g (hlt g rfl)]; exact hg, r⟩

/-- Lists that are lent: all lies below block S. -/
def LentG (S : Nat) (w : World) (ov : Value) (G : List (List Int)) : Prop :=
  ∃ vals, OwnV 22 0 w ov vals ∧ (∀ k, ov.ownBlock = some k → k < S) ∧ vals.length = G.length ∧
    ∀ u, u < G.length → ∃ v, vAt vals u = preV v (G.getD u []).length ∧ OwnI 0 w v (G.getD u [] ++ [7001, 7002]) ∧ ∀ k, v.ownBlock = some k → k < S
theorem LentG.belowB {S : Nat} {w w' : World} {ov : Value} {G : List (List Int)} (h : LentG S w ov G) (hb : Below S w w') : LentG S w' ov G := by
  obtain ⟨vals, h1, h2, h3, h4⟩ := h
  refine ⟨vals, h1.belowB hb h2, h2, h3, fun u hu => ?_⟩
  obtain ⟨v, q1, q2, q3⟩ := h4 u hu
  exact ⟨v, q1, q2.belowB hb q3, q3⟩
theorem LentG.row {S : Nat} {w : World} {ov : Value} {G : List (List Int)} (h : LentG S w ov G) (u : Nat) (hu : u < G.length) :
    ∃ mv, (∀ w', (Instr.indexAt 32 ov (.int .i64 u)).run Tryd.prog w' = .ok (.pointer (some (valAt ov u))) w') ∧ w.cell? (valAt ov u) = some mv ∧ LentI 0 w mv (G.getD u []) := by
  obtain ⟨vals, h1, h2, h3, h4⟩ := h
  obtain ⟨v, q1, q2, q3⟩ := h4 u hu
  exact ⟨vAt vals u, fun w' => h1.at.idx oneLists u (by omega) w', h1.at.cellV u (by omega), v, q1, q2⟩
theorem LentG.lists {S : Nat} {w : World} {ov : Value} {G : List (List Int)} (h : LentG S w ov G) : ListsAt w ov G := by
  obtain ⟨vals, h1, h2, h3, h4⟩ := h
  refine ⟨vals, h1.at, h3, fun u hu => ?_⟩
  obtain ⟨v, q1, q2, q3⟩ := h4 u hu
  have hl : LentI 0 w (vAt vals u) (G.getD u []) := ⟨v, q1, q2⟩
  exact hl.at
/-- What the names name, k lists lent. -/
structure LN (f : Names) (ov : Value) (vals : List Value) (G : List (List Int)) (k : Nat) : Prop where
  outer : f (1, 0) = some (rowV 22 ov vals)
  len : vals.length = G.length
  rows : ∀ u, u < k → ∃ v, vAt vals u = preV v (G.getD u []).length ∧ f (2, u) = some (rowI v (G.getD u [] ++ [7001, 7002]))
section
variable {B : Nat} {w : World} {f : Names} {ov : Value} {vals : List Value} {G : List (List Int)} {k : Nat}
theorem LN.put (h : LN f ov vals G k) (hr : Rows B w f) (hk : k < G.length) {w1 : World} {m : Value} (hb : Below w.heap.size w w1) (hB : B ≤ w.heap.size) (hm : LentI w.heap.size w1 m (G.getD k [])) :
    w1.cell? (valAt ov k) = some (vAt vals k) ∧ w1.frozen? (valAt ov k) = false ∧ B ≤ (valAt ov k).block ∧
    ∃ f', Rows B (w1.setCell (valAt ov k) m) f' ∧ LN f' ov (vals.set k m) G (k + 1) := by
  obtain ⟨v, rfl, hv⟩ := hm
  have hr1 : Rows B w1 (upd f (2, k) (some (rowI v (G.getD k [] ++ [7001, 7002])))) := hr.add hb (hv.mono hB) (fun b hb' => (hv.lt b hb').1)
  have ho : upd f (2, k) (some (rowI v (G.getD k [] ++ [7001, 7002]))) (1, 0) = some (rowV 22 ov vals) := by rw [upd_ne _ _ (by simp)]; exact h.outer
  have hl : k < vals.length := by rw [h.len]; exact hk
  have hO := hr1.ownV ho
  refine ⟨hO.at.cellV k hl, hO.frz k hl, (hO.blkB k hl).2, _, hr1.setV ho k hl _, ⟨upd_same _ _ _, by simpa using h.len, fun t ht => ?_⟩⟩
  rw [upd_ne _ _ (by simp)]
  by_cases e : t = k
  · subst e
    exact ⟨v, vAt_set_same hl, upd_same _ _ _⟩
  · rw [upd_ne _ _ (by simpa using e), vAt_set_ne e]
    exact h.rows t (by omega)
theorem LN.end_ (h : LN f ov vals G G.length) (hr : Rows B w f) : LentG w.heap.size w ov G := by
  have hO := hr.ownV h.outer
  refine ⟨vals, hO.mono (Nat.zero_le _), fun b hb => (hO.lt b hb).2, h.len, fun u hu => ?_⟩
  obtain ⟨v, q1, q2⟩ := h.rows u hu
  have hv := hr.ownI q2
  exact ⟨v, q1, hv.mono (Nat.zero_le _), fun b hb => (hv.lt b hb).2⟩
theorem LN.made {w0 : World} (G : List (List Int)) (hb : Below w0.heap.size w0 w) (hB : B ≤ w0.heap.size) (ho : OwnV 22 w0.heap.size w ov (List.replicate G.length (.slice none 0 0))) :
    ∃ f, Rows B w f ∧ LN f ov (List.replicate G.length (.slice none 0 0)) G 0 :=
  ⟨_, (show Rows B w0 (fun _ => none) from ⟨fun _ _ h => (by cases h), fun _ _ _ _ h => (by cases h)⟩).add (i := (1, 0)) (r' := rowV 22 ov (List.replicate G.length (.slice none 0 0))) hb (ho.mono hB) (fun k hk => (ho.lt k hk).1), upd_same _ _ _, by simp, fun u hu => by omega⟩
end

set_option maxHeartbeats 1000000 in
theorem lentG_any (na : Option Addr) (nc : Nat) (G : List (List Int)) (w : World) (h : ListsAt w (.slice na G.length nc) G) (hn : G.length ≤ 10000) (hsz : ∀ k, k < G.length → (G.getD k []).length ≤ 17592186044414) :
    Calls Tryd.prog 25 #[.slice na G.length nc] w (Ret1 (fun x w' => LentG w'.heap.size w' x G) w) := by
  obtain ⟨ov, w1, hmk, ho, b1⟩ := run_makeW oneLists (G.length : Int) G.length w rfl (by omega)
  obtain ⟨f1, hr1, hN1⟩ := LN.made (B := w.heap.size) G b1 (Nat.le_refl _) ho
  have b01 := b1
  replace hr1 := Lib.hid hr1
  replace hN1 := Lib.hid hN1
  replace h := Lib.hid h
  replace hsz := Lib.hid hsz
  clear ho
  go_enter Tryd.func25, Tryd.ntmps25
  go_wp2_with fail
  go_loopw [4] (fun kv wr => ∃ (k : Nat) (f : Names) (vals : List Value), k ≤ G.length ∧ kv = .int .i64 k ∧ Rows w.heap.size wr f ∧ LN f ov vals G k ∧ Below w.heap.size w wr) (fun kv _ => G.length - (intOf kv).toNat)
  case atStart => exact ⟨0, f1, _, by omega, rfl, hr1.out, hN1.out, b01⟩
  case round =>
    obtain ⟨k, f, vals, hk, rfl, hr, hN, bw⟩ := hrel
    by_cases hlt : k < G.length
    · obtain ⟨mv, iR, cR, hM⟩ := (h.out.below bw).row k hlt
      have hll := hsz.out k hlt
      have hB := bw.size
      have iO : ∀ w', (Instr.indexAt 32 ov (.int .i64 k)).run Tryd.prog w' = .ok (.pointer (some (valAt ov k))) w' := fun w' => (hr.ownV hN.outer).at.idx oneLists k (by rw [hN.len]; exact hlt) w'
      replace hr := Lib.hid hr
      replace hN := Lib.hid hN
      generalize hra : valAt (.slice na G.length nc) k = ra at *
      replace hra := Lib.hid hra
      go_wp2_with fail
      refine (lent_any mv (G.getD k []) wr hM hll).mono ?_
      rintro e w2 ⟨m, rfl, b2, hm⟩
      obtain ⟨ma, mn, mc, rfl⟩ := hm.at.shape
      obtain ⟨cO, fO, bO, f2, hr2, hN2⟩ := hN.out.put hr.out hlt b2 hB hm
      replace hr2 := Lib.hid hr2
      replace hN2 := Lib.hid hN2
      replace hm := Lib.hid hm
      have b3 : Below w.heap.size w (w2.setCell (valAt ov k) (.slice ma mn mc)) := (Below.step bw b2).setCell bO _
      obtain ⟨oa, hoa⟩ : ∃ oa, valAt ov k = oa := ⟨_, rfl⟩
      rw [hoa] at iO cO fO bO b3 hr2
      replace hoa := Lib.hid hoa
      go_wp2
      go_roundw
      case measure => simp [intOf]; omega
      case rel => exact ⟨k + 1, f2, _, by omega, by go_num, hr2.out, hN2.out, b3⟩
    · obtain rfl : k = G.length := by omega
      go_wp2
      go_ret
      exact ⟨_, rfl, bw, hN.end_ hr⟩

set_option maxHeartbeats 1000000 in
theorem keptG_any (S : Nat) (ov : Value) (na : Option Addr) (nc : Nat) (G : List (List Int)) (w : World) (hm : LentG S w ov G) (h : ListsAt w (.slice na G.length nc) G) (hn : G.length ≤ 10000) (hsz : ∀ k, k < G.length → (G.getD k []).length ≤ 17592186044414) :
    Calls Tryd.prog 27 #[ov, .slice na G.length nc] w (RetB true w) := by
  have lO := hm.lists.len
  replace hm := Lib.hid hm
  replace h := Lib.hid h
  replace hsz := Lib.hid hsz
  go_enter Tryd.func27, Tryd.ntmps27
  go_wp2_with fail
  go_loopw [5] (fun kv wr => ∃ k n : Nat, k ≤ G.length ∧ kv = .int .i64 k ∧ wr = w.drewN n) (fun kv _ => G.length - (intOf kv).toNat)
  case atStart => exact ⟨0, 0, by omega, rfl, rfl⟩
  case round =>
    obtain ⟨k, n, hk, rfl, rfl⟩ := hrel
    by_cases hlt : k < G.length
    · obtain ⟨gv, iG, cG, hG⟩ := h.out.row k hlt
      obtain ⟨mv, iM, cM, hM⟩ := hm.out.row k hlt
      have hke := kept_any 0 mv gv (G.getD k []) (w.drewN n).drew (show LentI 0 (w.drewN n).drew mv (G.getD k []) from hM) (hG.drewN n) (hsz.out k hlt)
      have lO2 := lO
      generalize hga : valAt (.slice na G.length nc) k = ga at *
      generalize hma : valAt ov k = ma at *
      replace hga := Lib.hid hga
      replace hma := Lib.hid hma
      replace hke := Lib.hid hke
      replace hG := Lib.hid hG
      replace hM := Lib.hid hM
      go_upto_region 6 with fail
      refine wp_region_plan (fun w' => w'.cell? ga = some gv ∧ w'.cell? ma = some mv) 9 [(0, true), (1, true), (2, true), (3, true), (4, true), (5, true), (6, true), (7, true), (8, false)] (by kernel_rfl) (by kernel_rfl) ?_
      have hS : (w.drewN n).drew.cell? ga = some gv ∧ (w.drewN n).drew.cell? ma = some mv := ⟨cG, cM⟩
      refine headY (v := ?_) (some 17) rfl rfl (Or.inl ⟨by rfl, ?_⟩) hS ?_
      rotate_left
      · rintro W' ⟨s0, s1⟩; go_simp; try with_reducible rfl
      simp only [Act.put, List.setIfInBounds_toArray, List.set_cons_zero, List.set_cons_succ]
      refine headY (v := ?_) (some 18) rfl rfl (Or.inl ⟨by rfl, ?_⟩) hS ?_
      rotate_left
      · rintro W' ⟨s0, s1⟩; go_simp; try with_reducible rfl
      simp only [Act.put, List.setIfInBounds_toArray, List.set_cons_zero, List.set_cons_succ]
      refine headY (v := ?_) (some 19) rfl rfl (Or.inl ⟨by rfl, ?_⟩) hS ?_
      rotate_left
      · rintro W' ⟨s0, s1⟩; go_simp; try with_reducible rfl
      simp only [Act.put, List.setIfInBounds_toArray, List.set_cons_zero, List.set_cons_succ]
      refine headY (v := ?_) (some 20) rfl rfl (Or.inl ⟨by rfl, ?_⟩) hS ?_
      rotate_left
      · rintro W' ⟨s0, s1⟩; go_simp; try with_reducible rfl
      simp only [Act.put, List.setIfInBounds_toArray, List.set_cons_zero, List.set_cons_succ]
      refine headY (v := ?_) (some 21) rfl rfl (Or.inl ⟨by rfl, ?_⟩) hS ?_
      rotate_left
      · rintro W' ⟨s0, s1⟩; go_simp; try with_reducible rfl
      simp only [Act.put, List.setIfInBounds_toArray, List.set_cons_zero, List.set_cons_succ]
      refine headY (v := ?_) (some 22) rfl rfl (Or.inl ⟨by rfl, ?_⟩) hS ?_
      rotate_left
      · rintro W' ⟨s0, s1⟩; go_simp; try with_reducible rfl
      simp only [Act.put, List.setIfInBounds_toArray, List.set_cons_zero, List.set_cons_succ]
      refine headY (v := ?_) (some 23) rfl rfl (Or.inl ⟨by rfl, ?_⟩) hS ?_
      rotate_left
      · rintro W' ⟨s0, s1⟩; go_simp; try with_reducible rfl
      simp only [Act.put, List.setIfInBounds_toArray, List.set_cons_zero, List.set_cons_succ]
      refine headY (v := ?_) (some 24) rfl rfl (Or.inl ⟨by rfl, ?_⟩) hS ?_
      rotate_left
      · rintro W' ⟨s0, s1⟩; go_simp; try with_reducible rfl
      simp only [Act.put, List.setIfInBounds_toArray, List.set_cons_zero, List.set_cons_succ]
      refine headC rfl (fun KK hK => ?_)
      go_simp
      refine hke.out.mono ?_
      rintro e w2 ⟨n2, rfl, rfl⟩
      refine hK _ _ hS ?_
      clear hK KK
      refine head0 ?_
      simp only [List.drop_succ_cons, List.drop_zero]
      clear hS
      go_wp2
      refine NoPanic.normal ?_
      go_wp2
      go_roundw
      case measure => simp [intOf]; omega
      case rel => exact ⟨k + 1, _, by omega, by go_num, rfl⟩
    · obtain rfl : k = G.length := by omega
      go_wp2
      go_ret
      exact ⟨n, rfl, rfl⟩
end Go.Proofs.YtbpdmpcakenjhaaDoor

namespace Go.Proofs.YtbpdmpcakenjhaaDoor
open Go.RowKit
set_option maxRecDepth 100000

theorem WayList.unique {adj : Nat → List Nat} {a b : Nat} {u v : List Nat} (h : WayList adj a b u) (k : WayList adj a b v) : u = v := by
  rcases h with ⟨h1, h2⟩ | ⟨h1, h2⟩
  · rcases k with ⟨_, k2⟩ | ⟨_, k2⟩
    · exact h2.unique k2
    · exact absurd h2.way.goes k2
  · rcases k with ⟨_, k2⟩ | ⟨k1, _⟩
    · exact absurd k2.way.goes h2
    · rw [h1, k1]
theorem LiveList.len {n : Nat} {adj : Nat → List Nat} {L : List Nat} (h : LiveList n adj L) : L.length ≤ n :=
  nodup_len n L (h.sorted.imp (fun q => Nat.ne_of_lt q)) (fun x hx => ((h.mem x).1 hx).1)
theorem LoopWay.own {w w' : World} {G : List (List Int)} (hok : GraphOk G) {a : Nat} (ha : a < G.length) {x : Value} (h : LoopWay w G a x w') :
    ∃ l : List Nat, l.length ≤ G.length + 1 ∧ OwnI w.heap.size w' x (castI l) := by
  rcases h with ⟨u, h1, h2⟩ | ⟨h1, rfl⟩
  · refine ⟨u.dropLast, ?_, h2⟩
    have hc := way_chain (wideG_ok hok a) h1.way (by rw [wideG_len]; omega)
    have := nodup_len (G.length + 1) u h1.nodup (fun x hx => by
      obtain ⟨i, hi⟩ := List.mem_iff_getElem?.1 hx
      have := (hc i x hi).1
      rwa [wideG_len] at this)
    simp; omega
  · exact ⟨[], by simp, OwnI.nil _ _⟩

set_option maxHeartbeats 8000000 in
theorem graphKeeps_any (r : Nat → Addr) (na : Option Addr) (nc : Nat) (G : List (List Int)) (a b : Int) (w : World) (hg : Glob r w) (h : ListsAt w (.slice na G.length nc) G) (hsz : ∀ k, k < G.length → (G.getD k []).length ≤ 17592186043904) :
    Calls Tryd.prog 6 #[.slice na G.length nc, .int .i64 a, .int .i64 b] w (Ret1 (fun x _ => x = .bool true) w) := by
  have hsz2 : ∀ k, k < G.length → (G.getD k []).length ≤ 17592186044414 := fun k hk => Nat.le_trans (hsz k hk) (by omega)
  have hsz : ∀ k, k < G.length → (G.getD k []).length ≤ 17592186044416 := fun k hk => Nat.le_trans (hsz k hk) (by omega)
  replace hg := Lib.hid hg
  replace h := Lib.hid h
  replace hsz := Lib.hid hsz
  replace hsz2 := Lib.hid hsz2
  go_enter Tryd.func6, Tryd.ntmps6
  go_wp2_with fail
  refine (awake12 r _ hg.out).mono ?_
  rintro e w1 ⟨_, rfl, b1, rfl⟩
  go_wp2_with fail
  refine (vertex_any r na nc G a w1 (hg.out.below b1) (h.out.below b1) hsz.out).mono ?_
  rintro e w2 ⟨x, rfl, b2, v1, rfl, hv1⟩
  have b02 := Below.step b1 b2
  cases v1 with
  | false =>
    clear hv1
    go_wp2
    go_ret
    exact ⟨_, rfl, b02, rfl⟩
  | true =>
    obtain ⟨hn, harr, hck, a, rfl, ha⟩ := hv1 rfl
    clear hv1
    go_wp2_with fail
    refine (vertex_any r na nc G b w2 (hg.out.below b02) (h.out.below b02) hsz.out).mono ?_
    rintro e w3 ⟨x, rfl, b3, v2, rfl, hv2⟩
    have b03 := Below.step b02 b3
    cases v2 with
    | false =>
      clear hv2 hck
      go_wp2
      go_ret
      exact ⟨_, rfl, b03, rfl⟩
    | true =>
      obtain ⟨_, _, _, b, rfl, hb⟩ := hv2 rfl
      clear hv2
      have hok := (checkG_none hck).2.2
      have hpe : pathE G (a : Int) (b : Int) = none := pathE_ok hck ha hb
      have hle : loopE G (a : Int) = none := loopE_ok hck ha
      replace hpe := Lib.hid hpe
      replace hle := Lib.hid hle
      replace hck := Lib.hid hck
      replace hok := Lib.hid hok
      go_wp2_with fail
      refine (lentG_any na nc G w3 (h.out.below b03) (by omega) hsz2.out).mono ?_
      rintro e w4 ⟨ov, rfl, b4, hlent⟩
      obtain ⟨oa, oc, rfl⟩ := hlent.lists.shape
      have b04 := Below.step b03 b4
      have hm := hlent.lists
      replace hlent := Lib.hid hlent
      replace hm := Lib.hid hm
      go_wp2_with fail
      refine (path_any r oa oc G a b w4 (hg.out.below b04) hm.out hsz.out).mono ?_
      rintro e w5 ⟨p1, y, rfl, b5, he, hf, _⟩
      rw [hpe.out] at he
      obtain rfl := he.none_eq
      have hf := hf hpe.out
      rw [Int.toNat_natCast, Int.toNat_natCast] at hf
      obtain ⟨u1, hu1, o1⟩ := hf.list
      replace hu1 := Lib.hid hu1
      replace o1 := Lib.hid o1
      clear he hf
      have c5 := b5
      have b05 := Below.step b04 b5
      go_wp2_with fail
      refine (path_any r oa oc G a b w5 (hg.out.below b05) (hm.out.below c5) hsz.out).mono ?_
      rintro e w6 ⟨p2, y, rfl, b6, he, hf, _⟩
      rw [hpe.out] at he
      obtain rfl := he.none_eq
      have hf := hf hpe.out
      rw [Int.toNat_natCast, Int.toNat_natCast] at hf
      obtain ⟨u2, hu2, o2⟩ := hf.list
      obtain rfl := hu1.out.unique hu2
      clear hu2
      replace o2 := Lib.hid o2
      clear he hf
      have c6 := Below.step c5 b6
      have b06 := Below.step b05 b6
      go_wp2_with fail
      refine (parts_any r oa oc G w6 (hg.out.below b06) (hm.out.below c6) hsz.out).mono ?_
      rintro e w7 ⟨pv, y, rfl, b7, he, hps0, _⟩
      rw [hck.out] at he hps0
      obtain rfl := he.none_eq
      obtain ⟨ps, hps, o3⟩ := hps0 rfl
      replace hps := Lib.hid hps
      replace o3 := Lib.hid o3
      clear hps0 he
      have c7 := Below.step c6 b7
      have b07 := Below.step b06 b7
      go_wp2_with fail
      refine (live_any r oa oc G w7 (hg.out.below b07) (hm.out.below c7) hsz.out).mono ?_
      rintro e w8 ⟨lv, y, rfl, b8, he, hls, _⟩
      rw [hck.out] at he hls
      obtain rfl := he.none_eq
      obtain ⟨L, hL, o4⟩ := hls rfl
      replace hL := Lib.hid hL
      replace o4 := Lib.hid o4
      clear hls he
      have c8 := Below.step c7 b8
      have b08 := Below.step b07 b8
      go_wp2_with fail
      refine (loopG_any r oa oc G a w8 (hg.out.below b08) (hm.out.below c8) hsz.out).mono ?_
      rintro e w9 ⟨gv, y, rfl, b9, he, hgs, _⟩
      rw [hle.out] at he hgs
      obtain rfl := he.none_eq
      have hgs := hgs rfl
      rw [Int.toNat_natCast] at hgs
      obtain ⟨l, hl, o5⟩ := hgs.own hok.out ha
      replace o5 := Lib.hid o5
      clear hgs he
      have c9 := Below.step c8 b9
      have b09 := Below.step b08 b9
      go_wp2_with fail
      refine (live_any r oa oc G w9 (hg.out.below b09) (hm.out.below c9) hsz.out).mono ?_
      rintro e w10 ⟨mv, y, rfl, b10, he, hls, _⟩
      rw [hck.out] at he hls
      obtain rfl := he.none_eq
      obtain ⟨L2, hL2, o6⟩ := hls rfl
      obtain rfl := hL.out.unique hL2
      clear hL2
      replace o6 := Lib.hid o6
      clear hls he
      have c10 := Below.step c9 b10
      have d10 := Below.step b09 b10
      have e910 := b10
      have e810 := Below.step b9 e910
      have e710 := Below.step b8 e810
      have e610 := Below.step b7 e710
      have e510 := Below.step b6 e610
      go_wp2_with fail
      refine (ints_any p1 p2 (castI u1) (castI u1) w10 (o1.out.at.below e510) (o2.out.at.below e610)).mono ?_
      rintro e w11 h11
      obtain ⟨rfl, b11⟩ := h11.below
      clear h11
      rw [show decide (castI u1 = castI u1) = true by simp]
      have e811 := Below.step e810 b11
      go_wp2_with fail
      refine (ints_any lv mv (castI L) (castI L) w11 (o4.out.at.below e811) (o6.out.at.below b11)).mono ?_
      rintro e w12 h12
      obtain ⟨rfl, b12⟩ := h12.below
      clear h12
      rw [show decide (castI L = castI L) = true by simp]
      have f10 := Below.step b11 b12
      have f9 := Below.step e910 f10
      have f8 := Below.step e810 f10
      have f7 := Below.step e710 f10
      have f6 := Below.step e610 f10
      have f5 := Below.step e510 f10
      obtain ⟨a1, n1, k1, rfl⟩ := o1.out.at.shape
      obtain ⟨a2, n2, k2, rfl⟩ := o2.out.at.shape
      obtain ⟨a3, n3, k3, rfl⟩ := o3.out.at.shape
      obtain ⟨a4, n4, k4, rfl⟩ := o4.out.at.shape
      obtain ⟨a5, n5, k5, rfl⟩ := o5.out.at.shape
      obtain ⟨a6, n6, k6, rfl⟩ := o6.out.at.shape
      have hOwns : Owns w12 w4.heap.size [.slice a1 n1 k1, .slice a2 n2 k2, .slice a3 n3 k3, .slice a4 n4 k4, .slice a5 n5 k5, .slice a6 n6 k6] [castI u1, castI u1, ps, castI L, castI l, castI L] :=
        ⟨w5.heap.size, b5.size, o1.out.below f5, fun k hk => (o1.out.lt k hk).2,
         w6.heap.size, b6.size, o2.out.below f6, fun k hk => (o2.out.lt k hk).2,
         w7.heap.size, b7.size, o3.out.below f7, fun k hk => (o3.out.lt k hk).2,
         w8.heap.size, b8.size, o4.out.below f8, fun k hk => (o4.out.lt k hk).2,
         w9.heap.size, b9.size, o5.out.below f9, fun k hk => (o5.out.lt k hk).2,
         w10.heap.size, b10.size, o6.out.below f10, fun k hk => (o6.out.lt k hk).2, f10.size⟩
      have hlen : ∀ x ∈ [castI u1, castI u1, ps, castI L, castI l, castI L], x.length ≤ 1099511627776 := by
        have q1 := hu1.out.len hok.out ha
        have q2 := hps.out.len
        have q3 := hL.out.len
        intro x hx
        simp only [List.mem_cons, List.not_mem_nil, or_false] at hx
        rcases hx with rfl | rfl | rfl | rfl | rfl | rfl
        all_goals first | (rw [castI_len]; omega) | omega
      replace hOwns := Lib.hid hOwns
      replace hlen := Lib.hid hlen
      have c12 := Below.step c10 f10
      have d12 := Below.step d10 f10
      have cB := Below.step c12 (belowAlloc w12 (.cells #[.slice a1 n1 k1, .slice a2 n2 k2, .slice a3 n3 k3, .slice a4 n4 k4, .slice a5 n5 k5, .slice a6 n6 k6] 22))
      have dB := Below.step d12 (belowAlloc w12 (.cells #[.slice a1 n1 k1, .slice a2 n2 k2, .slice a3 n3 k3, .slice a4 n4 k4, .slice a5 n5 k5, .slice a6 n6 k6] 22))
      go_wp2_with fail
      refine (apart_lit _ _ _ _ hOwns.out (by simp) hlen.out _ rfl 6 rfl).mono ?_
      rintro e w13 ⟨rfl, b13⟩
      have cE := cB.trans b13
      have dE := dB.trans (b13.mono b04.size)
      go_wp2_with fail
      refine (keptG_any w4.heap.size _ na nc G w13 (hlent.out.belowB cE) (h.out.below dE) (by omega) hsz2.out).mono ?_
      rintro e w14 h14
      obtain ⟨rfl, b14⟩ := h14.below
      clear h14
      have dF := Lib.hid (Below.step dE b14)
      go_wp2
      go_ret
      exact ⟨_, rfl, dF.out, rfl⟩
end Go.Proofs.YtbpdmpcakenjhaaDoor

namespace Go.Proofs.YtbpdmpcakenjhaaDoor
open Go.ChangeShapes Go.WideShapes Go.ChangeAt Go.RowKit Go.Joins
set_option maxRecDepth 100000

theorem own : ownKnob Tryd.prog.godebug = none := by kernel_rfl
theorem laidOut : laidOutB Tryd.prog = true := by kernel_rfl
theorem cellsInt : Tryd.prog.cellsOf 3 = 1 := by kernel_rfl
theorem uInt : Tryd.prog.underlying 3 = some (.int .i64) := by kernel_rfl
theorem bytesInt : Tryd.prog.bytesOf 3 = 8 := by kernel_rfl

theorem i64_of_wf {n : Int} (h : (Lit.int .i64 n).wf = true) : I64 n := by
  have := bounds_i64 h
  unfold I64
  omega

/-- A []int that came in. -/
theorem open_intsV {H : Type} {enc : TypeId × Value → H} {W : World} {held : Bool} {fuel : Nat} {v : Value} {y : DataW H × List MemPlace}
    (h : DataW.trod enc Tryd.prog W 0 (fun _ => true) held fuel 22 [v] = some y) (hw : ∀ n ∈ y.1.weights Tryd.prog 22, n ≤ reachBytes) :
    ∃ xs, IntsAt W v xs ∧ xs.length ≤ 17592186043904 ∧ ∀ x ∈ xs, I64 x := by
  rcases open_ints uInts uInt cellsInt h with ⟨hcs, _⟩ | ⟨a, len, cap, zs, hcs, _, hl, hm, hz, hx, hcell, hwz⟩
  · simp at hcs
    subst hcs
    exact ⟨[], (OwnI.nil 0 W).at, by simp, by simp⟩
  · simp at hcs
    subst hcs
    simp only [if_true] at hz
    have hzl : (zs.take len).length = len := by simp; omega
    refine ⟨zs.take len, ⟨some a, cap, by rw [hzl], by rw [hzl]; exact hl, hm, (fun e => by cases e), fun i hi => ?_⟩, ?_, fun x hx => i64_of_wf (hwz x (List.mem_of_mem_take hx))⟩
    · have hi' : i < zs.length := by rw [hzl] at hi; omega
      show W.cell? (a.add i) = _
      rw [hcell i hi']
      simp [List.getD, hi']
    · rw [hx] at hw
      have := hw ((lits (H := H) .i64 (zs.take len)).length * 8 + (lits (H := H) .i64 (zs.drop len)).length * 8) (by
        simp only [DataW.weights, uInts, bytesInt, List.mem_cons]
        left; omega)
      simp only [lits, List.length_map, reachBytes] at this
      omega

theorem open_intsT {H : Type} {enc : TypeId × Value → H} {W : World} {held : Bool} {v : Value} {d : DataW H} {p : List MemPlace} {b0 : Nat}
    (hv : Value.okWide Tryd.prog W .any b0 22 v) (h : DataW.Trod enc Tryd.prog W 0 (fun _ => true) held 22 v d p) (hw : ∀ n ∈ d.weights Tryd.prog 22, n ≤ reachBytes) :
    ∃ xs, IntsAt W v xs ∧ xs.length ≤ 17592186043904 ∧ ∀ x ∈ xs, I64 x := by
  obtain ⟨a, l, c, rfl⟩ := okWide_slice uInts hv
  obtain ⟨fuel, hf⟩ := h
  exact open_intsV (y := (d, p)) (by simpa [Value.cells] using hf) hw

theorem weights_each3 {H : Type} {t0 t1 t2 : TypeId} {y0 y1 y2 : DataW H} {n : Nat} (h : n ∈ y2.weights Tryd.prog t2) : n ∈ DataW.weightsEach Tryd.prog [t0, t1, t2] [y0, y1, y2] := by
  simp only [DataW.weightsEach, List.mem_append]
  exact .inr (.inr (.inl h))

/-- A rule that came in. -/
theorem open_ruleV {H : Type} {enc : TypeId × Value → H} {W : World} {held : Bool} {v : Value} {d : DataW H} {p : List MemPlace} {b0 : Nat}
    (hv : Value.okWide Tryd.prog W .any b0 24 v) (h : DataW.Trod enc Tryd.prog W 0 (fun _ => true) held 24 v d p) (hw : ∀ n ∈ d.weights Tryd.prog 24, n ≤ reachBytes) :
    ∃ (k R : Int) (u : Value) (xs : List Int), v = .agg #[.int .i64 k, .int .i64 R, u] ∧ IntsAt W u xs ∧ xs.length ≤ 17592186043904 ∧ (∀ x ∈ xs, I64 x) ∧ I64 k ∧ I64 R := by
  obtain ⟨v0, v1, v2, y0, y1, y2, n, rfl, rfl, rfl, h0, h1, h2⟩ := open_agg3 Tryd.underlying24 (by kernel_rfl) (by kernel_rfl) hv h
  obtain ⟨a, e0, _, wa⟩ := DataW.trod_int uInt h0
  obtain ⟨b, e1, _, wb⟩ := DataW.trod_int uInt h1
  simp at e0 e1
  subst e0 e1
  obtain ⟨xs, hx, hl, hb⟩ := open_intsV h2 fun n hn => hw n (by
    simp only [DataW.weights, Tryd.underlying24]
    exact weights_each3 (t0 := 3) (t1 := 3) (t2 := 22) hn)
  exact ⟨a, b, v2, xs, rfl, hx, hl, hb, i64_of_wf wa, i64_of_wf wb⟩

/-! The package-level errors. -/
theorem star : "*" ++ "errors.errorString" = "*errors.errorString" := by decide
theorem rowES (u : TypeId) (h : Tryd.prog.typeName? 3 u = some "*errors.errorString") : u = 174 :=
  typeName_ptr_named (nm := "errors.errorString") (by rw [star]; kernel_rfl) (by kernel_rfl) (by decide) u (by rw [star]; exact h)
theorem pES : Tryd.prog.underlying 174 = some (.pointer 195) := by kernel_rfl
theorem cES : Tryd.prog.cellsOf 195 = 1 := by kernel_rfl
theorem cStr : Tryd.prog.cellsOf 9 = 1 := by kernel_rfl

def laid12 : List (String × DataW Unit) := [("eden/api.BadRule", Rows.laid_eden_api_BadRule), ("eden/api.BadWord", Rows.laid_eden_api_BadWord), ("eden/api.BadArg", Rows.laid_eden_api_BadArg), ("eden/api.TooBig", Rows.laid_eden_api_TooBig), ("eden/api.NoBudget", Rows.laid_eden_api_NoBudget), ("eden/api.BadText", Rows.laid_eden_api_BadText), ("eden/api.BadPatch", Rows.laid_eden_api_BadPatch), ("eden/api.BadCert", Rows.laid_eden_api_BadCert), ("eden/api.NoInverse", Rows.laid_eden_api_NoInverse), ("eden/api.BadLine", Rows.laid_eden_api_BadLine), ("eden/api.BadState", Rows.laid_eden_api_BadState), ("eden/api.Unknown", Rows.laid_eden_api_Unknown)]

theorem sentinel {n : String} {text : List UInt8} {r : List (String × DataW Unit)} {W : World} {g : Nat}
    (h : laidMet Tryd.prog ((n, .iface "*errors.errorString" (.ptr (.agg [.lit (.string text)]))) :: r) W)
    (hg : Tryd.prog.globalNamed n = some g) (ht : (Tryd.prog.globals[g]?).map (·.type) = some 27) :
    (∃ a : Addr, W.cell? ⟨g, 0, none⟩ = some (.iface 174 (.pointer (some a))) ∧ ∃ s, W.cell? a = some (.string s) ∧ s.data.toList = text) ∧ laidMet Tryd.prog r W := by
  refine ⟨?_, h.tail⟩
  obtain ⟨a, s, hv, hc, hs, _⟩ := laid_sentinel h hg ht Tryd.underlying27 rowES pES Tryd.underlying195 rfl rfl Tryd.underlying9 cES cStr
  exact ⟨a, by simpa using World.var?_cell hg hv 0, s, hc, hs⟩

def txt : Nat → List UInt8
  | 1 => [98, 97, 100, 32, 114, 117, 108, 101]
  | 2 => [98, 97, 100, 32, 119, 111, 114, 100]
  | 3 => [98, 97, 100, 32, 97, 114, 103, 117, 109, 101, 110, 116]
  | 4 => [116, 111, 111, 32, 98, 105, 103]
  | 5 => [110, 111, 32, 98, 117, 100, 103, 101, 116]
  | 6 => [98, 97, 100, 32, 116, 101, 120, 116]
  | 7 => [98, 97, 100, 32, 112, 97, 116, 99, 104]
  | 8 => [98, 97, 100, 32, 99, 101, 114, 116, 105, 102, 105, 99, 97, 116, 101]
  | 9 => [110, 111, 32, 105, 110, 118, 101, 114, 115, 101]
  | 10 => [98, 97, 100, 32, 108, 105, 110, 101]
  | 11 => [98, 97, 100, 32, 115, 116, 97, 116, 101]
  | 99 => [117, 110, 107, 110, 111, 119, 110]
  | _ => []
theorem txt_apart : ∀ m n : Fin 12, 1 ≤ m.val → 1 ≤ n.val → txt m.val = txt n.val → m = n := by decide

theorem glob_of_laid {W : World} (h : laidMet Tryd.prog laid12 W) : ∃ r, Glob r W := by
  obtain ⟨⟨a1, c1, s1, e1, t1⟩, h⟩ := sentinel (text := txt 1) h (g := 0) (by kernel_rfl) (by kernel_rfl)
  obtain ⟨⟨a2, c2, s2, e2, t2⟩, h⟩ := sentinel (text := txt 2) h (g := 1) (by kernel_rfl) (by kernel_rfl)
  obtain ⟨⟨a3, c3, s3, e3, t3⟩, h⟩ := sentinel (text := txt 3) h (g := 2) (by kernel_rfl) (by kernel_rfl)
  obtain ⟨⟨a4, c4, s4, e4, t4⟩, h⟩ := sentinel (text := txt 4) h (g := 3) (by kernel_rfl) (by kernel_rfl)
  obtain ⟨⟨a5, c5, s5, e5, t5⟩, h⟩ := sentinel (text := txt 5) h (g := 4) (by kernel_rfl) (by kernel_rfl)
  obtain ⟨⟨a6, c6, s6, e6, t6⟩, h⟩ := sentinel (text := txt 6) h (g := 5) (by kernel_rfl) (by kernel_rfl)
  obtain ⟨⟨a7, c7, s7, e7, t7⟩, h⟩ := sentinel (text := txt 7) h (g := 6) (by kernel_rfl) (by kernel_rfl)
  obtain ⟨⟨a8, c8, s8, e8, t8⟩, h⟩ := sentinel (text := txt 8) h (g := 7) (by kernel_rfl) (by kernel_rfl)
  obtain ⟨⟨a9, c9, s9, e9, t9⟩, h⟩ := sentinel (text := txt 9) h (g := 8) (by kernel_rfl) (by kernel_rfl)
  obtain ⟨⟨a10, c10, s10, e10, t10⟩, h⟩ := sentinel (text := txt 10) h (g := 9) (by kernel_rfl) (by kernel_rfl)
  obtain ⟨⟨a11, c11, s11, e11, t11⟩, h⟩ := sentinel (text := txt 11) h (g := 10) (by kernel_rfl) (by kernel_rfl)
  obtain ⟨⟨a99, c99, s99, e99, t99⟩, h⟩ := sentinel (text := txt 99) h (g := 11) (by kernel_rfl) (by kernel_rfl)
  clear h
  have key : ∀ n : Nat, (1 ≤ n ∧ n ≤ 11) ∨ n = 99 → ∃ s, W.cell? ((fun n : Nat => match n with | 1 => a1 | 2 => a2 | 3 => a3 | 4 => a4 | 5 => a5 | 6 => a6 | 7 => a7 | 8 => a8 | 9 => a9 | 10 => a10 | 11 => a11 | _ => a99) n) = some (.string s) ∧ s.data.toList = txt n := by
    intro n hn
    have : n = 1 ∨ n = 2 ∨ n = 3 ∨ n = 4 ∨ n = 5 ∨ n = 6 ∨ n = 7 ∨ n = 8 ∨ n = 9 ∨ n = 10 ∨ n = 11 ∨ n = 99 := by omega
    rcases this with rfl | rfl | rfl | rfl | rfl | rfl | rfl | rfl | rfl | rfl | rfl | rfl
    · exact ⟨s1, e1, t1⟩
    · exact ⟨s2, e2, t2⟩
    · exact ⟨s3, e3, t3⟩
    · exact ⟨s4, e4, t4⟩
    · exact ⟨s5, e5, t5⟩
    · exact ⟨s6, e6, t6⟩
    · exact ⟨s7, e7, t7⟩
    · exact ⟨s8, e8, t8⟩
    · exact ⟨s9, e9, t9⟩
    · exact ⟨s10, e10, t10⟩
    · exact ⟨s11, e11, t11⟩
    · exact ⟨s99, e99, t99⟩
  refine ⟨(fun n : Nat => match n with | 1 => a1 | 2 => a2 | 3 => a3 | 4 => a4 | 5 => a5 | 6 => a6 | 7 => a7 | 8 => a8 | 9 => a9 | 10 => a10 | 11 => a11 | _ => a99), c1, c2, c3, c4, c5, c6, c7, c8, c9, c10, c11, c99, (fun n hn => ?_), fun m n hm1 hm2 hn1 hn2 he => ?_⟩
  · obtain ⟨s, hs, _⟩ := key n hn
    exact ⟨s, hs⟩
  · obtain ⟨s, hs, ts⟩ := key m.toNat (by omega)
    obtain ⟨s', hs', ts'⟩ := key n.toNat (by omega)
    have hss : s = s' := by
      have := hs.symm.trans ((congrArg W.cell? he).trans hs')
      simpa using this
    subst hss
    have := txt_apart ⟨m.toNat, by omega⟩ ⟨n.toNat, by omega⟩ (by simp; omega) (by simp; omega) (ts.symm.trans ts')
    have := congrArg Fin.val this
    simp at this
    omega
end Go.Proofs.YtbpdmpcakenjhaaDoor

namespace Go.Proofs.YtbpdmpcakenjhaaDoor
open Go.ChangeShapes Go.WideShapes Go.ChangeAt Go.RowKit Go.Joins
set_option maxRecDepth 100000

theorem uLists : Tryd.prog.underlying 32 = some (.slice 22) := by kernel_rfl
theorem cellsInts : Tryd.prog.cellsOf 22 = 1 := by kernel_rfl
theorem bytesInts : Tryd.prog.bytesOf 22 = 24 := by kernel_rfl

theorem weightsAll_mem {H : Type} {P : Program} {e : TypeId} : ∀ {l : List (DataW H)} {d : DataW H}, d ∈ l → ∀ n ∈ d.weights P e, n ∈ DataW.weightsAll P e l
  | x :: l, d, hd, n, hn => by
    simp only [DataW.weightsAll]
    rcases List.mem_cons.1 hd with rfl | hd
    · exact List.mem_append_left _ hn
    · exact List.mem_append_right _ (weightsAll_mem hd n hn)

theorem open_listsV {H : Type} {enc : TypeId × Value → H} {W : World} {held : Bool} {fuel : Nat} {v : Value} {y : DataW H × List MemPlace}
    (h : DataW.trod enc Tryd.prog W 0 (fun _ => true) held fuel 32 [v] = some y) (hw : ∀ n ∈ y.1.weights Tryd.prog 32, n ≤ reachBytes) :
    ∃ (na : Option Addr) (nc : Nat) (G : List (List Int)), v = .slice na G.length nc ∧ ListsAt W v G ∧ G.length ≤ 5864062014805 ∧ ∀ k, k < G.length → (G.getD k []).length ≤ 17592186043904 ∧ ∀ x ∈ G.getD k [], I64 x := by
  rcases DataW.trod_slice uLists h with ⟨hcs, _⟩ | ⟨a, len, cap, elems, rest, n, _, hcs, hy, _, hl, hm, hlen, hel, _, _⟩
  · simp at hcs
    subst hcs
    refine ⟨none, 0, [], rfl, ⟨[], ⟨none, 0, rfl, Nat.le_refl 0, by unfold maxLen; omega, fun _ => rfl, fun i hi => absurd hi (by simp)⟩, rfl, fun i hi => absurd hi (by simp)⟩, by simp, fun k hk => absurd hk (by simp)⟩
  · simp only [List.cons.injEq, and_true] at hcs
    subst hcs
    subst hy
    have hone : ∀ i, i < len → ∃ u d p, W.cell? (a.add i) = some u ∧ elems[i]? = some (d, p) ∧ DataW.trod enc Tryd.prog W 0 (fun _ => true) held n 22 [u] = some (d, p) := by
      intro i hi
      have hi' : i < elems.length := by omega
      have := hel i hi
      rw [List.getElem?_eq_getElem hi', cellsInts, Nat.mul_one, Option.bind_eq_some_iff] at this
      obtain ⟨cs', h1, h2⟩ := this
      obtain ⟨_, hcl, hcc⟩ := World.cells?_some h1
      match cs', hcl with
      | [c], _ =>
        have h0 := hcc 0 (by omega)
        exact ⟨c, _, _, by simpa [Addr.add] using h0, List.getElem?_eq_getElem hi', h2⟩
    have hall : ∀ i, i < len → ∃ u xs, W.cell? (a.add i) = some u ∧ IntsAt W u xs ∧ xs.length ≤ 17592186043904 ∧ ∀ x ∈ xs, I64 x := by
      intro i hi
      obtain ⟨u, d, p, h1, h2, h3⟩ := hone i hi
      obtain ⟨xs, q1, q2, q3⟩ := open_intsV (y := (d, p)) h3 (fun m hm' => hw m (by
        simp only [DataW.weights, uLists]
        refine List.mem_cons_of_mem _ (List.mem_append_left _ (weightsAll_mem (d := d) (List.mem_map.2 ⟨(d, p), List.mem_of_getElem? h2, rfl⟩) _ hm'))))
      exact ⟨u, xs, h1, q1, q2, q3⟩
    have hN : len ≤ 5864062014805 := by
      have := hw ((List.map (fun x => x.1) elems).length * 24 + (List.map (fun x => x.1) rest).length * 24) (by
        simp only [DataW.weights, uLists, bytesInts, List.mem_cons]
        left; omega)
      simp only [List.length_map, reachBytes] at this
      omega
    let U : Nat → Value := fun i => if hi : i < len then (hall i hi).choose else undef
    let X : Nat → List Int := fun i => if hi : i < len then (hall i hi).choose_spec.choose else []
    have hUX : ∀ i, i < len → W.cell? (a.add i) = some (U i) ∧ IntsAt W (U i) (X i) ∧ (X i).length ≤ 17592186043904 ∧ ∀ x ∈ X i, I64 x := by
      intro i hi
      simp only [U, X, dif_pos hi]
      exact (hall i hi).choose_spec.choose_spec
    have hGl : ((List.range len).map X).length = len := by simp
    have hG : ∀ i, i < len → ((List.range len).map X).getD i [] = X i := by
      intro i hi
      simp [List.getD, hi]
    have hVl : ((List.range len).map U).length = len := by simp
    refine ⟨some a, cap, (List.range len).map X, by rw [hGl], ⟨(List.range len).map U, ⟨some a, cap, by rw [hVl], by rw [hVl]; exact hl, hm, (fun e => by cases e), fun i hi => ?_⟩, by rw [hVl, hGl], fun i hi => ?_⟩, by rw [hGl]; exact hN, fun k hk => ?_⟩
    · rw [hVl] at hi
      show W.cell? (a.add i) = _
      rw [(hUX i hi).1]
      simp
    · rw [hGl] at hi
      rw [hG i hi]
      have : vAt ((List.range len).map U) i = U i := by simp [vAt, List.getD, hi]
      rw [this]
      exact (hUX i hi).2.1
    · rw [hGl] at hk
      rw [hG k hk]
      exact (hUX k hk).2.2

theorem open_listsT {H : Type} {enc : TypeId × Value → H} {W : World} {held : Bool} {v : Value} {d : DataW H} {p : List MemPlace} {b0 : Nat}
    (hv : Value.okWide Tryd.prog W .any b0 32 v) (h : DataW.Trod enc Tryd.prog W 0 (fun _ => true) held 32 v d p) (hw : ∀ n ∈ d.weights Tryd.prog 32, n ≤ reachBytes) :
    ∃ (na : Option Addr) (nc : Nat) (G : List (List Int)), v = .slice na G.length nc ∧ ListsAt W v G ∧ G.length ≤ 5864062014805 ∧ ∀ k, k < G.length → (G.getD k []).length ≤ 17592186043904 ∧ ∀ x ∈ G.getD k [], I64 x := by
  obtain ⟨a, l, c, rfl⟩ := okWide_slice uLists hv
  obtain ⟨fuel, hf⟩ := h
  exact open_listsV (y := (d, p)) (by simpa [Value.cells] using hf) hw
end Go.Proofs.YtbpdmpcakenjhaaDoor

namespace Go.Proofs.YtbpdmpcakenjhaaDoor
open Go.ChangeShapes Go.WideShapes Go.ChangeAt Go.RowKit Go.Joins
namespace GraphKeepsP

set_option maxRecDepth 100000 in
theorem door_met (os : Os) (args : Array Value) : laidMetH Tryd.prog Rows.graphKeepsRow.laid ((World.doorLaid Tryd.prog 400 os).forCall (fun _ _ => 0) ⟨#[], args, []⟩).memory :=
  laidMetH_of_parts3 (fuel := 8) (laidMet_of_run' 8 (by kernel_rfl) (by kernel_rfl)) (by kernel_rfl) (by kernel_rfl)

set_option maxRecDepth 100000 in
theorem lifted (os : Os) (started : os.Started) (H : Type) (enc : TypeId × Value → H) :
    ReturnsInHanded {} Tryd.checked os 6 .any (fun w args => (Rows.graphKeepsSpec.pre enc Tryd.prog Tryd.f6 [] false w args ∧ laidMetH Tryd.prog Rows.graphKeepsRow.laid w) ∧ sizedMet enc Tryd.prog Tryd.f6 (OpenSpec.ofChange Rows.graphKeepsSpec) false w args)
      (Rows.graphKeepsSpec.post enc Tryd.prog Tryd.f6 false true false false) := by
  refine returnsInHanded_of_change_and (C := Tryd.checked) (X := fun w _ => laidMetH Tryd.prog Rows.graphKeepsRow.laid w) (fun _ _ _ hh h => h.of_heap hh) own started (by kernel_rfl) Tryd.func6
    (ChangeSpec.witness_shaped (enc := enc) (C := Tryd.checked) (os := os) (X := fun w _ => laidMetH Tryd.prog Rows.graphKeepsRow.laid w) false (World.doorLaid Tryd.prog 400 os) #[.slice none 0 0, .int .i64 0, .int .i64 0] 8 rfl (World.shaped_of_RefB (by kernel_rfl) (by kernel_rfl)) (by kernel_rfl) (by kernel_rfl) (by kernel_rfl) (door_met os _)) ?_
  intro W base args ds gs before hval0 hW _ hsz hL _
  have hval : ∀ (j : Nat) t v, Tryd.f6.params[j]? = some t → args[j]? = some v → Value.okWide Tryd.prog W .any base t v := hval0
  have hW' := hW
  obtain ⟨p, q, hA0, hV, rfl, hfz, hnd⟩ := hW
  have hA : DataW.TrodAll enc Tryd.prog W 0 (fun _ => true) true Tryd.f6.params.toList args.toList ds p := hA0
  rw [Tryd.params6] at hA hval hsz
  obtain ⟨v0, vs0, d0, ds0, p0, q0, hargs, rfl, rfl, g0, t0⟩ := trodAll_cons hA
  obtain ⟨v1, vs1, d1, ds1, p1, q1, rfl, rfl, rfl, g1, t1⟩ := trodAll_cons t0
  obtain ⟨v2, vs2, d2, ds2, p2, q2, rfl, rfl, rfl, g2, t2⟩ := trodAll_cons t1
  obtain ⟨rfl, rfl, rfl⟩ := trodAll_nil t2
  obtain rfl : args = #[v0, v1, v2] := by cases args; simp_all
  obtain ⟨rfl, rfl⟩ := trodVars_none hV
  have kk0 := g0
  have lt0 : ∀ x ∈ p0, x.block < W.heap.size := by obtain ⟨m, hm⟩ := kk0; exact DataW.trod_lt m _ _ _ hm
  obtain ⟨na0, nc0, G0, rfl, h0, l0, b0⟩ := open_listsT (hval 0 32 v0 rfl rfl) g0 (fun n hn => by
    have := List.all_eq_true.1 hsz n (DataW.weights_mem_each (j := 0) (t := 32) rfl rfl n hn)
    simpa using this)
  obtain ⟨k1, rfl, rfl, rfl, w1⟩ := open_int uInt (hval 1 3 v1 rfl rfl) g1
  have b1 := i64_of_wf w1
  obtain ⟨k2, rfl, rfl, rfl, w2⟩ := open_int uInt (hval 2 3 v2 rfl rfl) g2
  have b2 := i64_of_wf w2
  obtain ⟨r, hg⟩ := glob_of_laid (W := W) (by
    rw [MakeChecks.laidMetH_plain _ _ _ (by kernel_rfl)] at hL
    exact hL)
  clear hA0 hval0
  refine (graphKeeps_any r na0 nc0 G0 k1 k2 W hg h0 (fun k hk => (b0 k hk).1)).mono fun e W' ⟨x, he, bel, hxx⟩ => ?_
  subst he; subst hxx
  exact ⟨_, rfl, _, _, _, [], _, [], hW', trodAll_mk1 (shut_bool Tryd.underlying4 _), (trodAll_cons_mk (Below.trod laidOut (by kernel_rfl) (of_decide_eq_true (by kernel_rfl)) kk0 bel lt0) (trodAll_cons_mk (shut_int uInt w1) (trodAll_cons_mk (shut_int uInt w2) trodAll_mk0))), rfl, bel.frame _, fun h => by cases h⟩

theorem over : Rows.GraphKeepsSaid :=
  OpenClaim.holds_of_wide 6 Tryd.f6 rfl rfl rfl rfl rfl rfl rfl ⟨rfl, rfl, rfl, rfl, rfl⟩ rfl rfl rfl rfl rfl (by kernel_rfl) Tryd.func6 (by kernel_rfl)
    (of_decide_eq_true (by kernel_rfl)) (by unfold Func.isWrapper; first | (rw [if_pos (by decide +kernel)]; kernel_rfl) | (rw [if_neg (by decide +kernel)]; exact ⟨rfl, rfl⟩))
    (fun os started H enc _ => lifted os started H enc)

/-- The tied card. -/
theorem card_holds : Rows.GraphKeepsCardSaid :=
  Claim7.holds_tied_plain_at .later [] [.sentinel, .sentinel, .sentinel, .sentinel, .sentinel, .sentinel, .sentinel, .sentinel, .sentinel, .sentinel, .sentinel, .sentinel] true _ true
    over (fun _ h => by cases h) (by kernel_rfl) (fun _ h => by cases h) graphKeeps_row_tie rfl ⟨rfl, rfl⟩ (by kernel_rfl) rfl
    (fun f fn hf hfn => by
      obtain rfl : f = 6 := Option.some.inj ((show Tryd.prog.funcNamed Rows.graphKeepsRow.func = some 6 by kernel_rfl).symm.trans hf) |>.symm
      obtain rfl : fn = Tryd.f6 := (Option.some.inj (Tryd.func6.symm.trans hfn)).symm
      exact ⟨by kernel_rfl, fun j t ht => by
        rw [Tryd.params6] at ht
        have hm : t ∈ [32, 3, 3] := by simpa using Array.mem_of_getElem? ht
        have hall : ([32, 3, 3].all fun u => !Tryd.prog.wantsStandIn u) = true := by kernel_rfl
        exact (show Tryd.prog.wantsStandIn t = false by simpa using List.all_eq_true.1 hall t hm)⟩)
    (by kernel_rfl)
end GraphKeepsP
#print axioms GraphKeepsP.card_holds
end Go.Proofs.YtbpdmpcakenjhaaDoor
