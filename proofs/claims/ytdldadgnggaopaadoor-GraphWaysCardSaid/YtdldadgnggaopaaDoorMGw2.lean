/-
  A graph in memory: lists of ints that are read; its arrows as plain numbers.
  Several owned lists, each in blocks of its own: what Apart asks.
  Walks: slices.ContainsFunc, graph.Check.
  edenraw.Err in memory; walks: edenraw.Root, New, Under, (Err).Bad.
  Plain mathematics of layer 18: the table of a sum, the factors of a rule.
  Plain mathematics of layer 19: rules that permute at one end.
  Plain mathematics: one sum behind another is the sum of the product.
  Plain mathematics: the running number of rule.Step is the window's.
  Walks: edenref03.Bad, edenref04.Power, Digits, Check.
  Walk: edenref12.Check.
  Several rows of memory of one's own, under names, no two in one block: what a store, an append, a new row does to them.
  A law for a region that draws its order: the operations of its head in an order of our own, each load under a fact on the world that the head keeps; then the forced tail, one behind the other.
  The memory of graph's search under names: its box, the marks, the two stacks; what a store, an append, a shorter stack does to it.
  Lists of ints of one's own: a row of slices, each a row of its own; what a new list, an append, a store does to them.
  Walk: graph.back: the arrows the other way round.
-/
import Derived.Test.YtdldadgnggaopaaDoorMGw1
import Derived.Deep.DeepCutAuto
import Derived.Deep.RegionLawGrows
import Derived.Deep.RegionHeld3
import Derived.StillTail
import Derived.BigQuiet
import Derived.Deep.QuietTactic
namespace Go.Proofs.YtdldadgnggaopaaDoor
open Go.RowKit

/-- v is a slice of slices that reads the lists G. -/
def ListsAt (w : World) (v : Value) (G : List (List Int)) : Prop :=
  ∃ vs : List Value, ValsAt w v vs ∧ vs.length = G.length ∧ ∀ i, i < G.length → IntsAt w (vAt vs i) (G.getD i [])
theorem ListsAt.below {w w' : World} {v : Value} {G : List (List Int)} (h : ListsAt w v G) (hb : Below w.heap.size w w') : ListsAt w' v G := by
  obtain ⟨vs, h1, h2, h3⟩ := h
  exact ⟨vs, h1.below hb, h2, fun i hi => (h3 i hi).below hb⟩
theorem ListsAt.drewN {w : World} {v : Value} {G : List (List Int)} (h : ListsAt w v G) (n : Nat) : ListsAt (w.drewN n) v G := h
theorem ListsAt.len {w : World} {v : Value} {G : List (List Int)} (h : ListsAt w v G) (ty : TypeId) (w' : World) :
    (Builtin.len_ #[33] ty #[v]).run Tryd.prog w' = .ok (.int .i64 G.length) w' := by
  obtain ⟨vs, h1, h2, h3⟩ := h
  rw [h1.len oneLists, h2]
theorem ListsAt.shape {w : World} {v : Value} {G : List (List Int)} (h : ListsAt w v G) : ∃ a c, v = .slice a G.length c := by
  obtain ⟨vs, ⟨a, c, e, _⟩, h2, _⟩ := h
  exact ⟨a, c, by rw [e, h2]⟩
theorem ListsAt.row {w : World} {v : Value} {G : List (List Int)} (h : ListsAt w v G) (x : Nat) (hx : x < G.length) :
    ∃ mv, (∀ w', (Instr.indexAt 33 v (.int .i64 x)).run Tryd.prog w' = .ok (.pointer (some (valAt v x))) w') ∧ w.cell? (valAt v x) = some mv ∧ IntsAt w mv (G.getD x []) := by
  obtain ⟨vs, h1, h2, h3⟩ := h
  exact ⟨vAt vs x, fun w' => h1.idx oneLists x (by omega) w', h1.cellV x (by omega), h3 x hx⟩
/-- Where an arrow leads. -/
def adjOf (G : List (List Int)) (v : Nat) : List Nat := (G.getD v []).map Int.toNat
/-- All arrows lead to vertices. -/
def GraphOk (G : List (List Int)) : Prop := ∀ v, v < G.length → ∀ t ∈ G.getD v [], 0 ≤ t ∧ t < G.length
theorem adjOf_len (G : List (List Int)) (v : Nat) : (adjOf G v).length = (G.getD v []).length := by simp [adjOf]
theorem GraphOk.lt {G : List (List Int)} (h : GraphOk G) : ∀ v, v < G.length → ∀ t ∈ adjOf G v, t < G.length := by
  intro v hv t ht
  obtain ⟨i, hi, rfl⟩ := List.mem_map.1 ht
  have := h v hv i hi
  omega
theorem GraphOk.get {G : List (List Int)} (h : GraphOk G) {v : Nat} (hv : v < G.length) {i : Nat} (hi : i < (G.getD v []).length) : (G.getD v []).getD i 0 = ((adjOf G v).getD i 0 : Int) := by
  have hm : (G.getD v [])[i] ∈ G.getD v [] := List.getElem_mem hi
  have := h v hv _ hm
  simp only [adjOf, List.getD_eq_getElem?_getD (l := List.map _ _), List.getElem?_map, List.getElem?_eq_getElem hi, Option.map_some, Option.getD_some]
  rw [List.getD_eq_getElem?_getD, List.getElem?_eq_getElem hi, Option.getD_some]
  omega
end Go.Proofs.YtdldadgnggaopaaDoor

namespace Go.Proofs.YtdldadgnggaopaaDoor
open Go.RowKit

theorem Below.step {w1 w2 w3 : World} (h : Below w1.heap.size w1 w2) (k : Below w2.heap.size w2 w3) : Below w1.heap.size w1 w3 := h.trans (k.mono h.size)
theorem belowAlloc (w : World) (o : Obj) : Below w.heap.size w (w.alloc o) := (Below.refl _ _).alloc (Nat.le_refl _) _

/-- Lists of their own, from block lo on, one behind the other. -/
def Owns (w : World) : Nat → List Value → List (List Int) → Prop
  | lo, [], [] => lo ≤ w.heap.size
  | lo, v :: vs, x :: xs => ∃ hi, lo ≤ hi ∧ OwnI lo w v x ∧ (∀ k, v.ownBlock = some k → k < hi) ∧ Owns w hi vs xs
  | _, _, _ => False

theorem Owns.get {w : World} : ∀ {vs : List Value} {xs : List (List Int)} {lo : Nat}, Owns w lo vs xs → vs.length = xs.length ∧ ∀ t, t < vs.length → OwnI lo w (vAt vs t) (xs.getD t [])
  | [], [], _, _ => ⟨rfl, by intro t h; simp at h⟩
  | v :: vs, x :: xs, lo, ⟨hi, hle, ho, _, hr⟩ => by
    obtain ⟨hl, hg⟩ := Owns.get hr
    refine ⟨by simp [hl], fun t ht => ?_⟩
    cases t with
    | zero => exact ho
    | succ t => exact (hg t (by simpa using ht)).mono hle
  | [], _ :: _, _, h => h.elim
  | _ :: _, [], _, h => h.elim

theorem Owns.two {w : World} : ∀ {vs : List Value} {xs : List (List Int)} {lo : Nat}, Owns w lo vs xs → ∀ s t, s < vs.length → t < vs.length → s ≠ t → (vAt vs s).ownBlock = none ∨ (vAt vs s).ownBlock ≠ (vAt vs t).ownBlock
  | [], [], _, _, s, t, hs, _, _ => by simp at hs
  | v :: vs, x :: xs, lo, ⟨hi, hle, ho, hlt, hr⟩, s, t, hs, ht, hne => by
    have hg := (Owns.get hr).2
    have key : ∀ t, t < vs.length → ∀ k, v.ownBlock = some k → (vAt vs t).ownBlock ≠ some k := fun t ht k hk e => by
      have h1 := hlt k hk
      have h2 := ((hg t ht).lt k e).1
      omega
    match s, t, hs, ht, hne with
    | 0, 0, _, _, hne => exact absurd rfl hne
    | 0, t + 1, _, ht, _ =>
      show v.ownBlock = none ∨ v.ownBlock ≠ (vAt vs t).ownBlock
      cases hk : v.ownBlock with
      | none => exact .inl rfl
      | some k => exact .inr fun e => key t (by simpa using ht) k hk e.symm
    | s + 1, 0, hs, _, _ =>
      show (vAt vs s).ownBlock = none ∨ (vAt vs s).ownBlock ≠ v.ownBlock
      cases hk : v.ownBlock with
      | none => cases (vAt vs s).ownBlock <;> simp
      | some k => exact .inr (key s (by simpa using hs) k hk)
    | s + 1, t + 1, hs, ht, hne => exact Owns.two hr s t (by simpa using hs) (by simpa using ht) (by omega)
  | [], _ :: _, _, h, _, _, _, _, _ => h.elim
  | _ :: _, [], _, h, _, _, _, _, _ => h.elim

theorem Owns.lo_le {w : World} : ∀ {vs : List Value} {xs : List (List Int)} {lo : Nat}, Owns w lo vs xs → lo ≤ w.heap.size
  | [], [], _, h => h
  | _ :: _, _ :: _, _, ⟨_, hle, _, _, hr⟩ => Nat.le_trans hle (Owns.lo_le hr)
  | [], _ :: _, _, h => h.elim
  | _ :: _, [], _, h => h.elim

theorem Owns.alloc {w : World} (o : Obj) : ∀ {vs : List Value} {xs : List (List Int)} {lo : Nat}, Owns w lo vs xs → Owns (w.alloc o) lo vs xs
  | [], [], lo, h => by show lo ≤ (w.alloc o).heap.size; have : lo ≤ w.heap.size := h; simp; omega
  | v :: vs, x :: xs, lo, ⟨hi, hle, ho, hlt, hr⟩ => ⟨hi, hle, ho.alloc o, hlt, Owns.alloc o hr⟩
  | [], _ :: _, _, h => h.elim
  | _ :: _, [], _, h => h.elim

/-- Apart, called with a literal list of such lists. -/
theorem apart_lit (vs : List Value) (xs : List (List Int)) (lo : Nat) (w : World) (h : Owns w lo vs xs) (hn : vs.length ≤ 100) (hx : ∀ x ∈ xs, x.length ≤ 1099511627776) (cs : Array Value) (hcs : cs.toList = vs) (n : Nat) (hnn : n = vs.length) :
    Calls Tryd.prog 14 #[.slice (some ⟨w.heap.size, 0, none⟩) n n] (w.alloc (.cells cs 22)) fun e w' => e = .returned (.bool true) ∧ Below lo (w.alloc (.cells cs 22)) w' := by
  subst hnn
  obtain ⟨hl, hg⟩ := h.get
  have hs : cs.size = vs.length * 1 := by rw [← Array.length_toList, hcs]; simp
  have hm : vs.length ≤ maxLen := by unfold maxLen; omega
  have hv : ValsAt (w.alloc (.cells cs 22)) (.slice (some ⟨w.heap.size, 0, none⟩) vs.length vs.length) vs := by
    have := World.ownsRow_lit (base := 0) (e := 22) (size := 1) w cs vs.length (Nat.zero_le _) hm hs
    rw [hcs] at this
    exact OwnV.at (E := 22) (B := 0) this
  refine apart_any lo _ vs (fun t => xs.getD t []) _ hv hn (fun t ht => ?_) (fun t ht => (hg t ht).alloc _) ⟨h.two, fun i t hi ht e => ?_⟩ (by have := h.lo_le; simp; omega)
  · have : t < xs.length := by omega
    simp only [List.getD, List.getElem?_eq_getElem this, Option.getD_some]
    exact hx _ (List.getElem_mem this)
  · rw [valAt_row] at e
    have := ((hg t ht).lt _ e).2
    simp at this
end Go.Proofs.YtdldadgnggaopaaDoor

namespace Go.Proofs.YtdldadgnggaopaaDoor
open Go.RowKit
set_option maxRecDepth 100000

def sGraph : ByteArray := ⟨#[103, 114, 97, 112, 104]⟩
/-- No vertex of n. -/
def oddT (n : Nat) (t : Int) : Bool := decide (t < 0) || decide ((n : Int) ≤ t)
def arrowsTo (G : List (List Int)) : Nat → Nat
  | 0 => 0
  | k + 1 => arrowsTo G k + (G.getD k []).length
def oddTo (G : List (List Int)) : Nat → Int
  | 0 => -1
  | k + 1 => if oddTo G k < 0 then (if 0 ≤ idxOf (oddT G.length) (G.getD k []) then (k : Int) else oddTo G k) else oddTo G k
/-- What Check tells. -/
def checkG (G : List (List Int)) : PErr :=
  if 8192 < G.length then fresh sGraph 0 4
  else if 262144 < arrowsTo G G.length then fresh sGraph 1 4
  else if 0 ≤ oddTo G G.length then fresh sGraph (oddTo G G.length) 1
  else none
theorem arrowsTo_mono (G : List (List Int)) {k l : Nat} (h : k ≤ l) : arrowsTo G k ≤ arrowsTo G l := by
  induction l with
  | zero => obtain rfl : k = 0 := by omega
            exact Nat.le_refl _
  | succ l ih =>
    by_cases e : k = l + 1
    · subst e; exact Nat.le_refl _
    · have := ih (by omega); simp only [arrowsTo]; omega
theorem oddTo_neg (G : List (List Int)) : ∀ k, oddTo G k < 0 → ∀ v, v < k → ∀ t ∈ G.getD v [], oddT G.length t = false
  | 0, _, v, hv => by omega
  | k + 1, h, v, hv => by
    simp only [oddTo] at h
    by_cases hk : oddTo G k < 0
    · rw [if_pos hk] at h
      by_cases hj : 0 ≤ idxOf (oddT G.length) (G.getD k [])
      · rw [if_pos hj] at h; omega
      · by_cases e : v = k
        · subst e
          intro t ht
          rcases idxOf_cases (oddT G.length) (G.getD v []) with ⟨_, q⟩ | ⟨i, q, _⟩
          · exact q t ht
          · omega
        · exact oddTo_neg G k hk v (by omega)
    · rw [if_neg hk] at h; exact absurd h hk
theorem checkG_none {G : List (List Int)} (h : checkG G = none) : G.length ≤ 8192 ∧ arrowsTo G G.length ≤ 262144 ∧ GraphOk G := by
  unfold checkG at h
  by_cases h1 : 8192 < G.length
  · rw [if_pos h1] at h; cases h
  rw [if_neg h1] at h
  by_cases h2 : 262144 < arrowsTo G G.length
  · rw [if_pos h2] at h; cases h
  rw [if_neg h2] at h
  by_cases h3 : 0 ≤ oddTo G G.length
  · rw [if_pos h3] at h; cases h
  refine ⟨by omega, by omega, fun v hv t ht => ?_⟩
  have := oddTo_neg G G.length (by omega) v hv t ht
  simp [oddT] at this
  omega

theorem graph_wrong (r : Nat → Addr) (at_ n : Int) (w : World) (hg : Glob r w) (h1 : 1 ≤ n) (h2 : n ≤ 11) :
    Calls Tryd.prog 67 #[.int .i64 at_, .int .i64 n] w (Ret1 (fun v w' => ErrIs r w' (fresh sGraph at_ n) v) w) := by
  go_enter Tryd.func67, Tryd.ntmps67
  go_wp2_with fail
  refine (new_any r _ at_ n w hg h1 h2).mono ?_
  rintro e w' ⟨v, rfl, hb, he⟩
  go_wp2
  go_ret
  exact ⟨_, rfl, hb, he⟩

theorem check1_any (x : Int) (na : Option Addr) (n nc : Nat) (b : Addr) (w : World) (hb : w.cell? b = some (.slice na n nc)) :
    Calls Tryd.prog 69 #[.int .i64 x, .pointer (some b)] w fun e w' => e = .returned (.bool (oddT n x)) ∧ w = w' := by
  by_cases h : x < 0
  · have e : oddT n x = true := by simp [oddT, h]
    rw [e]
    go_enter Tryd.func69, Tryd.ntmps69
    go_wp2
    go_ret
    exact ⟨rfl, rfl⟩
  · have e : oddT n x = decide ((n : Int) ≤ x) := by simp [oddT, h]
    rw [e]
    go_enter Tryd.func69, Tryd.ntmps69
    go_wp2
    go_ret
    exact ⟨ret_bool (by simp), rfl⟩
theorem eg_check1 (args : Array Value) (w : World) : (callFunc 69 args).run Tryd.prog w = .ok (.enter 69 args) w := by kernel_rfl

theorem containsFunc_any (v b : Value) (F : Nat) (xs : List Int) (p : Int → Bool) (w : World) (h : IntsAt w v xs)
    (eg : ∀ args w, (callFunc F args).run Tryd.prog w = .ok (.enter F args) w)
    (hF : ∀ x : Int, x ∈ xs → Calls Tryd.prog F #[.int .i64 x, b] w fun e w' => e = .returned (.bool (p x)) ∧ w = w') :
    Calls Tryd.prog 68 #[v, .func (.func F) #[] #[b]] w fun e w' => e = .returned (.bool (decide (0 ≤ idxOf p xs))) ∧ w = w' := by
  have hI := indexFunc_any v b F xs p w h eg hF
  clear hF eg
  go_enter Tryd.func68, Tryd.ntmps68
  go_wp2_with fail
  refine hI.mono ?_
  rintro e w' ⟨rfl, rfl⟩
  go_wp2
  go_ret
  exact ⟨ret_bool (by simp), rfl⟩

set_option maxHeartbeats 2000000 in
theorem graph_check (r : Nat → Addr) (na : Option Addr) (nc : Nat) (G : List (List Int)) (w : World) (hg : Glob r w) (h : ListsAt w (.slice na G.length nc) G) (hsz : ∀ k, k < G.length → (G.getD k []).length ≤ 17592186044416) :
    Calls Tryd.prog 26 #[.slice na G.length nc] w (Ret1 (fun v w' => ErrIs r w' (checkG G) v) w) := by
  have b0 : Below w.heap.size w (w.alloc (.cells #[.slice na G.length nc] 33)) := (Below.refl _ _).alloc (Nat.le_refl _) _
  obtain ⟨w0, hw0⟩ : ∃ w0, w0 = w.alloc (.cells #[.slice na G.length nc] 33) := ⟨_, rfl⟩
  have c0 : w0.cell? ⟨w.heap.size, 0, none⟩ = some (.slice na G.length nc) := by simp [hw0, go_sem]
  rw [← hw0] at b0
  replace hsz := Lib.hid hsz
  replace hg := Lib.hid (hg.below b0)
  replace h := Lib.hid (h.below b0)
  have hn63 : G.length ≤ 9223372036854775807 := by
    obtain ⟨vs, h1, h2, _⟩ := h.out
    have := h1.len_le; omega
  by_cases hbig : 8192 < G.length
  · have hp : checkG G = fresh sGraph 0 4 := by unfold checkG; rw [if_pos hbig]
    rw [hp]
    replace hp := Lib.hid hp
    go_enter Tryd.func26, Tryd.ntmps26
    go_wp2_with fail
    rw [← hw0]
    clear hw0
    refine (graph_wrong r _ _ _ hg.out (by decide) (by decide)).mono ?_
    rintro e w' ⟨v, rfl, hb, he⟩
    replace he := Lib.hid he
    go_wp2
    go_ret
    exact ⟨_, rfl, Below.step b0 hb, he.out⟩
  · have hpure : ∀ k, k ≤ G.length → 262144 < arrowsTo G k → checkG G = fresh sGraph 1 4 := fun k hk hq => by
      unfold checkG
      rw [if_neg hbig, if_pos (by have := arrowsTo_mono G hk; omega)]
    have hend : arrowsTo G G.length ≤ 262144 → checkG G = if 0 ≤ oddTo G G.length then fresh sGraph (oddTo G G.length) 1 else none := fun hq => by
      unfold checkG
      rw [if_neg hbig, if_neg (by omega)]
    replace hpure := Lib.hid hpure
    replace hend := Lib.hid hend
    have hgt : decide ((G.length : Int) > 8192) = false := by simp; omega
    go_enter Tryd.func26, Tryd.ntmps26
    go_upto_if 9 with fail
    rw [← hw0]
    clear hw0
    go_wp2_with fail
    go_loopw [3, 4, 13] (fun a o i wr => ∃ k n : Nat, k ≤ G.length ∧ i = .int .i64 k ∧ a = .int .i64 (arrowsTo G k) ∧ o = .int .i64 (oddTo G k) ∧ arrowsTo G k ≤ 262144 ∧ wr = w0.drewN n) (fun _ _ i _ => G.length - (intOf i).toNat)
    case atStart => exact ⟨0, 0, by omega, rfl, rfl, rfl, by simp [arrowsTo], rfl⟩
    case round =>
      obtain ⟨k, q, hk, rfl, rfl, rfl, hle, rfl⟩ := hrel
      by_cases hlt : k < G.length
      · obtain ⟨mv, iR, cR, hM⟩ := h.out.row k hlt
        have hll := hsz.out k hlt
        have ha1 : arrowsTo G (k + 1) = arrowsTo G k + (G.getD k []).length := rfl
        have ho1 : oddTo G (k + 1) = if oddTo G k < 0 then (if 0 ≤ idxOf (oddT G.length) (G.getD k []) then (k : Int) else oddTo G k) else oddTo G k := rfl
        generalize G.getD k [] = gk at *
        have lenM := hM.len
        replace hM := Lib.hid hM
        by_cases hov : 262144 < arrowsTo G k + gk.length
        · have hp := hpure.out (k + 1) (by omega) (by omega)
          replace hp := Lib.hid hp
          replace ho1 := Lib.hid ho1
          replace ha1 := Lib.hid ha1
          go_wp2_with fail
          refine (graph_wrong r _ _ _ (hg.out.below (below_drewN (Below.refl _ _) q)) (by decide) (by decide)).mono ?_
          rintro e w' ⟨v, rfl, hb, he⟩
          replace he := Lib.hid he
          go_wp2
          go_ret
          exact ⟨_, rfl, Below.step b0 (Below.step (below_drewN (Below.refl _ _) q) hb), by rw [hp.out]; exact he.out⟩
        · by_cases hod : oddTo G k < 0
          · rw [if_pos hod] at ho1
            have hcf := Lib.hid (containsFunc_any mv (.pointer (some ⟨w.heap.size, 0, none⟩)) 69 gk (oddT G.length) (w0.drewN q) (hM.out.drewN q) eg_check1 (fun x _ => check1_any x na G.length nc _ _ c0))
            by_cases hx : 0 ≤ idxOf (oddT G.length) gk
            · rw [if_pos hx] at ho1
              replace ho1 := Lib.hid ho1
              replace ha1 := Lib.hid ha1
              go_wp2_with fail
              refine hcf.out.mono ?_
              rintro e w' ⟨rfl, rfl⟩
              rw [show decide (0 ≤ idxOf (oddT G.length) gk) = true by simpa using hx]
              replace hx := Lib.hid hx
              go_wp2
              go_round
              case measure => simp [intOf]; omega
              case rel => exact ⟨k + 1, _, by omega, by go_num, by rw [ha1.out]; go_num, by rw [ho1.out], by rw [ha1.out]; omega, rfl⟩
            · rw [if_neg hx] at ho1
              replace ho1 := Lib.hid ho1
              replace ha1 := Lib.hid ha1
              go_wp2_with fail
              refine hcf.out.mono ?_
              rintro e w' ⟨rfl, rfl⟩
              rw [show decide (0 ≤ idxOf (oddT G.length) gk) = false by simpa using hx]
              replace hx := Lib.hid hx
              go_wp2
              go_round
              case measure => simp [intOf]; omega
              case rel => exact ⟨k + 1, _, by omega, by go_num, by rw [ha1.out]; go_num, by rw [ho1.out], by rw [ha1.out]; omega, rfl⟩
          · rw [if_neg hod] at ho1
            replace ho1 := Lib.hid ho1
            replace ha1 := Lib.hid ha1
            go_wp2
            go_round
            case measure => simp [intOf]; omega
            case rel => exact ⟨k + 1, _, by omega, by go_num, by rw [ha1.out]; go_num, by rw [ho1.out], by rw [ha1.out]; omega, rfl⟩
      · obtain rfl : k = G.length := by omega
        have hp := hend.out hle
        by_cases hod : 0 ≤ oddTo G G.length
        · rw [if_pos hod] at hp
          replace hp := Lib.hid hp
          go_wp2_with fail
          refine (graph_wrong r _ _ _ (hg.out.below (below_drewN (Below.refl _ _) q)) (by decide) (by decide)).mono ?_
          rintro e w' ⟨v, rfl, hb, he⟩
          replace he := Lib.hid he
          go_wp2
          go_ret
          exact ⟨_, rfl, Below.step b0 (Below.step (below_drewN (Below.refl _ _) q) hb), by rw [hp.out]; exact he.out⟩
        · rw [if_neg hod] at hp
          replace hp := Lib.hid hp
          go_wp2
          go_ret
          exact ⟨_, rfl, Below.step b0 (below_drewN (Below.refl _ _) q), by rw [hp.out]; rfl⟩
end Go.Proofs.YtdldadgnggaopaaDoor

namespace Go.Proofs.YtdldadgnggaopaaDoor
open Go.RowKit
set_option maxRecDepth 100000

theorem oneStrs : OneCell 43 9 (.string ⟨#[]⟩) 16 := ⟨by kernel_rfl, by kernel_rfl, rfl, by decide, fun _ => by kernel_rfl⟩

/-- What an edenraw.Err is in memory. -/
def EAt (w : World) (t : PErr) (v : Value) : Prop :=
  match t with
  | none => v = .agg #[.int .i64 0, .slice none 0 0, .slice none 0 0]
  | some (n, l) => ∃ a1 n1 c1 a2 n2 c2, v = .agg #[.int .i64 n, .slice a1 n1 c1, .slice a2 n2 c2] ∧ ValsAt w (.slice a1 n1 c1) (l.map fun x => Value.string x.1) ∧ IntsAt w (.slice a2 n2 c2) (l.map (·.2))

theorem EAt.below {w w' : World} {t : PErr} {v : Value} (h : EAt w t v) (hb : Below w.heap.size w w') : EAt w' t v := by
  match t, h with
  | none, h => exact h
  | some (n, l), ⟨a1, n1, c1, a2, n2, c2, e, h1, h2⟩ => exact ⟨a1, n1, c1, a2, n2, c2, e, h1.below hb, h2.below hb⟩

/-- An edenraw.Err whose lists this call made, from block B on. -/
def EOwn (B : Nat) (w : World) (t : PErr) (v : Value) : Prop :=
  match t with
  | none => v = .agg #[.int .i64 0, .slice none 0 0, .slice none 0 0]
  | some (n, l) => ∃ a1 n1 c1 a2 n2 c2, v = .agg #[.int .i64 n, .slice a1 n1 c1, .slice a2 n2 c2] ∧ OwnV 9 B w (.slice a1 n1 c1) (l.map fun x => Value.string x.1) ∧ OwnV 3 B w (.slice a2 n2 c2) ((l.map (·.2)).map (Value.int .i64))

theorem OwnV.setBelowBase {E : TypeId} {B : Nat} {w : World} {v : Value} {vs : List Value} (h : OwnV E B w v vs) {a : Addr} (ha : a.block < B) (u : Value) : OwnV E B (w.setCell a u) v vs := ownsRow_setCell_below h ha u
theorem EOwn.at {B : Nat} {w : World} {t : PErr} {v : Value} (h : EOwn B w t v) : EAt w t v := by
  match t, h with
  | none, h => exact h
  | some (n, l), ⟨a1, n1, c1, a2, n2, c2, e, h1, h2⟩ => exact ⟨a1, n1, c1, a2, n2, c2, e, h1.at, OwnI.at (OwnV.toI h2)⟩
theorem EOwn.mono {B B' : Nat} {w : World} {t : PErr} {v : Value} (h : EOwn B w t v) (hB : B' ≤ B) : EOwn B' w t v := by
  match t, h with
  | none, h => exact h
  | some (n, l), ⟨a1, n1, c1, a2, n2, c2, e, h1, h2⟩ => exact ⟨a1, n1, c1, a2, n2, c2, e, h1.mono hB, h2.mono hB⟩
theorem EOwn.below {B : Nat} {w w' : World} {t : PErr} {v : Value} (h : EOwn B w t v) (hb : Below w.heap.size w w') : EOwn B w' t v := by
  match t, h with
  | none, h => exact h
  | some (n, l), ⟨a1, n1, c1, a2, n2, c2, e, h1, h2⟩ => exact ⟨a1, n1, c1, a2, n2, c2, e, h1.below hb, h2.below hb⟩
theorem EOwn.set {B : Nat} {w : World} {t : PErr} {v : Value} (h : EOwn B w t v) {a : Addr} (ha : a.block < B) (u : Value) : EOwn B (w.setCell a u) t v := by
  match t, h with
  | none, h => exact h
  | some (n, l), ⟨a1, n1, c1, a2, n2, c2, e, h1, h2⟩ => exact ⟨a1, n1, c1, a2, n2, c2, e, h1.setBelowBase ha u, h2.setBelowBase ha u⟩
theorem EOwn.set3 {B b : Nat} {w : World} {t : PErr} {v : Value} (h : EOwn B w t v) (hb : b < B) (x y z : Value) : EOwn B (((w.setCell ⟨b, 0, none⟩ x).setCell ⟨b, 1, none⟩ y).setCell ⟨b, 2, none⟩ z) t v :=
  ((h.set (a := ⟨b, 0, none⟩) hb x).set (a := ⟨b, 1, none⟩) hb y).set (a := ⟨b, 2, none⟩) hb z
theorem Below.set3 {B b : Nat} {w0 w : World} (h : Below B w0 w) (hb : B ≤ b) (x y z : Value) : Below B w0 (((w.setCell ⟨b, 0, none⟩ x).setCell ⟨b, 1, none⟩ y).setCell ⟨b, 2, none⟩ z) :=
  ((h.setCell (p := ⟨b, 0, none⟩) hb x).setCell (p := ⟨b, 1, none⟩) hb y).setCell (p := ⟨b, 2, none⟩) hb z
theorem OwnV.lit {E : TypeId} (B : Nat) (w : World) (hB : B ≤ w.heap.size) (x : Value) : OwnV E B (w.alloc (.cells #[x] E)) (.slice (some ⟨w.heap.size, 0, none⟩) 1 1) [x] :=
  World.ownsRow_lit (base := B) (e := E) (size := 1) w #[x] 1 hB (by unfold maxLen; omega) rfl

theorem EAt.shape {w : World} {t : PErr} {v : Value} (h : EAt w t v) : ∃ n a1 n1 c1 a2 n2 c2, v = .agg #[.int .i64 n, .slice a1 n1 c1, .slice a2 n2 c2] := by
  match t, h with
  | none, h => exact ⟨0, none, 0, 0, none, 0, 0, h⟩
  | some (n, l), ⟨a1, n1, c1, a2, n2, c2, e, _⟩ => exact ⟨n, a1, n1, c1, a2, n2, c2, e⟩

abbrev zErr : Value := .agg #[.int .i64 0, .slice none 0 0, .slice none 0 0]
theorem EAt.none (w : World) : EAt w none zErr := rfl

set_option maxHeartbeats 1000000 in
theorem raw_root (r : Nat → Addr) (n : Int) (w : World) (hg : Glob r w) (h1 : 1 ≤ n) (h2 : n ≤ 11) :
    Calls Tryd.prog 65 #[.int .i64 n] w fun e w' => e = .returned (rootV r n) ∧ w = w' := by
  obtain ⟨c1, c2, c3, c4, c5, c6, c7, c8, c9, c10, c11, _, _, _⟩ := hg
  have hn : n = 1 ∨ n = 2 ∨ n = 3 ∨ n = 4 ∨ n = 5 ∨ n = 6 ∨ n = 7 ∨ n = 8 ∨ n = 9 ∨ n = 10 ∨ n = 11 := by omega
  rcases hn with rfl | rfl | rfl | rfl | rfl | rfl | rfl | rfl | rfl | rfl | rfl <;>
  (clear h1 h2
   go_enter Tryd.func65, Tryd.ntmps65
   go_wp2
   go_ret
   exact ⟨rfl, rfl⟩)

theorem err_bad (n : Int) (a1 : Option Addr) (n1 c1 : Nat) (a2 : Option Addr) (n2 c2 : Nat) (w : World) :
    Calls Tryd.prog 61 #[.agg #[.int .i64 n, .slice a1 n1 c1, .slice a2 n2 c2]] w (Ret1 (fun x _ => x = .bool (n != 0)) w) := by
  go_enter Tryd.func61, Tryd.ntmps61
  go_wp2
  go_ret
  exact ⟨_, rfl, (Below.refl _ _).alloc (Nat.le_refl _) _, rfl⟩

theorem vals1 {w : World} {b : Nat} {u : Value} (h : w.cell? ⟨b, 0, none⟩ = some u) : ValsAt w (.slice (some ⟨b, 0, none⟩) 1 1) [u] :=
  ⟨some ⟨b, 0, none⟩, 1, rfl, by simp, by unfold maxLen; omega, (fun e => by cases e), fun i hi => by
    obtain rfl : i = 0 := by simpa using hi
    rw [valAt_row]; simpa using h⟩
theorem ints1 {w : World} {b : Nat} {x : Int} (h : w.cell? ⟨b, 0, none⟩ = some (.int .i64 x)) : IntsAt w (.slice (some ⟨b, 0, none⟩) 1 1) [x] :=
  ⟨some ⟨b, 0, none⟩, 1, rfl, by simp, by unfold maxLen; omega, (fun e => by cases e), fun i hi => by
    obtain rfl : i = 0 := by simpa using hi
    rw [valAt_row]; simpa using h⟩

set_option maxHeartbeats 800000 in
theorem raw_new (op : ByteArray) (at_ n : Int) (w : World) :
    Calls Tryd.prog 70 #[.string op, .int .i64 at_, .int .i64 n] w (Ret1 (fun x w' => EOwn w.heap.size w' (fresh op at_ n) x) w) := by
  go_enter Tryd.func70, Tryd.ntmps70
  go_wp2
  refine bodyPost_ret (v := .agg #[.int .i64 n, .slice (some ⟨w.heap.size + 1, 0, none⟩) 1 1, .slice (some ⟨w.heap.size + 1 + 1, 0, none⟩) 1 1]) (by simp [results, Tryd.results70, go_sem]) rfl ⟨_, rfl, ?_, ?_⟩
  · exact (((Below.refl _ _).alloc (Nat.le_refl _) _).alloc (by simp) _).alloc (by simp; omega) _
  · have h1 := (OwnV.lit (E := 9) w.heap.size (w.alloc (.cells #[.int .i64 n, .slice (some ⟨w.heap.size + 1, 0, none⟩) 1 1, .slice (some ⟨w.heap.size + 1 + 1, 0, none⟩) 1 1] 45)) (by simp) (.string op)).alloc (.cells #[.int .i64 at_] 3)
    have h2 := OwnV.lit (E := 3) w.heap.size ((w.alloc (.cells #[.int .i64 n, .slice (some ⟨w.heap.size + 1, 0, none⟩) 1 1, .slice (some ⟨w.heap.size + 1 + 1, 0, none⟩) 1 1] 45)).alloc (.cells #[.string op] 9)) (by simp; omega) (.int .i64 at_)
    simp only [World.size_alloc] at h1 h2
    exact ⟨_, _, _, _, _, _, rfl, h1, h2⟩

theorem ValsAt.alloc {w : World} {v : Value} {vs : List Value} (h : ValsAt w v vs) (o : Obj) : ValsAt (w.alloc o) v vs := h.below ((Below.refl _ _).alloc (Nat.le_refl _) _)
theorem ValsAt.drew {w : World} {v : Value} {vs : List Value} (h : ValsAt w v vs) : ValsAt w.drew v vs := h
theorem ValsAt.split {w : World} {v : Value} {vs : List Value} (h : ValsAt w v vs) : (v = .slice none 0 0 ∧ vs = []) ∨ ∃ p cap, v = .slice (some p) vs.length cap ∧ ∀ j u, vs[j]? = some u → w.cell? (p.add j) = some u := by
  obtain ⟨a, cap, rfl, h1, h2, h3, h4⟩ := h
  cases a with
  | none =>
    obtain rfl := h3 rfl
    obtain rfl := List.length_eq_zero_iff.1 (show vs.length = 0 by omega)
    exact .inl ⟨rfl, rfl⟩
  | some p =>
    refine .inr ⟨p, cap, rfl, fun j u hj => ?_⟩
    have hjl : j < vs.length := (List.getElem?_eq_some_iff.1 hj).1
    have := h4 j hjl
    simp only [valAt] at this
    rw [this, ← hj]; simp [hjl]
theorem IntsAt.alloc {w : World} {v : Value} {xs : List Int} (h : IntsAt w v xs) (o : Obj) : IntsAt (w.alloc o) v xs := h.below ((Below.refl _ _).alloc (Nat.le_refl _) _)

/-- append([]T{x}, ys...) in a region that draws. -/
theorem step_under {T E : TypeId} {z : Value} {bytes : Nat} (oc : OneCell T E z bytes) {ops : Array Oper} {o : Oper} {a : Act} {w : World} {K : Act → World → Prop} {Q : Exit → Act → World → Prop} {Ep : Prop}
    (hg : o.guard = none) (s x : Operand) (hop : o.op = Op.call { callee := Callee.builtin Builtin.append, args := #[s, x], argTypes := #[T, T] })
    (b : Nat) (x0 : Value) (hs : a.eval s = .slice (some ⟨b, 0, none⟩) 1 1) (hb : w.cell? ⟨b, 0, none⟩ = some x0)
    (u : Value) (ys : List Value) (hx : a.eval x = u) (hu : ValsAt w u ys) (h0 : 0 < ys.length) (hl : ys.length ≤ 1000) (h1 : ∀ u ∈ ys, u.oneCell' = true)
    (hK : ∀ v' w', OwnV E w.heap.size w' v' (x0 :: ys) → Below w.heap.size w w' → K (a.put o.dst v') w') :
    if Region.wanted o (yielded ops a.tmps) = true then Oper.wp Tryd.prog o a w K Q else Ep := by
  obtain ⟨i, hi, hz0, hz1, hz2⟩ := info_parts oc.hi
  rcases hu.split with ⟨_, rfl⟩ | ⟨p, cap, rfl, hc⟩
  · simp at h0
  · have hb' := oc.hb
    refine step_append_grows hg s x T hop E i z 1 bytes oc.ht hi hz0 hz1 hz2 (by rw [oc.hz]; rfl) (by decide) (some ⟨b, 0, none⟩) 1 1 [x0] hs (fun h => by cases h) rfl
      (fun b' hb2 j u hj => by
        obtain rfl := Option.some.inj hb2
        obtain ⟨hj1, hj2⟩ := List.getElem?_eq_some_iff.1 hj
        obtain rfl : j = 0 := by simpa using hj1
        simp at hj2; subst hj2
        exact hb) p ys.length cap ys hx (by simp) hc h1 (by omega) (by unfold maxLen; omega) (by
          calc (1 + ys.length) * bytes ≤ 1001 * 32 := Nat.mul_le_mul (by omega) hb'
            _ ≤ _ := by decide) ?_
    intro v' w' hown hgr
    have hv : OwnV E w.heap.size w' v' (x0 :: ys) := by
      unfold OwnV
      rw [show (x0 :: ys).length = 1 + ys.length by simp; omega]
      exact hown
    exact hK v' w' hv ((Below.refl _ _).grown hgr (Nat.le_refl _) (by intro k hk; cases hk))

end Go.Proofs.YtdldadgnggaopaaDoor

namespace Go.Proofs.YtdldadgnggaopaaDoor

/-- One entry's followers. -/
def sumRow (K : Nat) (x y : Int) (s : Nat) : List Int := (List.range s).map fun (t : Nat) => (y + x * t) % K
/-- The table's next state. -/
def sumStep (K : Nat) (x : Int) (T : List Int) : List Int := T.flatMap fun y => sumRow K x y K
def sumTable (K : Nat) : List Int → List Int → List Int
  | T, [] => T
  | T, x :: f => sumTable K (sumStep K x T) f
/-- The table of a sum. -/
def sumT (K : Nat) (f : List Int) : List Int := sumTable K [0] f

theorem sumRow_length (K : Nat) (x y : Int) (s : Nat) : (sumRow K x y s).length = s := by simp [sumRow]
theorem sumRow_succ (K : Nat) (x y : Int) (s : Nat) : sumRow K x y (s + 1) = sumRow K x y s ++ [(y + x * s) % K] := by simp [sumRow, List.range_succ]
theorem sumStep_length (K : Nat) (x : Int) (T : List Int) : (sumStep K x T).length = T.length * K := by
  induction T with
  | nil => simp [sumStep]
  | cons y T ih => simp only [sumStep, List.flatMap_cons, List.length_append, sumRow_length, List.length_cons] at *; rw [ih, Nat.succ_mul]; omega
theorem sumStep_snoc (K : Nat) (x y : Int) (T : List Int) : sumStep K x (T ++ [y]) = sumStep K x T ++ sumRow K x y K := by simp [sumStep]
theorem sumStep_nil (K : Nat) (x : Int) : sumStep K x [] = [] := rfl
theorem sumTable_snoc (K : Nat) (T f : List Int) (x : Int) : sumTable K T (f ++ [x]) = sumStep K x (sumTable K T f) := by
  induction f generalizing T with
  | nil => rfl
  | cons y f ih => exact ih _
theorem sumTable_length (K : Nat) (T f : List Int) : (sumTable K T f).length = T.length * pw K f.length := by
  induction f generalizing T with
  | nil => simp [sumTable, pw]
  | cons y f ih => rw [sumTable, ih, sumStep_length, List.length_cons, pw_succ, Nat.mul_assoc, Nat.mul_comm K]
theorem sumT_length (K : Nat) (f : List Int) : (sumT K f).length = pw K f.length := by rw [sumT, sumTable_length]; simp
theorem sumRow_syms {K : Nat} (hK : 1 ≤ K) (x y : Int) (s : Nat) : Syms K (sumRow K x y s) := by
  intro z hz
  obtain ⟨t, _, rfl⟩ := List.mem_map.1 hz
  exact ⟨Int.emod_nonneg _ (by omega), Int.emod_lt_of_pos _ (by omega)⟩
theorem sumStep_syms {K : Nat} (hK : 1 ≤ K) (x : Int) (T : List Int) : Syms K (sumStep K x T) := by
  intro z hz
  obtain ⟨y, _, h⟩ := List.mem_flatMap.1 hz
  exact sumRow_syms hK x y K z h
theorem sumTable_syms {K : Nat} (hK : 1 ≤ K) (T f : List Int) (hT : Syms K T) : Syms K (sumTable K T f) := by
  induction f generalizing T with
  | nil => exact hT
  | cons y f ih => exact ih _ (sumStep_syms hK y T)
theorem sumT_syms {K : Nat} (hK : 1 ≤ K) (f : List Int) : Syms K (sumT K f) := sumTable_syms hK _ _ (by intro x hx; simp at hx; omega)
theorem take_snoc (l : List Int) (k : Nat) (h : k < l.length) : l.take (k + 1) = l.take k ++ [l[k]] := by rw [List.take_succ_eq_append_getElem h]

/-- additive.numbers' answer. -/
def numP (k : Int) (f : List Int) (from_ : Int) : PErr := if idxOf (odd1 k) f = -1 then none else fresh sAdditive (from_ + idxOf (odd1 k) f) 2
def oddP (n : Nat) : Bool := decide (n % 2 = 1) && decide (n ≤ 7)
/-- additive.check's answer. -/
def factP (k : Int) (f : List Int) : PErr :=
  if k < 1 ∨ 4 < k then fresh sAdditive 0 3 else if oddP f.length = false then fresh sAdditive 1 3 else numP k f 0
/-- additive.Make's fault. -/
def makeP (k R : Int) (f : List Int) : PErr :=
  if k < 1 ∨ 4 < k ∨ R < 0 ∨ 3 < R then fresh sAdditive 0 3 else if (f.length : Int) ≠ 2 * R + 1 then fresh sAdditive 1 3 else numP k f 0

theorem numP_none {k : Int} {f : List Int} {a : Int} (h : numP k f a = none) : Syms k f := by
  unfold numP at h
  rcases syms_or k f with hs | ⟨i, hi, _⟩
  · exact hs
  · rw [if_neg (by omega)] at h; cases h
theorem Syms.num {k : Int} {f : List Int} (h : Syms k f) (a : Int) : numP k f a = none := by rw [numP, if_pos h.odd]

/-- The factors that may be, i of them found, the last first. -/
def facL (K n : Nat) (xs : List Int) (i : Nat) : List Int := (List.range n).map fun j => if n ≤ i + j then xs.getD (pw K (n - 1 - j)) 0 else 0
theorem facL_length (K n : Nat) (xs : List Int) (i : Nat) : (facL K n xs i).length = n := by simp [facL]
theorem facL_zero (K n : Nat) (xs : List Int) : facL K n xs 0 = List.replicate n 0 := by
  refine List.ext_getElem (by simp [facL]) fun j h1 h2 => ?_
  simp [facL] at h1 ⊢
  omega
theorem facL_succ (K n : Nat) (xs : List Int) (i : Nat) (hi : i < n) (hx : pw K i < xs.length) : (facL K n xs i).set (n - 1 - i) xs[pw K i] = facL K n xs (i + 1) := by
  refine List.ext_getElem (by simp [facL]) fun j h1 h2 => ?_
  simp only [facL, List.length_set, List.length_map, List.length_range] at h1
  rw [List.getElem_set]
  by_cases e : n - 1 - i = j
  · rw [if_pos e]
    simp only [facL, List.getElem_map, List.getElem_range]
    rw [if_pos (by omega), show n - 1 - j = i by omega]
    simp [List.getD, hx]
  · rw [if_neg e]
    simp only [facL, List.getElem_map, List.getElem_range]
    by_cases c : n ≤ i + j
    · rw [if_pos c, if_pos (by omega)]
    · rw [if_neg c, if_neg (by omega)]
/-- The same, one symbol alone allowed. -/
def facI (K n : Nat) (xs : List Int) (i : Nat) : List Int := if 1 < K then facL K n xs i else List.replicate n 0
def wI (K i : Nat) : Nat := if 1 < K then pw K i else 1
theorem facI_length (K n : Nat) (xs : List Int) (i : Nat) : (facI K n xs i).length = n := by
  unfold facI; split
  · exact facL_length ..
  · simp
theorem facI_zero (K n : Nat) (xs : List Int) : facI K n xs 0 = List.replicate n 0 := by
  unfold facI; split
  · exact facL_zero ..
  · rfl
/-- The factors of a rule, if it is a sum. -/
def facs (K R : Nat) (xs : List Int) : List Int := facI K (2 * R + 1) xs (2 * R + 1)
theorem facs_length (K R : Nat) (xs : List Int) : (facs K R xs).length = 2 * R + 1 := facI_length ..
theorem facs_syms {K R : Nat} {xs : List Int} (h : RuleOk K R xs) : Syms K (facs K R xs) := by
  have hk := h.k1
  intro x hx
  unfold facs facI at hx
  split at hx
  · obtain ⟨j, _, rfl⟩ := List.mem_map.1 hx
    split
    · by_cases hp : pw K (2 * R + 1 - 1 - j) < xs.length
      · simp only [List.getD, List.getElem?_eq_getElem hp, Option.getD_some]
        exact h.syms _ (by simp)
      · simp only [List.getD, List.getElem?_eq_none (Nat.le_of_not_lt hp), Option.getD_none]
        omega
    · omega
  · have := List.eq_of_mem_replicate hx; omega
/-- Is it a sum? -/
def isSum (K R : Nat) (xs : List Int) : Bool := decide (sumT K (facs K R xs) = xs)

/-- How many factors p does not divide. -/
def cnt (p : Int) (f : List Int) : Nat := f.countP fun x => x % p != 0
theorem cnt_snoc (p x : Int) (f : List Int) : cnt p (f ++ [x]) = cnt p f + (if (x % p != 0) = true then 1 else 0) := by
  simp only [cnt, List.countP_append, List.countP_singleton]
theorem cnt_le (p : Int) (f : List Int) : cnt p f ≤ f.length := List.countP_le_length
def primesP (k : Int) : List Int := if k = 2 ∨ k = 4 then [2] else if k = 3 then [3] else []
theorem primesP_mem {k p : Int} (h : p ∈ primesP k) : p = 2 ∨ p = 3 := by
  unfold primesP at h
  split at h
  · simp at h; exact .inl h
  · split at h
    · simp at h; exact .inr h
    · simp at h
/-- additive.whole's answer. -/
def wholeP (may : Int → Bool) (k : Int) (f : List Int) : Bool := (primesP k).all fun p => may (cnt p f)
theorem wholeP_true {may : Int → Bool} {k : Int} {f : List Int} (h : ∀ j (_ : j < (primesP k).length), may (cnt (primesP k)[j] f) = true) : wholeP may k f = true := by
  rw [wholeP, List.all_eq_true]
  intro p hp
  obtain ⟨j, hj, rfl⟩ := List.mem_iff_getElem.1 hp
  exact h j hj
theorem wholeP_false {may : Int → Bool} {k : Int} {f : List Int} (j : Nat) (hj : j < (primesP k).length) (h : may (cnt (primesP k)[j] f) = false) : wholeP may k f = false := by
  rw [wholeP, List.all_eq_false]
  exact ⟨_, List.getElem_mem hj, by simp [h]⟩
def mayOnto (n : Int) : Bool := decide (0 < n)
def mayOne (n : Int) : Bool := n == 1

/-! Products. -/
def addAt (K : Nat) (o : List Int) (p : Nat) (z : Int) : List Int := o.set p ((o.getD p 0 + z) % K)
def mulRow (K i : Nat) (x : Int) (b : List Int) : Nat → List Int → List Int
  | 0, o => o
  | s + 1, o => addAt K (mulRow K i x b s o) (i + s) (x * b.getD s 0)
def mulAll (K : Nat) (a b : List Int) : Nat → List Int
  | 0 => List.replicate (a.length + b.length - 1) 0
  | i + 1 => mulRow K i (a.getD i 0) b b.length (mulAll K a b i)
/-- The factors of one sum behind another. -/
def mulL (K : Nat) (a b : List Int) : List Int := mulAll K a b a.length
theorem addAt_length (K : Nat) (o : List Int) (p : Nat) (z : Int) : (addAt K o p z).length = o.length := by simp [addAt]
theorem mulRow_length (K i : Nat) (x : Int) (b : List Int) (s : Nat) (o : List Int) : (mulRow K i x b s o).length = o.length := by
  induction s with
  | zero => rfl
  | succ s ih => rw [mulRow, addAt_length, ih]
theorem mulAll_length (K : Nat) (a b : List Int) (i : Nat) : (mulAll K a b i).length = a.length + b.length - 1 := by
  induction i with
  | zero => simp [mulAll]
  | succ i ih => rw [mulAll, mulRow_length, ih]
theorem mulL_length (K : Nat) (a b : List Int) : (mulL K a b).length = a.length + b.length - 1 := mulAll_length ..
theorem addAt_syms {K : Nat} (hK : 1 ≤ K) {o : List Int} (h : Syms K o) (p : Nat) (z : Int) : Syms K (addAt K o p z) := by
  intro x hx
  rcases List.mem_or_eq_of_mem_set hx with h1 | h1
  · exact h x h1
  · subst h1
    exact ⟨Int.emod_nonneg _ (by omega), Int.emod_lt_of_pos _ (by omega)⟩
theorem mulRow_syms {K : Nat} (hK : 1 ≤ K) (i : Nat) (x : Int) (b : List Int) (s : Nat) {o : List Int} (h : Syms K o) : Syms K (mulRow K i x b s o) := by
  induction s with
  | zero => exact h
  | succ s ih => exact addAt_syms hK ih _ _
theorem mulAll_syms {K : Nat} (hK : 1 ≤ K) (a b : List Int) (i : Nat) : Syms K (mulAll K a b i) := by
  induction i with
  | zero => intro x hx; have := List.eq_of_mem_replicate hx; omega
  | succ i ih => exact mulRow_syms hK _ _ _ _ ih
theorem Syms.getD {K : Int} {xs : List Int} (hK : 0 < K) (h : Syms K xs) (i : Nat) : 0 ≤ xs.getD i 0 ∧ xs.getD i 0 < K := by
  by_cases c : i < xs.length
  · simp only [List.getD, List.getElem?_eq_getElem c, Option.getD_some]
    exact h _ (by simp)
  · simp only [List.getD, List.getElem?_eq_none (Nat.le_of_not_lt c), Option.getD_none]
    omega
/-- additive.Mul's fault. -/
def mulP (k : Int) (a b : List Int) : PErr :=
  match factP k a with
  | some t => some t
  | none => if oddP b.length = false then fresh sAdditive 2 3 else
    match numP k b a.length with
    | some t => some t
    | none => if oddP (a.length + b.length - 1) = false then fresh sAdditive 2 3 else none
end Go.Proofs.YtdldadgnggaopaaDoor

namespace Go.Proofs.YtdldadgnggaopaaDoor

def sPermut : ByteArray := ⟨#[112, 101, 114, 109, 117, 116]⟩

/-- The symbols seen in a group of windows, as bits. -/
def seenP (T : List Int) (W i : Nat) : Nat → Nat
  | 0 => 0
  | s + 1 => seenP T W i s ||| 2 ^ (T.getD (i + s * W) 0).toNat
theorem seenP_lt {K : Nat} (hK : 1 ≤ K) {T : List Int} (h : Syms K T) (W i s : Nat) : seenP T W i s < 2 ^ K := by
  induction s with
  | zero => exact Nat.two_pow_pos K
  | succ s ih =>
    have := h.getD (by omega) (i + s * W)
    exact Nat.or_lt_two_pow ih (Nat.pow_lt_pow_right (by decide) (by omega))
theorem two_pow_K {K : Nat} (h : K ≤ 4) : 2 ^ K ≤ 16 := by
  have : K = 0 ∨ K = 1 ∨ K = 2 ∨ K = 3 ∨ K = 4 := by omega
  rcases this with rfl | rfl | rfl | rfl | rfl <;> decide

/-- The group of window i. -/
def fullP (K : Nat) (T : List Int) (W i : Nat) : Bool := seenP T W i K == 2 ^ K - 1
/-- permut.unlike's answer. -/
def unlikeP (K : Nat) (T : List Int) (W : Nat) : Bool := (List.range T.length).all fun i => i / W % K != 0 || fullP K T W i
theorem unlikeP_true {K : Nat} {T : List Int} {W : Nat} (h : ∀ i, i < T.length → i / W % K = 0 → fullP K T W i = true) : unlikeP K T W = true := by
  rw [unlikeP, List.all_eq_true]
  intro i hi
  have hi' := List.mem_range.1 hi
  by_cases c : i / W % K = 0
  · simp [h i hi' c]
  · simp [c]
theorem unlikeP_false {K : Nat} {T : List Int} {W : Nat} (i : Nat) (hi : i < T.length) (hm : i / W % K = 0) (h : fullP K T W i = false) : unlikeP K T W = false := by
  rw [unlikeP, List.all_eq_false]
  exact ⟨i, List.mem_range.2 hi, by simp [hm, h]⟩
theorem unlikeP_full {K : Nat} {T : List Int} {W : Nat} (h : unlikeP K T W = true) (i : Nat) (hi : i < T.length) (hm : i / W % K = 0) : fullP K T W i = true := by
  rw [unlikeP, List.all_eq_true] at h
  have := h i (List.mem_range.2 hi)
  simpa [hm] using this

/-- A bit is seen just if a symbol is. -/
theorem seenP_bit {K : Nat} {T : List Int} (hK : 1 ≤ K) (h : Syms K T) (W i s y : Nat) : (seenP T W i s).testBit y = true ↔ ∃ t, t < s ∧ T.getD (i + t * W) 0 = y := by
  induction s with
  | zero => simp [seenP]
  | succ s ih =>
    have hx := h.getD (by omega) (i + s * W)
    rw [seenP, Nat.testBit_or, Bool.or_eq_true, ih, Nat.testBit_two_pow]
    constructor
    · rintro (⟨t, ht, e⟩ | e)
      · exact ⟨t, by omega, e⟩
      · rw [decide_eq_true_iff] at e; exact ⟨s, by omega, by omega⟩
    · rintro ⟨t, ht, e⟩
      by_cases c : t = s
      · subst c; right; rw [decide_eq_true_iff]; omega
      · left; exact ⟨t, by omega, e⟩

/-- In a full group each symbol stands. -/
theorem fullP_all {K : Nat} {T : List Int} (hK : 1 ≤ K) (h : Syms K T) {W i : Nat} (hf : fullP K T W i = true) (y : Nat) (hy : y < K) : ∃ t, t < K ∧ T.getD (i + t * W) 0 = y := by
  have e : seenP T W i K = 2 ^ K - 1 := by simpa [fullP] using hf
  rw [← seenP_bit hK h, e, Nat.testBit_two_pow_sub_one]
  simpa using hy

/-- permut.fits' answer. -/
def fitP (T : List Int) (rest W : Nat) (image : Int) : Nat → Nat → Nat
  | 0, _ => 0
  | n + 1, s => if T.getD (rest + s * W) 0 = image then s else fitP T rest W image n (s + 1)
def fit (K : Nat) (T : List Int) (rest W : Nat) (image : Int) : Nat := fitP T rest W image K 0
theorem fitP_lt (T : List Int) (rest W : Nat) (image : Int) (n s : Nat) (h : 0 < s + n) : fitP T rest W image n s < s + n := by
  induction n generalizing s with
  | zero => exact h
  | succ n ih =>
    rw [fitP]
    split
    · omega
    · have := ih (s + 1) (by omega); omega
theorem fit_lt {K : Nat} (hK : 1 ≤ K) (T : List Int) (rest W : Nat) (image : Int) : fit K T rest W image < K := by
  have := fitP_lt T rest W image K 0 (by omega); simpa [fit] using this
theorem fitP_at (T : List Int) (rest W : Nat) (image : Int) (n s k : Nat) (hk : k < n) (h : T.getD (rest + (s + k) * W) 0 = image) (hj : ∀ j, j < k → T.getD (rest + (s + j) * W) 0 ≠ image) : fitP T rest W image n s = s + k := by
  induction n generalizing s k with
  | zero => omega
  | succ n ih =>
    rw [fitP]
    by_cases c : k = 0
    · subst c; rw [if_pos (by simpa using h)]; rfl
    · have := hj 0 (by omega)
      rw [if_neg (by simpa using this), ih (s + 1) (k - 1) (by omega) (by rw [show s + 1 + (k - 1) = s + k by omega]; exact h) (fun j hj' => by rw [show s + 1 + j = s + (j + 1) by omega]; exact hj (j + 1) (by omega))]
      omega
theorem fit_at {K : Nat} (T : List Int) (rest W : Nat) (image : Int) (k : Nat) (hk : k < K) (h : T.getD (rest + k * W) 0 = image) (hj : ∀ j, j < k → T.getD (rest + j * W) 0 ≠ image) : fit K T rest W image = k := by
  have := fitP_at T rest W image K 0 k hk (by simpa using h) (by simpa using hj)
  simpa [fit] using this
theorem fitP_none (T : List Int) (rest W : Nat) (image : Int) (n s : Nat) (hj : ∀ j, j < n → T.getD (rest + (s + j) * W) 0 ≠ image) : fitP T rest W image n s = 0 := by
  induction n generalizing s with
  | zero => rfl
  | succ n ih =>
    rw [fitP, if_neg (by simpa using hj 0 (by omega))]
    exact ih (s + 1) (fun j h => by rw [show s + 1 + j = s + (j + 1) by omega]; exact hj (j + 1) (by omega))
theorem fit_none {K : Nat} (T : List Int) (rest W : Nat) (image : Int) (hj : ∀ j, j < K → T.getD (rest + j * W) 0 ≠ image) : fit K T rest W image = 0 :=
  fitP_none T rest W image K 0 (by simpa using hj)
/-- Where some symbol fits, the answer fits. -/
theorem fit_ok {K : Nat} (T : List Int) (rest W : Nat) (image : Int) (h : ∃ t, t < K ∧ T.getD (rest + t * W) 0 = image) : T.getD (rest + fit K T rest W image * W) 0 = image := by
  suffices H : ∀ n s, (∃ t, t < n ∧ T.getD (rest + (s + t) * W) 0 = image) → T.getD (rest + fitP T rest W image n s * W) 0 = image by
    exact H K 0 (by simpa using h)
  intro n
  induction n with
  | zero => rintro s ⟨t, ht, _⟩; omega
  | succ n ih =>
    rintro s ⟨t, ht, e⟩
    rw [fitP]
    split
    · assumption
    · rename_i hne
      refine ih (s + 1) ⟨t - 1, ?_, ?_⟩
      · by_cases c : t = 0
        · subst c; simp at e; exact absurd e hne
        · omega
      · by_cases c : t = 0
        · subst c; simp at e; exact absurd e hne
        · rw [show s + 1 + (t - 1) = s + t by omega]; exact e

/-- The number of a word. -/
def numW (K : Nat) (xs : List Int) : Nat := xs.foldl (fun n x => n * K + x.toNat) 0
theorem numW_snoc (K : Nat) (xs : List Int) (x : Int) : numW K (xs ++ [x]) = numW K xs * K + x.toNat := by simp [numW]
theorem numW_lt {K : Nat} (xs : List Int) (h : Syms K xs) : numW K xs < pw K xs.length := by
  suffices H : ∀ ys zs, xs = ys ++ zs → numW K ys < pw K ys.length from H xs [] (by simp)
  intro ys
  induction hn : ys.length generalizing ys with
  | zero => intro zs _; have := List.eq_nil_of_length_eq_zero hn; subst this; simp [numW, pw]
  | succ n ih =>
    intro zs e
    have hne : ys ≠ [] := by intro e; subst e; simp at hn
    obtain ⟨b, x, rfl⟩ : ∃ b x, ys = b ++ [x] := ⟨ys.dropLast, ys.getLast hne, (List.dropLast_concat_getLast hne).symm⟩
    have hb : b.length = n := by simpa using hn
    have h1 := ih b hb ([x] ++ zs) (by rw [e]; simp)
    have hx := h x (by rw [e]; simp)
    rw [numW_snoc, pw_succ]
    have : (numW K b + 1) * K ≤ pw K n * K := Nat.mul_le_mul_right _ (by omega)
    rw [Nat.succ_mul] at this
    omega

/-- permut.Right's symbols. -/
def rightP (K : Nat) (T : List Int) : Nat → List Int → List Int
  | _, [] => []
  | node, x :: w => (fit K T (node * K) 1 x : Int) :: rightP K T ((node * K + fit K T (node * K) 1 x) % (T.length / K)) w
/-- The node behind them. -/
def rightN (K : Nat) (T : List Int) : Nat → List Int → Nat
  | node, [] => node
  | node, x :: w => rightN K T ((node * K + fit K T (node * K) 1 x) % (T.length / K)) w
theorem rightP_snoc (K : Nat) (T : List Int) (node : Nat) (w : List Int) (x : Int) : rightP K T node (w ++ [x]) = rightP K T node w ++ [(fit K T (rightN K T node w * K) 1 x : Int)] := by
  induction w generalizing node with
  | nil => rfl
  | cons y w ih => simp [rightP, rightN, ih]
theorem rightN_snoc (K : Nat) (T : List Int) (node : Nat) (w : List Int) (x : Int) : rightN K T node (w ++ [x]) = (rightN K T node w * K + fit K T (rightN K T node w * K) 1 x) % (T.length / K) := by
  induction w generalizing node with
  | nil => rfl
  | cons y w ih => simp [rightN, ih]
theorem rightP_length (K : Nat) (T : List Int) (node : Nat) (w : List Int) : (rightP K T node w).length = w.length := by
  induction w generalizing node with
  | nil => rfl
  | cons y w ih => simp [rightP, ih]
theorem rightN_lt {K : Nat} {T : List Int} (h : 0 < T.length / K) (node : Nat) (hn : node < T.length / K) (w : List Int) : rightN K T node w < T.length / K := by
  induction w generalizing node with
  | nil => exact hn
  | cons y w ih => exact ih _ (Nat.mod_lt _ h)

/-- permut.Left's symbols, from the last on: the node behind them and they. -/
def leftS (K : Nat) (T : List Int) : Nat → List Int → Nat × List Int
  | node, [] => (node, [])
  | node, x :: w =>
    let p := leftS K T node w
    let s := fit K T p.1 (T.length / K) x
    ((s * (T.length / K) + p.1) / K, (s : Int) :: p.2)
theorem leftS_length (K : Nat) (T : List Int) (node : Nat) (w : List Int) : (leftS K T node w).2.length = w.length := by
  induction w with
  | nil => rfl
  | cons y w ih => simp [leftS, ih]

/-- permut.check's fault. -/
def checkM (K R : Nat) (w ends : List Int) : PErr :=
  if 4096 < w.length then fresh sPermut 1 4 else if ends.length ≠ 2 * R then fresh sPermut 2 3
  else if idxOf (odd1 K) (w ++ ends) = -1 then none else fresh sPermut (idxOf (odd1 K) (w ++ ends)) 2
theorem checkM_none {K R : Nat} {w ends : List Int} (h : checkM K R w ends = none) : w.length ≤ 4096 ∧ ends.length = 2 * R ∧ Syms K w ∧ Syms K ends := by
  unfold checkM at h
  by_cases h1 : 4096 < w.length
  · rw [if_pos h1] at h; cases h
  rw [if_neg h1] at h
  by_cases h2 : ends.length ≠ 2 * R
  · rw [if_pos h2] at h; cases h
  rw [if_neg h2] at h
  rcases syms_or K (w ++ ends) with hs | ⟨i, hi, _⟩
  · exact ⟨by omega, by omega, fun x hx => hs x (by simp [hx]), fun x hx => hs x (by simp [hx])⟩
  · rw [if_neg (by omega)] at h; cases h
/-- permut.Right's and Left's faults: the side's weight is handed in. -/
def permF (k R : Int) (xs : List Int) (W : Nat) (w ends : List Int) : PErr :=
  match checkP k R xs with
  | some t => under sPermut 0 (some t)
  | none => if unlikeP k.toNat xs W = false then fresh sPermut 0 3 else checkM k.toNat R.toNat w ends

/-- A group of windows lies within the table. -/
theorem group_lt {K W q j s n : Nat} (hW : 1 ≤ W) (hn : n = q * (W * K)) (hj : j < n) (hm : j / W % K = 0) (hs : s < K) : j + s * W < n := by
  have h1 := Nat.div_add_mod j W
  have h2 := Nat.div_add_mod (j / W) K
  have h3 := Nat.mod_lt j hW
  rw [hm, Nat.add_zero] at h2
  have e : j = W * K * (j / W / K) + j % W := by
    rw [Nat.mul_assoc, h2]; omega
  have hc : j / W / K < q := by
    rw [Nat.div_div_eq_div_mul]
    exact Nat.div_lt_of_lt_mul (by rw [Nat.mul_comm]; omega)
  have h4 : W * K * (j / W / K + 1) ≤ W * K * q := Nat.mul_le_mul_left _ hc
  rw [Nat.mul_add, Nat.mul_one] at h4
  have h5 : (s + 1) * W ≤ K * W := Nat.mul_le_mul_right _ hs
  rw [Nat.succ_mul, Nat.mul_comm K W] at h5
  rw [hn, Nat.mul_comm q]
  omega

theorem RuleOk.half {K R : Nat} {xs : List Int} (h : RuleOk K R xs) : xs.length / K = pw K (2 * R) ∧ xs.length = pw K (2 * R) * K := by
  have e := h.len
  rw [pw_succ] at e
  have := h.k1
  exact ⟨by rw [e, Nat.mul_div_cancel _ (by omega)], e⟩
end Go.Proofs.YtdldadgnggaopaaDoor

namespace Go.Proofs.YtdldadgnggaopaaDoor

/-- f 0 + .. + f (n - 1). -/
def Sm (f : Nat → Int) : Nat → Int
  | 0 => 0
  | n + 1 => Sm f n + f n
theorem Sm_congr {f g : Nat → Int} (n : Nat) (h : ∀ i, i < n → f i = g i) : Sm f n = Sm g n := by
  induction n with
  | zero => rfl
  | succ n ih => rw [Sm, Sm, ih fun i hi => h i (by omega), h n (by omega)]
theorem Sm_zero {f : Nat → Int} (n : Nat) (h : ∀ i, i < n → f i = 0) : Sm f n = 0 := by
  induction n with
  | zero => rfl
  | succ n ih => rw [Sm, ih fun i hi => h i (by omega), h n (by omega)]; rfl
theorem Sm_mod {f g : Nat → Int} {K : Int} (n : Nat) (h : ∀ i, i < n → f i % K = g i % K) : Sm f n % K = Sm g n % K := by
  induction n with
  | zero => rfl
  | succ n ih => rw [Sm, Sm, Int.add_emod, ih fun i hi => h i (by omega), h n (by omega), ← Int.add_emod]

/-- A cell set changes the sum by what it is more. -/
theorem Sm_set (O : List Int) (p : Nat) (v : Int) (hp : p < O.length) (u : Nat → Int) (n : Nat) :
    Sm (fun i => (O.set p v).getD i 0 * u i) n = Sm (fun i => O.getD i 0 * u i) n + if p < n then (v - O.getD p 0) * u p else 0 := by
  induction n with
  | zero => simp [Sm]
  | succ n ih =>
    rw [Sm, Sm, ih]
    by_cases e : n = p
    · subst e
      rw [if_neg (by omega), if_pos (by omega)]
      have : (O.set n v).getD n 0 = v := by simp [List.getD, hp]
      rw [this, Int.sub_mul]
      omega
    · have : (O.set p v).getD n 0 = O.getD n 0 := by simp [List.getD, show ¬ p = n by omega]
      rw [this]
      by_cases c : p < n
      · rw [if_pos c, if_pos (by omega)]; omega
      · rw [if_neg c, if_neg (by omega)]; omega

theorem mulRow_sum (K i : Nat) (x : Int) (b : List Int) (u : Nat → Int) (q : Nat) (O : List Int) (hq : i + q ≤ O.length) :
    Sm (fun t => (mulRow K i x b q O).getD t 0 * u t) O.length % K = (Sm (fun t => O.getD t 0 * u t) O.length + x * Sm (fun j => b.getD j 0 * u (i + j)) q) % K := by
  induction q with
  | zero => simp [mulRow, Sm]
  | succ q ih =>
    have ih' := ih (by omega)
    rw [mulRow, addAt, Sm_set _ _ _ (by rw [mulRow_length]; omega), if_pos (by omega), Int.add_emod, ih', ← Int.add_emod, Sm]
    generalize (mulRow K i x b q O).getD (i + q) 0 = z
    generalize Sm (fun j => b.getD j 0 * u (i + j)) q = A
    generalize Sm (fun t => O.getD t 0 * u t) O.length = B
    have e : (((z + x * b.getD q 0) % (K : Int) - z) * u (i + q)) % K = (x * b.getD q 0 * u (i + q)) % K := by
      rw [Int.mul_emod, Int.sub_emod, Int.emod_emod, ← Int.sub_emod, ← Int.mul_emod]
      congr 2
      omega
    rw [Int.add_emod, e, ← Int.add_emod]
    congr 1
    rw [Int.mul_add, Int.mul_assoc]
    omega

theorem mulAll_length' (K : Nat) (a b : List Int) (i : Nat) : (mulAll K a b i).length = a.length + b.length - 1 := mulAll_length ..

theorem mulAll_sum (K : Nat) (a b : List Int) (u : Nat → Int) (hb : 1 ≤ b.length) (i : Nat) (hi : i ≤ a.length) :
    Sm (fun t => (mulAll K a b i).getD t 0 * u t) (a.length + b.length - 1) % K = Sm (fun i => a.getD i 0 * Sm (fun j => b.getD j 0 * u (i + j)) b.length) i % K := by
  induction i with
  | zero =>
    rw [mulAll, Sm_zero]
    · rfl
    · intro t _
      by_cases c : t < a.length + b.length - 1
      · simp [List.getD, c]
      · simp [List.getD, c]
  | succ i ih =>
    have h := mulRow_sum K i (a.getD i 0) b u b.length (mulAll K a b i) (by rw [mulAll_length]; omega)
    rw [mulAll_length] at h
    rw [mulAll, h, Int.add_emod, ih (by omega), ← Int.add_emod, Sm]

/-- The product's sum. -/
theorem mulL_sum (K : Nat) (a b : List Int) (u : Nat → Int) (hb : 1 ≤ b.length) :
    Sm (fun t => (mulL K a b).getD t 0 * u t) (a.length + b.length - 1) % K = Sm (fun i => a.getD i 0 * (Sm (fun j => b.getD j 0 * u (i + j)) b.length % K)) a.length % K := by
  rw [mulL, mulAll_sum K a b u hb a.length (Nat.le_refl _)]
  refine Sm_mod _ fun i _ => ?_
  rw [Int.mul_emod, ← Int.mul_emod, Int.mul_emod (a.getD i 0) (_ % _), Int.emod_emod, ← Int.mul_emod]

theorem sumStep_at (K : Nat) (x : Int) (T : List Int) (n s : Nat) (hn : n < T.length) (hs : s < K) : (sumStep K x T).getD (n * K + s) 0 = (T.getD n 0 + x * s) % K := by
  induction T generalizing n with
  | nil => simp at hn
  | cons y T ih =>
    have e : sumStep K x (y :: T) = sumRow K x y K ++ sumStep K x T := by simp [sumStep]
    rw [e]
    cases n with
    | zero =>
      have h : s < (sumRow K x y K).length := by rw [sumRow_length]; exact hs
      rw [Nat.zero_mul, Nat.zero_add]
      simp only [List.getD, List.getElem?_append_left h]
      simp [sumRow, hs]
    | succ n =>
      have h : (sumRow K x y K).length ≤ (n + 1) * K + s := by rw [sumRow_length, Nat.succ_mul]; omega
      have e2 : (n + 1) * K + s - (sumRow K x y K).length = n * K + s := by rw [sumRow_length, Nat.succ_mul]; omega
      have := ih n (by simpa using hn)
      simp only [List.getD, List.getElem?_append_right h, e2, List.getElem?_cons_succ] at this ⊢
      exact this

theorem numW_bound {K : Nat} {w : List Int} (h : Syms K w) {f : List Int} (hl : f.length = w.length) : numW K w < (sumT K f).length := by
  rw [sumT_length, hl]; exact numW_lt w h

/-- A sum's symbol at a window. -/
theorem sumT_at (K : Nat) (f w : List Int) (hl : f.length = w.length) (hw : Syms K w) :
    (sumT K f).getD (numW K w) 0 = Sm (fun i => f.getD i 0 * w.getD i 0) f.length % K := by
  induction hn : f.length generalizing f w with
  | zero =>
    obtain rfl := List.eq_nil_of_length_eq_zero hn
    obtain rfl := List.eq_nil_of_length_eq_zero (hl.symm.trans hn)
    simp [sumT, sumTable, numW, Sm]
  | succ n ih =>
    have hf : f ≠ [] := by intro e; subst e; simp at hn
    have hwe : w ≠ [] := by intro e; subst e; simp at hl; exact hf hl
    obtain ⟨g, x, rfl⟩ : ∃ g x, f = g ++ [x] := ⟨f.dropLast, f.getLast hf, (List.dropLast_concat_getLast hf).symm⟩
    obtain ⟨v, y, rfl⟩ : ∃ v y, w = v ++ [y] := ⟨w.dropLast, w.getLast hwe, (List.dropLast_concat_getLast hwe).symm⟩
    have hgn : g.length = n := by simpa using hn
    have hgv : g.length = v.length := by simpa using hl
    have hv : Syms K v := fun z hz => hw z (by simp [hz])
    have hy := hw y (by simp)
    rw [numW_snoc, sumT, sumTable_snoc]
    have := sumStep_at K x (sumTable K [0] g) (numW K v) y.toNat (numW_bound hv hgv) (by omega)
    rw [this, show (sumTable K [0] g).getD (numW K v) 0 = (sumT K g).getD (numW K v) 0 from rfl, ih g v hgv hv hgn, Int.emod_add_emod, Sm]
    congr 2
    · refine Sm_congr _ fun i hi => ?_
      rw [← hgn] at hi
      simp only [List.getD, List.getElem?_append_left hi, List.getElem?_append_left (show i < v.length by omega)]
    · have e1 : (g ++ [x]).getD n 0 = x := by rw [← hgn]; simp [List.getD]
      have e2 : (v ++ [y]).getD n 0 = y := by rw [← hgn, hgv]; simp [List.getD]
      rw [e1, e2]
      rw [show ((y.toNat : Nat) : Int) = y by omega]

/-- The window of a number. -/
def digs (K : Nat) : Nat → Nat → List Int
  | 0, _ => []
  | n + 1, x => digs K n (x / K) ++ [((x % K : Nat) : Int)]
theorem digs_length (K n x : Nat) : (digs K n x).length = n := by
  induction n generalizing x with
  | zero => rfl
  | succ n ih => simp [digs, ih]
theorem digs_syms {K : Nat} (hK : 1 ≤ K) (n x : Nat) : Syms K (digs K n x) := by
  induction n generalizing x with
  | zero => intro y hy; simp [digs] at hy
  | succ n ih =>
    intro y hy
    rw [digs, List.mem_append, List.mem_singleton] at hy
    rcases hy with hy | rfl
    · exact ih _ y hy
    · have := Nat.mod_lt x (show 0 < K by omega); omega
theorem numW_digs {K : Nat} (hK : 1 ≤ K) (n x : Nat) (hx : x < pw K n) : numW K (digs K n x) = x := by
  induction n generalizing x with
  | zero => simp [pw] at hx; subst hx; rfl
  | succ n ih =>
    rw [digs, numW_snoc, ih _ (by rw [Nat.div_lt_iff_lt_mul (by omega), ← pw_succ]; exact hx), Int.toNat_natCast]
    exact Nat.div_add_mod' x K

/-- The image of a word, window by window. -/
def imgP (K R : Nat) (T : List Int) (w : List Int) : List Int := (List.range (w.length - 2 * R)).map fun i => T.getD (numW K ((w.drop i).take (2 * R + 1))) 0
/-- The table of one rule behind another. -/
def behindT (K R1 : Nat) (T1 : List Int) (R2 : Nat) (T2 : List Int) : List Int :=
  (List.range (pw K (2 * (R1 + R2) + 1))).map fun x => T1.getD (numW K (imgP K R2 T2 (digs K (2 * (R1 + R2) + 1) x))) 0

theorem imgP_length (K R : Nat) (T w : List Int) : (imgP K R T w).length = w.length - 2 * R := by simp [imgP]
theorem imgP_getD (K R : Nat) (T w : List Int) (i : Nat) (hi : i < w.length - 2 * R) : (imgP K R T w).getD i 0 = T.getD (numW K ((w.drop i).take (2 * R + 1))) 0 := by
  simp [imgP, List.getD, hi]
theorem imgP_syms {K : Nat} (hK : 1 ≤ K) {R : Nat} {T w : List Int} (hT : Syms K T) : Syms K (imgP K R T w) := by
  intro y hy
  obtain ⟨i, _, rfl⟩ := List.mem_map.1 hy
  exact hT.getD (by omega) _

theorem window_sum {K R1 R2 : Nat} (hK : 1 ≤ K) {a b w : List Int} (ha : a.length = 2 * R1 + 1) (hb : b.length = 2 * R2 + 1) (hw : Syms K w) (hl : w.length = 2 * (R1 + R2) + 1) :
    (sumT K a).getD (numW K (imgP K R2 (sumT K b) w)) 0 = (sumT K (mulL K a b)).getD (numW K w) 0 := by
  have hml : (mulL K a b).length = a.length + b.length - 1 := mulL_length ..
  rw [sumT_at K a _ (by rw [imgP_length]; omega) (imgP_syms hK (sumT_syms hK b)), sumT_at K (mulL K a b) w (by omega) hw, hml, mulL_sum K a b (fun i => w.getD i 0) (by omega)]
  refine Sm_mod _ fun i hi => ?_
  rw [imgP_getD _ _ _ _ _ (by omega)]
  congr 2
  have hwl : ((w.drop i).take (2 * R2 + 1)).length = 2 * R2 + 1 := by simp; omega
  rw [sumT_at K b _ (by omega) (fun x hx => hw x (List.mem_of_mem_drop (List.mem_of_mem_take hx)))]
  congr 1
  refine Sm_congr _ fun j hj => ?_
  congr 1
  simp [List.getD, List.getElem?_drop, show j < 2 * R2 + 1 by omega]

/-- One sum behind another is the sum of the product. -/
theorem behind_sum {K R1 R2 : Nat} (hK : 1 ≤ K) {a b : List Int} (ha : a.length = 2 * R1 + 1) (hb : b.length = 2 * R2 + 1) :
    behindT K R1 (sumT K a) R2 (sumT K b) = sumT K (mulL K a b) := by
  have hml : (mulL K a b).length = 2 * (R1 + R2) + 1 := by rw [mulL_length]; omega
  refine List.ext_getElem (by simp [behindT, sumT_length, hml]) fun x h1 h2 => ?_
  have hx : x < pw K (2 * (R1 + R2) + 1) := by simpa [behindT] using h1
  simp only [behindT, List.getElem_map, List.getElem_range]
  rw [window_sum hK ha hb (digs_syms hK _ _) (digs_length ..), numW_digs hK _ _ hx]
  simp [List.getD, h2]
end Go.Proofs.YtdldadgnggaopaaDoor

namespace Go.Proofs.YtdldadgnggaopaaDoor

theorem numW_append (K : Nat) (u v : List Int) : numW K (u ++ v) = numW K u * pw K v.length + numW K v := by
  induction hn : v.length generalizing v with
  | zero =>
    obtain rfl := List.eq_nil_of_length_eq_zero hn
    simp [numW, pw]
  | succ n ih =>
    have hne : v ≠ [] := by intro e; subst e; simp at hn
    obtain ⟨b, x, rfl⟩ : ∃ b x, v = b ++ [x] := ⟨v.dropLast, v.getLast hne, (List.dropLast_concat_getLast hne).symm⟩
    have hb : b.length = n := by simpa using hn
    rw [← List.append_assoc, numW_snoc, numW_snoc, ih b hb, pw_succ, Nat.add_mul, Nat.mul_assoc]
    omega
theorem numW_mod {K : Nat} {u v : List Int} (h : Syms K v) : numW K (u ++ v) % pw K v.length = numW K v := by
  rw [numW_append, Nat.mul_comm, Nat.mul_add_mod, Nat.mod_eq_of_lt (numW_lt v h)]

/-- One symbol more. -/
theorem imgP_snoc {K R : Nat} {T w : List Int} {x : Int} (hT : T.length = pw K (2 * R + 1)) (hw : Syms K (w ++ [x])) :
    imgP K R T (w ++ [x]) = if 2 * R ≤ w.length then imgP K R T w ++ [T.getD (numW K (w ++ [x]) % T.length) 0] else imgP K R T w := by
  by_cases h : 2 * R ≤ w.length
  · rw [if_pos h]
    unfold imgP
    rw [show (w ++ [x]).length - 2 * R = (w.length - 2 * R) + 1 by simp; omega, List.range_succ, List.map_append]
    congr 1
    · refine List.map_congr_left fun i hi => ?_
      have hi' := List.mem_range.1 hi
      congr 2
      rw [List.drop_append_of_le_length (by omega), List.take_append_of_le_length (by simp; omega)]
    · simp only [List.map_cons, List.map_nil]
      congr 2
      have e : ((w ++ [x]).drop (w.length - 2 * R)).take (2 * R + 1) = (w ++ [x]).drop (w.length - 2 * R) := List.take_of_length_le (by simp; omega)
      rw [e, hT]
      have hl : ((w ++ [x]).drop (w.length - 2 * R)).length = 2 * R + 1 := by simp; omega
      have := numW_mod (K := K) (u := (w ++ [x]).take (w.length - 2 * R)) (v := (w ++ [x]).drop (w.length - 2 * R)) (fun y hy => hw y (List.mem_of_mem_drop hy))
      rw [List.take_append_drop, hl] at this
      exact this.symm
  · rw [if_neg h]
    unfold imgP
    rw [show (w ++ [x]).length - 2 * R = 0 by simp; omega, show w.length - 2 * R = 0 by omega]
    rfl
theorem numW_step (K : Nat) (w : List Int) (x : Int) (L : Nat) : numW K (w ++ [x]) % L = (numW K w % L * K + x.toNat) % L := by
  rw [numW_snoc, Nat.add_mod, Nat.mul_mod, ← Nat.mod_mod (numW K w) L, ← Nat.mul_mod, ← Nat.add_mod, Nat.mod_mod]

/-- A window's digits, from the last on. -/
theorem digs_getD (K n x j : Nat) (hj : j < n) : (digs K n x).getD (n - 1 - j) 0 = ((x / pw K j % K : Nat) : Int) := by
  induction n generalizing x j with
  | zero => omega
  | succ n ih =>
    rw [digs]
    cases j with
    | zero =>
      rw [pw_zero, Nat.div_one, show n + 1 - 1 - 0 = (digs K n (x / K)).length by rw [digs_length]; omega]
      simp [List.getD]
    | succ j =>
      have h := ih (x / K) j (by omega)
      have hl : n + 1 - 1 - (j + 1) < (digs K n (x / K)).length := by rw [digs_length]; omega
      simp only [List.getD, List.getElem?_append_left hl] at h ⊢
      rw [show n + 1 - 1 - (j + 1) = n - 1 - j by omega, h, pw_succ, Nat.div_div_eq_div_mul, Nat.mul_comm]

/-- The window's list while it is filled from its end. -/
theorem digs_fill (K n x j : Nat) (hj : j < n) (p : List Int) (hp : p.length = n) :
    (p.take (n - j) ++ (digs K n x).drop (n - j)).set (n - 1 - j) ((x / pw K j % K : Nat) : Int) = p.take (n - (j + 1)) ++ (digs K n x).drop (n - (j + 1)) := by
  have hd := digs_getD K n x j hj
  have hdl := digs_length K n x
  rw [show n - (j + 1) = n - 1 - j by omega, show n - j = n - 1 - j + 1 by omega]
  have hm : n - 1 - j < n := by omega
  generalize n - 1 - j = m at hd hm
  rw [← hd, take_snoc p m (by omega), List.drop_eq_getElem_cons (show m < (digs K n x).length by omega), List.append_assoc, List.set_append_right _ _ (by simp; omega)]
  have e : m - (p.take m).length = 0 := by simp; omega
  rw [e]
  simp [List.getD, show m < (digs K n x).length by omega]
end Go.Proofs.YtdldadgnggaopaaDoor

namespace Go.Proofs.YtdldadgnggaopaaDoor
open Go.RowKit
set_option maxRecDepth 100000

theorem EOwn.shape {B : Nat} {w : World} {t : PErr} {v : Value} (h : EOwn B w t v) : ∃ n a1 n1 c1 a2 n2 c2, v = .agg #[.int .i64 n, .slice a1 n1 c1, .slice a2 n2 c2] := h.at.shape

/-- Two boxes of three cells: they stay. -/
theorem cells6 {w w1 : World} {x0 x1 x2 x3 x4 x5 : Value} {T1 T2 : TypeId} (hb : Below ((w.alloc (.cells #[x0, x1, x2] T1)).alloc (.cells #[x3, x4, x5] T2)).heap.size ((w.alloc (.cells #[x0, x1, x2] T1)).alloc (.cells #[x3, x4, x5] T2)) w1) :
    (w1.cell? ⟨w.heap.size, 0, none⟩ = some x0 ∧ w1.cell? ⟨w.heap.size, 1, none⟩ = some x1 ∧ w1.cell? ⟨w.heap.size, 2, none⟩ = some x2) ∧
    (w1.cell? ⟨w.heap.size + 1, 0, none⟩ = some x3 ∧ w1.cell? ⟨w.heap.size + 1, 1, none⟩ = some x4 ∧ w1.cell? ⟨w.heap.size + 1, 2, none⟩ = some x5) ∧
    (w1.frozen? ⟨w.heap.size + 1, 0, none⟩ = false ∧ w1.frozen? ⟨w.heap.size + 1, 1, none⟩ = false ∧ w1.frozen? ⟨w.heap.size + 1, 2, none⟩ = false) := by
  refine ⟨keep3 (n := w.heap.size) hb ⟨by simp [go_sem], by simp [go_sem], by simp [go_sem]⟩, ?_⟩
  have := cells3 hb
  rw [show (w.alloc (.cells #[x0, x1, x2] T1)).heap.size = w.heap.size + 1 by simp] at this
  exact ⟨⟨this.1, this.2.1, this.2.2.1⟩, this.2.2.2⟩

theorem undraw {w w1 : World} {n : Nat} (h : Below (w.drewN n).heap.size (w.drewN n) w1) : Below w.heap.size w w1 := (below_drewN (Below.refl w.heap.size w) n).trans h

theorem below_set3 {B b : Nat} {w0 w : World} (h : Below B w0 w) (hb : B ≤ b) (x y z : Value) : Below B w0 (((w.setCell ⟨b, 0, none⟩ x).setCell ⟨b, 1, none⟩ y).setCell ⟨b, 2, none⟩ z) :=
  ((h.setCell (p := ⟨b, 0, none⟩) hb x).setCell (p := ⟨b, 1, none⟩) hb y).setCell (p := ⟨b, 2, none⟩) hb z

end Go.Proofs.YtdldadgnggaopaaDoor

namespace Go.Proofs.YtdldadgnggaopaaDoor
open Go.RowKit
set_option maxRecDepth 100000

theorem oddTo_keep (G : List (List Int)) (k : Nat) (h : 0 ≤ oddTo G k) : ∀ d, oddTo G (k + d) = oddTo G k
  | 0 => rfl
  | d + 1 => by
    have ih := oddTo_keep G k h d
    show oddTo G (k + d + 1) = _
    simp only [oddTo]
    rw [if_neg (by omega), ih]
theorem oddTo_hit {G : List (List Int)} {k : Nat} (hk : oddTo G k < 0) {t : Int} (ht : t ∈ G.getD k []) (ho : oddT G.length t = true) : oddTo G (k + 1) = k := by
  simp only [oddTo]
  rw [if_pos hk, if_pos]
  rcases idxOf_cases (oddT G.length) (G.getD k []) with ⟨_, q⟩ | ⟨i, q, _⟩
  · rw [q t ht] at ho; cases ho
  · omega
theorem oddTo_miss {G : List (List Int)} {k : Nat} (hk : oddTo G k < 0) (h : ∀ t ∈ G.getD k [], oddT G.length t = false) : oddTo G (k + 1) < 0 := by
  simp only [oddTo]
  rw [if_pos hk]
  rcases idxOf_cases (oddT G.length) (G.getD k []) with ⟨q, _⟩ | ⟨i, _, q1, q2⟩
  · rw [if_neg (by omega)]; exact hk
  · exfalso
    simp_all

set_option maxHeartbeats 2000000 in
theorem ref12_check (na : Option Addr) (nc : Nat) (G : List (List Int)) (w : World) (h : ListsAt w (.slice na G.length nc) G) (hsz : ∀ k, k < G.length → (G.getD k []).length ≤ 17592186044416) :
    Calls Tryd.prog 27 #[.slice na G.length nc] w (Ret1 (fun x w' => EOwn w.heap.size w' (checkG G) x) w) := by
  have b0 := belowAlloc w (.cells #[.int .i64 0, .slice none 0 0, .slice none 0 0] 45)
  have bx := cells3 (Below.refl (w.alloc (.cells #[.int .i64 0, .slice none 0 0, .slice none 0 0] 45)).heap.size (w.alloc (.cells #[.int .i64 0, .slice none 0 0, .slice none 0 0] 45)))
  replace h := h.below b0
  have hsW : (w.alloc (.cells #[.int .i64 0, .slice none 0 0, .slice none 0 0] 45)).heap.size = w.heap.size + 1 := by simp
  by_cases h8 : 8192 < G.length
  · have hE : checkG G = fresh sGraph 0 4 := by unfold checkG; rw [if_pos h8]
    clear h hsz bx
    go_enter Tryd.func27, Tryd.ntmps27
    go_wp2_with fail
    refine (raw_new _ _ _ _).mono ?_
    rintro e w1 ⟨x, rfl, b1, he⟩
    obtain ⟨q, a1, n1, c1, a2, n2, c2, rfl⟩ := he.shape
    obtain ⟨y0, y1, y2, f0, f1, f2⟩ := cells3 b1
    replace he := Lib.hid he
    replace hE := Lib.hid hE
    go_wp2
    refine bodyPost_ret (v := .agg #[.int .i64 q, .slice a1 n1 c1, .slice a2 n2 c2]) (by simp [results, Tryd.results27, go_sem, y0, y1, y2]) rfl ⟨_, rfl, below_set3 (Below.step b0 b1) (by simp) _ _ _, ?_⟩
    rw [hE.out]
    exact (he.out.set3 (by simp) _ _ _).mono (by simp)
  · replace h := Lib.hid h
    replace hsz := Lib.hid hsz
    go_enter Tryd.func27, Tryd.ntmps27
    go_wp2_with fail
    obtain ⟨W0, hW0⟩ : ∃ W0 : World, W0 = w.alloc (.cells #[.int .i64 0, .slice none 0 0, .slice none 0 0] 45) := ⟨_, rfl⟩
    rw [← hW0] at b0 bx h hsW ⊢
    clear hW0
    go_loopw [3, 4] (fun nv kv wr => ∃ k : Nat, k ≤ G.length ∧ kv = .int .i64 k ∧ nv = .int .i64 (arrowsTo G k) ∧ arrowsTo G k ≤ 262144 ∧ wr = W0) (fun _ kv _ => G.length - (intOf kv).toNat)
    case atStart => exact ⟨0, by omega, rfl, rfl, by simp [arrowsTo], rfl⟩
    case round =>
      obtain ⟨k, hk, rfl, rfl, hle, rfl⟩ := hrel
      by_cases hlt : k < G.length
      · obtain ⟨mv, iR, cR, hM⟩ := h.out.row k hlt
        have hll := hsz.out k hlt
        have ha1 : arrowsTo G (k + 1) = arrowsTo G k + (G.getD k []).length := rfl
        have lenM := hM.len
        generalize (G.getD k []).length = gl at *
        generalize valAt (.slice na G.length nc) k = ra at *
        have hwr : IntKind.i64.wrap ((arrowsTo G k : Int) + (gl : Int)) = (arrowsTo G k : Int) + (gl : Int) := wrapK (by omega) (by omega)
        by_cases hbig : 262144 < arrowsTo G k + gl
        · have hE : checkG G = fresh sGraph 1 4 := by
            unfold checkG
            rw [if_neg h8, if_pos]
            have := arrowsTo_mono G (show k + 1 ≤ G.length by omega)
            omega
          have hbig2 : decide ((262144 : Int) < (arrowsTo G k : Int) + (gl : Int)) = true := by simp; omega
          obtain ⟨ak, hak⟩ : ∃ ak, arrowsTo G k = ak := ⟨_, rfl⟩
          rw [hak] at hle hwr hbig hbig2 ⊢
          replace hak := Lib.hid hak
          replace ha1 := Lib.hid ha1
          replace hE := Lib.hid hE
          replace hM := Lib.hid hM
          go_wp2_with fail
          refine (raw_new _ _ _ _).mono ?_
          rintro e w1 ⟨x, rfl, b1, he⟩
          obtain ⟨q, a1, n1, c1, a2, n2, c2, rfl⟩ := he.shape
          obtain ⟨y0, y1, y2⟩ := keep3 b1 ⟨bx.1, bx.2.1, bx.2.2.1⟩
          have hlt0 : w.heap.size < wr.heap.size := by omega
          have f0 := (b1.frozen (p := ⟨w.heap.size, 0, none⟩) hlt0).trans bx.2.2.2.1
          have f1 := (b1.frozen (p := ⟨w.heap.size, 1, none⟩) hlt0).trans bx.2.2.2.2.1
          have f2 := (b1.frozen (p := ⟨w.heap.size, 2, none⟩) hlt0).trans bx.2.2.2.2.2
          replace he := Lib.hid he
          clear bx iR cR lenM
          go_wp2
          refine bodyPost_ret (v := .agg #[.int .i64 q, .slice a1 n1 c1, .slice a2 n2 c2]) (by simp [results, Tryd.results27, go_sem, y0, y1, y2]) rfl ⟨_, rfl, below_set3 (Below.step b0 b1) (by omega) _ _ _, ?_⟩
          rw [hE.out]
          exact (he.out.set3 (by omega) _ _ _).mono (by omega)
        · have hbig2 : decide ((262144 : Int) < (arrowsTo G k : Int) + (gl : Int)) = false := by simp; omega
          obtain ⟨ak, hak⟩ : ∃ ak, arrowsTo G k = ak := ⟨_, rfl⟩
          rw [hak] at hle hwr hbig hbig2 ha1 ⊢
          replace hak := Lib.hid hak
          replace ha1 := Lib.hid ha1
          replace hM := Lib.hid hM
          replace bx := Lib.hid bx
          go_wp2
          go_roundw
          case measure => simp [intOf]; omega
          case rel => exact ⟨k + 1, by omega, by go_num, by rw [ha1.out]; go_num, by rw [ha1.out]; omega, by trivial⟩
      · obtain rfl : k = G.length := by omega
        have hE2 : checkG G = if 0 ≤ oddTo G G.length then fresh sGraph (oddTo G G.length) 1 else none := by
          unfold checkG; rw [if_neg h8, if_neg (by omega)]
        replace hE2 := Lib.hid hE2
        generalize arrowsTo G G.length = an at *
        replace bx := Lib.hid bx
        go_wp2_with fail
        go_loopw [5] (fun kv w2 => ∃ k : Nat, k ≤ G.length ∧ kv = .int .i64 k ∧ oddTo G k < 0 ∧ w2 = wr) (fun kv _ => G.length - (intOf kv).toNat)
        case atStart => exact ⟨0, by omega, rfl, by simp [oddTo], rfl⟩
        case round =>
          obtain ⟨k, hk, rfl, hodd, rfl⟩ := hrel
          by_cases hlt : k < G.length
          · obtain ⟨mv, iR, cR, hM⟩ := h.out.row k hlt
            have hll := hsz.out k hlt
            have hhit := fun (t : Int) => oddTo_hit (G := G) (k := k) hodd (t := t)
            have hmiss := oddTo_miss (G := G) (k := k) hodd
            generalize G.getD k [] = gx at *
            have lenM := hM.len
            generalize valAt (.slice na G.length nc) k = ra at *
            replace hodd := Lib.hid hodd
            replace hhit := Lib.hid hhit
            replace hmiss := Lib.hid hmiss
            replace hM := Lib.hid hM
            go_wp2_with fail
            go_loopw [6] (fun jv w2 => ∃ j : Nat, j ≤ gx.length ∧ jv = .int .i64 j ∧ (∀ t ∈ gx.take j, oddT G.length t = false) ∧ w2 = wr) (fun jv _ => gx.length - (intOf jv).toNat)
            case atStart => exact ⟨0, by omega, rfl, fun t ht => by simp at ht, rfl⟩
            case round =>
              obtain ⟨j, hj, rfl, hnot, rfl⟩ := hrel
              by_cases hjl : j < gx.length
              · obtain ⟨t, ht⟩ : ∃ t, gx[j]? = some t := ⟨_, List.getElem?_eq_getElem hjl⟩
                have htm := List.mem_of_getElem? ht
                have htk : gx.take (j + 1) = gx.take j ++ [t] := by rw [List.take_add_one, ht]; rfl
                have iT := fun w' => hM.out.idx j hjl w'
                have cT := hM.out.cellD j hjl
                rw [List.getD_eq_getElem?_getD, ht, Option.getD_some] at cT
                generalize valAt mv j = ja at *
                by_cases hot : oddT G.length t = true
                · have hE : checkG G = fresh sGraph (k : Int) 1 := by
                    have h1 := hhit.out t htm hot
                    have h2 := oddTo_keep G (k + 1) (by omega) (G.length - (k + 1))
                    rw [show k + 1 + (G.length - (k + 1)) = G.length by omega, h1] at h2
                    rw [hE2.out, h2, if_pos (by omega)]
                  replace hE := Lib.hid hE
                  replace hnot := Lib.hid hnot
                  replace htk := Lib.hid htk
                  replace ht := Lib.hid ht
                  obtain ⟨x0, x1, x2, g0, g1, g2⟩ := bx.out
                  by_cases ht0 : t < 0
                  · replace hot := Lib.hid hot
                    go_wp2_with fail
                    refine (raw_new _ _ _ _).mono ?_
                    rintro e w1 ⟨x, rfl, b1, he⟩
                    obtain ⟨q, a1, n1, c1, a2, n2, c2, rfl⟩ := he.shape
                    obtain ⟨y0, y1, y2⟩ := keep3 b1 ⟨x0, x1, x2⟩
                    have hlt0 : w.heap.size < wr.heap.size := by omega
                    have f0 := (b1.frozen (p := ⟨w.heap.size, 0, none⟩) hlt0).trans g0
                    have f1 := (b1.frozen (p := ⟨w.heap.size, 1, none⟩) hlt0).trans g1
                    have f2 := (b1.frozen (p := ⟨w.heap.size, 2, none⟩) hlt0).trans g2
                    replace he := Lib.hid he
                    clear x0 x1 x2 g0 g1 g2 iR cR lenM iT cT
                    go_wp2
                    refine bodyPost_ret (v := .agg #[.int .i64 q, .slice a1 n1 c1, .slice a2 n2 c2]) (by simp [results, Tryd.results27, go_sem, y0, y1, y2]) rfl ⟨_, rfl, below_set3 (Below.step b0 b1) (by omega) _ _ _, ?_⟩
                    rw [hE.out]
                    exact (he.out.set3 (by omega) _ _ _).mono (by omega)
                  · have hge : (G.length : Int) ≤ t := by simp [oddT] at hot; omega
                    replace hot := Lib.hid hot
                    go_wp2_with fail
                    refine (raw_new _ _ _ _).mono ?_
                    rintro e w1 ⟨x, rfl, b1, he⟩
                    obtain ⟨q, a1, n1, c1, a2, n2, c2, rfl⟩ := he.shape
                    obtain ⟨y0, y1, y2⟩ := keep3 b1 ⟨x0, x1, x2⟩
                    have hlt0 : w.heap.size < wr.heap.size := by omega
                    have f0 := (b1.frozen (p := ⟨w.heap.size, 0, none⟩) hlt0).trans g0
                    have f1 := (b1.frozen (p := ⟨w.heap.size, 1, none⟩) hlt0).trans g1
                    have f2 := (b1.frozen (p := ⟨w.heap.size, 2, none⟩) hlt0).trans g2
                    replace he := Lib.hid he
                    clear x0 x1 x2 g0 g1 g2 iR cR lenM iT cT
                    go_wp2
                    refine bodyPost_ret (v := .agg #[.int .i64 q, .slice a1 n1 c1, .slice a2 n2 c2]) (by simp [results, Tryd.results27, go_sem, y0, y1, y2]) rfl ⟨_, rfl, below_set3 (Below.step b0 b1) (by omega) _ _ _, ?_⟩
                    rw [hE.out]
                    exact (he.out.set3 (by omega) _ _ _).mono (by omega)
                · have ht0 : ¬ t < 0 := by simp [oddT] at hot; omega
                  have hge : ¬ (G.length : Int) ≤ t := by simp [oddT] at hot; omega
                  have hnot2 : ∀ x ∈ gx.take (j + 1), oddT G.length x = false := fun x hx => by
                    rw [htk] at hx
                    rcases List.mem_append.1 hx with hx | hx
                    · exact hnot x hx
                    · cases List.mem_singleton.1 hx; simpa using hot
                  replace hnot2 := Lib.hid hnot2
                  replace hnot := Lib.hid hnot
                  replace htk := Lib.hid htk
                  replace ht := Lib.hid ht
                  replace hot := Lib.hid hot
                  go_wp2
                  go_roundw
                  case measure => simp [intOf]; omega
                  case rel => exact ⟨j + 1, by omega, by go_num, hnot2.out, by trivial⟩
              · obtain rfl : j = gx.length := by omega
                rw [List.take_length] at hnot
                have hm := hmiss.out hnot
                replace hm := Lib.hid hm
                replace hnot := Lib.hid hnot
                go_wp2
                go_roundw
                case measure => simp [intOf]; omega
                case rel => exact ⟨k + 1, by omega, by go_num, hm.out, by trivial⟩
          · obtain rfl : k = G.length := by omega
            have hE : checkG G = none := by rw [hE2.out, if_neg (by omega)]
            replace hE := Lib.hid hE
            replace hodd := Lib.hid hodd
            obtain ⟨y0, y1, y2, f0, f1, f2⟩ := bx.out
            go_wp2
            refine bodyPost_ret (v := zErr) (by simp [results, Tryd.results27, go_sem, y0, y1, y2]) rfl ⟨_, rfl, below_set3 b0 (by omega) _ _ _, ?_⟩
            rw [hE.out]
            exact rfl
end Go.Proofs.YtdldadgnggaopaaDoor

namespace Go.Proofs.YtdldadgnggaopaaDoor
open Go.RowKit

/-- A row: its elements' type, how many cells each has, the slice value, how many elements, the cells. -/
structure Row where
  E : TypeId
  size : Nat
  v : Value
  n : Nat
  xs : List Value
def Row.own (B : Nat) (w : World) (r : Row) : Prop := w.ownsRow B r.E r.size r.v r.n r.xs
abbrev Names := Nat × Nat → Option Row
/-- The rows lie where they lie, no two in one block. -/
def Rows (B : Nat) (w : World) (f : Names) : Prop :=
  (∀ i r, f i = some r → r.own B w) ∧ (∀ i j r s, f i = some r → f j = some s → i ≠ j → r.v.ownBlock = none ∨ r.v.ownBlock ≠ s.v.ownBlock)
def upd (f : Names) (i : Nat × Nat) (r : Option Row) : Names := fun j => if j = i then r else f j
theorem upd_same (f : Names) (i : Nat × Nat) (r : Option Row) : upd f i r i = r := by simp [upd]
theorem upd_ne (f : Names) {i j : Nat × Nat} (r : Option Row) (h : j ≠ i) : upd f i r j = f j := by simp [upd, h]

theorem Rows.below {B : Nat} {w w' : World} {f : Names} (h : Rows B w f) (hb : Below w.heap.size w w') : Rows B w' f :=
  ⟨fun i r hi => by
    have ho := h.1 i r hi
    refine ⟨ho.1, ?_⟩
    rcases ho.2 with h2 | ⟨g, cap, cur, e, hB, hg, rest⟩
    · exact .inl h2
    · exact .inr ⟨g, cap, cur, e, hB, by rw [hb.block g (Array.getElem?_eq_some_iff.1 hg).1]; exact hg, rest⟩, h.2⟩
theorem Rows.drop {B : Nat} {w : World} {f : Names} (h : Rows B w f) (i : Nat × Nat) : Rows B w (upd f i none) :=
  ⟨fun j r hj => by
    by_cases e : j = i
    · subst e; rw [upd_same] at hj; cases hj
    · rw [upd_ne _ _ e] at hj; exact h.1 j r hj, fun j k r s hj hk hne => by
    by_cases e : j = i
    · subst e; rw [upd_same] at hj; cases hj
    by_cases e' : k = i
    · subst e'; rw [upd_same] at hk; cases hk
    rw [upd_ne _ _ e] at hj
    rw [upd_ne _ _ e'] at hk
    exact h.2 j k r s hj hk hne⟩
theorem Rows.lt {B : Nat} {w : World} {f : Names} (h : Rows B w f) {i : Nat × Nat} {r : Row} (hi : f i = some r) : ∀ k, r.v.ownBlock = some k → B ≤ k ∧ k < w.heap.size := World.ownsRow.lt (h.1 i r hi)

/-- What was done in row i alone: the row is now r'; it lies where it lay, or in a new block. -/
theorem Rows.grown {B : Nat} {w w' : World} {f : Names} {i : Nat × Nat} {r r' : Row} (h : Rows B w f) (hi : f i = some r) (hg : w.grownBy w' r.v.ownBlock) (ho : r'.own B w') (hb : r'.v.ownBlock = r.v.ownBlock ∨ ∃ k, r'.v.ownBlock = some k ∧ w.heap.size ≤ k) :
    Rows B w' (upd f i (some r')) := by
  have far : ∀ j s, f j = some s → j ≠ i → s.v.ownBlock = none ∨ s.v.ownBlock ≠ r'.v.ownBlock := fun j s hj hne => by
    rcases hb with e | ⟨k, e, hk⟩
    · rw [e]; exact h.2 j i s r hj hi hne
    · cases hs : s.v.ownBlock with
      | none => exact .inl rfl
      | some m =>
        have := (h.lt hj m hs).2
        right; rw [e]; intro e2; injection e2 with e2; omega
  refine ⟨fun j s hj => ?_, fun j k s t hj hk hne => ?_⟩
  · by_cases e : j = i
    · subst e; rw [upd_same] at hj; cases hj; exact ho
    · rw [upd_ne _ _ e] at hj
      exact World.ownsRow.kept (h.1 j s hj) hg (h.2 j i s r hj hi e)
  · by_cases e : j = i
    · subst e
      rw [upd_same] at hj; cases hj
      rw [upd_ne _ _ (Ne.symm hne)] at hk
      rcases far k t hk (Ne.symm hne) with e2 | e2
      · cases hr : r'.v.ownBlock with
        | none => exact .inl rfl
        | some m => right; rw [e2]; simp
      · exact .inr (Ne.symm e2)
    · rw [upd_ne _ _ e] at hj
      by_cases e' : k = i
      · subst e'; rw [upd_same] at hk; cases hk
        exact far j s hj e
      · rw [upd_ne _ _ e'] at hk
        exact h.2 j k s t hj hk hne

/-- A new row, in a new block (or nil). -/
theorem Rows.fresh {B : Nat} {w w' : World} {f : Names} {i : Nat × Nat} {r' : Row} (h : Rows B w f) (hg : w.grownBy w' none) (ho : r'.own B w') (hb : ∀ k, r'.v.ownBlock = some k → w.heap.size ≤ k) :
    Rows B w' (upd f i (some r')) := by
  refine ⟨fun j s hj => ?_, fun j k s t hj hk hne => ?_⟩
  · by_cases e : j = i
    · subst e; rw [upd_same] at hj; cases hj; exact ho
    · rw [upd_ne _ _ e] at hj
      exact World.ownsRow.kept (h.1 j s hj) hg (by cases s.v.ownBlock <;> simp)
  · by_cases e : j = i
    · subst e
      rw [upd_same] at hj; cases hj
      rw [upd_ne _ _ (Ne.symm hne)] at hk
      cases hr : r'.v.ownBlock with
      | none => exact .inl rfl
      | some m =>
        right; intro e2
        have h1 := hb m hr
        have h2 := (h.lt hk m e2.symm).2
        omega
    · rw [upd_ne _ _ e] at hj
      by_cases e' : k = i
      · subst e'; rw [upd_same] at hk; cases hk
        cases hs : s.v.ownBlock with
        | none => exact .inl rfl
        | some m =>
          right; intro e2
          have h1 := hb m e2.symm
          have h2 := (h.lt hj m hs).2
          omega
      · rw [upd_ne _ _ e'] at hk
        exact h.2 j k s t hj hk hne

theorem below_grows {w w' : World} (h : Below w.heap.size w w') (row : Option Nat) : w.grownBy w' row := ⟨h.os, h.tape, h.output, h.size, fun k hk _ => h.block k hk⟩
theorem grown_any {w w' : World} (h : w.grownBy w' none) (row : Option Nat) : w.grownBy w' row := ⟨h.os, h.tape, h.output, h.size, fun k hk _ => h.block k hk (by simp)⟩
/-- A new row, made by a call that keeps what was. -/
theorem Rows.add {B : Nat} {w w' : World} {f : Names} {i : Nat × Nat} {r' : Row} (h : Rows B w f) (hb : Below w.heap.size w w') (ho : r'.own B w') (hn : ∀ k, r'.v.ownBlock = some k → w.heap.size ≤ k) : Rows B w' (upd f i (some r')) :=
  h.fresh (below_grows hb none) ho hn

/-- Another row in the same block, under another name, in the place of row i. -/
theorem Rows.move {B : Nat} {w : World} {f : Names} {i j : Nat × Nat} {r r' : Row} (h : Rows B w f) (hi : f i = some r) (ho : r'.own B w) (hb : r'.v.ownBlock = r.v.ownBlock) : Rows B w (upd (upd f i none) j (some r')) := by
  refine ⟨fun k s hk => ?_, fun k l s t hk hl hne => ?_⟩
  · by_cases e : k = j
    · subst e; rw [upd_same] at hk; cases hk; exact ho
    · rw [upd_ne _ _ e] at hk
      exact (h.drop i).1 k s hk
  · by_cases e : k = j
    · subst e
      rw [upd_same] at hk; cases hk
      rw [upd_ne _ _ (Ne.symm hne)] at hl
      by_cases e2 : l = i
      · subst e2; rw [upd_same] at hl; cases hl
      · rw [upd_ne _ _ e2] at hl
        rw [hb]
        exact h.2 i l r t hi hl (Ne.symm e2)
    · rw [upd_ne _ _ e] at hk
      by_cases e' : l = j
      · subst e'; rw [upd_same] at hl; cases hl
        by_cases e2 : k = i
        · subst e2; rw [upd_same] at hk; cases hk
        · rw [upd_ne _ _ e2] at hk
          rw [hb]
          exact h.2 k i s r hk hi e2
      · rw [upd_ne _ _ e'] at hl
        exact (h.drop i).2 k l s t hk hl hne

/-- The block of a row that is not nil. -/
theorem Row.own.shape {B : Nat} {w : World} {r : Row} (h : r.own B w) (hn : 0 < r.n) : ∃ g cap, r.v = .slice (some ⟨g, 0, none⟩) r.n cap ∧ B ≤ g := by
  rcases h.2 with ⟨_, h0⟩ | ⟨g, cap, cur, e, hB, _⟩
  · omega
  · exact ⟨g, cap, e, hB⟩
/-- A store into cell k of row i. -/
theorem Rows.set {B : Nat} {w : World} {f : Names} {i : Nat × Nat} {r : Row} (h : Rows B w f) (hi : f i = some r) {g cap : Nat} (hv : r.v = .slice (some ⟨g, 0, none⟩) r.n cap) (k : Nat) (y : Value) :
    Rows B (w.setCell ⟨g, k, none⟩ y) (upd f i (some { r with xs := r.xs.set k y })) := by
  have ho := h.1 i r hi
  unfold Row.own at ho
  rw [hv] at ho
  have hs := World.ownsRow.stored ho k y
  refine h.grown hi (by rw [hv]; exact hs.2) ?_ (.inl rfl)
  unfold Row.own
  rw [hv]
  exact hs.1
theorem Rows.cell {B : Nat} {w : World} {f : Names} {i : Nat × Nat} {r : Row} (h : Rows B w f) (hi : f i = some r) {g cap : Nat} (hv : r.v = .slice (some ⟨g, 0, none⟩) r.n cap) (k : Nat) (hk : k < r.n * r.size) : w.cell? ⟨g, k, none⟩ = r.xs[k]? := by
  have ho := h.1 i r hi
  unfold Row.own at ho
  rw [hv] at ho
  exact ho.cellAt k hk
theorem Rows.frozen {B : Nat} {w : World} {f : Names} {i : Nat × Nat} {r : Row} (h : Rows B w f) (hi : f i = some r) {g cap : Nat} (hv : r.v = .slice (some ⟨g, 0, none⟩) r.n cap) (k : Nat) : w.frozen? ⟨g, k, none⟩ = false := by
  have ho := h.1 i r hi
  unfold Row.own at ho
  rw [hv] at ho
  exact ho.frozenAt k
theorem Rows.congr {B : Nat} {w : World} {f f' : Names} (h : Rows B w f) (e : ∀ i, f' i = f i) : Rows B w f' := by
  rw [show f' = f from funext e]; exact h
theorem Rows.drew {B : Nat} {w : World} {f : Names} (h : Rows B w f) : Rows B w.drew f := h
theorem Rows.drewN {B : Nat} {w : World} {f : Names} (h : Rows B w f) (n : Nat) : Rows B (w.drewN n) f := h

/-- A row of ints, of whatever one-cell values. -/
abbrev rowI (v : Value) (xs : List Int) : Row := ⟨3, 1, v, xs.length, xs.map (Value.int .i64)⟩
abbrev rowV (E : TypeId) (v : Value) (vs : List Value) : Row := ⟨E, 1, v, vs.length, vs⟩
theorem Rows.ownI {B : Nat} {w : World} {f : Names} {i : Nat × Nat} {v : Value} {xs : List Int} (h : Rows B w f) (hi : f i = some (rowI v xs)) : OwnI B w v xs := h.1 i _ hi
theorem Rows.ownV {B : Nat} {w : World} {f : Names} {i : Nat × Nat} {E : TypeId} {v : Value} {vs : List Value} (h : Rows B w f) (hi : f i = some (rowV E v vs)) : OwnV E B w v vs := h.1 i _ hi
/-- A store into element k of a row of ints. -/
theorem Rows.setI {B : Nat} {w : World} {f : Names} {i : Nat × Nat} {v : Value} {xs : List Int} (h : Rows B w f) (hi : f i = some (rowI v xs)) (k : Nat) (hk : k < xs.length) (y : Int) :
    Rows B (w.setCell (valAt v k) (.int .i64 y)) (upd f i (some (rowI v (xs.set k y)))) := by
  have ho := h.ownI hi
  have hs := ho.set k hk y
  refine h.grown hi ?_ hs (.inl rfl)
  have := ho.toV.setGrown k (by simpa using hk) (.int .i64 y)
  exact this
theorem Rows.setV {B : Nat} {w : World} {f : Names} {i : Nat × Nat} {E : TypeId} {v : Value} {vs : List Value} (h : Rows B w f) (hi : f i = some (rowV E v vs)) (k : Nat) (hk : k < vs.length) (y : Value) :
    Rows B (w.setCell (valAt v k) y) (upd f i (some (rowV E v (vs.set k y)))) := by
  have ho := h.ownV hi
  refine h.grown hi (ho.setGrown k hk y) ?_ (.inl rfl)
  have := ho.set k hk y
  unfold Row.own
  exact this
end Go.Proofs.YtdldadgnggaopaaDoor

namespace Go.Proofs.YtdldadgnggaopaaDoor

section
variable {P : Program} {ops : Array Oper} {Q : Exit → Act → World → Prop} {md : Region.Mode} {S : World → Prop}

/-- Whatever order is picked from here on; behind an operation of the head the fact S holds. -/
def wpAnyT (P : Program) (md : Region.Mode) (ops : Array Oper) (Q : Exit → Act → World → Prop) (S : World → Prop) (n : Nat) : Nat → Array Bool → Act → World → Prop
  | 0, listed, a, w => Region.ready md ops listed = [] ∧ Q .normal a w
  | fuel + 1, listed, a, w =>
    (Region.ready md ops listed = [] → Q .normal a w) ∧
    ∀ i ∈ Region.ready md ops listed, wpOp P ops Q i (fun a' w' => (i < n → S w') ∧ wpAnyT P md ops Q S n fuel (listed.setIfInBounds i true) a' w') a w

theorem wpAny_of_T {n : Nat} : ∀ (fuel : Nat) (listed : Array Bool) (a : Act) (w : World), wpAnyT P md ops Q S n fuel listed a w → wpAny P md ops Q fuel listed a w
  | 0, _, _, _, h => h
  | fuel + 1, _, _, _, h => ⟨h.1, fun i hi => wpOp_mono (fun a' w' h' => wpAny_of_T fuel _ a' w' h'.2) (h.2 i hi)⟩

/-- Where the whole head has come up, it is a wpAny. -/
theorem wpAnyT_of {n : Nat} : ∀ (fuel : Nat) (listed : Array Bool) (a : Act) (w : World), (∀ j, j < n → listed.getD j true = true) → wpAny P md ops Q fuel listed a w → wpAnyT P md ops Q S n fuel listed a w
  | 0, _, _, _, _, h => h
  | fuel + 1, listed, a, w, hl, h => ⟨h.1, fun i hi => wpOp_mono (fun a' w' h' => ⟨fun hin => Bool.noConfusion ((hl i hin).symm.trans (mem_ready.1 hi).1), wpAnyT_of fuel _ a' w' (fun j hj => by
        by_cases hij : i = j
        · subst hij
          rcases Nat.lt_or_ge i listed.size with h2 | h2
          · simp [h2]
          · rw [Array.getD_eq_getD_getElem?, Array.getElem?_eq_none (by simpa using h2)]; rfl
        · rw [getD_set_ne true hij]; exact hl j hj) h'⟩) (h.2 i hi)⟩

theorem wpAnyT_first {n i : Nat} {oi : Oper} {v : Value} (hi : ops[i]? = some oi) (hsel : ∀ (j : Nat) (o : Oper) cs b, ops[j]? = some o → o.op ≠ .select cs b)
    (hs : Region.sinkB md ops n = true) (hc : Region.chainB md ops n = true) (hn : n < ops.size) (hin : i < n)
    (hQ : ∀ c a w, Q (.panic c) (a.put oi.dst v) w → Q (.panic c) a w) :
    ∀ (fuel : Nat) (listed : Array Bool) (a : Act) (w : World), HeadInv md ops n listed →
      (∀ j oj, ops[j]? = some oj → j ≠ i → listed.getD j true = false → (∀ e ∈ oj.after, Region.binds md e = true → e.on ≠ i) → oi.apart ops oj = true) →
      i ∈ Region.ready md ops listed → YieldsIf P ops S oi v a → S w →
      wpAnyT P md ops Q S n fuel (listed.setIfInBounds i true) (a.put oi.dst v) w → wpAnyT P md ops Q S n (fuel + 1) listed a w := by
  intro fuel
  induction fuel with
  | zero =>
    intro listed a w inv _ hr hy hS H
    refine ⟨fun h => (by rw [h] at hr; cases hr), fun j hj => ?_⟩
    by_cases hji : j = i
    · subst hji; exact hy.wpOp hi hS ⟨fun _ => hS, H⟩
    · have := ready_mono hj hji
      rw [H.1] at this
      cases this
  | succ fuel ih =>
    intro listed a w inv hfree hr hy hS H
    have hun := (mem_ready.1 hr).1
    refine ⟨fun h => (by rw [h] at hr; cases hr), fun j hj => ?_⟩
    have hjn : j < n := by
      rcases Nat.lt_or_ge j n with h | h
      · exact h
      · exact absurd hj (tail_waits hs hc hn inv _ i rfl hin hun j h)
    by_cases hji : j = i
    · subst hji; exact hy.wpOp hi hS ⟨fun _ => hS, H⟩
    · have h1 := H.2 j (ready_mono hj hji)
      obtain ⟨hjun, oj, hoj, hall⟩ := mem_ready.1 hj
      have hnot : ∀ e ∈ oj.after, Region.binds md e = true → e.on ≠ i := fun e he hb heq => by
        have h1 := hall e he hb
        rw [heq, getD_both hun] at h1
        cases h1
      have h2 := wpOp_putIf hoj (hfree j oj hoj hji hjun hnot) (fun cs b => hsel i oi cs b hi) (fun cs b => hsel j oj cs b hoj) hQ hy h1
      have hfree' : ∀ k ok, ops[k]? = some ok → k ≠ i → (listed.setIfInBounds j true).getD k true = false →
          (∀ e ∈ ok.after, Region.binds md e = true → e.on ≠ i) → oi.apart ops ok = true := fun k ok hk hki hun hno => by
        refine hfree k ok hk hki ?_ hno
        by_cases hjk : j = k
        · subst hjk; exact hjun
        · rw [getD_set_ne true hjk] at hun; exact hun
      refine wpOp_mono (fun a' w' h3 => ⟨fun _ => h3.2.1 hjn, ih (listed.setIfInBounds j true) a' w' (inv.set hj hjn) hfree' (ready_mono hr (Ne.symm hji)) h3.1 (h3.2.1 hjn) ?_⟩) h2
      rw [Array.setIfInBounds_comm _ _ hji]
      exact h3.2.2

/-- The head's operations in the plan's order: (k, true): number k yields a value under S; (k, false): number k alone can come up, whatever it does. -/
def wpHead (P : Program) (ops : Array Oper) (Q : Exit → Act → World → Prop) (S : World → Prop) (K : Act → World → Prop) : List (Nat × Bool) → Act → World → Prop
  | [], a, w => K a w
  | (k, true) :: l, a, w => ∃ o v, ops[k]? = some o ∧ YieldsIf P ops S o v a ∧ S w ∧ wpHead P ops Q S K l (a.put o.dst v) w
  | (k, false) :: l, a, w => wpOp P ops Q k (fun a' w' => S w' ∧ wpHead P ops Q S K l a' w') a w

def planB (md : Region.Mode) (ops : Array Oper) (n : Nat) : List (Nat × Bool) → Array Bool → Bool
  | [], listed => (List.range n).all (fun j => listed.getD j true) && Region.seqB md ops (ops.size - n) n listed
  | (k, true) :: l, listed => decide (k < n) && (Region.ready md ops listed).contains k && Region.free md ops listed k && planB md ops n l (listed.setIfInBounds k true)
  | (k, false) :: l, listed => decide (k < n) && decide (Region.ready md ops listed = [k]) && planB md ops n l (listed.setIfInBounds k true)

theorem wpAnyT_plan {n : Nat} {ol : List Oper} (hol : ops = ol.toArray) (hsel : Region.noSelect ops = true) (hs : Region.sinkB md ops n = true) (hc : Region.chainB md ops n = true) (hn : n < ops.size)
    (hQ : ∀ c a w, Q (.panic c) a w → False) :
    ∀ (l : List (Nat × Bool)) (listed : Array Bool) (a : Act) (w : World), HeadInv md ops n listed → planB md ops n l listed = true →
      wpHead P ops Q S (fun a' w' => wpList P ops Q (ol.drop n) a' w') l a w → wpAnyT P md ops Q S n (l.length + (ops.size - n)) listed a w
  | [], listed, a, w, inv, hB, h => by
    simp only [planB, Bool.and_eq_true] at hB
    have hl : ∀ j, j < n → listed.getD j true = true := fun j hj => List.all_eq_true.1 hB.1 j (List.mem_range.2 hj)
    rw [List.length_nil, Nat.zero_add]
    refine wpAnyT_of _ _ _ _ hl ?_
    have hdl : (ol.drop n).length = ops.size - n := by subst hol; simp
    rw [← hdl]
    refine wpAny_of_seq (ol.drop n) n listed a w (fun j => by subst hol; simp) ?_ h
    rw [hdl]; exact hB.2
  | (k, true) :: l, listed, a, w, inv, hB, h => by
    simp only [planB, Bool.and_eq_true, decide_eq_true_eq] at hB
    obtain ⟨⟨⟨hkn, hr⟩, hf⟩, hB'⟩ := hB
    obtain ⟨o, v, ho, hy, hS, h'⟩ := h
    have hr' : k ∈ Region.ready md ops listed := by simpa using hr
    rw [show ((k, true) :: l).length + (ops.size - n) = (l.length + (ops.size - n)) + 1 by simp; omega]
    exact wpAnyT_first ho (Region.noSelect_spec hsel) hs hc hn hkn (fun c a w h => (hQ c _ w h).elim) _ listed a w inv (Region.free_spec ho hf) hr' hy hS
      (wpAnyT_plan hol hsel hs hc hn hQ l _ _ _ (inv.set hr' hkn) hB' h')
  | (k, false) :: l, listed, a, w, inv, hB, h => by
    simp only [planB, Bool.and_eq_true, decide_eq_true_eq] at hB
    obtain ⟨⟨hkn, hr⟩, hB'⟩ := hB
    rw [show ((k, false) :: l).length + (ops.size - n) = (l.length + (ops.size - n)) + 1 by simp; omega]
    refine ⟨fun h0 => (by rw [h0] at hr; cases hr), fun i hi => ?_⟩
    have hi' := hi
    rw [hr] at hi'
    obtain rfl : i = k := by simpa using hi'
    exact wpOp_mono (fun a' w' h3 => ⟨fun _ => h3.1, wpAnyT_plan hol hsel hs hc hn hQ l _ a' w' (inv.set hi hkn) hB' h3.2⟩) h

/-- What is asked of the region and the plan. -/
def tailB (md : Region.Mode) (ops : Array Oper) (n : Nat) (plan : List (Nat × Bool)) : Bool :=
  Region.noSelect ops && decide (n < ops.size) && Region.sinkB md ops n && Region.chainB md ops n && decide (plan.length = n) && planB md ops n plan (Array.replicate ops.size false)

/-- **The law**: a region that draws its order, by a plan for its head; then its tail, one behind the other. -/
theorem wp_region_plan {id : Nat} {a : Act} {w : World} {l : List Oper} (S : World → Prop) (n : Nat) (plan : List (Nat × Bool)) (hm : P.follows .mixedOrders = true) (hB : tailB .any l.toArray n plan = true)
    (h : wpHead P l.toArray (NoPanic Q) S (fun a' w' => wpList P l.toArray (NoPanic Q) (l.drop n) a' w') plan a w.drew) : (Code.region id l.toArray true).wp P Q a w := by
  simp only [tailB, Bool.and_eq_true, decide_eq_true_eq] at hB
  obtain ⟨⟨⟨⟨⟨hsel, hn⟩, hs⟩, hc⟩, hlen⟩, hp⟩ := hB
  refine wp_region_noPanic ?_
  refine wp_region_any hm ?_
  have inv0 : HeadInv .any l.toArray n (Array.replicate l.toArray.size false) :=
    ⟨by simp, fun j oj _ hl => (by rw [getD_replicate_false] at hl; cases hl), fun t _ ht => getD_in (by simpa using ht) (getD_replicate_false _ _)⟩
  have := wpAnyT_plan (md := .any) (Q := NoPanic Q) (S := S) rfl hsel hs hc hn (fun _ _ _ h => h) plan _ a _ inv0 hp h
  rw [hlen, show n + (l.toArray.size - n) = l.toArray.size by omega] at this
  exact wpAny_of_T _ _ _ _ this

/-- A step that yields. -/
theorem headY {K : Act → World → Prop} {k : Nat} {o : Oper} {v : Value} {l : List (Nat × Bool)} {a : Act} {w : World} (d : Option Tmp) (ho : ops[k]? = some o) (hd : o.dst = d)
    (hy : YieldsIf P ops S o v a) (hS : S w) (h : wpHead P ops Q S K l (a.put d v) w) : wpHead P ops Q S K ((k, true) :: l) a w := by
  subst hd; exact ⟨o, v, ho, hy, hS, h⟩
/-- A step that does whatever it does. -/
theorem headC {K : Act → World → Prop} {k : Nat} {o : Oper} {l : List (Nat × Bool)} {a : Act} {w : World} (ho : ops[k]? = some o)
    (h : ∀ K' : Act → World → Prop, (∀ a w, S w → wpHead P ops Q S K l a w → K' a w) → if Region.wanted o (yielded ops a.tmps) = true then Oper.wp P o a w K' Q else K' (a.put o.dst undef) w) :
    wpHead P ops Q S K ((k, false) :: l) a w := by
  show wpOp _ _ _ _ _ _ _
  unfold wpOp
  simp only [ho]
  have := h (fun a' w' => S w' ∧ wpHead P ops Q S K l a' w') (fun a w h1 h2 => ⟨h1, h2⟩)
  split
  · rename_i hw; rw [if_pos hw] at this; exact .inl this
  · rename_i hw; rw [if_neg hw] at this; exact this
theorem head0 {K : Act → World → Prop} {a : Act} {w : World} (h : K a w) : wpHead P ops Q S K [] a w := h
end
end Go.Proofs.YtdldadgnggaopaaDoor

namespace Go.Proofs.YtdldadgnggaopaaDoor
open Go.RowKit
set_option maxRecDepth 100000

/-- The first n values of a function. -/
def tab (n : Nat) (f : Nat → Nat) : List Int := (List.range n).map fun (v : Nat) => (f v : Int)
def tabI (n : Nat) (f : Nat → Int) : List Int := (List.range n).map f
theorem tab_len (n : Nat) (f : Nat → Nat) : (tab n f).length = n := by simp [tab]
theorem tabI_len (n : Nat) (f : Nat → Int) : (tabI n f).length = n := by simp [tabI]
theorem tabI_get (n : Nat) (f : Nat → Int) (v : Nat) (hv : v < n) : (tabI n f).getD v 0 = f v := by simp [tabI, List.getD, hv]
theorem tab_get (n : Nat) (f : Nat → Nat) (v : Nat) (hv : v < n) : (tab n f).getD v 0 = (f v : Int) := by simp [tab, List.getD, hv]
theorem tabI_upd (n : Nat) (f : Nat → Int) (v : Nat) (a : Int) : (tabI n f).set v a = tabI n (updN f v a) := by
  apply List.ext_getElem
  · simp [tabI]
  · intro i h1 h2
    simp only [tabI, List.getElem_set, List.getElem_map, List.getElem_range, updN]
    by_cases e : v = i
    · rw [if_pos e, if_pos e.symm]
    · rw [if_neg e, if_neg (fun q => e q.symm)]
theorem tab_upd (n : Nat) (f : Nat → Nat) (v a : Nat) : (tab n f).set v (a : Int) = tab n (updN f v a) := by
  have h := tabI_upd n (fun x => (f x : Int)) v a
  show (tabI n fun x => (f x : Int)).set v (a : Int) = _
  rw [h]
  unfold tab tabI
  apply List.map_congr_left
  intro x _
  by_cases e : x = v
  · subst e; rw [updN_same, updN_same]
  · rw [updN_other _ _ _ e, updN_other _ _ _ e]
/-- The stacks' cells. -/
def flatF (calls : List Nat) (idx : Nat → Nat) : List Value := calls.reverse.flatMap fun (v : Nat) => [.int .i64 (v : Int), .int .i64 (idx v : Int)]
def upI (l : List Nat) : List Int := l.reverse.map fun (v : Nat) => (v : Int)
theorem upI_len (l : List Nat) : (upI l).length = l.length := by simp [upI]
theorem upI_cons (v : Nat) (l : List Nat) : upI (v :: l) = upI l ++ [(v : Int)] := by simp [upI]
theorem flatF_cons (v : Nat) (l : List Nat) (idx : Nat → Nat) : flatF (v :: l) idx = flatF l idx ++ [.int .i64 (v : Int), .int .i64 (idx v : Int)] := by simp [flatF]
theorem flatF_len (l : List Nat) (idx : Nat → Nat) : (flatF l idx).length = l.length * 2 := by
  induction l with
  | nil => rfl
  | cons v l ih => rw [flatF_cons, List.length_append, ih]; simp; omega
theorem flatF_congr {l : List Nat} {f g : Nat → Nat} (h : ∀ v ∈ l, f v = g v) : flatF l f = flatF l g := by
  induction l with
  | nil => rfl
  | cons v l ih => rw [flatF_cons, flatF_cons, ih fun x hx => h x (List.mem_cons_of_mem _ hx), h v List.mem_cons_self]

/-- A row one element shorter. -/
theorem Rows.shrink {B : Nat} {w : World} {f : Names} {i : Nat × Nat} {E : TypeId} {size m g cap : Nat} {xs : List Value} (h : Rows B w f) (hi : f i = some ⟨E, size, .slice (some ⟨g, 0, none⟩) (m + 1) cap, m + 1, xs⟩) :
    Rows B w (upd f i (some ⟨E, size, .slice (some ⟨g, 0, none⟩) m cap, m, xs.take (m * size)⟩)) := by
  refine h.grown hi ⟨rfl, rfl, rfl, Nat.le_refl _, fun _ _ _ => rfl⟩ ?_ (.inl rfl)
  have ho : w.ownsRow B E size (.slice (some ⟨g, 0, none⟩) (m + 1) cap) (m + 1) xs := h.1 i _ hi
  have hl := ho.1
  have hms : m * size ≤ (m + 1) * size := Nat.mul_le_mul_right _ (by omega)
  rcases ho.2 with ⟨e, _⟩ | ⟨g', cap', cur, e, hB, hg, hn, hm, hs, ht⟩
  · cases e
  · injection e with e1 e2 e3
    injection e1 with e1
    injection e1 with e1
    subst e1; subst e3
    refine ⟨by show (xs.take (m * size)).length = m * size; rw [List.length_take, hl]; omega, .inr ⟨g, cap, cur, rfl, hB, hg, by show m ≤ cap; omega, hm, hs, ?_⟩⟩
    show cur.toList.take (m * size) = xs.take (m * size)
    rw [← ht, List.take_take, Nat.min_eq_left hms]

/-- append of one frame. -/
theorem run_appF (w : World) (B : Nat) (ty : TypeId) (v : Value) (m : Nat) (xs : List Value) (hown : w.ownsRow B 147 2 v m xs)
    (b : Nat) (y0 y1 : Int) (hys : ∀ (j : Nat) (u : Value), ([Value.int .i64 y0, .int .i64 y1] : List Value)[j]? = some u → w.cell? ((⟨b, 0, none⟩ : Addr).add j) = some u) (hlen : m < 1000000) (hB : B ≤ w.heap.size) :
    ∃ g n' c' w', (Builtin.append_ #[95, 95] ty #[v, .slice (some ⟨b, 0, none⟩) 1 1]).run Tryd.prog w = .ok (.slice (some ⟨g, 0, none⟩) n' c') w' ∧ n' = m + 1 ∧ w'.ownsRow B 147 2 (.slice (some ⟨g, 0, none⟩) (m + 1) c') (m + 1) (xs ++ [.int .i64 y0, .int .i64 y1]) ∧
      ((v.ownBlock = some g ∧ w.grownBy w' v.ownBlock) ∨ (g = w.heap.size ∧ w.grownBy w' none)) := by
  have ht : Tryd.prog.underlying 95 = some (.slice 147) := by kernel_rfl
  obtain ⟨i, hi, hz0, hz1, hz2⟩ : ∃ i, Tryd.prog.info? 147 = some i ∧ i.zero = some (.agg #[.int .i64 0, .int .i64 0]) ∧ i.size = 2 ∧ i.bytes = 16 := by
    have : (Tryd.prog.info? 147).map (fun i => (i.zero, i.size, i.bytes)) = some (some (.agg #[.int .i64 0, .int .i64 0]), 2, 16) := by kernel_rfl
    cases h : Tryd.prog.info? 147 with
    | none => rw [h] at this; cases this
    | some i => rw [h] at this; simp at this; exact ⟨i, rfl, this.1, this.2.1, this.2.2⟩
  have hzc : (Value.agg #[.int .i64 0, .int .i64 0]).cells = #[.int .i64 0, .int .i64 0] := by rfl
  have hxl := hown.1
  have big : ∀ (old : Nat), old < m + 1 →
      (w.drew.alloc (.cells (xs.toArray ++ [Value.int .i64 y0, .int .i64 y1].toArray ++ Builtin.zeroCells (Value.agg #[.int .i64 0, .int .i64 0]).cells (grownCap w (m + 1) old 147 - (m + 1))) 147)).ownsRow B 147 2 (.slice (some ⟨w.heap.size, 0, none⟩) (m + 1) (grownCap w (m + 1) old 147)) (m + 1) (xs ++ [.int .i64 y0, .int .i64 y1]) := by
    intro old ho
    have hge := grownCap_ge w (m + 1) old 147
    have hcm : grownCap w (m + 1) old 147 ≤ maxLen := grownCap_le_maxLen w _ old 147 (by unfold maxLen; omega)
    refine ⟨by simp [hxl]; omega, .inr ⟨w.heap.size, _, _, rfl, hB, heap_alloc_new w.drew _, hge, hcm, ?_, ?_⟩⟩
    · simp only [Array.size_append, List.size_toArray, size_zeroCells, hzc, hxl]
      simp
      omega
    · simp only [Array.toList_append]
      exact List.take_left' (by simp [hxl]; omega)
  have grw : ∀ (oo : Obj), w.grownBy (w.drew.alloc oo) none := fun oo => ⟨rfl, rfl, rfl, by simp, fun k hk _ => Below.heap_alloc w.drew oo k hk⟩
  rcases hown.2 with ⟨rfl, hn⟩ | ⟨g, cap, cur, rfl, hbg, hg, hnc, hcm, hcs, htake⟩
  · subst hn
    obtain rfl := List.length_eq_zero_iff.1 (show xs.length = 0 by omega)
    have hr := run_append_nil (P := Tryd.prog) w 95 ty 147 i _ ht hi hz0 ⟨b, 0, none⟩ 1 1 [.int .i64 y0, .int .i64 y1] (by rw [hz1]; rfl) hys (by omega) (by omega) (by rw [hz2]; decide)
    have hbg := big 0 (by omega)
    simp only [List.nil_append, Array.empty_append, Nat.zero_add] at hbg hr
    exact ⟨_, _, _, _, hr, rfl, by simpa using hbg, .inr ⟨rfl, grw _⟩⟩
  · by_cases hroom : m + 1 ≤ cap
    · have hr := run_append_room (P := Tryd.prog) w 95 ty 147 i ht hi g m cap cur hg ⟨b, 0, none⟩ 1 1 [.int .i64 y0, .int .i64 y1] (by rw [hz1]; rfl) hys (by simp [Value.oneCell']) hroom (by rw [hz1, hcs]; simp; omega)
      refine ⟨_, _, _, _, hr, rfl, ⟨by simp [hxl]; omega, .inr ⟨g, cap, _, rfl, hbg, setRow_heap w g cur _ 147 _ hg, hroom, hcm, ?_, ?_⟩⟩, .inl ⟨rfl, ⟨rfl, rfl, rfl, by simp, fun k _ hk => setRow_other w g k _ (fun e => hk (by simp [Value.ownBlock, e]))⟩⟩⟩
      · simp only [List.size_toArray, List.length_append, List.length_take, List.length_drop, Array.length_toList, hz1, hcs]
        simp
        omega
      · rw [hz1, htake]
        exact List.take_left' (by simp [hxl]; omega)
    · have holds : ∀ j u, xs[j]? = some u → w.cell? ((⟨g, 0, none⟩ : Addr).add j) = some u := World.ownsRow.cells hown (g := g) rfl
      have hr := run_append_grow (P := Tryd.prog) w 95 ty 147 i _ ht hi hz0 ⟨g, 0, none⟩ m cap xs (by rw [hz1]; exact hxl) holds ⟨b, 0, none⟩ 1 1 [.int .i64 y0, .int .i64 y1] (by rw [hz1]; rfl) hys (by omega) (by omega) (by
        rw [hz2]
        exact growslice_fits (by omega) (by
          calc (m + 1) * 16 ≤ 1000000 * 16 := Nat.mul_le_mul_right _ hlen
            _ ≤ _ := by decide))
      exact ⟨_, _, _, _, hr, rfl, big cap (by omega), .inr ⟨rfl, grw _⟩⟩

/-- append(s, frame) in the text's order. -/
theorem wpl_appF {w : World} {ops : Array Oper} {rest : List Oper} {o : Oper} {a : Act} {Q : Exit → Act → World → Prop} (hgd : o.guard = none) (s x : Operand)
    (ho : o.op = .call { callee := .builtin .append, args := #[s, x], argTypes := #[95, 95] })
    (B : Nat) (v : Value) (m : Nat) (xs : List Value) (y0 y1 : Int) (b : Nat) (hown : w.ownsRow B 147 2 v m xs) (hs : a.eval s = v) (hx : a.eval x = .slice (some ⟨b, 0, none⟩) 1 1) (hb : b = w.heap.size)
    (hlen : m < 1000000) (hB : B ≤ w.heap.size)
    (h : ∀ g c w', w'.ownsRow B 147 2 (.slice (some ⟨g, 0, none⟩) (m + 1) c) (m + 1) (xs ++ [.int .i64 y0, .int .i64 y1]) → ((v.ownBlock = some g ∧ w.grownBy w' v.ownBlock) ∨ (w.heap.size ≤ g ∧ w.grownBy w' none)) → wpList Tryd.prog ops Q rest (a.put o.dst (.slice (some ⟨g, 0, none⟩) (m + 1) c)) w') :
    wpList Tryd.prog ops Q (o :: rest) a (w.alloc (.cells #[.int .i64 y0, .int .i64 y1] 147)) := by
  subst hb
  refine wpList_plain hgd fun K hK => ?_
  have hcells : ∀ (j : Nat) (u : Value), ([Value.int .i64 y0, .int .i64 y1] : List Value)[j]? = some u → (w.alloc (.cells #[.int .i64 y0, .int .i64 y1] 147)).cell? ((⟨w.heap.size, 0, none⟩ : Addr).add j) = some u := by
    intro j u hj
    have hn := heap_alloc_new w (.cells #[.int .i64 y0, .int .i64 y1] 147)
    match j, hj with
    | 0, hj => simp at hj; subst hj; simp only [World.cell?, Addr.add, if_true]; rw [hn]; rfl
    | 1, hj => simp at hj; subst hj; simp only [World.cell?, Addr.add, show ¬ (1 = 0) by decide, if_false]; rw [hn]; rfl
    | j + 2, hj => simp at hj
  obtain ⟨g, n', c', w', hr, rfl, h2, h3⟩ := run_appF (w.alloc (.cells #[.int .i64 y0, .int .i64 y1] 147)) B o.type v m xs (World.ownsRow.alloc hown _) w.heap.size y0 y1 hcells hlen (by simp; omega)
  unfold Oper.wp execOp
  simp only [ho, resolve, invoke, builtin, Sem.run_bind, Sem.run_pure, Result.andThen_ok, List.map_toArray, List.map_cons, List.map_nil, hs, hx]
  rw [hr]
  have hal : ∀ row, w.grownBy (w.alloc (.cells #[.int .i64 y0, .int .i64 y1] 147)) row := fun row => World.grownBy_alloc w _ row
  rcases h3 with ⟨hv, hg⟩ | ⟨hk, hg⟩
  · exact hK _ _ (h g c' w' h2 (.inl ⟨hv, (hal v.ownBlock).trans hg⟩))
  · exact hK _ _ (h g c' w' h2 (.inr ⟨by rw [hk]; simp, (hal none).trans hg⟩))

/-- What the names name. -/
structure SN (f : Names) (d : Nat) (nv lv fv pv ov cv : Value) (n : Nat) (S : TS) : Prop where
  box : f (0, 0) = some ⟨97, 7, .slice (some ⟨d, 0, none⟩) 1 1, 1, [nv, lv, fv, ov, pv, cv, .int .i64 S.time]⟩
  low : f (1, 0) = some (rowI lv (tab n S.low))
  fnd : f (2, 0) = some (rowI fv (tab n S.found))
  opn : f (3, 0) = some (rowI ov (upI S.opn))
  part : f (4, 0) = some (rowI pv (tabI n S.part))
  calls : f (5, 0) = some ⟨147, 2, cv, S.calls.length, flatF S.calls S.idx⟩

section
variable {B : Nat} {w : World} {f : Names} {d : Nat} {nv lv fv pv ov cv : Value} {n : Nat} {S : TS}

theorem SN.cell (h : SN f d nv lv fv pv ov cv n S) (hr : Rows B w f) (k : Nat) (hk : k < 7) : w.cell? ⟨d, k, none⟩ = [nv, lv, fv, ov, pv, cv, .int .i64 S.time][k]? :=
  hr.cell h.box (g := d) (cap := 1) rfl k (by simp; omega)
theorem SN.frz (h : SN f d nv lv fv pv ov cv n S) (hr : Rows B w f) (k : Nat) : w.frozen? ⟨d, k, none⟩ = false := hr.frozen h.box (g := d) (cap := 1) rfl k
theorem SN.base (h : SN f d nv lv fv pv ov cv n S) (hr : Rows B w f) : B ≤ d := (hr.lt h.box d rfl).1
/-- s.time = t. -/
theorem SN.setTime (h : SN f d nv lv fv pv ov cv n S) (hr : Rows B w f) (t : Nat) : ∃ f', Rows B (w.setCell ⟨d, 6, none⟩ (.int .i64 t)) f' ∧ SN f' d nv lv fv pv ov cv n { S with time := t } := by
  refine ⟨_, hr.set h.box (g := d) (cap := 1) rfl 6 (.int .i64 t), ⟨upd_same _ _ _, ?_, ?_, ?_, ?_, ?_⟩⟩
  · rw [upd_ne _ _ (by simp)]; exact h.low
  · rw [upd_ne _ _ (by simp)]; exact h.fnd
  · rw [upd_ne _ _ (by simp)]; exact h.opn
  · rw [upd_ne _ _ (by simp)]; exact h.part
  · rw [upd_ne _ _ (by simp)]; exact h.calls
/-- s.low[v] = t. -/
theorem SN.setLow (h : SN f d nv lv fv pv ov cv n S) (hr : Rows B w f) (v : Nat) (hv : v < n) (t : Nat) : ∃ f', Rows B (w.setCell (valAt lv v) (.int .i64 t)) f' ∧ SN f' d nv lv fv pv ov cv n { S with low := updN S.low v t } := by
  have hs := hr.setI h.low v (by rw [tab_len]; exact hv) (t : Int)
  rw [tab_upd] at hs
  refine ⟨_, hs, ⟨?_, upd_same _ _ _, ?_, ?_, ?_, ?_⟩⟩
  · rw [upd_ne _ _ (by simp)]; exact h.box
  · rw [upd_ne _ _ (by simp)]; exact h.fnd
  · rw [upd_ne _ _ (by simp)]; exact h.opn
  · rw [upd_ne _ _ (by simp)]; exact h.part
  · rw [upd_ne _ _ (by simp)]; exact h.calls
/-- s.found[v] = t. -/
theorem SN.setFound (h : SN f d nv lv fv pv ov cv n S) (hr : Rows B w f) (v : Nat) (hv : v < n) (t : Nat) : ∃ f', Rows B (w.setCell (valAt fv v) (.int .i64 t)) f' ∧ SN f' d nv lv fv pv ov cv n { S with found := updN S.found v t } := by
  have hs := hr.setI h.fnd v (by rw [tab_len]; exact hv) (t : Int)
  rw [tab_upd] at hs
  refine ⟨_, hs, ⟨?_, ?_, upd_same _ _ _, ?_, ?_, ?_⟩⟩
  · rw [upd_ne _ _ (by simp)]; exact h.box
  · rw [upd_ne _ _ (by simp)]; exact h.low
  · rw [upd_ne _ _ (by simp)]; exact h.opn
  · rw [upd_ne _ _ (by simp)]; exact h.part
  · rw [upd_ne _ _ (by simp)]; exact h.calls
/-- s.part[v] = t. -/
theorem SN.setPart (h : SN f d nv lv fv pv ov cv n S) (hr : Rows B w f) (v : Nat) (hv : v < n) (t : Int) : ∃ f', Rows B (w.setCell (valAt pv v) (.int .i64 t)) f' ∧ SN f' d nv lv fv pv ov cv n { S with part := updN S.part v t } := by
  have hs := hr.setI h.part v (by rw [tabI_len]; exact hv) t
  rw [tabI_upd] at hs
  refine ⟨_, hs, ⟨?_, ?_, ?_, ?_, upd_same _ _ _, ?_⟩⟩
  · rw [upd_ne _ _ (by simp)]; exact h.box
  · rw [upd_ne _ _ (by simp)]; exact h.low
  · rw [upd_ne _ _ (by simp)]; exact h.fnd
  · rw [upd_ne _ _ (by simp)]; exact h.opn
  · rw [upd_ne _ _ (by simp)]; exact h.calls
theorem grown_via {w' : World} {row : Option Nat} (hg : w.grownBy w' row ∨ w.grownBy w' none) : w.grownBy w' row := by
  rcases hg with h | h
  · exact h
  · exact ⟨h.os, h.tape, h.output, h.size, fun k hk _ => h.block k hk (by simp)⟩
/-- s.open = append(s.open, v). -/
theorem SN.pushOpen (h : SN f d nv lv fv pv ov cv n S) (hr : Rows B w f) (hBw : B ≤ w.heap.size) {w1 : World} {ov' : Value} (v : Nat) (ho : OwnI B w1 ov' (upI S.opn ++ [(v : Int)]))
    (hal : (roomOf ov' = roomOf ov ∧ w.grownBy w1 ov.ownBlock) ∨ (∃ k, ov'.ownBlock = some k ∧ w.heap.size ≤ k ∧ w.grownBy w1 none)) :
    (∀ k, k < 7 → w1.cell? ⟨d, k, none⟩ = [nv, lv, fv, ov, pv, cv, .int .i64 S.time][k]?) ∧ (∀ k, w1.frozen? ⟨d, k, none⟩ = false) ∧ Below B w (w1.setCell ⟨d, 3, none⟩ ov') ∧ ∃ f', Rows B (w1.setCell ⟨d, 3, none⟩ ov') f' ∧ SN f' d nv lv fv pv ov' cv n { S with opn := v :: S.opn } := by
  have hO := hr.ownI h.opn
  have hg : w.grownBy w1 ov.ownBlock := grown_via (hal.imp (·.2) (fun ⟨_, _, _, q⟩ => q))
  have hob : ov'.ownBlock = ov.ownBlock ∨ ∃ k, ov'.ownBlock = some k ∧ w.heap.size ≤ k := by
    rcases hal with ⟨q, _⟩ | ⟨k, h1, h2, _⟩
    · obtain ⟨a1, n1, c1, e1⟩ := hO.at.shape
      obtain ⟨a2, n2, c2, e2⟩ := ho.at.shape
      exact .inl (ownBlock_of_room e1 e2 q)
    · exact .inr ⟨k, h1, h2⟩
  have h1 := hr.grown (r' := rowI ov' (upI S.opn ++ [(v : Int)])) h.opn hg ho hob
  have hb : upd f (3, 0) (some (rowI ov' (upI S.opn ++ [(v : Int)]))) (0, 0) = some ⟨97, 7, .slice (some ⟨d, 0, none⟩) 1 1, 1, [nv, lv, fv, ov, pv, cv, .int .i64 S.time]⟩ := by rw [upd_ne _ _ (by simp)]; exact h.box
  refine ⟨fun k hk => h1.cell hb (g := d) (cap := 1) rfl k (by simpa using hk), fun k => h1.frozen hb (g := d) (cap := 1) rfl k, ((Below.refl _ _).grown hg hBw (fun k hk => (hO.lt k hk).1)).setCell (h.base hr) _, _, h1.set hb (g := d) (cap := 1) rfl 3 ov', ⟨upd_same _ _ _, ?_, ?_, ?_, ?_, ?_⟩⟩
  · rw [upd_ne _ _ (by simp), upd_ne _ _ (by simp)]; exact h.low
  · rw [upd_ne _ _ (by simp), upd_ne _ _ (by simp)]; exact h.fnd
  · rw [upd_ne _ _ (by simp), upd_same, upI_cons]
  · rw [upd_ne _ _ (by simp), upd_ne _ _ (by simp)]; exact h.part
  · rw [upd_ne _ _ (by simp), upd_ne _ _ (by simp)]; exact h.calls
/-- s.calls = append(s.calls, frame{v, 0}). -/
theorem SN.pushCalls (h : SN f d nv lv fv pv ov cv n S) (hr : Rows B w f) (hBw : B ≤ w.heap.size) {w1 : World} {g c : Nat} (v : Nat) (hv : v ∉ S.calls)
    (ho : w1.ownsRow B 147 2 (.slice (some ⟨g, 0, none⟩) (S.calls.length + 1) c) (S.calls.length + 1) (flatF S.calls S.idx ++ [.int .i64 (v : Int), .int .i64 0]))
    (hal : (cv.ownBlock = some g ∧ w.grownBy w1 cv.ownBlock) ∨ (w.heap.size ≤ g ∧ w.grownBy w1 none)) :
    (∀ k, k < 7 → w1.cell? ⟨d, k, none⟩ = [nv, lv, fv, ov, pv, cv, .int .i64 S.time][k]?) ∧ (∀ k, w1.frozen? ⟨d, k, none⟩ = false) ∧ Below B w (w1.setCell ⟨d, 5, none⟩ (.slice (some ⟨g, 0, none⟩) (S.calls.length + 1) c)) ∧
      ∃ f', Rows B (w1.setCell ⟨d, 5, none⟩ (.slice (some ⟨g, 0, none⟩) (S.calls.length + 1) c)) f' ∧ SN f' d nv lv fv pv ov (.slice (some ⟨g, 0, none⟩) (S.calls.length + 1) c) n { S with calls := v :: S.calls, idx := updN S.idx v 0 } := by
  have hg : w.grownBy w1 cv.ownBlock := grown_via (hal.imp (·.2) (·.2))
  have hob : (Value.slice (some ⟨g, 0, none⟩) (S.calls.length + 1) c).ownBlock = cv.ownBlock ∨ ∃ k, (Value.slice (some ⟨g, 0, none⟩) (S.calls.length + 1) c).ownBlock = some k ∧ w.heap.size ≤ k := by
    rcases hal with ⟨q, _⟩ | ⟨q, _⟩
    · exact .inl q.symm
    · exact .inr ⟨g, rfl, q⟩
  have h1 := hr.grown (r' := ⟨147, 2, .slice (some ⟨g, 0, none⟩) (S.calls.length + 1) c, S.calls.length + 1, flatF S.calls S.idx ++ [Value.int .i64 (v : Int), Value.int .i64 0]⟩) h.calls hg (show Row.own B w1 ⟨_, _, _, _, _⟩ from ho) hob
  have hb : upd f (5, 0) (some ⟨147, 2, .slice (some ⟨g, 0, none⟩) (S.calls.length + 1) c, S.calls.length + 1, flatF S.calls S.idx ++ [Value.int .i64 (v : Int), Value.int .i64 0]⟩) (0, 0) = some ⟨97, 7, .slice (some ⟨d, 0, none⟩) 1 1, 1, [nv, lv, fv, ov, pv, cv, .int .i64 S.time]⟩ := by rw [upd_ne _ _ (by simp)]; exact h.box
  refine ⟨fun k hk => h1.cell hb (g := d) (cap := 1) rfl k (by simpa using hk), fun k => h1.frozen hb (g := d) (cap := 1) rfl k, ((Below.refl _ _).grown hg hBw (fun k hk => (hr.lt h.calls k hk).1)).setCell (h.base hr) _, _, h1.set hb (g := d) (cap := 1) rfl 5 (.slice (some ⟨g, 0, none⟩) (S.calls.length + 1) c), ⟨upd_same _ _ _, ?_, ?_, ?_, ?_, ?_⟩⟩
  · rw [upd_ne _ _ (by simp), upd_ne _ _ (by simp)]; exact h.low
  · rw [upd_ne _ _ (by simp), upd_ne _ _ (by simp)]; exact h.fnd
  · rw [upd_ne _ _ (by simp), upd_ne _ _ (by simp)]; exact h.opn
  · rw [upd_ne _ _ (by simp), upd_ne _ _ (by simp)]; exact h.part
  · rw [upd_ne _ _ (by simp), upd_same]
    simp only [flatF_cons, updN_same, List.length_cons]
    rw [flatF_congr (f := updN S.idx v 0) (g := S.idx) (fun x hx => updN_other _ _ _ (fun e => hv (by rw [← e]; exact hx)))]
    rfl
/-- s.open = s.open[:len(s.open)-1]. -/
theorem SN.popOpen {v : Nat} {r : List Nat} {g c : Nat} (h : SN f d nv lv fv pv (.slice (some ⟨g, 0, none⟩) (r.length + 1) c) cv n S) (he : S.opn = v :: r) (hr : Rows B w f) :
    ∃ f', Rows B (w.setCell ⟨d, 3, none⟩ (.slice (some ⟨g, 0, none⟩) r.length c)) f' ∧ SN f' d nv lv fv pv (.slice (some ⟨g, 0, none⟩) r.length c) cv n { S with opn := r } := by
  have ho := h.opn
  rw [he] at ho
  have ho' : f (3, 0) = some ⟨3, 1, .slice (some ⟨g, 0, none⟩) (r.length + 1) c, r.length + 1, (upI (v :: r)).map (Value.int .i64)⟩ := by
    rw [ho]; simp [rowI, upI_len]
  have h1 := hr.shrink ho'
  have hx : ((upI (v :: r)).map (Value.int .i64)).take (r.length * 1) = (upI r).map (Value.int .i64) := by
    rw [upI_cons, List.map_append, Nat.mul_one]; exact List.take_left' (by simp [upI_len])
  rw [hx] at h1
  refine ⟨_, h1.set (i := (0, 0)) (by rw [upd_ne _ _ (by simp)]; exact h.box) (g := d) (cap := 1) rfl 3 (.slice (some ⟨g, 0, none⟩) r.length c), ⟨upd_same _ _ _, ?_, ?_, ?_, ?_, ?_⟩⟩
  · rw [upd_ne _ _ (by simp), upd_ne _ _ (by simp)]; exact h.low
  · rw [upd_ne _ _ (by simp), upd_ne _ _ (by simp)]; exact h.fnd
  · rw [upd_ne _ _ (by simp), upd_same]; simp [upI_len]
  · rw [upd_ne _ _ (by simp), upd_ne _ _ (by simp)]; exact h.part
  · rw [upd_ne _ _ (by simp), upd_ne _ _ (by simp)]; exact h.calls
/-- s.calls = s.calls[:len(s.calls)-1]. -/
theorem SN.popCalls {v : Nat} {r : List Nat} {g c : Nat} (h : SN f d nv lv fv pv ov (.slice (some ⟨g, 0, none⟩) (r.length + 1) c) n S) (he : S.calls = v :: r) (hr : Rows B w f) :
    ∃ f', Rows B (w.setCell ⟨d, 5, none⟩ (.slice (some ⟨g, 0, none⟩) r.length c)) f' ∧ SN f' d nv lv fv pv ov (.slice (some ⟨g, 0, none⟩) r.length c) n { S with calls := r } := by
  have ho := h.calls
  rw [he] at ho
  have h1 := hr.shrink ho
  have hx : (flatF (v :: r) S.idx).take (r.length * 2) = flatF r S.idx := by
    rw [flatF_cons]; exact List.take_left' (flatF_len _ _)
  rw [hx] at h1
  refine ⟨_, h1.set (i := (0, 0)) (by rw [upd_ne _ _ (by simp)]; exact h.box) (g := d) (cap := 1) rfl 5 (.slice (some ⟨g, 0, none⟩) r.length c), ⟨upd_same _ _ _, ?_, ?_, ?_, ?_, ?_⟩⟩
  · rw [upd_ne _ _ (by simp), upd_ne _ _ (by simp)]; exact h.low
  · rw [upd_ne _ _ (by simp), upd_ne _ _ (by simp)]; exact h.fnd
  · rw [upd_ne _ _ (by simp), upd_ne _ _ (by simp)]; exact h.opn
  · rw [upd_ne _ _ (by simp), upd_ne _ _ (by simp)]; exact h.part
  · rw [upd_ne _ _ (by simp), upd_same]
/-- f.i = i at the topmost frame. -/
theorem SN.bump {v : Nat} {r : List Nat} {g c : Nat} (h : SN f d nv lv fv pv ov (.slice (some ⟨g, 0, none⟩) (r.length + 1) c) n S) (he : S.calls = v :: r) (hv : v ∉ r) (hr : Rows B w f) (i : Nat) :
    ∃ f', Rows B (w.setCell ⟨g, r.length * 2 + 1, none⟩ (.int .i64 (i : Int))) f' ∧ SN f' d nv lv fv pv ov (.slice (some ⟨g, 0, none⟩) (r.length + 1) c) n { S with idx := updN S.idx v i } := by
  have ho := h.calls
  rw [he] at ho
  have hs := hr.set ho (g := g) (cap := c) rfl (r.length * 2 + 1) (.int .i64 (i : Int))
  refine ⟨_, hs, ⟨?_, ?_, ?_, ?_, ?_, ?_⟩⟩
  · rw [upd_ne _ _ (by simp)]; exact h.box
  · rw [upd_ne _ _ (by simp)]; exact h.low
  · rw [upd_ne _ _ (by simp)]; exact h.fnd
  · rw [upd_ne _ _ (by simp)]; exact h.opn
  · rw [upd_ne _ _ (by simp)]; exact h.part
  · rw [upd_same, he]
    simp only [flatF_cons, updN_same, List.length_cons]
    rw [List.set_append_right _ _ (by rw [flatF_len]; omega), flatF_len, show r.length * 2 + 1 - r.length * 2 = 1 by omega,
      flatF_congr (f := updN S.idx v i) (g := S.idx) (fun x hx => updN_other _ _ _ (fun e => hv (by rw [← e]; exact hx)))]
    rfl
/-- The topmost frame, and the one below it. -/
theorem SN.callTop {v : Nat} {r : List Nat} {g c : Nat} (h : SN f d nv lv fv pv ov (.slice (some ⟨g, 0, none⟩) (r.length + 1) c) n S) (he : S.calls = v :: r) (hr : Rows B w f) :
    w.cell? ⟨g, r.length * 2, none⟩ = some (.int .i64 (v : Int)) ∧ w.cell? ⟨g, r.length * 2 + 1, none⟩ = some (.int .i64 (S.idx v : Int)) ∧ w.frozen? ⟨g, r.length * 2 + 1, none⟩ = false := by
  have ho := h.calls
  rw [he] at ho
  refine ⟨?_, ?_, hr.frozen ho (g := g) (cap := c) rfl _⟩
  · rw [hr.cell ho (g := g) (cap := c) rfl _ (by simp only [List.length_cons]; omega), flatF_cons, List.getElem?_append_right (by rw [flatF_len]; omega), flatF_len, Nat.sub_self]; rfl
  · rw [hr.cell ho (g := g) (cap := c) rfl _ (by simp; omega), flatF_cons, List.getElem?_append_right (by rw [flatF_len]; omega), flatF_len, show r.length * 2 + 1 - r.length * 2 = 1 by omega]; rfl
/-- The value that holds the stack of calls, the open stack. -/
theorem row_shape {E : TypeId} {size m : Nat} {v : Value} {xs : List Value} (h : w.ownsRow B E size v m xs) (hm : 0 < m) : ∃ g c, v = .slice (some ⟨g, 0, none⟩) m c ∧ m ≤ c := by
  rcases h.2 with ⟨_, e⟩ | ⟨g, cap, cur, e, _, _, hn, _⟩
  · omega
  · exact ⟨g, cap, e, hn⟩
theorem SN.callsShape (h : SN f d nv lv fv pv ov cv n S) (hr : Rows B w f) (hc : S.calls ≠ []) : ∃ g c, cv = .slice (some ⟨g, 0, none⟩) S.calls.length c ∧ S.calls.length ≤ c :=
  row_shape (hr.1 _ _ h.calls) (List.length_pos_iff.2 hc)
theorem SN.opnShape (h : SN f d nv lv fv pv ov cv n S) (hr : Rows B w f) (hc : S.opn ≠ []) : ∃ g c, ov = .slice (some ⟨g, 0, none⟩) S.opn.length c ∧ S.opn.length ≤ c := by
  have := row_shape (hr.1 _ _ h.opn) (by show 0 < (upI S.opn).length; rw [upI_len]; exact List.length_pos_iff.2 hc)
  obtain ⟨g, c, e, e2⟩ := this
  have e : ov = .slice (some ⟨g, 0, none⟩) (upI S.opn).length c := e
  have e2 : (upI S.opn).length ≤ c := e2
  rw [upI_len] at e e2
  exact ⟨g, c, e, e2⟩
theorem SN.opnNil {adj : Nat → List Nat} (_h : SN f d nv lv fv pv ov cv n S) (hI : TInv n adj S) (hc : S.calls = []) : S.opn = [] := hI.opn_nil hc
/-- The length of the stack of calls. -/
theorem SN.callsLen (h : SN f d nv lv fv pv ov cv n S) (hr : Rows B w f) : ∃ a c, cv = .slice a S.calls.length c := by
  rcases (hr.1 _ _ h.calls).2 with ⟨e, e2⟩ | ⟨g, cap, cur, e, _⟩
  · have e2 : S.calls.length = 0 := e2
    have e : cv = .slice none 0 0 := e
    exact ⟨none, 0, by rw [e, e2]⟩
  · exact ⟨_, _, e⟩
end
end Go.Proofs.YtdldadgnggaopaaDoor

namespace Go.Proofs.YtdldadgnggaopaaDoor
open Go.RowKit
set_option maxRecDepth 100000

/-- The lists of a function. -/
def rowsOf (n : Nat) (F : Nat → List Int) : List (List Int) := (List.range n).map F
theorem rowsOf_len (n : Nat) (F : Nat → List Int) : (rowsOf n F).length = n := by simp [rowsOf]
theorem rowsOf_get (n : Nat) (F : Nat → List Int) (u : Nat) (hu : u < n) : (rowsOf n F).getD u [] = F u := by simp [rowsOf, List.getD, hu]
theorem vAt_set_same {l : List Value} {k : Nat} {g : Value} (h : k < l.length) : vAt (l.set k g) k = g := by simp [vAt, List.getD, h]
theorem vAt_set_ne {l : List Value} {k t : Nat} {g : Value} (h : t ≠ k) : vAt (l.set k g) t = vAt l t := by
  simp [vAt, List.getD, Ne.symm h]
/-- What the names name: the outer row, the lists. -/
structure WN (f : Names) (ov : Value) (vals : List Value) (n : Nat) (F : Nat → List Int) : Prop where
  outer : f (1, 0) = some (rowV 22 ov vals)
  len : vals.length = n
  rows : ∀ u, u < n → f (2, u) = some (rowI (vAt vals u) (F u))
section
variable {B : Nat} {w : World} {f : Names} {ov : Value} {vals : List Value} {n : Nat} {F : Nat → List Int}
theorem WN.lists (h : WN f ov vals n F) (hr : Rows B w f) : ListsAt w ov (rowsOf n F) :=
  ⟨vals, (hr.ownV h.outer).at, by rw [h.len, rowsOf_len], fun i hi => by
    rw [rowsOf_len] at hi
    rw [rowsOf_get n F i hi]
    exact (hr.ownI (h.rows i hi)).at⟩
/-- out[u] = a list: the list's row is there; now the outer row's cell. -/
theorem WN.put (h : WN f ov vals n F) {w1 : World} {u : Nat} (hu : u < n) {v' : Value} {xs : List Int} (hr1 : Rows B w1 (upd f (2, u) (some (rowI v' xs)))) :
    w1.cell? (valAt ov u) = some (vAt vals u) ∧ w1.frozen? (valAt ov u) = false ∧ B ≤ (valAt ov u).block ∧
    ∃ f', Rows B (w1.setCell (valAt ov u) v') f' ∧ WN f' ov (vals.set u v') n (updN F u xs) ∧ ∀ i, i ≠ (1, 0) → i ≠ (2, u) → f' i = f i := by
  have ho : upd f (2, u) (some (rowI v' xs)) (1, 0) = some (rowV 22 ov vals) := by rw [upd_ne _ _ (by simp)]; exact h.outer
  have hl : u < vals.length := by rw [h.len]; exact hu
  have hO := hr1.ownV ho
  refine ⟨hO.at.cellV u hl, hO.frz u hl, (hO.blkB u hl).2, _, hr1.setV ho u hl v', ⟨upd_same _ _ _, by simpa using h.len, fun t ht => ?_⟩, fun i h1 h2 => by rw [upd_ne _ _ h1, upd_ne _ _ h2]⟩
  rw [upd_ne _ _ (by simp)]
  by_cases e : t = u
  · subst e
    rw [upd_same, vAt_set_same hl, updN_same]
  · rw [upd_ne _ _ (by simpa using e), vAt_set_ne e, updN_other _ _ _ e]
    exact h.rows t ht
/-- A list that a call has made. -/
theorem WN.new (_h : WN f ov vals n F) (hr : Rows B w f) {w1 : World} (u : Nat) {v' : Value} {xs : List Int} (hb : Below w.heap.size w w1) (hB : B ≤ w.heap.size) (ho : OwnI w.heap.size w1 v' xs) : Rows B w1 (upd f (2, u) (some (rowI v' xs))) :=
  hr.add hb (ho.mono hB) (fun k hk => (ho.lt k hk).1)
/-- append(out[u], x). -/
theorem WN.app (h : WN f ov vals n F) (hr : Rows B w f) {w1 : World} {u : Nat} (hu : u < n) {v' : Value} (x : Int) (ho : OwnI B w1 v' (F u ++ [x]))
    (hal : (roomOf v' = roomOf (vAt vals u) ∧ w.grownBy w1 (vAt vals u).ownBlock) ∨ (∃ k, v'.ownBlock = some k ∧ w.heap.size ≤ k ∧ w.grownBy w1 none)) : Rows B w1 (upd f (2, u) (some (rowI v' (F u ++ [x])))) := by
  have hO := hr.ownI (h.rows u hu)
  refine hr.grown (r' := rowI v' (F u ++ [x])) (h.rows u hu) (grown_via (hal.imp (·.2) (fun ⟨_, _, _, q⟩ => q))) ho ?_
  rcases hal with ⟨q, _⟩ | ⟨k, h1, h2, _⟩
  · obtain ⟨a1, n1, c1, e1⟩ := hO.at.shape
    obtain ⟨a2, n2, c2, e2⟩ := ho.at.shape
    exact .inl (ownBlock_of_room e1 e2 q)
  · exact .inr ⟨k, h1, h2⟩
/-- out[u][i] = x. -/
theorem WN.elem (h : WN f ov vals n F) (hr : Rows B w f) (u : Nat) (hu : u < n) (i : Nat) (hi : i < (F u).length) (x : Int) :
    ∃ f', Rows B (w.setCell (valAt (vAt vals u) i) (.int .i64 x)) f' ∧ WN f' ov vals n (updN F u ((F u).set i x)) := by
  refine ⟨_, hr.setI (h.rows u hu) i hi x, ⟨by rw [upd_ne _ _ (by simp)]; exact h.outer, h.len, fun t ht => ?_⟩⟩
  by_cases e : t = u
  · subst e; rw [upd_same, updN_same]
  · rw [upd_ne _ _ (by simpa using e), updN_other _ _ _ e]; exact h.rows t ht
end
/-- make([]T, n) as an equation. -/
theorem run_makeW {T E : TypeId} {z : Value} {b : Nat} (oc : OneCell T E z b) (C : Int) (n : Nat) (w : World) (hC : C = n) (hn : n ≤ 4398046511104) :
    ∃ v w', (Instr.makeSlice T (.int .i64 C) (.int .i64 C)).run Tryd.prog w = .ok v w' ∧ OwnV E w.heap.size w' v (List.replicate n z) ∧ Below w.heap.size w w' := by
  subst hC
  obtain ⟨i, hi, hz0, hz1, hz2⟩ := info_parts oc.hi
  have hb := oc.hb
  obtain ⟨w', hrun, r1, r2⟩ := run_make_full (P := Tryd.prog) w w.heap.size T E i z 1 oc.ht hi hz0 hz1 .i64 .i64 n (by
    rw [hz2]
    calc b * n ≤ 32 * 4398046511104 := Nat.mul_le_mul hb (by omega)
      _ ≤ _ := by decide) (by unfold maxLen; omega) (Nat.le_refl _)
  refine ⟨_, w', hrun, ?_, (Below.refl _ _).grown r2 (Nat.le_refl _) (by intro k hk; cases hk)⟩
  rw [oc.hz, toList_madeCells_one] at r1
  simpa [OwnV] using r1
/-- Lists none of which is made yet. -/
def nils (n : Nat) : Names := fun i => if i.1 = 2 ∧ i.2 < n then some (rowI (.slice none 0 0) []) else none
theorem rows_nils (B : Nat) (w : World) (n : Nat) : Rows B w (nils n) := by
  refine ⟨fun i r hi => ?_, fun i j r s hi _ _ => ?_⟩
  · unfold nils at hi
    split at hi
    · injection hi with hi; subst hi; exact OwnI.nil B w
    · cases hi
  · left
    unfold nils at hi
    split at hi
    · injection hi with hi; subst hi; rfl
    · cases hi
/-- make([][]int, n). -/
theorem WN.made {B : Nat} {w w1 : World} {ov : Value} (n : Nat) (hb : Below w.heap.size w w1) (hB : B ≤ w.heap.size) (ho : OwnV 22 w.heap.size w1 ov (List.replicate n (.slice none 0 0))) :
    ∃ f, Rows B w1 f ∧ WN f ov (List.replicate n (.slice none 0 0)) n (fun _ => []) := by
  refine ⟨_, (rows_nils B w n).add (i := (1, 0)) (r' := rowV 22 ov (List.replicate n (.slice none 0 0))) hb (ho.mono hB) (fun k hk => (ho.lt k hk).1), ⟨upd_same _ _ _, by simp, fun u hu => ?_⟩⟩
  rw [upd_ne _ _ (by simp)]
  show nils n (2, u) = _
  unfold nils
  rw [if_pos ⟨rfl, hu⟩]
  simp [vAt, List.getD, hu]
end Go.Proofs.YtdldadgnggaopaaDoor

namespace Go.Proofs.YtdldadgnggaopaaDoor
open Go.RowKit
set_option maxRecDepth 100000

/-- What is told so far: the first k lists, and j of the next. -/
def BackTo (G : List (List Int)) (k j : Nat) (F : Nat → List Int) : Prop :=
  ∀ t, t < G.length → ((F t).length ≤ arrowsTo G k + j ∧ ∀ y : Int, y ∈ F t ↔ ∃ v : Nat, y = v ∧ (v < k ∧ (t : Int) ∈ G.getD v [] ∨ v = k ∧ (t : Int) ∈ (G.getD k []).take j))
theorem BackTo.zero (G : List (List Int)) : BackTo G 0 0 (fun _ => []) := by
  intro t _
  refine ⟨Nat.zero_le _, fun y => ⟨fun h => (by cases h), fun ⟨v, _, h⟩ => ?_⟩⟩
  rcases h with ⟨h, _⟩ | ⟨_, h⟩
  · omega
  · simp at h
theorem BackTo.next {G : List (List Int)} {k : Nat} {F : Nat → List Int} (h : BackTo G k (G.getD k []).length F) : BackTo G (k + 1) 0 F := by
  intro t ht
  obtain ⟨h1, h2⟩ := h t ht
  refine ⟨by simpa [arrowsTo] using h1, fun y => ?_⟩
  rw [h2 y]
  constructor
  · rintro ⟨v, hv, h⟩
    refine ⟨v, hv, .inl ?_⟩
    rcases h with ⟨a, b⟩ | ⟨rfl, b⟩
    · exact ⟨by omega, b⟩
    · rw [List.take_length] at b; exact ⟨by omega, b⟩
  · rintro ⟨v, hv, h⟩
    rcases h with ⟨a, b⟩ | ⟨_, b⟩
    · refine ⟨v, hv, ?_⟩
      by_cases e : v = k
      · subst e; exact .inr ⟨rfl, by rw [List.take_length]; exact b⟩
      · exact .inl ⟨by omega, b⟩
    · simp at b
theorem BackTo.add {G : List (List Int)} {k j u : Nat} {F : Nat → List Int} (h : BackTo G k j F) (hj : (G.getD k [])[j]? = some (u : Int)) : BackTo G k (j + 1) (updN F u (F u ++ [(k : Int)])) := by
  have hjl : j < (G.getD k []).length := by
    by_cases q : j < (G.getD k []).length
    · exact q
    · rw [List.getElem?_eq_none (by omega)] at hj; cases hj
  have htk : (G.getD k []).take (j + 1) = (G.getD k []).take j ++ [(u : Int)] := by
    rw [List.take_add_one, hj]; rfl
  intro t ht
  obtain ⟨h1, h2⟩ := h t ht
  by_cases e : t = u
  · subst e
    rw [updN_same]
    refine ⟨by rw [List.length_append]; simp only [List.length_cons, List.length_nil]; omega, fun y => ?_⟩
    rw [List.mem_append, h2 y, htk]
    simp only [List.mem_singleton, List.mem_append]
    constructor
    · rintro (⟨v, hv, h⟩ | rfl)
      · refine ⟨v, hv, ?_⟩
        rcases h with h | ⟨a, b⟩
        · exact .inl h
        · exact .inr ⟨a, .inl b⟩
      · exact ⟨k, rfl, .inr ⟨rfl, .inr (by simp)⟩⟩
    · rintro ⟨v, hv, h⟩
      rcases h with h | ⟨a, b | b⟩
      · exact .inl ⟨v, hv, .inl h⟩
      · exact .inl ⟨v, hv, .inr ⟨a, b⟩⟩
      · right; rw [hv, a]
  · rw [updN_other _ _ _ e]
    refine ⟨by omega, fun y => ?_⟩
    rw [h2 y, htk]
    simp only [List.mem_append, List.mem_singleton]
    constructor
    · rintro ⟨v, hv, h⟩
      refine ⟨v, hv, ?_⟩
      rcases h with h | ⟨a, b⟩
      · exact .inl h
      · exact .inr ⟨a, .inl b⟩
    · rintro ⟨v, hv, h⟩
      refine ⟨v, hv, ?_⟩
      rcases h with h | ⟨a, b | b⟩
      · exact .inl h
      · exact .inr ⟨a, b⟩
      · exact absurd (by omega) e
/-- The graph turned: arrows the other way. -/
def TurnedOf (G H : List (List Int)) : Prop := H.length = G.length ∧ (∀ t, t < G.length → (H.getD t []).length ≤ arrowsTo G G.length) ∧ ∀ t, t < G.length → ∀ y : Int, y ∈ H.getD t [] ↔ ∃ v : Nat, y = v ∧ v < G.length ∧ (t : Int) ∈ G.getD v []
theorem BackTo.turned {G : List (List Int)} {F : Nat → List Int} (h : BackTo G G.length 0 F) : TurnedOf G (rowsOf G.length F) := by
  refine ⟨rowsOf_len _ _, fun t ht => ?_, fun t ht y => ?_⟩
  · rw [rowsOf_get _ _ _ ht]; simpa using (h t ht).1
  · rw [rowsOf_get _ _ _ ht, (h t ht).2 y]
    constructor
    · rintro ⟨v, hv, h⟩
      rcases h with h | ⟨_, h⟩
      · exact ⟨v, hv, h.1, h.2⟩
      · simp at h
    · rintro ⟨v, hv, h⟩
      exact ⟨v, hv, .inl h⟩

set_option maxHeartbeats 4000000 in
theorem graph_back (na : Option Addr) (nc : Nat) (G : List (List Int)) (w : World) (h : ListsAt w (.slice na G.length nc) G) (hok : GraphOk G) (hn : G.length ≤ 8200) (harr : arrowsTo G G.length ≤ 262144) :
    Calls Tryd.prog 56 #[.slice na G.length nc] w (Ret1 (fun x w' => ∃ H, TurnedOf G H ∧ ListsAt w' x H) w) := by
  obtain ⟨ov, w1, mk, ho, hb1⟩ := run_makeW oneLists (G.length : Int) G.length w rfl (by omega)
  obtain ⟨f1, hr1, h1⟩ := WN.made G.length hb1 (Nat.le_refl _) ho
  obtain ⟨oa, on, oc, rfl⟩ := ho.shape
  have hlen : ∀ k, k < G.length → (G.getD k []).length ≤ 262144 := fun k hk => by
    have := arrowsTo_mono G (show k + 1 ≤ G.length by omega)
    simp only [arrowsTo] at this; omega
  replace h := Lib.hid h
  replace hok := Lib.hid hok
  replace hr1 := Lib.hid hr1
  replace ho := Lib.hid ho
  replace hlen := Lib.hid hlen
  go_enter Tryd.func56, Tryd.ntmps56
  go_wp2_with fail
  clear mk
  go_loopw [13] (fun kv wr => ∃ (k : Nat) (F : Nat → List Int) (f : Names) (vals : List Value), k ≤ G.length ∧ kv = .int .i64 k ∧ Rows w.heap.size wr f ∧ Below w.heap.size w wr ∧ WN f (.slice oa on oc) vals G.length F ∧ BackTo G k 0 F) (fun kv _ => G.length - (intOf kv).toNat)
  case atStart => exact ⟨0, _, f1, _, by omega, rfl, hr1.out, hb1, h1, BackTo.zero G⟩
  case round =>
    clear h1 ho hr1
    obtain ⟨k, F, f2, vals, hk, rfl, hr2, b2, h2, hB⟩ := hrel
    obtain ⟨wo, rfl⟩ : ∃ wo : World, wo = wr := ⟨_, rfl⟩
    by_cases hlt : k < G.length
    · obtain ⟨mv, iR, cR0, hM0⟩ := h.out.row k hlt
      have cR := (b2.cell (World.block_lt_of_cell? _ _ cR0)).trans cR0
      clear cR0
      have hM := hM0.below b2
      have hgl := hlen.out k hlt
      have hgp := hok.out k hlt
      have hBadd := fun (j u : Nat) (F : Nat → List Int) (h : BackTo G k j F) => h.add (u := u)
      have hBnext := fun (F : Nat → List Int) (h : BackTo G k (G.getD k []).length F) => h.next
      have hBlen := fun (j t : Nat) (F : Nat → List Int) (h : BackTo G k j F) (ht : t < G.length) => (h t ht).1
      have harrk := arrowsTo_mono G hk
      generalize G.getD k [] = gk at *
      have lM := hM.len
      generalize valAt (.slice na G.length nc) k = ra at *
      replace hB := Lib.hid hB
      replace hBadd := Lib.hid hBadd
      replace hBnext := Lib.hid hBnext
      replace hBlen := Lib.hid hBlen
      replace hgp := Lib.hid hgp
      replace hr2 := Lib.hid hr2
      replace hM := Lib.hid hM
      replace hM0 := Lib.hid hM0
      go_wp2_with fail
      clear iR cR lM
      go_loopw [20] (fun jv wr => ∃ (j : Nat) (F : Nat → List Int) (f : Names) (vals : List Value), j ≤ gk.length ∧ jv = .int .i64 j ∧ Rows w.heap.size wr f ∧ Below w.heap.size w wr ∧ WN f (.slice oa on oc) vals G.length F ∧ BackTo G k j F) (fun jv _ => gk.length - (intOf jv).toNat)
      case atStart => exact ⟨0, F, f2, vals, by omega, rfl, hr2.out, b2, h2, hB.out⟩
      case round =>
        clear hB hr2 h2 b2 hM
        obtain ⟨j, F, f3, vals, hj, rfl, hr3, b3, h3, hB⟩ := hrel
        obtain ⟨wo, rfl⟩ : ∃ wo : World, wo = wr := ⟨_, rfl⟩
        by_cases hjl : j < gk.length
        · have hMj := hM0.out.below b3
          have hgj := hgp.out gk[j] (List.getElem_mem hjl)
          obtain ⟨u, hu⟩ : ∃ u : Nat, gk[j] = u := Int.eq_ofNat_of_zero_le hgj.1
          have hun : u < G.length := by rw [hu] at hgj; omega
          have hgu : gk[j]? = some (u : Int) := by rw [List.getElem?_eq_getElem hjl, hu]
          have hgd : gk.getD j 0 = (u : Int) := by rw [List.getD_eq_getElem?_getD, hgu]; rfl
          have iJ := fun w' => hMj.idx j hjl w'
          have cJ := hMj.cellD j hjl
          rw [hgd] at cJ
          have hadd := hBadd.out j u F hB hgu
          have hfl := hBlen.out j u F hB hun
          have hOV := (hr3.ownV h3.outer).at
          have iO := fun w' => hOV.idx oneLists u (by rw [h3.len]; exact hun) w'
          have cO := hOV.cellV u (by rw [h3.len]; exact hun)
          have hT := hr3.ownI (h3.rows u hun)
          have happ := fun (w1 : World) (v' : Value) => h3.app hr3 hun (w1 := w1) (v' := v') (k : Int)
          have hput := fun (w1 : World) (v' : Value) (xs : List Int) => h3.put (B := w.heap.size) (w1 := w1) hun (v' := v') (xs := xs)
          have hB3 : w.heap.size ≤ wo.heap.size := b3.size
          generalize valAt mv j = ja at *
          generalize vAt vals u = tv at *
          generalize valAt (.slice oa on oc) u = ua at *
          replace hadd := Lib.hid hadd
          replace happ := Lib.hid happ
          replace hput := Lib.hid hput
          replace hB := Lib.hid hB
          replace hr3 := Lib.hid hr3
          replace hOV := Lib.hid hOV
          replace hgu := Lib.hid hgu
          replace hgd := Lib.hid hgd
          replace hu := Lib.hid hu
          replace hgj := Lib.hid hgj
          go_wp2_with (at_builtin; refine wpl_app1 rfl _ _ rfl w.heap.size tv (F u) k hT rfl rfl (by omega) hB3 ?_)
          intro v' w7 ho7 b7 hal7
          have hR7 := happ.out w7 v' ho7 hal7
          obtain ⟨y1, y2, y3, f8, hr8, h8, _⟩ := hput.out w7 v' _ hR7
          obtain ⟨va, vn, vc, rfl⟩ := ho7.at.shape
          replace hr8 := Lib.hid hr8
          replace ho7 := Lib.hid ho7
          replace hR7 := Lib.hid hR7
          clear hal7 hT iJ cJ cO
          go_wp2
          go_roundw
          case measure => simp [intOf]; omega
          case rel => exact ⟨j + 1, _, f8, _, by omega, by go_num, hr8.out, (b3.trans b7).setCell y3 _, h8, hadd.out⟩
        · obtain rfl : j = gk.length := by omega
          have hnext := hBnext.out F hB
          replace hnext := Lib.hid hnext
          replace hB := Lib.hid hB
          replace hr3 := Lib.hid hr3
          go_wp2
          go_roundw
          case measure => simp [intOf]; omega
          case rel => exact ⟨k + 1, F, f3, vals, by omega, by go_num, hr3.out, b3, h3, hnext.out⟩
    · obtain rfl : k = G.length := by omega
      have hT := hB.turned
      have hL := h2.lists hr2
      replace hB := Lib.hid hB
      replace hT := Lib.hid hT
      replace hL := Lib.hid hL
      replace hr2 := Lib.hid hr2
      go_wp2
      go_ret
      exact ⟨_, rfl, b2, _, hT.out, hL.out⟩
end Go.Proofs.YtdldadgnggaopaaDoor
