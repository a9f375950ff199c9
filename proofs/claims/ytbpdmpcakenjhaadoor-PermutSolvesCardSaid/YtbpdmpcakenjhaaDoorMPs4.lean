/-
  Walk: (*overlap.dead).on inside the word.
  (*overlap.dead).on at every place.
  Walk: overlap.Before.
  Walk: rule.Step at a rule and a word of its symbols.
  Walk: rule.Step at all operands.
  Plain mathematics: the word that Right tells has the image asked for; Left's too; Right of a word's own image and beginning is the word.
  Walks: edenlaw19.awake.
  Lists of their own in any order: what Apart asks, also behind an append to the list that holds them.
  Walks: slices.Reverse (its contract off the shelf), word.Back.
  Walk: edenlaw19.PermutKeeps returns true.
  Pieces of a slice of ints: s[k:], s[k:l].
-/
import Derived.Test.YtbpdmpcakenjhaaDoorMPs3
import Derived.Ground.NamesProg
import Derived.Shelf.Slices.Cells
namespace Go.Proofs.YtbpdmpcakenjhaaDoor
open Go.RowKit
set_option maxRecDepth 100000

theorem oneBools : OneCell 45 4 (.bool false) 1 := ⟨by kernel_rfl, by kernel_rfl, rfl, by decide, fun _ => by kernel_rfl⟩
theorem oneBoolss : OneCell 68 45 (.slice none 0 0) 24 := ⟨by kernel_rfl, by kernel_rfl, rfl, by decide, fun _ => by kernel_rfl⟩

/-- append(x, s) of one int in a region that draws. -/
theorem step_app1I {ops : Array Oper} {o : Oper} {a : Act} {w : World} {K : Act → World → Prop} {Q : Exit → Act → World → Prop} {Ep : Prop} (hw : Region.wanted o (yielded ops a.tmps) = true) (s x : Operand)
    (ho : o.op = .call { callee := .builtin .append, args := #[s, x], argTypes := #[22, 22] })
    (B : Nat) (v : Value) (vs : List Int) (y : Int) (b : Nat) (hs : a.eval s = v) (hx : a.eval x = .slice (some ⟨b, 0, none⟩) 1 1) (hb : b = w.heap.size) (hown : OwnI B w v vs)
    (hlen : vs.length < 4398046511104) (hB : B ≤ w.heap.size)
    (h : ∀ v' w', OwnI B w' v' (vs ++ [y]) → ((roomOf v' = roomOf v ∧ w.grownBy w' v.ownBlock) ∨ (∃ k, v'.ownBlock = some k ∧ w.heap.size ≤ k ∧ w.grownBy w' none)) → K (a.put o.dst v') w') :
    if Region.wanted o (yielded ops a.tmps) = true then Oper.wp Tryd.prog o a (w.alloc (.cells #[.int .i64 y] 3)) K Q else Ep := by
  rw [if_pos hw]
  subst hb
  obtain ⟨v', w', hr, h2, h3⟩ := run_app oneInts (w.alloc (.cells #[.int .i64 y] 3)) B o.type v _ (hown.alloc _).toV ⟨w.heap.size, 0, none⟩ 1 [.int .i64 y] (by simp) (cell_one_new _ _ _) (by simp [Value.oneCell']) (by simp; omega) (by simp; omega)
  rw [show ([.int .i64 y] : List Value).length = 1 from rfl] at hr
  have hal : ∀ row, w.grownBy (w.alloc (.cells #[.int .i64 y] 3)) row := fun row => World.grownBy_alloc w _ row
  have hK : K (a.put o.dst v') w' := by
    refine h v' w' (OwnV.toI (by simpa using h2)) ?_
    rcases h3 with ⟨hroom, hg⟩ | ⟨hk, hg⟩
    · exact .inl ⟨hroom, (hal v.ownBlock).trans hg⟩
    · exact .inr ⟨_, hk, by simp, (hal none).trans hg⟩
  unfold Oper.wp
  simp [execOp, ho, resolve, invoke, builtin, hs, hx, hr, Result.andThen]
  exact hK

/-- Behind append(x, s): the names; and how they were, once the call is back. -/
theorem x_rows {B : Nat} {w w' : World} {f : Names} {i : Nat} {xv xv' : Value} {xs : List Int} {s : Int} (hr : Rows B w f) (hx : f (4, i) = some (rowI xv xs)) (hB : B ≤ w.heap.size) (hx' : OwnI B w' xv' (xs ++ [s]))
    (hal : (roomOf xv' = roomOf xv ∧ w.grownBy w' xv.ownBlock) ∨ (∃ k, xv'.ownBlock = some k ∧ w.heap.size ≤ k ∧ w.grownBy w' none)) :
    ∃ f1, Rows B w' f1 ∧ f1 (4, i + 1) = some (rowI xv' (xs ++ [s])) ∧ (∀ j, j.1 ≠ 4 → f1 j = f j) ∧ (∀ k, k < i → f1 (4, k) = f (4, k)) ∧ Below B w w' ∧
      ∀ w2 f2, Rows B w2 f2 → (∀ k, k ≤ i + 1 → f2 (4, k) = f1 (4, k)) → ∃ f3, Rows B w2 f3 ∧ (∀ k, k ≤ i → f3 (4, k) = f (4, k)) ∧ ∀ j, j.1 ≠ 4 → f3 j = f2 j := by
  have hx0 := hr.ownI hx
  rcases hal with ⟨hroom, hg⟩ | ⟨k, hk, hk2, hg⟩
  · obtain ⟨a1, n1, c1, e1⟩ := hx0.at.shape
    obtain ⟨a2, n2, c2, e2⟩ := hx'.at.shape
    have hob := ownBlock_of_room e1 e2 hroom
    have h1 := hr.grown (r' := rowI xv' (xs ++ [s])) hx hg hx' (.inl hob)
    have h2 := h1.move (i := (4, i)) (j := (4, i + 1)) (r := rowI xv' (xs ++ [s])) (r' := rowI xv' (xs ++ [s])) (upd_same _ _ _) hx' rfl
    refine ⟨_, h2, upd_same _ _ _, fun j hj => ?_, fun k hk => ?_, (Below.refl _ _).grown hg hB (fun k hk => (hx0.lt k hk).1), fun w2 f2 hr2 hf2 => ?_⟩
    · rw [upd_ne _ _ (fun e => hj (by rw [e])), upd_ne _ _ (fun e => hj (by rw [e])), upd_ne _ _ (fun e => hj (by rw [e]))]
    · rw [upd_ne _ _ (by simp; omega), upd_ne _ _ (by simp; omega), upd_ne _ _ (by simp; omega)]
    · have e4 : f2 (4, i + 1) = some (rowI xv' (xs ++ [s])) := by rw [hf2 _ (Nat.le_refl _), upd_same]
      have hxb := hx0.front (hr2.ownI e4) hroom
      have h3 := hr2.move (i := (4, i + 1)) (j := (4, i)) (r := rowI xv' (xs ++ [s])) (r' := rowI xv xs) e4 hxb hob.symm
      refine ⟨_, h3, fun k hk => ?_, fun j hj => ?_⟩
      · by_cases e : k = i
        · subst e; rw [upd_same, hx]
        · rw [upd_ne _ _ (by simpa using e), upd_ne _ _ (by simp; omega), hf2 k (by omega), upd_ne _ _ (by simp; omega), upd_ne _ _ (by simp; omega), upd_ne _ _ (by simp; omega)]
      · rw [upd_ne _ _ (fun e => hj (by rw [e])), upd_ne _ _ (fun e => hj (by rw [e]))]
  · have h1 := hr.fresh (i := (4, i + 1)) (r' := rowI xv' (xs ++ [s])) hg hx' (fun m hm => by
      have e : xv'.ownBlock = some m := hm
      rw [hk] at e; injection e with e; omega)
    refine ⟨_, h1, upd_same _ _ _, fun j hj => ?_, fun k hk => ?_, (Below.refl _ _).grown hg hB (by intro k hk; cases hk), fun w2 f2 hr2 hf2 => ⟨f2, hr2, fun k hk => ?_, fun _ _ => rfl⟩⟩
    · rw [upd_ne _ _ (fun e => hj (by rw [e]))]
    · rw [upd_ne _ _ (by simp; omega)]
    · rw [hf2 k (by omega), upd_ne _ _ (by simp; omega)]

theorem complU_mono (K N : Nat) (T : List Int) (node : Nat) (y : Int) (ws : List Int) (s t : Nat) (h : s ≤ t) : (complU K N T node y ws s).length ≤ (complU K N T node y ws t).length := by
  induction t with
  | zero => obtain rfl : s = 0 := by omega
            exact Nat.le_refl _
  | succ t ih =>
    by_cases e : s = t + 1
    · subst e; exact Nat.le_refl _
    · have := ih (by omega)
      rw [complU_succ, List.length_append]; omega
theorem keep6 {w w' : World} {a0 a1 a2 a3 a4 a5 : Addr} {u0 u1 u2 u3 u4 u5 : Value} (h : w.cell? a0 = some u0 ∧ w.cell? a1 = some u1 ∧ w.cell? a2 = some u2 ∧ w.cell? a3 = some u3 ∧ w.cell? a4 = some u4 ∧ w.cell? a5 = some u5) (hb : Below w.heap.size w w') :
    w'.cell? a0 = some u0 ∧ w'.cell? a1 = some u1 ∧ w'.cell? a2 = some u2 ∧ w'.cell? a3 = some u3 ∧ w'.cell? a4 = some u4 ∧ w'.cell? a5 = some u5 := by
  obtain ⟨h0, h1, h2, h3, h4, h5⟩ := h
  have k : ∀ {a : Addr} {u : Value}, w.cell? a = some u → w'.cell? a = some u := fun {a u} h => (hb.cell (World.block_lt_of_cell? _ _ h)).trans h
  exact ⟨k h0, k h1, k h2, k h3, k h4, k h5⟩

/-- The loop's relation. -/
def OnInv (B K N : Nat) (T ws : List Int) (d : Nat) (hd : List Value) (A : Value) (az : List Value) (most : Nat) (f : Names) (LS C Ct : List (List Int)) (i : Nat) (w : World) (any : Value) (wr : World) : Prop :=
  ∃ f' M' lv' ls' LS' more', Rows B wr f' ∧ Below B w wr ∧ DN f' d hd A az ws.length N most M' lv' ls' LS' more' ∧ Sound K N T ws M' ∧ (∀ k, k ≤ i → f' (4, k) = f (4, k)) ∧
    ((LS.length + C.length ≤ most ∧ LS' = LS ++ C ∧ more' = false ∧ any = .bool (decide (C ≠ []))) ∨ (most < LS.length + Ct.length ∧ more' = true ∧ any = .bool true))

set_option maxHeartbeats 4000000 in
theorem on_step (w0 : World) (K N R : Nat) (T ws : List Int) (d : Nat) (va : Option Addr) (vn vc : Nat) (ua : Option Addr) (un uc : Nat) (A : Value) (az : List Value) (most i : Nat) (hi : i < ws.length)
    (hok : RuleOk K R T) (hN : T.length / K = N) (hT256 : T.length ≤ 256) (hwl : ws.length ≤ 256) (hT0 : IntsAt w0 (.slice va vn vc) T) (hW0 : IntsAt w0 (.slice ua un uc) ws)
    (IH : ∀ (f : Names) (M : Nat → List Bool) (lv : Value) (ls : List Value) (LS : List (List Int)) (xv : Value) (xs : List Int) (node : Nat) (w : World), Rows w0.heap.size w f → Below w0.heap.size w0 w →
      DN f d [.int .i64 K, .int .i64 R, .slice va vn vc, .slice ua un uc, A, .int .i64 most] A az ws.length N most M lv ls LS false → Sound K N T ws M → f (4, i + 1) = some (rowI xv xs) → xs.length ≤ 8 + (i + 1) → node < N →
      Calls Tryd.prog 46 #[.pointer (some ⟨d, 0, none⟩), xv, .int .i64 node, .int .i64 ((i + 1 : Nat) : Int)] w (OnPost w0.heap.size K N T ws d [.int .i64 K, .int .i64 R, .slice va vn vc, .slice ua un uc, A, .int .i64 most] A az most f LS ((compl K N T node (ws.drop (i + 1))).map (xs ++ ·)) (i + 1) w))
    (f : Names) (M : Nat → List Bool) (lv : Value) (ls : List Value) (LS : List (List Int)) (xv : Value) (xs : List Int) (node : Nat) (w : World) (hr : Rows w0.heap.size w f) (hB0w : Below w0.heap.size w0 w)
    (D : DN f d [.int .i64 K, .int .i64 R, .slice va vn vc, .slice ua un uc, A, .int .i64 most] A az ws.length N most M lv ls LS false) (hso : Sound K N T ws M) (hx : f (4, i) = some (rowI xv xs)) (hxl : xs.length ≤ 8 + i) (hnode : node < N) :
    Calls Tryd.prog 46 #[.pointer (some ⟨d, 0, none⟩), xv, .int .i64 node, .int .i64 i] w (OnPost w0.heap.size K N T ws d [.int .i64 K, .int .i64 R, .slice va vn vc, .slice ua un uc, A, .int .i64 most] A az most f LS ((compl K N T node (ws.drop i)).map (xs ++ ·)) i w) := by
  have hk1 := hok.k1
  have hk4 := hok.k4
  have hlm := D.lmost
  have hMl := (D.marks i hi).2
  have lw := (hW0.below (w' := w) (hB0w.mono (Nat.le_refl _))).len
  have hne : ((i : Int) == (ws.length : Int)) = false := by rw [beq_eq_false_iff_ne]; omega
  obtain ⟨b, hb⟩ : ∃ b, (M i)[node]? = some b := ⟨_, List.getElem?_eq_getElem (by rw [hMl]; exact hnode)⟩
  have haz := Lib.hid D.aslen
  have oA := (D.outerV hr).at
  have oM := (D.marksV hr i hi).at
  have iA := fun w' => oA.idx oneBoolss i (by rw [haz.out]; exact hi) w'
  have cA := oA.cellV i (by rw [haz.out]; exact hi)
  have iM := fun w' => oM.idx oneBools node (by rw [List.length_map, hMl]; exact hnode) w'
  have cM := oM.cellV node (by rw [List.length_map, hMl]; exact hnode)
  have hbv : vAt ((M i).map Value.bool) node = .bool b := by simp [vAt, List.getD, hb]
  rw [hbv] at cM
  obtain ⟨pa, hpa⟩ : ∃ pa, valAt A i = pa := ⟨_, rfl⟩
  obtain ⟨mv, hmv⟩ : ∃ mv, vAt az i = mv := ⟨_, rfl⟩
  obtain ⟨pm, hpm⟩ : ∃ pm, valAt mv node = pm := ⟨_, rfl⟩
  rw [hmv] at iM cM cA
  rw [hpa] at iA cA
  rw [hpm] at iM cM
  replace hpa := Lib.hid hpa
  obtain ⟨ma, mn, mc, rfl⟩ : ∃ a n c, mv = .slice a n c := by rw [← hmv]; exact (D.marksV hr i hi).shape
  replace hmv := Lib.hid hmv
  replace hpm := Lib.hid hpm
  obtain ⟨Aa, An, Ac, rfl⟩ := (D.outerV hr).shape
  have z0 := D.cellH hr 0 (by decide)
  have z3 := D.cellH hr 3 (by decide)
  have z4 := D.cellH hr 4 (by decide)
  simp only [List.getElem?_cons_succ, List.getElem?_cons_zero] at z0 z3 z4
  clear oA oM hbv
  replace hb := Lib.hid hb
  cases b with
  | true =>
    have hC := hso i node hi hb.out
    rw [hC, List.map_nil]
    replace hso := Lib.hid hso
    replace IH := Lib.hid IH
    replace hC := Lib.hid hC
    go_enter Tryd.func46, Tryd.ntmps46
    go_wp2
    go_ret
    exact ⟨_, f, M, lv, ls, LS, false, rfl, hr, Below.refl _ _, D, hso.out, fun _ _ => rfl, .inl ⟨by simpa using hlm, by simp, rfl, by simp⟩⟩
  | false =>
    rw [List.drop_eq_getElem_cons hi, compl_cons]
    replace IH := Lib.hid IH
    replace hMl := Lib.hid hMl
    have hso' := Lib.hid hso
    clear hso
    obtain ⟨CU, hCU⟩ : ∃ CU : Nat → List (List Int), CU = fun s => (complU K N T node ws[i] (ws.drop (i + 1)) s).map (xs ++ ·) := ⟨_, rfl⟩
    rw [show (complU K N T node ws[i] (ws.drop (i + 1)) K).map (xs ++ ·) = CU K by rw [hCU]]
    replace hCU := Lib.hid hCU
    go_enter Tryd.func46, Tryd.ntmps46
    go_wp2
    clear z0 z3 z4 cA cM
    go_loopw [9, 10] (fun any sv wr => ∃ s : Nat, s ≤ K ∧ sv = .int .i64 s ∧ OnInv w0.heap.size K N T ws d [.int .i64 K, .int .i64 R, .slice va vn vc, .slice ua un uc, .slice Aa An Ac, .int .i64 most] (.slice Aa An Ac) az most f LS (CU s) (CU K) i w any wr) (fun _ sv _ => K - (intOf sv).toNat)
    case atStart => exact ⟨0, by omega, rfl, f, M, lv, ls, LS, false, hr, Below.refl _ _, D, hso'.out, fun _ _ => rfl, .inl ⟨by rw [hCU.out]; simpa [complU] using hlm, by rw [hCU.out]; simp [complU], rfl, by rw [hCU.out]; simp [complU]⟩⟩
    case round =>
      obtain ⟨s, hs, rfl, f', M', lv', ls', LS', more', hr', hBr, D', hso2, hfk, hst⟩ := hrel
      obtain ⟨wo, rfl⟩ : ∃ wo : World, wo = wr := ⟨_, rfl⟩
      replace hso2 := Lib.hid hso2
      replace hfk := Lib.hid hfk
      have hB0wo : Below w0.heap.size w0 wo := hB0w.trans hBr
      rcases hst with ⟨hfit, rfl, rfl, rfl⟩ | ⟨hbig, rfl, rfl⟩
      · by_cases hlt : s < K
        · obtain ⟨aq, haq⟩ : ∃ aq, aq = decide (CU s ≠ []) := ⟨_, rfl⟩
          rw [← haq]
          replace haq := Lib.hid haq
          have z0 := D'.cellH hr' 0 (by decide)
          have z7 := D'.cell7 hr'
          simp only [List.getElem?_cons_zero] at z0
          have hNK : N * K = T.length := by rw [← hN, hok.half.1]; exact hok.half.2.symm
          have he : node * K + s < T.length := by
            have : (node + 1) * K ≤ N * K := Nat.mul_le_mul_right _ hnode
            rw [Nat.add_mul] at this; omega
          have hT1 := hT0.below hB0wo
          have hW1 := hW0.below hB0wo
          have i2 : ∀ w', (Instr.indexAt 22 (.slice va vn vc) (.int .i64 ((node : Int) * (K : Int) + (s : Int)))).run Tryd.prog w' = .ok (.pointer (some (valAt (.slice va vn vc) (node * K + s)))) w' := by
            intro w'
            have := hT1.idx (node * K + s) he w'
            rwa [Int.natCast_add, Int.natCast_mul] at this
          have i3 := hW1.idx i hi
          have c2 := hT1.cellD (node * K + s) he
          have c3 := hW1.cell i hi
          have hCS : CU (s + 1) = CU s ++ if T.getD (node * K + s) 0 = ws[i] then (compl K N T ((node * K + s) % N) (ws.drop (i + 1))).map ((xs ++ [(s : Int)]) ++ ·) else [] := by
            rw [hCU.out]
            simp only [complU_succ, List.map_append]
            congr 1
            split
            · simp [List.map_map, Function.comp_def]
            · rfl
          obtain ⟨x, hxe⟩ : ∃ x, T.getD (node * K + s) 0 = x := ⟨_, rfl⟩
          obtain ⟨y, hye⟩ : ∃ y, ws[i] = y := ⟨_, rfl⟩
          obtain ⟨ta, hta⟩ : ∃ ta, valAt (.slice va vn vc) (node * K + s) = ta := ⟨_, rfl⟩
          obtain ⟨wa, hwa⟩ : ∃ wa, valAt (.slice ua un uc) i = wa := ⟨_, rfl⟩
          rw [hta] at i2 c2
          rw [hwa] at i3 c3
          rw [hxe] at c2 hCS
          rw [hye] at c3 hCS
          have SS := Lib.hid (show ∀ (f2 : Names) (M2 : Nat → List Bool) (lv2 : Value) (ls2 : List Value) (LS2 : List (List Int)) (more2 : Bool) (W2 : World), DN f2 d [.int .i64 K, .int .i64 R, .slice va vn vc, .slice ua un uc, .slice Aa An Ac, .int .i64 most] (.slice Aa An Ac) az ws.length N most M2 lv2 ls2 LS2 more2 → Rows w0.heap.size W2 f2 → Below w0.heap.size w0 W2 →
              W2.cell? ⟨d, 0, none⟩ = some (.int .i64 K) ∧ W2.cell? ⟨d, 1, none⟩ = some (.int .i64 R) ∧ W2.cell? ⟨d, 2, none⟩ = some (.slice va vn vc) ∧ W2.cell? ⟨d, 3, none⟩ = some (.slice ua un uc) ∧ W2.cell? ta = some (.int .i64 x) ∧ W2.cell? wa = some (.int .i64 y) from by
            intro f2 M2 lv2 ls2 LS2 more2 W2 D2 r2 b2
            refine ⟨D2.cellH r2 0 (by decide), D2.cellH r2 1 (by decide), D2.cellH r2 2 (by decide), D2.cellH r2 3 (by decide), ?_, ?_⟩
            · rw [← hta, ← hxe]; exact (hT0.below b2).cellD _ he
            · rw [← hwa, ← hye]; exact (hW0.below b2).cell i hi)
          replace hxe := Lib.hid hxe
          replace hye := Lib.hid hye
          replace hta := Lib.hid hta
          replace hwa := Lib.hid hwa
          have hT0' := Lib.hid hT0
          have hrW := Lib.hid (hr'.drew)
          have hB0W := Lib.hid (show Below w0.heap.size w0 wo.drew from hB0wo.drew)
          have hBW := Lib.hid (show Below w0.heap.size w wo.drew from hBr.drew)
          have hsW : w0.heap.size ≤ wo.drew.heap.size := hB0wo.size
          have hxf := hfk.out i (Nat.le_refl _)
          rw [hx] at hxf
          have hxW := Lib.hid (show OwnI w0.heap.size wo.drew xv xs from (hr'.ownI hxf).drew)
          have hS := SS.out _ _ _ _ _ _ wo.drew D' hrW.out hB0W.out
          obtain ⟨W, hWe⟩ : ∃ W : World, W = wo.drew := ⟨_, rfl⟩
          rw [← hWe] at hrW hB0W hBW hsW hxW hS
          have hNK2 := Lib.hid hNK
          have hNe := Lib.hid hN
          have hNp : 0 < N := by omega
          have hN0 : ((N : Int) == 0) = false := by rw [beq_eq_false_iff_ne]; omega
          have hN1 : ¬ (N : Int) = 0 := by omega
          have hN2 : (0 : Int) < N := by omega
          have hN3 : ¬ N = 0 := by omega
          obtain ⟨nd, hnd⟩ : ∃ nd, (node * K + s) % N = nd := ⟨_, rfl⟩
          have hndl : nd < N := by rw [← hnd]; exact Nat.mod_lt _ hNp
          have htm : ((node : Int) * (K : Int) + (s : Int)).tmod (N : Int) = (nd : Int) := by
            rw [← hnd, Int.tmod_eq_emod_of_nonneg (by have := Int.mul_nonneg (a := (node : Int)) (b := (K : Int)) (by omega) (by omega); omega)]
            simp
          rw [hnd] at hCS
          replace hnd := Lib.hid hnd
          have hm1 : 0 ≤ (node : Int) * (K : Int) := Int.mul_nonneg (by omega) (by omega)
          have hm2 : (node : Int) * (K : Int) + (s : Int) ≤ 256 := by
            have h2 := Int.ofNat_le.2 (Nat.le_of_lt he)
            rw [Int.natCast_add, Int.natCast_mul] at h2
            omega
          have hmono : (CU (s + 1)).length ≤ (CU K).length := by
            rw [hCU.out]; simp only [List.length_map]; exact complU_mono _ _ _ _ _ _ _ _ (by omega)
          clear hNK hxf c2 c3 hT1 hW1
          by_cases hq : x = y
          · have hq2 : (x == y) = true := by rw [beq_iff_eq]; exact hq
            rw [if_pos hq] at hCS
            obtain ⟨C', hC'⟩ : ∃ C', (compl K N T nd (ws.drop (i + 1))).map ((xs ++ [(s : Int)]) ++ ·) = C' := ⟨_, rfl⟩
            rw [hC'] at hCS
            replace hC' := Lib.hid hC'
            replace hCS := Lib.hid hCS
            replace hq := Lib.hid hq
            go_wp2
            refine wp_region_plan (fun w' => w'.cell? ⟨d, 0, none⟩ = some (.int .i64 K) ∧ w'.cell? ⟨d, 1, none⟩ = some (.int .i64 R) ∧ w'.cell? ⟨d, 2, none⟩ = some (.slice va vn vc) ∧ w'.cell? ⟨d, 3, none⟩ = some (.slice ua un uc) ∧ w'.cell? ta = some (.int .i64 x) ∧ w'.cell? wa = some (.int .i64 y)) 31 [(0, true), (1, true), (2, true), (3, true), (4, true), (5, true), (6, true), (7, true), (8, true), (9, true), (10, true), (11, true), (12, true), (13, true), (14, true), (15, true), (16, true), (17, true), (18, true), (19, true), (22, true), (23, true), (24, true), (25, true), (26, true), (29, true), (30, true), (20, false), (21, false), (27, false), (28, true)] (by kernel_rfl) (by kernel_rfl) ?_
            rw [← hWe]
            replace hWe := Lib.hid hWe
            clear z0 z7
            refine headY (v := ?_) (some 78) rfl rfl (Or.inl ⟨by rfl, ?_⟩) hS ?_
            rotate_left
            · rintro W' ⟨s0, s1, s2, s3, s4, s5⟩; go_simp; try with_reducible rfl
            simp only [Act.put, List.setIfInBounds_toArray, List.set_cons_zero, List.set_cons_succ]
            refine headY (v := ?_) (some 79) rfl rfl (Or.inl ⟨by rfl, ?_⟩) hS ?_
            rotate_left
            · rintro W' ⟨s0, s1, s2, s3, s4, s5⟩; go_simp; try with_reducible rfl
            simp only [Act.put, List.setIfInBounds_toArray, List.set_cons_zero, List.set_cons_succ]
            refine headY (v := ?_) (some 80) rfl rfl (Or.inl ⟨by rfl, ?_⟩) hS ?_
            rotate_left
            · rintro W' ⟨s0, s1, s2, s3, s4, s5⟩; go_simp; try with_reducible rfl
            simp only [Act.put, List.setIfInBounds_toArray, List.set_cons_zero, List.set_cons_succ]
            refine headY (v := ?_) (some 81) rfl rfl (Or.inl ⟨by rfl, ?_⟩) hS ?_
            rotate_left
            · rintro W' ⟨s0, s1, s2, s3, s4, s5⟩; go_simp; try with_reducible rfl
            simp only [Act.put, List.setIfInBounds_toArray, List.set_cons_zero, List.set_cons_succ]
            refine headY (v := ?_) (some 82) rfl rfl (Or.inl ⟨by rfl, ?_⟩) hS ?_
            rotate_left
            · rintro W' ⟨s0, s1, s2, s3, s4, s5⟩; go_simp; try with_reducible rfl
            simp only [Act.put, List.setIfInBounds_toArray, List.set_cons_zero, List.set_cons_succ]
            refine headY (v := ?_) (some 83) rfl rfl (Or.inl ⟨by rfl, ?_⟩) hS ?_
            rotate_left
            · rintro W' ⟨s0, s1, s2, s3, s4, s5⟩; go_simp; try with_reducible rfl
            simp only [Act.put, List.setIfInBounds_toArray, List.set_cons_zero, List.set_cons_succ]
            refine headY (v := ?_) (some 84) rfl rfl (Or.inl ⟨by rfl, ?_⟩) hS ?_
            rotate_left
            · rintro W' ⟨s0, s1, s2, s3, s4, s5⟩; go_simp; try with_reducible rfl
            simp only [Act.put, List.setIfInBounds_toArray, List.set_cons_zero, List.set_cons_succ]
            refine headY (v := ?_) (some 85) rfl rfl (Or.inl ⟨by rfl, ?_⟩) hS ?_
            rotate_left
            · rintro W' ⟨s0, s1, s2, s3, s4, s5⟩; go_simp; try with_reducible rfl
            simp only [Act.put, List.setIfInBounds_toArray, List.set_cons_zero, List.set_cons_succ]
            refine headY (v := ?_) (some 86) rfl rfl (Or.inl ⟨by rfl, ?_⟩) hS ?_
            rotate_left
            · rintro W' ⟨s0, s1, s2, s3, s4, s5⟩; go_simp; try with_reducible rfl
            simp only [Act.put, List.setIfInBounds_toArray, List.set_cons_zero, List.set_cons_succ]
            refine headY (v := ?_) (some 87) rfl rfl (Or.inl ⟨by rfl, ?_⟩) hS ?_
            rotate_left
            · rintro W' ⟨s0, s1, s2, s3, s4, s5⟩; go_simp; try with_reducible rfl
            simp only [Act.put, List.setIfInBounds_toArray, List.set_cons_zero, List.set_cons_succ]
            refine headY (v := ?_) (some 88) rfl rfl (Or.inl ⟨by rfl, ?_⟩) hS ?_
            rotate_left
            · rintro W' ⟨s0, s1, s2, s3, s4, s5⟩; go_simp; try with_reducible rfl
            simp only [Act.put, List.setIfInBounds_toArray, List.set_cons_zero, List.set_cons_succ]
            refine headY (v := ?_) (some 89) rfl rfl (Or.inl ⟨by rfl, ?_⟩) hS ?_
            rotate_left
            · rintro W' ⟨s0, s1, s2, s3, s4, s5⟩; go_simp; try with_reducible rfl
            simp only [Act.put, List.setIfInBounds_toArray, List.set_cons_zero, List.set_cons_succ]
            refine headY (v := ?_) (some 90) rfl rfl (Or.inl ⟨by rfl, ?_⟩) hS ?_
            rotate_left
            · rintro W' ⟨s0, s1, s2, s3, s4, s5⟩; go_simp; try with_reducible rfl
            simp only [Act.put, List.setIfInBounds_toArray, List.set_cons_zero, List.set_cons_succ]
            refine headY (v := ?_) (some 91) rfl rfl (Or.inl ⟨by rfl, ?_⟩) hS ?_
            rotate_left
            · rintro W' ⟨s0, s1, s2, s3, s4, s5⟩; go_simp; try with_reducible rfl
            simp only [Act.put, List.setIfInBounds_toArray, List.set_cons_zero, List.set_cons_succ]
            refine headY (v := ?_) (some 92) rfl rfl (Or.inl ⟨by rfl, ?_⟩) hS ?_
            rotate_left
            · rintro W' ⟨s0, s1, s2, s3, s4, s5⟩; go_simp; try with_reducible rfl
            simp only [Act.put, List.setIfInBounds_toArray, List.set_cons_zero, List.set_cons_succ]
            refine headY (v := ?_) (some 93) rfl rfl (Or.inl ⟨by rfl, ?_⟩) hS ?_
            rotate_left
            · rintro W' ⟨s0, s1, s2, s3, s4, s5⟩; go_simp; try with_reducible rfl
            simp only [Act.put, List.setIfInBounds_toArray, List.set_cons_zero, List.set_cons_succ]
            refine headY (v := ?_) (some 94) rfl rfl (Or.inl ⟨by rfl, ?_⟩) hS ?_
            rotate_left
            · rintro W' ⟨s0, s1, s2, s3, s4, s5⟩; go_simp; try with_reducible rfl
            simp only [Act.put, List.setIfInBounds_toArray, List.set_cons_zero, List.set_cons_succ]
            refine headY (v := ?_) (some 95) rfl rfl (Or.inl ⟨by rfl, ?_⟩) hS ?_
            rotate_left
            · rintro W' ⟨s0, s1, s2, s3, s4, s5⟩; go_simp; try with_reducible rfl
            simp only [Act.put, List.setIfInBounds_toArray, List.set_cons_zero, List.set_cons_succ]
            refine headY (v := ?_) (some 96) rfl rfl (Or.inl ⟨by rfl, ?_⟩) hS ?_
            rotate_left
            · rintro W' ⟨s0, s1, s2, s3, s4, s5⟩; go_simp; try with_reducible rfl
            simp only [Act.put, List.setIfInBounds_toArray, List.set_cons_zero, List.set_cons_succ]
            refine headY (v := ?_) (some 97) rfl rfl (Or.inl ⟨by rfl, ?_⟩) hS ?_
            rotate_left
            · rintro W' ⟨s0, s1, s2, s3, s4, s5⟩; go_simp; try with_reducible rfl
            simp only [Act.put, List.setIfInBounds_toArray, List.set_cons_zero, List.set_cons_succ]
            refine headY (v := ?_) (some 100) rfl rfl (Or.inl ⟨by rfl, ?_⟩) hS ?_
            rotate_left
            · rintro W' ⟨s0, s1, s2, s3, s4, s5⟩; go_simp; try with_reducible rfl
            simp only [Act.put, List.setIfInBounds_toArray, List.set_cons_zero, List.set_cons_succ]
            refine headY (v := ?_) (some 101) rfl rfl (Or.inl ⟨by rfl, ?_⟩) hS ?_
            rotate_left
            · rintro W' ⟨s0, s1, s2, s3, s4, s5⟩; go_simp; try with_reducible rfl
            simp only [Act.put, List.setIfInBounds_toArray, List.set_cons_zero, List.set_cons_succ]
            refine headY (v := ?_) (some 102) rfl rfl (Or.inl ⟨by rfl, ?_⟩) hS ?_
            rotate_left
            · rintro W' ⟨s0, s1, s2, s3, s4, s5⟩; go_simp; try with_reducible rfl
            simp only [Act.put, List.setIfInBounds_toArray, List.set_cons_zero, List.set_cons_succ]
            refine headY (v := ?_) (some 103) rfl rfl (Or.inl ⟨by rfl, ?_⟩) hS ?_
            rotate_left
            · rintro W' ⟨s0, s1, s2, s3, s4, s5⟩; go_simp; try with_reducible rfl
            simp only [Act.put, List.setIfInBounds_toArray, List.set_cons_zero, List.set_cons_succ]
            refine headY (v := ?_) (some 104) rfl rfl (Or.inl ⟨by rfl, ?_⟩) hS ?_
            rotate_left
            · rintro W' ⟨s0, s1, s2, s3, s4, s5⟩; go_simp; try with_reducible rfl
            simp only [Act.put, List.setIfInBounds_toArray, List.set_cons_zero, List.set_cons_succ]
            refine headY (v := ?_) (some 107) rfl rfl (Or.inl ⟨by rfl, ?_⟩) hS ?_
            rotate_left
            · rintro W' ⟨s0, s1, s2, s3, s4, s5⟩; go_simp; try with_reducible rfl
            simp only [Act.put, List.setIfInBounds_toArray, List.set_cons_zero, List.set_cons_succ]
            refine headY (v := ?_) (some 108) rfl rfl (Or.inl ⟨by rfl, ?_⟩) hS ?_
            rotate_left
            · rintro W' ⟨s0, s1, s2, s3, s4, s5⟩; go_simp; try with_reducible rfl
            simp only [Act.put, List.setIfInBounds_toArray, List.set_cons_zero, List.set_cons_succ]
            refine headC rfl (fun KK hK => ?_)
            go_simp
            refine hK _ _ (keep6 hS (belowAlloc _ _)) ?_
            clear hK KK
            refine headC rfl (fun KK hK => ?_)
            refine step_app1I (by rfl) _ _ rfl w0.heap.size xv xs s W.heap.size rfl rfl rfl hxW.out (by omega) hsW ?_
            intro xv' W2 hx2 hal
            obtain ⟨f2, hr2, hx2', hf2, hfk2, hB2, hback⟩ := x_rows (i := i) hrW.out ((hfk.out i (Nat.le_refl _)).trans hx) hsW hx2 hal
            have D2 := D'.congr hf2
            have hBt := hB0W.out.trans hB2
            have hS2 := SS.out _ _ _ _ _ _ W2 D2 hr2 hBt
            refine hK _ _ hS2 ?_
            clear hK KK
            refine headC rfl (fun KK hK => ?_)
            go_simp
            refine (over_nodes K R va vn vc T _ (hT0'.out.below hBt) (by omega) (by omega)).mono ?_
            rintro e W3 ⟨rfl, rfl⟩
            rw [hNe.out]
            have hS3 := keep6 hS2 (belowAlloc W2 (.cells #[.int .i64 K, .int .i64 R, .slice va vn vc] 24))
            refine hK _ _ hS3 ?_
            clear hK KK
            refine headY (v := ?_) (some 106) rfl rfl (Or.inl ⟨by rfl, ?_⟩) hS3 ?_
            rotate_left
            · rintro W' ⟨s0, s1, s2, s3, s4, s5⟩; go_simp; try with_reducible rfl
            simp only [Act.put, List.setIfInBounds_toArray, List.set_cons_zero, List.set_cons_succ]

            refine head0 ?_
            simp only [List.drop_succ_cons, List.drop_zero]
            have hIH := IH.out f2 M' lv' ls' (LS ++ CU s) xv' (xs ++ [(s : Int)]) nd _ (hr2.below (belowAlloc W2 (.cells #[.int .i64 K, .int .i64 R, .slice va vn vc] 24))) (hBt.trans ((belowAlloc W2 _).mono hBt.size)) D2 hso2.out hx2' (by simp; omega) hndl
            rw [hC'.out, show ((i + 1 : Nat) : Int) = (i : Int) + 1 by omega] at hIH
            replace hIH := Lib.hid hIH
            replace hback := Lib.hid hback
            replace hr2 := Lib.hid hr2
            replace hx2 := Lib.hid hx2
            replace hx2' := Lib.hid hx2'
            replace hf2 := Lib.hid hf2
            replace hfk2 := Lib.hid hfk2
            replace hal := Lib.hid hal
            replace htm := Lib.hid htm
            have hBX := Lib.hid (hBW.out.trans (hB2.trans ((belowAlloc W2 (.cells #[.int .i64 K, .int .i64 R, .slice va vn vc] 24)).mono hBt.size)))
            clear hS hS2 hS3
            go_wp2_with fail
            refine hIH.out.mono ?_
            rintro e w4 ⟨ret, f4, M4, lv4, ls4, LS4, more4, rfl, hr4, hB4, D4, hso4, hfk4, hst4⟩
            obtain ⟨f5, hr5, hf5, hf5'⟩ := hback.out w4 f4 hr4 hfk4
            have D5 := D4.congr hf5'
            have hBe := Lib.hid (hBX.out.trans hB4)
            have hfkE := Lib.hid (show ∀ k, k ≤ i → f5 (4, k) = f (4, k) from fun k hk => (hf5 k hk).trans (hfk.out k hk))
            replace hr5 := Lib.hid hr5
            replace hso4 := Lib.hid hso4
            clear hr4 hB4 D4 hfk4 hf5 hf5'
            rcases hst4 with ⟨hfit4, rfl, rfl, rfl⟩ | ⟨hbig4, rfl, rfl⟩
            · obtain ⟨q, hqd⟩ : ∃ q, decide (C' ≠ []) = q := ⟨_, rfl⟩
              rw [hqd]
              cases q with
              | true =>
                have hq3 : C' ≠ [] := by simpa using hqd
                replace hqd := Lib.hid hqd
                replace hq3 := Lib.hid hq3
                go_wp2
                refine NoPanic.normal ?_
                go_wp2
                go_roundw
                case rel => exact ⟨s + 1, by omega, by go_num, f5, M4, lv4, ls4, _, _, hr5.out, hBe.out, D5, hso4.out, hfkE.out, .inl ⟨by rw [hCS.out]; simp at hfit4 ⊢; omega, by rw [hCS.out, List.append_assoc], rfl, by rw [hCS.out]; simp [hq3.out]⟩⟩
                case measure => simp [intOf]; omega
              | false =>
                have hq3 : C' = [] := by simpa using hqd
                replace hqd := Lib.hid hqd
                replace hq3 := Lib.hid hq3
                go_wp2
                refine NoPanic.normal ?_
                go_wp2
                go_roundw
                case rel => exact ⟨s + 1, by omega, by go_num, f5, M4, lv4, ls4, _, _, hr5.out, hBe.out, D5, hso4.out, hfkE.out, .inl ⟨by rw [hCS.out]; simp at hfit4 ⊢; omega, by rw [hCS.out, List.append_assoc], rfl, by rw [hCS.out, hq3.out, List.append_nil, haq.out]⟩⟩
                case measure => simp [intOf]; omega
            · go_wp2
              refine NoPanic.normal ?_
              go_wp2
              go_roundw
              case rel => exact ⟨s + 1, by omega, by go_num, f5, M4, lv4, ls4, _, _, hr5.out, hBe.out, D5, hso4.out, hfkE.out, .inr ⟨by rw [hCS.out] at hmono; simp at hbig4 hmono ⊢; omega, rfl, rfl⟩⟩
              case measure => simp [intOf]; omega
          · have hq2 : (x == y) = false := by rw [beq_eq_false_iff_ne]; exact hq
            rw [if_neg hq, List.append_nil] at hCS
            replace hCS := Lib.hid hCS
            replace hq := Lib.hid hq
            go_wp2
            refine wp_region_plan (fun w' => w'.cell? ⟨d, 0, none⟩ = some (.int .i64 K) ∧ w'.cell? ⟨d, 1, none⟩ = some (.int .i64 R) ∧ w'.cell? ⟨d, 2, none⟩ = some (.slice va vn vc) ∧ w'.cell? ⟨d, 3, none⟩ = some (.slice ua un uc) ∧ w'.cell? ta = some (.int .i64 x) ∧ w'.cell? wa = some (.int .i64 y)) 31 [(0, true), (1, true), (2, true), (3, true), (4, true), (5, true), (6, true), (7, true), (8, true), (9, true), (10, true), (11, true), (12, true), (13, true), (14, true), (15, true), (16, true), (17, true), (18, true), (19, true), (22, true), (23, true), (24, true), (25, true), (26, true), (29, true), (30, true), (20, false), (21, false), (27, false), (28, true)] (by kernel_rfl) (by kernel_rfl) ?_
            rw [← hWe]
            replace hWe := Lib.hid hWe
            clear z0 z7
            refine headY (v := ?_) (some 78) rfl rfl (Or.inl ⟨by rfl, ?_⟩) hS ?_
            rotate_left
            · rintro W' ⟨s0, s1, s2, s3, s4, s5⟩; go_simp; try with_reducible rfl
            simp only [Act.put, List.setIfInBounds_toArray, List.set_cons_zero, List.set_cons_succ]
            refine headY (v := ?_) (some 79) rfl rfl (Or.inl ⟨by rfl, ?_⟩) hS ?_
            rotate_left
            · rintro W' ⟨s0, s1, s2, s3, s4, s5⟩; go_simp; try with_reducible rfl
            simp only [Act.put, List.setIfInBounds_toArray, List.set_cons_zero, List.set_cons_succ]
            refine headY (v := ?_) (some 80) rfl rfl (Or.inl ⟨by rfl, ?_⟩) hS ?_
            rotate_left
            · rintro W' ⟨s0, s1, s2, s3, s4, s5⟩; go_simp; try with_reducible rfl
            simp only [Act.put, List.setIfInBounds_toArray, List.set_cons_zero, List.set_cons_succ]
            refine headY (v := ?_) (some 81) rfl rfl (Or.inl ⟨by rfl, ?_⟩) hS ?_
            rotate_left
            · rintro W' ⟨s0, s1, s2, s3, s4, s5⟩; go_simp; try with_reducible rfl
            simp only [Act.put, List.setIfInBounds_toArray, List.set_cons_zero, List.set_cons_succ]
            refine headY (v := ?_) (some 82) rfl rfl (Or.inl ⟨by rfl, ?_⟩) hS ?_
            rotate_left
            · rintro W' ⟨s0, s1, s2, s3, s4, s5⟩; go_simp; try with_reducible rfl
            simp only [Act.put, List.setIfInBounds_toArray, List.set_cons_zero, List.set_cons_succ]
            refine headY (v := ?_) (some 83) rfl rfl (Or.inl ⟨by rfl, ?_⟩) hS ?_
            rotate_left
            · rintro W' ⟨s0, s1, s2, s3, s4, s5⟩; go_simp; try with_reducible rfl
            simp only [Act.put, List.setIfInBounds_toArray, List.set_cons_zero, List.set_cons_succ]
            refine headY (v := ?_) (some 84) rfl rfl (Or.inl ⟨by rfl, ?_⟩) hS ?_
            rotate_left
            · rintro W' ⟨s0, s1, s2, s3, s4, s5⟩; go_simp; try with_reducible rfl
            simp only [Act.put, List.setIfInBounds_toArray, List.set_cons_zero, List.set_cons_succ]
            refine headY (v := ?_) (some 85) rfl rfl (Or.inl ⟨by rfl, ?_⟩) hS ?_
            rotate_left
            · rintro W' ⟨s0, s1, s2, s3, s4, s5⟩; go_simp; try with_reducible rfl
            simp only [Act.put, List.setIfInBounds_toArray, List.set_cons_zero, List.set_cons_succ]
            refine headY (v := ?_) (some 86) rfl rfl (Or.inl ⟨by rfl, ?_⟩) hS ?_
            rotate_left
            · rintro W' ⟨s0, s1, s2, s3, s4, s5⟩; go_simp; try with_reducible rfl
            simp only [Act.put, List.setIfInBounds_toArray, List.set_cons_zero, List.set_cons_succ]
            refine headY (v := ?_) (some 87) rfl rfl (Or.inl ⟨by rfl, ?_⟩) hS ?_
            rotate_left
            · rintro W' ⟨s0, s1, s2, s3, s4, s5⟩; go_simp; try with_reducible rfl
            simp only [Act.put, List.setIfInBounds_toArray, List.set_cons_zero, List.set_cons_succ]
            refine headY (v := ?_) (some 88) rfl rfl (Or.inl ⟨by rfl, ?_⟩) hS ?_
            rotate_left
            · rintro W' ⟨s0, s1, s2, s3, s4, s5⟩; go_simp; try with_reducible rfl
            simp only [Act.put, List.setIfInBounds_toArray, List.set_cons_zero, List.set_cons_succ]
            refine headY (v := ?_) (some 89) rfl rfl (Or.inl ⟨by rfl, ?_⟩) hS ?_
            rotate_left
            · rintro W' ⟨s0, s1, s2, s3, s4, s5⟩; go_simp; try with_reducible rfl
            simp only [Act.put, List.setIfInBounds_toArray, List.set_cons_zero, List.set_cons_succ]
            refine headY (v := ?_) (some 90) rfl rfl (Or.inl ⟨by rfl, ?_⟩) hS ?_
            rotate_left
            · rintro W' ⟨s0, s1, s2, s3, s4, s5⟩; go_simp; try with_reducible rfl
            simp only [Act.put, List.setIfInBounds_toArray, List.set_cons_zero, List.set_cons_succ]
            refine headY (v := ?_) (some 91) rfl rfl (Or.inl ⟨by rfl, ?_⟩) hS ?_
            rotate_left
            · rintro W' ⟨s0, s1, s2, s3, s4, s5⟩; go_simp; try with_reducible rfl
            simp only [Act.put, List.setIfInBounds_toArray, List.set_cons_zero, List.set_cons_succ]
            refine headY (v := ?_) (some 92) rfl rfl (Or.inl ⟨by rfl, ?_⟩) hS ?_
            rotate_left
            · rintro W' ⟨s0, s1, s2, s3, s4, s5⟩; go_simp; try with_reducible rfl
            simp only [Act.put, List.setIfInBounds_toArray, List.set_cons_zero, List.set_cons_succ]
            refine headY (v := ?_) (some 93) rfl rfl (Or.inl ⟨by rfl, ?_⟩) hS ?_
            rotate_left
            · rintro W' ⟨s0, s1, s2, s3, s4, s5⟩; go_simp; try with_reducible rfl
            simp only [Act.put, List.setIfInBounds_toArray, List.set_cons_zero, List.set_cons_succ]
            refine headY (v := ?_) (some 94) rfl rfl (Or.inl ⟨by rfl, ?_⟩) hS ?_
            rotate_left
            · rintro W' ⟨s0, s1, s2, s3, s4, s5⟩; go_simp; try with_reducible rfl
            simp only [Act.put, List.setIfInBounds_toArray, List.set_cons_zero, List.set_cons_succ]
            refine headY (v := undef) (some 95) rfl rfl (Or.inr ⟨by rfl, rfl⟩) hS ?_
            simp only [Act.put, List.setIfInBounds_toArray, List.set_cons_zero, List.set_cons_succ]
            refine headY (v := undef) (some 96) rfl rfl (Or.inr ⟨by rfl, rfl⟩) hS ?_
            simp only [Act.put, List.setIfInBounds_toArray, List.set_cons_zero, List.set_cons_succ]
            refine headY (v := undef) (some 97) rfl rfl (Or.inr ⟨by rfl, rfl⟩) hS ?_
            simp only [Act.put, List.setIfInBounds_toArray, List.set_cons_zero, List.set_cons_succ]
            refine headY (v := undef) (some 100) rfl rfl (Or.inr ⟨by rfl, rfl⟩) hS ?_
            simp only [Act.put, List.setIfInBounds_toArray, List.set_cons_zero, List.set_cons_succ]
            refine headY (v := undef) (some 101) rfl rfl (Or.inr ⟨by rfl, rfl⟩) hS ?_
            simp only [Act.put, List.setIfInBounds_toArray, List.set_cons_zero, List.set_cons_succ]
            refine headY (v := undef) (some 102) rfl rfl (Or.inr ⟨by rfl, rfl⟩) hS ?_
            simp only [Act.put, List.setIfInBounds_toArray, List.set_cons_zero, List.set_cons_succ]
            refine headY (v := undef) (some 103) rfl rfl (Or.inr ⟨by rfl, rfl⟩) hS ?_
            simp only [Act.put, List.setIfInBounds_toArray, List.set_cons_zero, List.set_cons_succ]
            refine headY (v := undef) (some 104) rfl rfl (Or.inr ⟨by rfl, rfl⟩) hS ?_
            simp only [Act.put, List.setIfInBounds_toArray, List.set_cons_zero, List.set_cons_succ]
            refine headY (v := undef) (some 107) rfl rfl (Or.inr ⟨by rfl, rfl⟩) hS ?_
            simp only [Act.put, List.setIfInBounds_toArray, List.set_cons_zero, List.set_cons_succ]
            refine headY (v := undef) (some 108) rfl rfl (Or.inr ⟨by rfl, rfl⟩) hS ?_
            simp only [Act.put, List.setIfInBounds_toArray, List.set_cons_zero, List.set_cons_succ]
            refine headC rfl (fun KK hK => ?_)
            go_simp
            refine hK _ _ hS ?_
            clear hK KK
            refine headC rfl (fun KK hK => ?_)
            go_simp
            refine hK _ _ hS ?_
            clear hK KK
            refine headC rfl (fun KK hK => ?_)
            go_simp
            refine hK _ _ hS ?_
            clear hK KK
            refine headY (v := undef) (some 106) rfl rfl (Or.inr ⟨by rfl, rfl⟩) hS ?_
            simp only [Act.put, List.setIfInBounds_toArray, List.set_cons_zero, List.set_cons_succ]

            refine head0 ?_
            simp only [List.drop_succ_cons, List.drop_zero]
            replace htm := Lib.hid htm
            clear hS
            go_wp2
            refine NoPanic.normal ?_
            go_wp2
            go_roundw
            case rel => exact ⟨s + 1, by omega, by go_num, f', M', lv', ls', _, _, hrW.out, hBW.out, D', hso2.out, hfk.out, .inl ⟨by rw [hCS.out]; exact hfit, by rw [hCS.out], rfl, by rw [hCS.out, haq.out]⟩⟩
            case measure => simp [intOf]; omega
        · obtain rfl : s = K := by omega
          obtain ⟨q, hqd⟩ : ∃ q, decide (CU s ≠ []) = q := ⟨_, rfl⟩
          rw [hqd]
          cases q with
          | true =>
            replace hqd := Lib.hid hqd

            have HM := (D'.marks i hi).2
            have m0 := D'.cellH hr' 0 (by decide)
            have m4 := D'.cellH hr' 4 (by decide)
            have m7 := D'.cell7 hr'
            simp only [List.getElem?_cons_succ, List.getElem?_cons_zero] at m0 m4
            have mA := (D'.outerV hr').at.cellV i (by rw [haz.out]; exact hi)
            have mV := D'.marksV hr' i hi
            have mM := mV.at.cellV node (by rw [List.length_map, HM]; exact hnode)
            have mF := mV.frz node (by rw [List.length_map, HM]; exact hnode)
            rw [hpa.out, hmv.out] at mA
            rw [hmv.out, hpm.out] at mM mF
            obtain ⟨fE, hrE, DE, hfE⟩ := D'.mark hr' i hi node hnode false
            rw [hmv.out, hpm.out] at hrE
            have hpB : w0.heap.size ≤ pm.block := by
              have h := mV.blkB node (by rw [List.length_map, HM]; exact hnode)
              rw [hmv.out, hpm.out] at h
              exact h.2
            generalize vAt ((M' i).map Value.bool) node = mbv at mM
            replace mV := Lib.hid mV
            have hsoE := Lib.hid (hso2.out.mark i node false (by intro h; cases h))
            replace hrE := Lib.hid hrE
            replace hfE := Lib.hid hfE
            replace DE := Lib.hid DE
            replace HM := Lib.hid HM
            replace hBr := Lib.hid hBr
            go_wp2
            refine wp_region_plan (fun w' => w'.cell? ⟨d, 4, none⟩ = some (.slice Aa An Ac) ∧ w'.cell? pa = some (.slice ma mn mc) ∧ w'.cell? ⟨d, 7, none⟩ = some (.bool false)) 18 [(0, true), (1, true), (2, true), (3, true), (4, true), (5, true), (6, true), (7, true), (8, true), (9, true), (10, true), (11, true), (12, true), (13, true), (14, true), (15, true), (16, true), (17, true)] (by kernel_rfl) (by kernel_rfl) ?_
            have hS : wo.drew.cell? ⟨d, 4, none⟩ = some (.slice Aa An Ac) ∧ wo.drew.cell? pa = some (.slice ma mn mc) ∧ wo.drew.cell? ⟨d, 7, none⟩ = some (.bool false) := ⟨m4, mA, m7⟩
            refine headY (v := ?_) (some 111) rfl rfl (Or.inl ⟨by rfl, ?_⟩) hS ?_
            rotate_left
            · rintro W' ⟨s0, s1, s2⟩; go_simp; try with_reducible rfl
            simp only [Act.put, List.setIfInBounds_toArray, List.set_cons_zero, List.set_cons_succ]
            refine headY (v := ?_) (some 112) rfl rfl (Or.inl ⟨by rfl, ?_⟩) hS ?_
            rotate_left
            · rintro W' ⟨s0, s1, s2⟩; go_simp; try with_reducible rfl
            simp only [Act.put, List.setIfInBounds_toArray, List.set_cons_zero, List.set_cons_succ]
            refine headY (v := ?_) (some 113) rfl rfl (Or.inl ⟨by rfl, ?_⟩) hS ?_
            rotate_left
            · rintro W' ⟨s0, s1, s2⟩; go_simp; try with_reducible rfl
            simp only [Act.put, List.setIfInBounds_toArray, List.set_cons_zero, List.set_cons_succ]
            refine headY (v := ?_) (some 114) rfl rfl (Or.inl ⟨by rfl, ?_⟩) hS ?_
            rotate_left
            · rintro W' ⟨s0, s1, s2⟩; go_simp; try with_reducible rfl
            simp only [Act.put, List.setIfInBounds_toArray, List.set_cons_zero, List.set_cons_succ]
            refine headY (v := ?_) (some 115) rfl rfl (Or.inl ⟨by rfl, ?_⟩) hS ?_
            rotate_left
            · rintro W' ⟨s0, s1, s2⟩; go_simp; try with_reducible rfl
            simp only [Act.put, List.setIfInBounds_toArray, List.set_cons_zero, List.set_cons_succ]
            refine headY (v := ?_) (some 116) rfl rfl (Or.inl ⟨by rfl, ?_⟩) hS ?_
            rotate_left
            · rintro W' ⟨s0, s1, s2⟩; go_simp; try with_reducible rfl
            simp only [Act.put, List.setIfInBounds_toArray, List.set_cons_zero, List.set_cons_succ]
            refine headY (v := ?_) (some 117) rfl rfl (Or.inl ⟨by rfl, ?_⟩) hS ?_
            rotate_left
            · rintro W' ⟨s0, s1, s2⟩; go_simp; try with_reducible rfl
            simp only [Act.put, List.setIfInBounds_toArray, List.set_cons_zero, List.set_cons_succ]
            refine headY (v := ?_) (some 118) rfl rfl (Or.inl ⟨by rfl, ?_⟩) hS ?_
            rotate_left
            · rintro W' ⟨s0, s1, s2⟩; go_simp; try with_reducible rfl
            simp only [Act.put, List.setIfInBounds_toArray, List.set_cons_zero, List.set_cons_succ]
            refine headY (v := ?_) (some 119) rfl rfl (Or.inl ⟨by rfl, ?_⟩) hS ?_
            rotate_left
            · rintro W' ⟨s0, s1, s2⟩; go_simp; try with_reducible rfl
            simp only [Act.put, List.setIfInBounds_toArray, List.set_cons_zero, List.set_cons_succ]
            refine headY (v := ?_) (some 120) rfl rfl (Or.inl ⟨by rfl, ?_⟩) hS ?_
            rotate_left
            · rintro W' ⟨s0, s1, s2⟩; go_simp; try with_reducible rfl
            simp only [Act.put, List.setIfInBounds_toArray, List.set_cons_zero, List.set_cons_succ]
            refine headY (v := ?_) (some 121) rfl rfl (Or.inl ⟨by rfl, ?_⟩) hS ?_
            rotate_left
            · rintro W' ⟨s0, s1, s2⟩; go_simp; try with_reducible rfl
            simp only [Act.put, List.setIfInBounds_toArray, List.set_cons_zero, List.set_cons_succ]
            refine headY (v := undef) (some 122) rfl rfl (Or.inr ⟨by rfl, rfl⟩) hS ?_
            simp only [Act.put, List.setIfInBounds_toArray, List.set_cons_zero, List.set_cons_succ]
            refine headY (v := undef) (some 123) rfl rfl (Or.inr ⟨by rfl, rfl⟩) hS ?_
            simp only [Act.put, List.setIfInBounds_toArray, List.set_cons_zero, List.set_cons_succ]
            refine headY (v := undef) (some 124) rfl rfl (Or.inr ⟨by rfl, rfl⟩) hS ?_
            simp only [Act.put, List.setIfInBounds_toArray, List.set_cons_zero, List.set_cons_succ]
            refine headY (v := undef) (some 125) rfl rfl (Or.inr ⟨by rfl, rfl⟩) hS ?_
            simp only [Act.put, List.setIfInBounds_toArray, List.set_cons_zero, List.set_cons_succ]
            refine headY (v := undef) (some 126) rfl rfl (Or.inr ⟨by rfl, rfl⟩) hS ?_
            simp only [Act.put, List.setIfInBounds_toArray, List.set_cons_zero, List.set_cons_succ]
            refine headY (v := ?_) (some 127) rfl rfl (Or.inl ⟨by rfl, ?_⟩) hS ?_
            rotate_left
            · rintro W' ⟨s0, s1, s2⟩; go_simp; try with_reducible rfl
            simp only [Act.put, List.setIfInBounds_toArray, List.set_cons_zero, List.set_cons_succ]
            refine headY (v := ?_) (some 128) rfl rfl (Or.inl ⟨by rfl, ?_⟩) hS ?_
            rotate_left
            · rintro W' ⟨s0, s1, s2⟩; go_simp; try with_reducible rfl
            simp only [Act.put, List.setIfInBounds_toArray, List.set_cons_zero, List.set_cons_succ]
            refine head0 ?_
            simp only [List.drop_succ_cons, List.drop_zero]
            clear hS m0 m4 m7 mA
            go_wp2
            refine NoPanic.normal ?_
            go_wp2
            go_ret
            exact ⟨.bool true, fE, _, lv', ls', _, _, rfl, hrE.out.drew, (show Below w0.heap.size wo wo.drew from ⟨rfl, rfl, rfl, Nat.le_refl _, fun _ _ => rfl⟩) |> hBr.out.trans |>.setCell hpB _, DE.out, hsoE.out, fun k hk => (hfE.out _ (by simp)).trans (hfk.out k hk), .inl ⟨hfit, rfl, rfl, by rw [hqd.out]⟩⟩

          | false =>
            have hnil : compl s N T node (ws.drop i) = [] := by
              have : CU s = [] := by simpa using hqd
              rw [hCU.out] at this
              rw [List.drop_eq_getElem_cons hi, compl_cons]
              simpa using this
            replace hqd := Lib.hid hqd
            replace hnil := Lib.hid hnil

            have HM := (D'.marks i hi).2
            have m0 := D'.cellH hr' 0 (by decide)
            have m4 := D'.cellH hr' 4 (by decide)
            have m7 := D'.cell7 hr'
            simp only [List.getElem?_cons_succ, List.getElem?_cons_zero] at m0 m4
            have mA := (D'.outerV hr').at.cellV i (by rw [haz.out]; exact hi)
            have mV := D'.marksV hr' i hi
            have mM := mV.at.cellV node (by rw [List.length_map, HM]; exact hnode)
            have mF := mV.frz node (by rw [List.length_map, HM]; exact hnode)
            rw [hpa.out, hmv.out] at mA
            rw [hmv.out, hpm.out] at mM mF
            obtain ⟨fE, hrE, DE, hfE⟩ := D'.mark hr' i hi node hnode true
            rw [hmv.out, hpm.out] at hrE
            have hpB : w0.heap.size ≤ pm.block := by
              have h := mV.blkB node (by rw [List.length_map, HM]; exact hnode)
              rw [hmv.out, hpm.out] at h
              exact h.2
            generalize vAt ((M' i).map Value.bool) node = mbv at mM
            replace mV := Lib.hid mV
            have hsoE := Lib.hid (hso2.out.mark i node true (fun _ => hnil.out))
            replace hrE := Lib.hid hrE
            replace hfE := Lib.hid hfE
            replace DE := Lib.hid DE
            replace HM := Lib.hid HM
            replace hBr := Lib.hid hBr
            go_wp2
            refine wp_region_plan (fun w' => w'.cell? ⟨d, 4, none⟩ = some (.slice Aa An Ac) ∧ w'.cell? pa = some (.slice ma mn mc) ∧ w'.cell? ⟨d, 7, none⟩ = some (.bool false)) 18 [(0, true), (1, true), (2, true), (3, true), (4, true), (5, true), (6, true), (7, true), (8, true), (9, true), (10, true), (11, true), (12, true), (13, true), (14, true), (15, true), (16, true), (17, true)] (by kernel_rfl) (by kernel_rfl) ?_
            have hS : wo.drew.cell? ⟨d, 4, none⟩ = some (.slice Aa An Ac) ∧ wo.drew.cell? pa = some (.slice ma mn mc) ∧ wo.drew.cell? ⟨d, 7, none⟩ = some (.bool false) := ⟨m4, mA, m7⟩
            refine headY (v := ?_) (some 111) rfl rfl (Or.inl ⟨by rfl, ?_⟩) hS ?_
            rotate_left
            · rintro W' ⟨s0, s1, s2⟩; go_simp; try with_reducible rfl
            simp only [Act.put, List.setIfInBounds_toArray, List.set_cons_zero, List.set_cons_succ]
            refine headY (v := ?_) (some 112) rfl rfl (Or.inl ⟨by rfl, ?_⟩) hS ?_
            rotate_left
            · rintro W' ⟨s0, s1, s2⟩; go_simp; try with_reducible rfl
            simp only [Act.put, List.setIfInBounds_toArray, List.set_cons_zero, List.set_cons_succ]
            refine headY (v := ?_) (some 113) rfl rfl (Or.inl ⟨by rfl, ?_⟩) hS ?_
            rotate_left
            · rintro W' ⟨s0, s1, s2⟩; go_simp; try with_reducible rfl
            simp only [Act.put, List.setIfInBounds_toArray, List.set_cons_zero, List.set_cons_succ]
            refine headY (v := ?_) (some 114) rfl rfl (Or.inl ⟨by rfl, ?_⟩) hS ?_
            rotate_left
            · rintro W' ⟨s0, s1, s2⟩; go_simp; try with_reducible rfl
            simp only [Act.put, List.setIfInBounds_toArray, List.set_cons_zero, List.set_cons_succ]
            refine headY (v := ?_) (some 115) rfl rfl (Or.inl ⟨by rfl, ?_⟩) hS ?_
            rotate_left
            · rintro W' ⟨s0, s1, s2⟩; go_simp; try with_reducible rfl
            simp only [Act.put, List.setIfInBounds_toArray, List.set_cons_zero, List.set_cons_succ]
            refine headY (v := ?_) (some 116) rfl rfl (Or.inl ⟨by rfl, ?_⟩) hS ?_
            rotate_left
            · rintro W' ⟨s0, s1, s2⟩; go_simp; try with_reducible rfl
            simp only [Act.put, List.setIfInBounds_toArray, List.set_cons_zero, List.set_cons_succ]
            refine headY (v := ?_) (some 117) rfl rfl (Or.inl ⟨by rfl, ?_⟩) hS ?_
            rotate_left
            · rintro W' ⟨s0, s1, s2⟩; go_simp; try with_reducible rfl
            simp only [Act.put, List.setIfInBounds_toArray, List.set_cons_zero, List.set_cons_succ]
            refine headY (v := ?_) (some 118) rfl rfl (Or.inl ⟨by rfl, ?_⟩) hS ?_
            rotate_left
            · rintro W' ⟨s0, s1, s2⟩; go_simp; try with_reducible rfl
            simp only [Act.put, List.setIfInBounds_toArray, List.set_cons_zero, List.set_cons_succ]
            refine headY (v := ?_) (some 119) rfl rfl (Or.inl ⟨by rfl, ?_⟩) hS ?_
            rotate_left
            · rintro W' ⟨s0, s1, s2⟩; go_simp; try with_reducible rfl
            simp only [Act.put, List.setIfInBounds_toArray, List.set_cons_zero, List.set_cons_succ]
            refine headY (v := ?_) (some 120) rfl rfl (Or.inl ⟨by rfl, ?_⟩) hS ?_
            rotate_left
            · rintro W' ⟨s0, s1, s2⟩; go_simp; try with_reducible rfl
            simp only [Act.put, List.setIfInBounds_toArray, List.set_cons_zero, List.set_cons_succ]
            refine headY (v := ?_) (some 121) rfl rfl (Or.inl ⟨by rfl, ?_⟩) hS ?_
            rotate_left
            · rintro W' ⟨s0, s1, s2⟩; go_simp; try with_reducible rfl
            simp only [Act.put, List.setIfInBounds_toArray, List.set_cons_zero, List.set_cons_succ]
            refine headY (v := ?_) (some 122) rfl rfl (Or.inl ⟨by rfl, ?_⟩) hS ?_
            rotate_left
            · rintro W' ⟨s0, s1, s2⟩; go_simp; try with_reducible rfl
            simp only [Act.put, List.setIfInBounds_toArray, List.set_cons_zero, List.set_cons_succ]
            refine headY (v := ?_) (some 123) rfl rfl (Or.inl ⟨by rfl, ?_⟩) hS ?_
            rotate_left
            · rintro W' ⟨s0, s1, s2⟩; go_simp; try with_reducible rfl
            simp only [Act.put, List.setIfInBounds_toArray, List.set_cons_zero, List.set_cons_succ]
            refine headY (v := ?_) (some 124) rfl rfl (Or.inl ⟨by rfl, ?_⟩) hS ?_
            rotate_left
            · rintro W' ⟨s0, s1, s2⟩; go_simp; try with_reducible rfl
            simp only [Act.put, List.setIfInBounds_toArray, List.set_cons_zero, List.set_cons_succ]
            refine headY (v := ?_) (some 125) rfl rfl (Or.inl ⟨by rfl, ?_⟩) hS ?_
            rotate_left
            · rintro W' ⟨s0, s1, s2⟩; go_simp; try with_reducible rfl
            simp only [Act.put, List.setIfInBounds_toArray, List.set_cons_zero, List.set_cons_succ]
            refine headY (v := ?_) (some 126) rfl rfl (Or.inl ⟨by rfl, ?_⟩) hS ?_
            rotate_left
            · rintro W' ⟨s0, s1, s2⟩; go_simp; try with_reducible rfl
            simp only [Act.put, List.setIfInBounds_toArray, List.set_cons_zero, List.set_cons_succ]
            refine headY (v := ?_) (some 127) rfl rfl (Or.inl ⟨by rfl, ?_⟩) hS ?_
            rotate_left
            · rintro W' ⟨s0, s1, s2⟩; go_simp; try with_reducible rfl
            simp only [Act.put, List.setIfInBounds_toArray, List.set_cons_zero, List.set_cons_succ]
            refine headY (v := ?_) (some 128) rfl rfl (Or.inl ⟨by rfl, ?_⟩) hS ?_
            rotate_left
            · rintro W' ⟨s0, s1, s2⟩; go_simp; try with_reducible rfl
            simp only [Act.put, List.setIfInBounds_toArray, List.set_cons_zero, List.set_cons_succ]
            refine head0 ?_
            simp only [List.drop_succ_cons, List.drop_zero]
            clear hS m0 m4 m7 mA
            go_wp2
            refine NoPanic.normal ?_
            go_wp2
            go_ret
            exact ⟨.bool false, fE, _, lv', ls', _, _, rfl, hrE.out.drew, (show Below w0.heap.size wo wo.drew from ⟨rfl, rfl, rfl, Nat.le_refl _, fun _ _ => rfl⟩) |> hBr.out.trans |>.setCell hpB _, DE.out, hsoE.out, fun k hk => (hfE.out _ (by simp)).trans (hfk.out k hk), .inl ⟨hfit, rfl, rfl, by rw [hqd.out]⟩⟩

      · by_cases hlt : s < K
        · skip

          have HM := (D'.marks i hi).2
          have m0 := D'.cellH hr' 0 (by decide)
          have m4 := D'.cellH hr' 4 (by decide)
          have m7 := D'.cell7 hr'
          simp only [List.getElem?_cons_succ, List.getElem?_cons_zero] at m0 m4
          have mA := (D'.outerV hr').at.cellV i (by rw [haz.out]; exact hi)
          have mV := D'.marksV hr' i hi
          have mM := mV.at.cellV node (by rw [List.length_map, HM]; exact hnode)
          have mF := mV.frz node (by rw [List.length_map, HM]; exact hnode)
          rw [hpa.out, hmv.out] at mA
          rw [hmv.out, hpm.out] at mM mF
          obtain ⟨fE, hrE, DE, hfE⟩ := D'.mark hr' i hi node hnode false
          rw [hmv.out, hpm.out] at hrE
          have hpB : w0.heap.size ≤ pm.block := by
            have h := mV.blkB node (by rw [List.length_map, HM]; exact hnode)
            rw [hmv.out, hpm.out] at h
            exact h.2
          generalize vAt ((M' i).map Value.bool) node = mbv at mM
          replace mV := Lib.hid mV
          have hsoE := Lib.hid (hso2.out.mark i node false (by intro h; cases h))
          replace hrE := Lib.hid hrE
          replace hfE := Lib.hid hfE
          replace DE := Lib.hid DE
          replace HM := Lib.hid HM
          replace hBr := Lib.hid hBr
          go_wp2
          refine wp_region_plan (fun w' => w'.cell? ⟨d, 4, none⟩ = some (.slice Aa An Ac) ∧ w'.cell? pa = some (.slice ma mn mc) ∧ w'.cell? ⟨d, 7, none⟩ = some (.bool true)) 18 [(0, true), (1, true), (2, true), (3, true), (4, true), (5, true), (6, true), (7, true), (8, true), (9, true), (10, true), (11, true), (12, true), (13, true), (14, true), (15, true), (16, true), (17, true)] (by kernel_rfl) (by kernel_rfl) ?_
          have hS : wo.drew.cell? ⟨d, 4, none⟩ = some (.slice Aa An Ac) ∧ wo.drew.cell? pa = some (.slice ma mn mc) ∧ wo.drew.cell? ⟨d, 7, none⟩ = some (.bool true) := ⟨m4, mA, m7⟩
          refine headY (v := ?_) (some 111) rfl rfl (Or.inl ⟨by rfl, ?_⟩) hS ?_
          rotate_left
          · rintro W' ⟨s0, s1, s2⟩; go_simp; try with_reducible rfl
          simp only [Act.put, List.setIfInBounds_toArray, List.set_cons_zero, List.set_cons_succ]
          refine headY (v := ?_) (some 112) rfl rfl (Or.inl ⟨by rfl, ?_⟩) hS ?_
          rotate_left
          · rintro W' ⟨s0, s1, s2⟩; go_simp; try with_reducible rfl
          simp only [Act.put, List.setIfInBounds_toArray, List.set_cons_zero, List.set_cons_succ]
          refine headY (v := ?_) (some 113) rfl rfl (Or.inl ⟨by rfl, ?_⟩) hS ?_
          rotate_left
          · rintro W' ⟨s0, s1, s2⟩; go_simp; try with_reducible rfl
          simp only [Act.put, List.setIfInBounds_toArray, List.set_cons_zero, List.set_cons_succ]
          refine headY (v := ?_) (some 114) rfl rfl (Or.inl ⟨by rfl, ?_⟩) hS ?_
          rotate_left
          · rintro W' ⟨s0, s1, s2⟩; go_simp; try with_reducible rfl
          simp only [Act.put, List.setIfInBounds_toArray, List.set_cons_zero, List.set_cons_succ]
          refine headY (v := ?_) (some 115) rfl rfl (Or.inl ⟨by rfl, ?_⟩) hS ?_
          rotate_left
          · rintro W' ⟨s0, s1, s2⟩; go_simp; try with_reducible rfl
          simp only [Act.put, List.setIfInBounds_toArray, List.set_cons_zero, List.set_cons_succ]
          refine headY (v := ?_) (some 116) rfl rfl (Or.inl ⟨by rfl, ?_⟩) hS ?_
          rotate_left
          · rintro W' ⟨s0, s1, s2⟩; go_simp; try with_reducible rfl
          simp only [Act.put, List.setIfInBounds_toArray, List.set_cons_zero, List.set_cons_succ]
          refine headY (v := ?_) (some 117) rfl rfl (Or.inl ⟨by rfl, ?_⟩) hS ?_
          rotate_left
          · rintro W' ⟨s0, s1, s2⟩; go_simp; try with_reducible rfl
          simp only [Act.put, List.setIfInBounds_toArray, List.set_cons_zero, List.set_cons_succ]
          refine headY (v := ?_) (some 118) rfl rfl (Or.inl ⟨by rfl, ?_⟩) hS ?_
          rotate_left
          · rintro W' ⟨s0, s1, s2⟩; go_simp; try with_reducible rfl
          simp only [Act.put, List.setIfInBounds_toArray, List.set_cons_zero, List.set_cons_succ]
          refine headY (v := ?_) (some 119) rfl rfl (Or.inl ⟨by rfl, ?_⟩) hS ?_
          rotate_left
          · rintro W' ⟨s0, s1, s2⟩; go_simp; try with_reducible rfl
          simp only [Act.put, List.setIfInBounds_toArray, List.set_cons_zero, List.set_cons_succ]
          refine headY (v := ?_) (some 120) rfl rfl (Or.inl ⟨by rfl, ?_⟩) hS ?_
          rotate_left
          · rintro W' ⟨s0, s1, s2⟩; go_simp; try with_reducible rfl
          simp only [Act.put, List.setIfInBounds_toArray, List.set_cons_zero, List.set_cons_succ]
          refine headY (v := ?_) (some 121) rfl rfl (Or.inl ⟨by rfl, ?_⟩) hS ?_
          rotate_left
          · rintro W' ⟨s0, s1, s2⟩; go_simp; try with_reducible rfl
          simp only [Act.put, List.setIfInBounds_toArray, List.set_cons_zero, List.set_cons_succ]
          refine headY (v := undef) (some 122) rfl rfl (Or.inr ⟨by rfl, rfl⟩) hS ?_
          simp only [Act.put, List.setIfInBounds_toArray, List.set_cons_zero, List.set_cons_succ]
          refine headY (v := undef) (some 123) rfl rfl (Or.inr ⟨by rfl, rfl⟩) hS ?_
          simp only [Act.put, List.setIfInBounds_toArray, List.set_cons_zero, List.set_cons_succ]
          refine headY (v := undef) (some 124) rfl rfl (Or.inr ⟨by rfl, rfl⟩) hS ?_
          simp only [Act.put, List.setIfInBounds_toArray, List.set_cons_zero, List.set_cons_succ]
          refine headY (v := undef) (some 125) rfl rfl (Or.inr ⟨by rfl, rfl⟩) hS ?_
          simp only [Act.put, List.setIfInBounds_toArray, List.set_cons_zero, List.set_cons_succ]
          refine headY (v := undef) (some 126) rfl rfl (Or.inr ⟨by rfl, rfl⟩) hS ?_
          simp only [Act.put, List.setIfInBounds_toArray, List.set_cons_zero, List.set_cons_succ]
          refine headY (v := ?_) (some 127) rfl rfl (Or.inl ⟨by rfl, ?_⟩) hS ?_
          rotate_left
          · rintro W' ⟨s0, s1, s2⟩; go_simp; try with_reducible rfl
          simp only [Act.put, List.setIfInBounds_toArray, List.set_cons_zero, List.set_cons_succ]
          refine headY (v := ?_) (some 128) rfl rfl (Or.inl ⟨by rfl, ?_⟩) hS ?_
          rotate_left
          · rintro W' ⟨s0, s1, s2⟩; go_simp; try with_reducible rfl
          simp only [Act.put, List.setIfInBounds_toArray, List.set_cons_zero, List.set_cons_succ]
          refine head0 ?_
          simp only [List.drop_succ_cons, List.drop_zero]
          clear hS m0 m4 m7 mA
          go_wp2
          refine NoPanic.normal ?_
          go_wp2
          go_ret
          exact ⟨.bool true, fE, _, lv', ls', _, _, rfl, hrE.out.drew, (show Below w0.heap.size wo wo.drew from ⟨rfl, rfl, rfl, Nat.le_refl _, fun _ _ => rfl⟩) |> hBr.out.trans |>.setCell hpB _, DE.out, hsoE.out, fun k hk => (hfE.out _ (by simp)).trans (hfk.out k hk), .inr ⟨hbig, rfl, rfl⟩⟩

        · skip

          have HM := (D'.marks i hi).2
          have m0 := D'.cellH hr' 0 (by decide)
          have m4 := D'.cellH hr' 4 (by decide)
          have m7 := D'.cell7 hr'
          simp only [List.getElem?_cons_succ, List.getElem?_cons_zero] at m0 m4
          have mA := (D'.outerV hr').at.cellV i (by rw [haz.out]; exact hi)
          have mV := D'.marksV hr' i hi
          have mM := mV.at.cellV node (by rw [List.length_map, HM]; exact hnode)
          have mF := mV.frz node (by rw [List.length_map, HM]; exact hnode)
          rw [hpa.out, hmv.out] at mA
          rw [hmv.out, hpm.out] at mM mF
          obtain ⟨fE, hrE, DE, hfE⟩ := D'.mark hr' i hi node hnode false
          rw [hmv.out, hpm.out] at hrE
          have hpB : w0.heap.size ≤ pm.block := by
            have h := mV.blkB node (by rw [List.length_map, HM]; exact hnode)
            rw [hmv.out, hpm.out] at h
            exact h.2
          generalize vAt ((M' i).map Value.bool) node = mbv at mM
          replace mV := Lib.hid mV
          have hsoE := Lib.hid (hso2.out.mark i node false (by intro h; cases h))
          replace hrE := Lib.hid hrE
          replace hfE := Lib.hid hfE
          replace DE := Lib.hid DE
          replace HM := Lib.hid HM
          replace hBr := Lib.hid hBr
          go_wp2
          refine wp_region_plan (fun w' => w'.cell? ⟨d, 4, none⟩ = some (.slice Aa An Ac) ∧ w'.cell? pa = some (.slice ma mn mc) ∧ w'.cell? ⟨d, 7, none⟩ = some (.bool true)) 18 [(0, true), (1, true), (2, true), (3, true), (4, true), (5, true), (6, true), (7, true), (8, true), (9, true), (10, true), (11, true), (12, true), (13, true), (14, true), (15, true), (16, true), (17, true)] (by kernel_rfl) (by kernel_rfl) ?_
          have hS : wo.drew.cell? ⟨d, 4, none⟩ = some (.slice Aa An Ac) ∧ wo.drew.cell? pa = some (.slice ma mn mc) ∧ wo.drew.cell? ⟨d, 7, none⟩ = some (.bool true) := ⟨m4, mA, m7⟩
          refine headY (v := ?_) (some 111) rfl rfl (Or.inl ⟨by rfl, ?_⟩) hS ?_
          rotate_left
          · rintro W' ⟨s0, s1, s2⟩; go_simp; try with_reducible rfl
          simp only [Act.put, List.setIfInBounds_toArray, List.set_cons_zero, List.set_cons_succ]
          refine headY (v := ?_) (some 112) rfl rfl (Or.inl ⟨by rfl, ?_⟩) hS ?_
          rotate_left
          · rintro W' ⟨s0, s1, s2⟩; go_simp; try with_reducible rfl
          simp only [Act.put, List.setIfInBounds_toArray, List.set_cons_zero, List.set_cons_succ]
          refine headY (v := ?_) (some 113) rfl rfl (Or.inl ⟨by rfl, ?_⟩) hS ?_
          rotate_left
          · rintro W' ⟨s0, s1, s2⟩; go_simp; try with_reducible rfl
          simp only [Act.put, List.setIfInBounds_toArray, List.set_cons_zero, List.set_cons_succ]
          refine headY (v := ?_) (some 114) rfl rfl (Or.inl ⟨by rfl, ?_⟩) hS ?_
          rotate_left
          · rintro W' ⟨s0, s1, s2⟩; go_simp; try with_reducible rfl
          simp only [Act.put, List.setIfInBounds_toArray, List.set_cons_zero, List.set_cons_succ]
          refine headY (v := ?_) (some 115) rfl rfl (Or.inl ⟨by rfl, ?_⟩) hS ?_
          rotate_left
          · rintro W' ⟨s0, s1, s2⟩; go_simp; try with_reducible rfl
          simp only [Act.put, List.setIfInBounds_toArray, List.set_cons_zero, List.set_cons_succ]
          refine headY (v := ?_) (some 116) rfl rfl (Or.inl ⟨by rfl, ?_⟩) hS ?_
          rotate_left
          · rintro W' ⟨s0, s1, s2⟩; go_simp; try with_reducible rfl
          simp only [Act.put, List.setIfInBounds_toArray, List.set_cons_zero, List.set_cons_succ]
          refine headY (v := ?_) (some 117) rfl rfl (Or.inl ⟨by rfl, ?_⟩) hS ?_
          rotate_left
          · rintro W' ⟨s0, s1, s2⟩; go_simp; try with_reducible rfl
          simp only [Act.put, List.setIfInBounds_toArray, List.set_cons_zero, List.set_cons_succ]
          refine headY (v := ?_) (some 118) rfl rfl (Or.inl ⟨by rfl, ?_⟩) hS ?_
          rotate_left
          · rintro W' ⟨s0, s1, s2⟩; go_simp; try with_reducible rfl
          simp only [Act.put, List.setIfInBounds_toArray, List.set_cons_zero, List.set_cons_succ]
          refine headY (v := ?_) (some 119) rfl rfl (Or.inl ⟨by rfl, ?_⟩) hS ?_
          rotate_left
          · rintro W' ⟨s0, s1, s2⟩; go_simp; try with_reducible rfl
          simp only [Act.put, List.setIfInBounds_toArray, List.set_cons_zero, List.set_cons_succ]
          refine headY (v := ?_) (some 120) rfl rfl (Or.inl ⟨by rfl, ?_⟩) hS ?_
          rotate_left
          · rintro W' ⟨s0, s1, s2⟩; go_simp; try with_reducible rfl
          simp only [Act.put, List.setIfInBounds_toArray, List.set_cons_zero, List.set_cons_succ]
          refine headY (v := ?_) (some 121) rfl rfl (Or.inl ⟨by rfl, ?_⟩) hS ?_
          rotate_left
          · rintro W' ⟨s0, s1, s2⟩; go_simp; try with_reducible rfl
          simp only [Act.put, List.setIfInBounds_toArray, List.set_cons_zero, List.set_cons_succ]
          refine headY (v := undef) (some 122) rfl rfl (Or.inr ⟨by rfl, rfl⟩) hS ?_
          simp only [Act.put, List.setIfInBounds_toArray, List.set_cons_zero, List.set_cons_succ]
          refine headY (v := undef) (some 123) rfl rfl (Or.inr ⟨by rfl, rfl⟩) hS ?_
          simp only [Act.put, List.setIfInBounds_toArray, List.set_cons_zero, List.set_cons_succ]
          refine headY (v := undef) (some 124) rfl rfl (Or.inr ⟨by rfl, rfl⟩) hS ?_
          simp only [Act.put, List.setIfInBounds_toArray, List.set_cons_zero, List.set_cons_succ]
          refine headY (v := undef) (some 125) rfl rfl (Or.inr ⟨by rfl, rfl⟩) hS ?_
          simp only [Act.put, List.setIfInBounds_toArray, List.set_cons_zero, List.set_cons_succ]
          refine headY (v := undef) (some 126) rfl rfl (Or.inr ⟨by rfl, rfl⟩) hS ?_
          simp only [Act.put, List.setIfInBounds_toArray, List.set_cons_zero, List.set_cons_succ]
          refine headY (v := ?_) (some 127) rfl rfl (Or.inl ⟨by rfl, ?_⟩) hS ?_
          rotate_left
          · rintro W' ⟨s0, s1, s2⟩; go_simp; try with_reducible rfl
          simp only [Act.put, List.setIfInBounds_toArray, List.set_cons_zero, List.set_cons_succ]
          refine headY (v := ?_) (some 128) rfl rfl (Or.inl ⟨by rfl, ?_⟩) hS ?_
          rotate_left
          · rintro W' ⟨s0, s1, s2⟩; go_simp; try with_reducible rfl
          simp only [Act.put, List.setIfInBounds_toArray, List.set_cons_zero, List.set_cons_succ]
          refine head0 ?_
          simp only [List.drop_succ_cons, List.drop_zero]
          clear hS m0 m4 m7 mA
          go_wp2
          refine NoPanic.normal ?_
          go_wp2
          go_ret
          exact ⟨.bool true, fE, _, lv', ls', _, _, rfl, hrE.out.drew, (show Below w0.heap.size wo wo.drew from ⟨rfl, rfl, rfl, Nat.le_refl _, fun _ _ => rfl⟩) |> hBr.out.trans |>.setCell hpB _, DE.out, hsoE.out, fun k hk => (hfE.out _ (by simp)).trans (hfk.out k hk), .inr ⟨hbig, rfl, rfl⟩⟩

end Go.Proofs.YtbpdmpcakenjhaaDoor

namespace Go.Proofs.YtbpdmpcakenjhaaDoor
open Go.RowKit

theorem on_any (w0 : World) (K N R : Nat) (T ws : List Int) (d : Nat) (va : Option Addr) (vn vc : Nat) (ua : Option Addr) (un uc : Nat) (A : Value) (az : List Value) (most : Nat)
    (hok : RuleOk K R T) (hN : T.length / K = N) (hT256 : T.length ≤ 256) (hm : most ≤ 256) (hwl : ws.length ≤ 256) (hT0 : IntsAt w0 (.slice va vn vc) T) (hW0 : IntsAt w0 (.slice ua un uc) ws) :
    ∀ (n i : Nat), i + n = ws.length → ∀ (f : Names) (M : Nat → List Bool) (lv : Value) (ls : List Value) (LS : List (List Int)) (xv : Value) (xs : List Int) (node : Nat) (w : World), Rows w0.heap.size w f → Below w0.heap.size w0 w →
      DN f d [.int .i64 K, .int .i64 R, .slice va vn vc, .slice ua un uc, A, .int .i64 most] A az ws.length N most M lv ls LS false → Sound K N T ws M → f (4, i) = some (rowI xv xs) → xs.length ≤ 8 + i → node < N →
      Calls Tryd.prog 46 #[.pointer (some ⟨d, 0, none⟩), xv, .int .i64 node, .int .i64 (i : Int)] w (OnPost w0.heap.size K N T ws d [.int .i64 K, .int .i64 R, .slice va vn vc, .slice ua un uc, A, .int .i64 most] A az most f LS ((compl K N T node (ws.drop i)).map (xs ++ ·)) i w) := by
  intro n
  induction n with
  | zero =>
    intro i hin f M lv ls LS xv xs node w hr hb D hso hx hxl hn
    obtain rfl : i = ws.length := by omega
    exact on_end w0.heap.size K N R T ws d _ ua un uc A az most f M lv ls LS xv xs node w hb.size hr (hW0.below hb) D hso hx (by omega) hm
  | succ n ih =>
    intro i hin f M lv ls LS xv xs node w hr hb D hso hx hxl hn
    exact on_step w0 K N R T ws d va vn vc ua un uc A az most i (by omega) hok hN hT256 hwl hT0 hW0 (ih (i + 1) (by omega)) f M lv ls LS xv xs node w hr hb D hso hx hxl hn
end Go.Proofs.YtbpdmpcakenjhaaDoor

namespace Go.Proofs.YtbpdmpcakenjhaaDoor
open Go.RowKit
set_option maxRecDepth 100000

theorem run_makeV {T E : TypeId} {z : Value} {b : Nat} (oc : OneCell T E z b) (C : Int) (n : Nat) (w : World) (hC : C = n) (hn : n ≤ 4398046511104) :
    ∃ v w', (Instr.makeSlice T (.int .i64 C) (.int .i64 C)).run Tryd.prog w = .ok v w' ∧ OwnV E w.heap.size w' v (List.replicate n z) ∧ Below w.heap.size w w' := by
  subst hC
  obtain ⟨i, hi, hz0, hz1, hz2⟩ := info_parts oc.hi
  have hb := oc.hb
  obtain ⟨w', hrun, r1, r2⟩ := run_make_full (P := Tryd.prog) w w.heap.size T E i z 1 oc.ht hi hz0 hz1 .i64 .i64 n (by
    rw [hz2]
    calc b * n ≤ 32 * 4398046511104 := Nat.mul_le_mul hb (by omega)
      _ ≤ _ := by decide) (by unfold maxLen; omega) (Nat.le_refl _)
  refine ⟨_, w', hrun, ?_, (Below.refl _ _).grown r2 (Nat.le_refl _) (by intro k hk; cases hk)⟩
  rw [oc.hz, toList_madeCells_one] at r1
  simpa [OwnV] using r1

theorem before_bad (r : Nat → Addr) (k R : Int) (va : Option Addr) (vn vc : Nat) (T : List Int) (u : Value) (ws : List Int) (t : Int × List (ByteArray × Int)) (w : World) (hg : Glob r w) (h : IntsAt w (.slice va vn vc) T) (hu : IntsAt w u ws) (hc : overP k R T ws 256 = some t) :
    Calls Tryd.prog 14 #[.agg #[.int .i64 k, .int .i64 R, .slice va vn vc], u, .int .i64 256] w (Ret3 (fun x y z w' => x = .slice none 0 0 ∧ y = .bool false ∧ ErrIs r w' (some t) z) w) := by
  have b0 := belowAlloc w (.cells #[.int .i64 k, .int .i64 R, .slice va vn vc] 24)
  obtain ⟨a1, n1, c1, rfl⟩ := hu.shape
  replace hg := Lib.hid (hg.below b0)
  replace h := Lib.hid (h.below b0)
  replace hu := Lib.hid (hu.below b0)
  replace hc := Lib.hid hc
  go_enter Tryd.func14, Tryd.ntmps14
  go_wp2_with fail
  refine (over_check r k R va vn vc T _ ws 256 _ hg.out h.out hu.out).mono ?_
  rintro e w1 ⟨x, rfl, b1, he⟩
  rw [hc.out] at he
  obtain ⟨T1, a1, rfl⟩ := ErrIs.some_shape he
  replace he := Lib.hid he
  go_wp2
  go_ret3
  exact ⟨_, _, _, rfl, Below.step b0 b1, rfl, rfl, he.out⟩

/-- While d.at is filled. -/
def BefInv1 (w0 : World) (N L d : Nat) (hd : List Value) (A : Value) (i : Nat) (w : World) : Prop :=
  Below w0.heap.size w0 w ∧ hd.length = 6 ∧ hd[4]? = some A ∧ ∃ f az, Rows w0.heap.size w f ∧ f (0, 0) = some ⟨70, 8, .slice (some ⟨d, 0, none⟩) 1 1, 1, hd ++ [Value.slice none 0 0, Value.bool false]⟩ ∧ f (5, 0) = some (rowV 45 A az) ∧ az.length = L ∧
    ∀ j, j < i → f (2, j) = some (rowV 4 (vAt az j) (List.replicate N (.bool false)))
theorem BefInv1.drew {w0 : World} {N L d : Nat} {hd : List Value} {A : Value} {i : Nat} {w : World} (h : BefInv1 w0 N L d hd A i w) : BefInv1 w0 N L d hd A i w.drew := by
  obtain ⟨h1, h2, h3, f, az, h4, h5⟩ := h
  exact ⟨h1.drew, h2, h3, f, az, h4.drew, h5⟩
theorem BefInv1.cell4 {w0 : World} {N L d : Nat} {hd : List Value} {A : Value} {i : Nat} {w : World} (h : BefInv1 w0 N L d hd A i w) : w.cell? ⟨d, 4, none⟩ = some A := by
  obtain ⟨h1, h2, h3, f, az, h4, h5, _⟩ := h
  rw [h4.cell h5 (g := d) (cap := 1) rfl 4 (by simp), List.getElem?_append_left (by rw [h2]; decide), h3]
theorem BefInv1.idx {w0 : World} {N L d : Nat} {hd : List Value} {A : Value} {i : Nat} {w : World} (h : BefInv1 w0 N L d hd A i w) (hi : i < L) (w' : World) :
    (Instr.indexAt 68 A (.int .i64 i)).run Tryd.prog w' = .ok (.pointer (some (valAt A i))) w' := by
  obtain ⟨h1, h2, h3, f, az, h4, h5, h6, h7, _⟩ := h
  exact (h4.ownV h6).at.idx oneBoolss i (by omega) w'
theorem BefInv1.step {w0 : World} {N L d : Nat} {hd : List Value} {A mv : Value} {i : Nat} {w w4 : World} (h : BefInv1 w0 N L d hd A i w) (hi : i < L) (hb : Below w.heap.size w w4) (hm : OwnV 4 w.heap.size w4 mv (List.replicate N (.bool false))) :
    (∃ u, w4.cell? (valAt A i) = some u) ∧ w4.frozen? (valAt A i) = false ∧ BefInv1 w0 N L d hd A (i + 1) (w4.setCell (valAt A i) mv) := by
  obtain ⟨h1, h2, h3, f, az, h4, h5, h6, h7, h8⟩ := h
  have r1 := h4.add (i := (2, i)) (r' := rowV 4 mv (List.replicate N (.bool false))) hb (hm.mono h1.size) (fun k hk => (hm.lt k hk).1)
  have e6 : upd f (2, i) (some (rowV 4 mv (List.replicate N (.bool false)))) (5, 0) = some (rowV 45 A az) := by rw [upd_ne _ _ (by simp)]; exact h6
  have hil : i < az.length := by omega
  have hv := r1.ownV e6
  have r2 := r1.setV e6 i hil mv
  refine ⟨⟨_, hv.at.cellV i hil⟩, hv.frz i hil, (h1.trans (hb.mono h1.size)).setCell (hv.blkB i hil).2 mv, h2, h3, _, _, r2, ?_, upd_same _ _ _, by simpa using h7, fun j hj => ?_⟩
  · rw [upd_ne _ _ (by simp), upd_ne _ _ (by simp)]; exact h5
  · rw [upd_ne _ _ (by simp)]
    by_cases e : j = i
    · subst e
      rw [upd_same]
      simp [vAt, List.getD, hil]
    · rw [upd_ne _ _ (by simp [e]), h8 j (by omega)]
      simp [vAt, List.getD, Ne.symm e]
theorem below_drewN' {B : Nat} {w w' : World} (h : Below B w w') (n : Nat) : Below B w (w'.drewN n) := ⟨h.os, h.tape, h.output, h.size, h.block⟩
theorem Rows.empty (B : Nat) (w : World) : Rows B w (fun _ => none) := by
  refine ⟨?_, ?_⟩
  · intro i r h; cases h
  · intro i j r s h; cases h
theorem dead_rows {w0 w2 : World} {N L : Nat} {A : Value} (hd : List Value) (h6 : hd.length = 6) (hA : OwnV 45 w0.heap.size w2 A (List.replicate L (.slice none 0 0))) (hb : Below w0.heap.size w0 w2) {cs : Array Value} (hcs : cs.toList = hd ++ [Value.slice none 0 0, Value.bool false]) (h4 : hd[4]? = some A) :
    BefInv1 w0 N L w2.heap.size hd A 0 (w2.alloc (.cells cs 70)) := by
  have r1 := (Rows.empty w0.heap.size w0).add (i := (5, 0)) (r' := rowV 45 A (List.replicate L (.slice none 0 0))) hb hA (fun k hk => (hA.lt k hk).1)
  have hlit := World.ownsRow_lit (base := w0.heap.size) (e := 70) (size := 8) w2 cs 1 hb.size (by unfold maxLen; omega) (by rw [← Array.length_toList, hcs]; simp [h6])
  rw [hcs] at hlit
  have r2 := r1.add (i := (0, 0)) (r' := ⟨70, 8, .slice (some ⟨w2.heap.size, 0, none⟩) 1 1, 1, hd ++ [Value.slice none 0 0, Value.bool false]⟩) (belowAlloc w2 (.cells cs 70)) hlit (fun k hk => by
    have : w2.heap.size = k := by simpa [Value.ownBlock] using hk
    omega)
  refine ⟨hb.alloc hb.size _, h6, h4, _, _, r2, upd_same _ _ _, by rw [upd_ne _ _ (by simp), upd_same], by simp, fun j hj => by omega⟩
theorem keep4 {w w' : World} {a0 a1 a2 a3 : Addr} {u0 u1 u2 u3 : Value} (h : w.cell? a0 = some u0 ∧ w.cell? a1 = some u1 ∧ w.cell? a2 = some u2 ∧ w.cell? a3 = some u3) (hb : Below w.heap.size w w') :
    w'.cell? a0 = some u0 ∧ w'.cell? a1 = some u1 ∧ w'.cell? a2 = some u2 ∧ w'.cell? a3 = some u3 := by
  obtain ⟨h0, h1, h2, h3⟩ := h
  have k : ∀ {a : Addr} {u : Value}, w.cell? a = some u → w'.cell? a = some u := fun {a u} h => (hb.cell (World.block_lt_of_cell? _ _ h)).trans h
  exact ⟨k h0, k h1, k h2, k h3⟩

/-- While the nodes are gone through. -/
def BefInv2 (w0 : World) (K N R d : Nat) (T ws : List Int) (hd : List Value) (A : Value) (bv : Value) (node : Nat) (w : World) : Prop :=
  Below w0.heap.size w0 w ∧ ∃ f az M lv ls LS more xs, Rows w0.heap.size w f ∧ DN f d hd A az ws.length N 256 M lv ls LS more ∧ Sound K N T ws M ∧ f (4, 0) = some (rowI bv xs) ∧ (node < N → xs = digs K (2 * R) node) ∧ (more = false → LS = allBefore K R T ws node)
theorem BefInv1.two {w0 : World} {K N R d : Nat} {T ws : List Int} {hd : List Value} {A bv : Value} {w w' : World} (h : BefInv1 w0 N ws.length d hd A ws.length w) (hb : Below w.heap.size w w') (ho : OwnI w.heap.size w' bv (List.replicate (2 * R) 0)) : BefInv2 w0 K N R d T ws hd A bv 0 w' := by
  obtain ⟨h1, h2, h3, f, az, h4, h5, h6, h7, h8⟩ := h
  have r1 := h4.add (i := (4, 0)) (r' := rowI bv (List.replicate (2 * R) 0)) hb (ho.mono h1.size) (fun k hk => (ho.lt k hk).1)
  have r2 := r1.add (i := (1, 0)) (r' := rowV 22 (.slice none 0 0) []) (Below.refl _ _) (OwnV.nil 22 w0.heap.size w') (fun k hk => by cases hk)
  refine ⟨h1.trans (hb.mono h1.size), _, az, fun _ => List.replicate N false, .slice none 0 0, [], [], false, List.replicate (2 * R) 0, r2, ⟨?_, h2, ?_, h7, fun i hi => ?_, upd_same _ _ _, rfl, fun j hj => by simp at hj, by simp⟩, fun i node _ hm => ?_, ?_, fun _ => (digs_zero K (2 * R)).symm, fun _ => rfl⟩
  · rw [upd_ne _ _ (by simp), upd_ne _ _ (by simp)]; exact h5
  · rw [upd_ne _ _ (by simp), upd_ne _ _ (by simp)]; exact h6
  · rw [upd_ne _ _ (by simp), upd_ne _ _ (by simp), h8 i hi]; simp
  · rw [List.getElem?_replicate] at hm; split at hm <;> cases hm
  · rw [upd_ne _ _ (by simp), upd_same]

/-- What Before tells. -/
def BefPost (K R : Nat) (T ws : List Int) (x y : Value) (w' : World) : Prop :=
  ∃ (ls : List Value) (LS : List (List Int)) (more : Bool), y = .bool more ∧ ValsAt w' x ls ∧ ls.length = LS.length ∧ LS.length ≤ 256 ∧ (∀ j, j < ls.length → IntsAt w' (vAt ls j) (LS.getD j [])) ∧ (more = false → LS = allBefore K R T ws (pw K (2 * R)))

set_option maxHeartbeats 4000000 in
theorem before_ok (r : Nat → Addr) (K R : Nat) (va : Option Addr) (vn vc : Nat) (T : List Int) (u : Value) (ws : List Int) (w : World) (hg : Glob r w) (h : IntsAt w (.slice va vn vc) T) (hu : IntsAt w u ws) (hok : RuleOk K R T) (hc : overP K R T ws 256 = none) (hT256 : T.length ≤ 256) (hwl : ws.length ≤ 256) :
    Calls Tryd.prog 14 #[.agg #[.int .i64 K, .int .i64 R, .slice va vn vc], u, .int .i64 256] w (Ret3 (fun x y z w' => z = .nilIface ∧ BefPost K R T ws x y w') w) := by
  have b0 := belowAlloc w (.cells #[.int .i64 K, .int .i64 R, .slice va vn vc] 24)
  have q : Box3 (w.alloc (.cells #[.int .i64 K, .int .i64 R, .slice va vn vc] 24)) w.heap.size (.int .i64 K) (.int .i64 R) (.slice va vn vc) := by simp [Box3, go_sem]
  obtain ⟨ua, un, uc, rfl⟩ := hu.shape
  have lw := hu.len
  replace hg := Lib.hid (hg.below b0)
  replace h := Lib.hid (h.below b0)
  replace hu := Lib.hid (hu.below b0)
  replace hc := Lib.hid hc
  have hk1 := hok.k1
  have hk4 := hok.k4
  have hR := hok.r3
  replace hok := Lib.hid hok
  go_enter Tryd.func14, Tryd.ntmps14
  go_wp2_with fail
  refine (over_check r K R va vn vc T _ ws 256 _ hg.out h.out hu.out).mono ?_
  rintro e w1 ⟨x, rfl, b1, he⟩
  rw [hc.out] at he
  obtain rfl := he.none_eq
  clear he
  go_wp2
  refine wp_region_plan (fun w' => w'.cell? ⟨w.heap.size, 0, none⟩ = some (.int .i64 K) ∧ w'.cell? ⟨w.heap.size, 1, none⟩ = some (.int .i64 R) ∧ w'.cell? ⟨w.heap.size, 2, none⟩ = some (.slice va vn vc)) 8 [(0, true), (1, true), (2, true), (3, true), (4, true), (5, false), (6, true), (7, false)] (by kernel_rfl) (by kernel_rfl) ?_
  obtain ⟨w0, hw0⟩ : ∃ w0, w0 = w1.drew := ⟨_, rfl⟩
  rw [← hw0]
  have q0 : Box3 w0 w.heap.size (.int .i64 K) (.int .i64 R) (.slice va vn vc) := by rw [hw0]; exact (q.below b1).drew
  have hT0 := Lib.hid (show IntsAt w0 (.slice va vn vc) T by rw [hw0]; exact (h.out.below b1).drew)
  have hW0 := Lib.hid (show IntsAt w0 (.slice ua un uc) ws by rw [hw0]; exact (hu.out.below b1).drew)
  have hB0 := Lib.hid (show Below w.heap.size w w0 by rw [hw0]; exact (Below.step b0 b1).drew)
  have hlt0 : w.heap.size < w0.heap.size := World.block_lt_of_cell? _ _ q0.1.1
  clear hw0
  obtain ⟨A, w2, hmk, hA, hb8⟩ := run_makeV oneBoolss (ws.length : Int) ws.length w0 rfl (by omega)
  obtain ⟨Aa, An, Ac, rfl⟩ := hA.shape
  have hS := q0.1
  refine headY (v := ?_) (some 30) rfl rfl (Or.inl ⟨by rfl, ?_⟩) hS ?_
  rotate_left
  · rintro W' ⟨s0, s1, s2⟩; go_simp; try with_reducible rfl
  simp only [Act.put, List.setIfInBounds_toArray, List.set_cons_zero, List.set_cons_succ]
  refine headY (v := ?_) (some 31) rfl rfl (Or.inl ⟨by rfl, ?_⟩) hS ?_
  rotate_left
  · rintro W' ⟨s0, s1, s2⟩; go_simp; try with_reducible rfl
  simp only [Act.put, List.setIfInBounds_toArray, List.set_cons_zero, List.set_cons_succ]
  refine headY (v := ?_) (some 32) rfl rfl (Or.inl ⟨by rfl, ?_⟩) hS ?_
  rotate_left
  · rintro W' ⟨s0, s1, s2⟩; go_simp; try with_reducible rfl
  simp only [Act.put, List.setIfInBounds_toArray, List.set_cons_zero, List.set_cons_succ]
  refine headY (v := ?_) (some 33) rfl rfl (Or.inl ⟨by rfl, ?_⟩) hS ?_
  rotate_left
  · rintro W' ⟨s0, s1, s2⟩; go_simp; try with_reducible rfl
  simp only [Act.put, List.setIfInBounds_toArray, List.set_cons_zero, List.set_cons_succ]
  refine headY (v := ?_) (some 34) rfl rfl (Or.inl ⟨by rfl, ?_⟩) hS ?_
  rotate_left
  · rintro W' ⟨s0, s1, s2⟩; go_simp; try with_reducible rfl
  simp only [Act.put, List.setIfInBounds_toArray, List.set_cons_zero, List.set_cons_succ]
  refine headC rfl (fun KK hK => ?_)
  go_simp
  have hS8 := keep3 hb8 hS
  refine hK _ _ hS8 ?_
  clear hK KK
  refine headY (v := ?_) (some 36) rfl rfl (Or.inl ⟨by rfl, ?_⟩) hS8 ?_
  rotate_left
  · rintro W' ⟨s0, s1, s2⟩; go_simp; try with_reducible rfl
  simp only [Act.put, List.setIfInBounds_toArray, List.set_cons_zero, List.set_cons_succ]
  refine headC rfl (fun KK hK => ?_)
  go_simp
  refine hK _ _ (keep3 (belowAlloc _ _) hS8) ?_
  clear hK KK

  refine head0 ?_
  simp only [List.drop_succ_cons, List.drop_zero]
  obtain ⟨W, hWe⟩ : ∃ W : World, W = w2.alloc (.cells #[.int .i64 K, .int .i64 R, .slice va vn vc, .slice ua un uc, .slice Aa An Ac, .int .i64 256, .slice none 0 0, .bool false] 70) := ⟨_, rfl⟩
  rw [← hWe]
  have hI := dead_rows (N := T.length / K) [.int .i64 K, .int .i64 R, .slice va vn vc, .slice ua un uc, .slice Aa An Ac, .int .i64 256] rfl hA hb8 (cs := #[.int .i64 K, .int .i64 R, .slice va vn vc, .slice ua un uc, .slice Aa An Ac, .int .i64 256, .slice none 0 0, .bool false]) rfl rfl
  rw [← hWe] at hI
  have lA := fun w' => hA.at.len oneBoolss 3 w'
  rw [List.length_replicate] at lA
  have hB0W := hI.1
  have mA := hI.cell4
  have q0W := q0.belowB hB0W hlt0
  clear hS hS8 hmk hA hb8
  generalize w2.heap.size = d at *
  obtain ⟨N, hN⟩ : ∃ N, T.length / K = N := ⟨_, rfl⟩
  rw [hN] at hI
  have hNl : N ≤ 256 := by rw [← hN]; exact Nat.le_trans (Nat.div_le_self _ _) hT256
  have hNp : N = pw K (2 * R) := by rw [← hN]; exact hok.out.half.1
  have hN1 : 1 ≤ N := by rw [hNp]; exact pw_pos _ hk1
  replace hN := Lib.hid hN
  replace hNp := Lib.hid hNp
  replace hWe := Lib.hid hWe
  obtain ⟨y0, y1, y2⟩ := q0W.1
  go_wp2
  refine NoPanic.normal ?_
  go_wp2
  clear y0 y1 y2 mA
  go_loopw [43] (fun iv wr => ∃ i : Nat, i ≤ ws.length ∧ iv = .int .i64 i ∧ BefInv1 w0 N ws.length d [.int .i64 K, .int .i64 R, .slice va vn vc, .slice ua un uc, .slice Aa An Ac, .int .i64 256] (.slice Aa An Ac) i wr) (fun iv _ => ws.length - (intOf iv).toNat)
  case atStart => exact ⟨0, by omega, rfl, hI⟩
  case round =>
    obtain ⟨i, hi, rfl, hI⟩ := hrel
    obtain ⟨wo, rfl⟩ : ∃ wo : World, wo = wr := ⟨_, rfl⟩
    by_cases hlt : i < ws.length
    · go_wp2
      refine wp_region_plan (fun w' => w'.cell? ⟨w.heap.size, 0, none⟩ = some (.int .i64 K) ∧ w'.cell? ⟨w.heap.size, 1, none⟩ = some (.int .i64 R) ∧ w'.cell? ⟨w.heap.size, 2, none⟩ = some (.slice va vn vc) ∧ w'.cell? ⟨d, 4, none⟩ = some (.slice Aa An Ac)) 9 [(0, true), (1, true), (2, true), (3, true), (4, true), (5, true), (6, false), (7, false), (8, true)] (by kernel_rfl) (by kernel_rfl) ?_
      obtain ⟨W3, hW3⟩ : ∃ W3 : World, W3 = wo.drew := ⟨_, rfl⟩
      rw [← hW3]
      have hI3 : BefInv1 w0 N ws.length d [.int .i64 K, .int .i64 R, .slice va vn vc, .slice ua un uc, .slice Aa An Ac, .int .i64 256] (.slice Aa An Ac) i W3 := by rw [hW3]; exact hI.drew
      replace hW3 := Lib.hid hW3
      have hB3 := hI3.1
      have iA := hI3.idx hlt
      have hS : W3.cell? ⟨w.heap.size, 0, none⟩ = some (.int .i64 K) ∧ W3.cell? ⟨w.heap.size, 1, none⟩ = some (.int .i64 R) ∧ W3.cell? ⟨w.heap.size, 2, none⟩ = some (.slice va vn vc) ∧ W3.cell? ⟨d, 4, none⟩ = some (.slice Aa An Ac) :=
        have q3 := (q0.belowB hB3 hlt0).1
        ⟨q3.1, q3.2.1, q3.2.2, hI3.cell4⟩
      have hS6 := keep4 hS (belowAlloc W3 (.cells #[.int .i64 K, .int .i64 R, .slice va vn vc] 24))
      obtain ⟨mv, w4, hmk2, hm2, hb4⟩ := run_makeV oneBools (N : Int) N (W3.alloc (.cells #[.int .i64 K, .int .i64 R, .slice va vn vc] 24)) rfl (by omega)
      have hS12 := keep4 hS6 hb4
      have hb5 := Below.step (belowAlloc W3 (.cells #[.int .i64 K, .int .i64 R, .slice va vn vc] 24)) hb4
      obtain ⟨ma, mn, mc, rfl⟩ := hm2.shape
      obtain ⟨⟨ov, hov⟩, hof, hIn⟩ := hI3.step hlt hb5 (hm2.mono (by simp))
      generalize valAt (.slice Aa An Ac) i = pa at iA hov hof hIn
      clear hI
      refine headY (v := ?_) (some 46) rfl rfl (Or.inl ⟨by rfl, ?_⟩) hS ?_
      rotate_left
      · rintro W' ⟨s0, s1, s2, s3⟩; go_simp; try with_reducible rfl
      simp only [Act.put, List.setIfInBounds_toArray, List.set_cons_zero, List.set_cons_succ]
      refine headY (v := ?_) (some 47) rfl rfl (Or.inl ⟨by rfl, ?_⟩) hS ?_
      rotate_left
      · rintro W' ⟨s0, s1, s2, s3⟩; go_simp; try with_reducible rfl
      simp only [Act.put, List.setIfInBounds_toArray, List.set_cons_zero, List.set_cons_succ]
      refine headY (v := ?_) (some 48) rfl rfl (Or.inl ⟨by rfl, ?_⟩) hS ?_
      rotate_left
      · rintro W' ⟨s0, s1, s2, s3⟩; go_simp; try with_reducible rfl
      simp only [Act.put, List.setIfInBounds_toArray, List.set_cons_zero, List.set_cons_succ]
      refine headY (v := ?_) (some 49) rfl rfl (Or.inl ⟨by rfl, ?_⟩) hS ?_
      rotate_left
      · rintro W' ⟨s0, s1, s2, s3⟩; go_simp; try with_reducible rfl
      simp only [Act.put, List.setIfInBounds_toArray, List.set_cons_zero, List.set_cons_succ]
      refine headY (v := ?_) (some 50) rfl rfl (Or.inl ⟨by rfl, ?_⟩) hS ?_
      rotate_left
      · rintro W' ⟨s0, s1, s2, s3⟩; go_simp; try with_reducible rfl
      simp only [Act.put, List.setIfInBounds_toArray, List.set_cons_zero, List.set_cons_succ]
      refine headY (v := ?_) (some 51) rfl rfl (Or.inl ⟨by rfl, ?_⟩) hS ?_
      rotate_left
      · rintro W' ⟨s0, s1, s2, s3⟩; go_simp; try with_reducible rfl
      simp only [Act.put, List.setIfInBounds_toArray, List.set_cons_zero, List.set_cons_succ]
      refine headC rfl (fun KK hK => ?_)
      go_simp
      refine (over_nodes K R va vn vc T _ (hT0.out.below hB3) (by omega) (by omega)).mono ?_
      rintro e W4 ⟨rfl, rfl⟩
      rw [hN.out]
      refine hK _ _ hS6 ?_
      clear hK KK
      refine headC rfl (fun KK hK => ?_)
      go_simp
      refine hK _ _ hS12 ?_
      clear hK KK
      refine headY (v := ?_) (some 54) rfl rfl (Or.inl ⟨by rfl, ?_⟩) hS12 ?_
      rotate_left
      · rintro W' ⟨s0, s1, s2, s3⟩; go_simp; try with_reducible rfl
      simp only [Act.put, List.setIfInBounds_toArray, List.set_cons_zero, List.set_cons_succ]

      refine head0 ?_
      simp only [List.drop_succ_cons, List.drop_zero]
      clear hS hS6 hS12 hmk2
      replace hIn := Lib.hid hIn
      replace hI3 := Lib.hid hI3
      go_wp2
      refine NoPanic.normal ?_
      go_wp2
      go_roundw
      case rel => exact ⟨i + 1, by omega, by go_num, hIn.out⟩
      case measure => simp [intOf]; omega
    · obtain rfl : i = ws.length := by omega
      obtain ⟨bv, w5, hmk3, hbo, hb5⟩ := run_makeI (2 * (R : Int)) (2 * R) wo (by omega) (by omega)
      have q1 := (q0.belowB hI.1 hlt0).1
      obtain ⟨y0, y1, y2⟩ := q1
      have hI2 : BefInv2 w0 K N R d T ws [.int .i64 K, .int .i64 R, .slice va vn vc, .slice ua un uc, .slice Aa An Ac, .int .i64 256] (.slice Aa An Ac) bv 0 w5 := hI.two hb5 hbo
      replace hI := Lib.hid hI
      replace hI2 := Lib.hid hI2
      replace hbo := Lib.hid hbo
      clear lA
      go_wp2
      clear y0 y1 y2 hmk3
      go_loopw [12, 13] (fun bv' nv wr => ∃ (node : Nat) (bw : Value), node ≤ N ∧ nv = .int .i64 node ∧ bw = bv' ∧ BefInv2 w0 K N R d T ws [.int .i64 K, .int .i64 R, .slice va vn vc, .slice ua un uc, .slice Aa An Ac, .int .i64 256] (.slice Aa An Ac) bw node wr) (fun _ nv _ => N - (intOf nv).toNat)
      case atStart => exact ⟨0, bv, by omega, rfl, rfl, hI2.out⟩
      case round =>
        obtain ⟨node, bw, hno, rfl, rfl, hBn, f, az, M, lv, ls, LS, more, xs, hr, D, hso, hx, hdg, hall⟩ := hrel
        obtain ⟨wp, rfl⟩ : ∃ wp : World, wp = wr := ⟨_, rfl⟩
        have hqn := (q0.belowB hBn hlt0)
        obtain ⟨y0, y1, y2⟩ := hqn.1
        have hqA := hqn.alloc (.cells #[.int .i64 K, .int .i64 R, .slice va vn vc] 24)
        have hbA := belowAlloc wp (.cells #[.int .i64 K, .int .i64 R, .slice va vn vc] 24)
        obtain ⟨WA, hWA⟩ : ∃ WA : World, WA = wp.alloc (.cells #[.int .i64 K, .int .i64 R, .slice va vn vc] 24) := ⟨_, rfl⟩
        rw [← hWA] at hbA hqA
        replace hWA := Lib.hid hWA
        have m7 := D.cell7 (hr.below hbA)
        have m6 := D.cell6 (hr.below hbA)
        have hBA := hBn.trans (hbA.mono hBn.size)
        replace hso := Lib.hid hso
        replace hdg := Lib.hid hdg
        replace hall := Lib.hid hall
        replace hx := Lib.hid hx
        clear hI hI2 hbo
        by_cases hlt : node < N
        · cases more with
          | false =>
            have hxs := hdg.out hlt
            subst hxs
            have hLS := hall.out rfl
            subst hLS
            have hon := on_any w0 K N R T ws d va vn vc ua un uc (.slice Aa An Ac) az 256 hok.out hN.out hT256 (by omega) hwl hT0.out hW0.out ws.length 0 (by omega) f M lv ls _ bw (digs K (2 * R) node) node _ (hr.below hbA) hBA D hso.out hx.out (by rw [digs_length]; omega) hlt
            rw [List.drop_zero] at hon
            replace hon := Lib.hid hon
            go_wp2_with fail
            refine (over_nodes K R va vn vc T _ (hT0.out.below hBn) (by omega) (by omega)).mono ?_
            rintro e W3 ⟨rfl, hW3⟩
            rw [hN.out, hW3, ← hWA.out]
            clear y0 y1 y2 hW3
            go_wp2_with fail
            refine hon.out.mono ?_
            rintro e w6 ⟨ret, f6, M6, lv6, ls6, LS6, more6, rfl, hr6, hB6, D6, hso6, hfk6, hst6⟩
            have hB06 := hBA.trans hB6
            have hx6 := (hfk6 0 (Nat.le_refl _)).trans hx.out
            have hall6 : more6 = false → LS6 = allBefore K R T ws (node + 1) := by
              intro hm
              rcases hst6 with ⟨_, e1, _, _⟩ | ⟨_, e2, _⟩
              · rw [e1, allBefore_succ, hNp.out]
              · rw [e2] at hm; cases hm
            clear hst6 m6 m7
            obtain ⟨y0, y1, y2⟩ := (q0.belowB hB06 hlt0).1
            replace hall6 := Lib.hid hall6
            replace hfk6 := Lib.hid hfk6
            replace hso6 := Lib.hid hso6
            replace hx6 := Lib.hid hx6
            by_cases hR0 : 0 < 2 * R
            · have hxo := hr6.ownI hx6.out
              go_wp2_with fail
              refine (word_next_digs K (2 * R) node bw _ hxo.at hk1 hk4 (by omega) (by rw [← hNp.out]; exact hlt)).mono ?_
              rintro e w7 ⟨o, _, rfl, hb7, rfl, zs, hoz, hz⟩
              have r7 := hr6.add (i := (4, 0)) (r' := rowI o zs) hb7 (hoz.mono hB06.size) (fun k hk => (hoz.lt k hk).1)
              have D7 := D6.congr (f' := upd f6 (4, 0) (some (rowI o zs))) (fun j hj => upd_ne _ _ (fun e => hj (by rw [e])))
              have hB07 := hB06.trans (hb7.mono hB06.size)
              replace r7 := Lib.hid r7
              replace hoz := Lib.hid hoz
              replace hz := Lib.hid hz
              clear y0 y1 y2
              go_wp2
              go_roundw
              case rel => exact ⟨node + 1, _, by omega, by go_num, rfl, hB07, _, az, M6, lv6, ls6, LS6, more6, zs, r7.out, D7, hso6.out, upd_same _ _ _, fun h => hz.out (by rw [← hNp.out]; exact h), hall6.out⟩
              case measure => simp [intOf]; omega
            · have hN1 : N = 1 := by rw [hNp.out, show 2 * R = 0 by omega]; rfl
              go_wp2
              go_roundw
              case rel => exact ⟨node + 1, _, by omega, by go_num, rfl, hB06, f6, az, M6, lv6, ls6, LS6, more6, _, hr6, D6, hso6.out, hx6.out, fun h => by omega, hall6.out⟩
              case measure => simp [intOf]; omega
          | true =>
            go_wp2_with fail
            refine (over_nodes K R va vn vc T _ (hT0.out.below hBn) (by omega) (by omega)).mono ?_
            rintro e W3 ⟨rfl, hW3⟩
            rw [hN.out, hW3, ← hWA.out]
            clear y0 y1 y2 hW3
            go_wp2
            go_quiet (fail)
            go_wp2
            go_ret3
            refine ⟨_, _, _, rfl, hB0.out.trans (below_drewN' (hBA.mono (Nat.le_of_lt hlt0)) nq), rfl, ls, LS, true, rfl, (D.listV ((hr.below hbA).drewN nq)).at, D.llen, D.lmost, fun j hj => (((hr.below hbA).drewN nq).ownI (D.items j hj)).at, fun h => by cases h⟩
        · obtain rfl : node = N := by omega
          go_wp2_with fail
          refine (over_nodes K R va vn vc T _ (hT0.out.below hBn) (by omega) (by omega)).mono ?_
          rintro e W3 ⟨rfl, hW3⟩
          rw [hN.out, hW3, ← hWA.out]
          clear y0 y1 y2 hW3
          go_wp2
          go_quiet (fail)
          go_wp2
          go_ret3
          refine ⟨_, _, _, rfl, hB0.out.trans (below_drewN' (hBA.mono (Nat.le_of_lt hlt0)) nq), rfl, ls, LS, more, rfl, (D.listV ((hr.below hbA).drewN nq)).at, D.llen, D.lmost, fun j hj => (((hr.below hbA).drewN nq).ownI (D.items j hj)).at, fun h => by rw [hall.out h, hNp.out]⟩
end Go.Proofs.YtbpdmpcakenjhaaDoor

namespace Go.Proofs.YtbpdmpcakenjhaaDoor
open Go.RowKit
set_option maxRecDepth 100000

set_option maxHeartbeats 800000 in
theorem step_ok (K R : Nat) (va : Option Addr) (vn vc : Nat) (T : List Int) (u : Value) (ys : List Int) (w : World) (h : IntsAt w (.slice va vn vc) T) (hr : RuleOk K R T) (hu : IntsAt w u ys) (hy : Syms K ys) (hyl : ys.length ≤ 4096) :
    Calls Tryd.prog 12 #[.agg #[.int .i64 K, .int .i64 R, .slice va vn vc], u] w (Ret2 (fun x y w' => OwnI w.heap.size w' x (imgP K R T ys) ∧ y = .nilIface) w) := by
  have hb0 := belowAlloc w (.cells #[.int .i64 K, .int .i64 R, .slice va vn vc] 24)
  have hR := hr.r3
  have hk1 := hr.k1
  have hk4 := hr.k4
  have hlen := hr.len_le
  have hlp := hr.len_pos
  have hlT := Lib.hid hr.len
  have l1 := hu.len
  have lT := h.len
  have hodd := Lib.hid hy.odd
  replace h := Lib.hid (h.below hb0)
  replace hu := Lib.hid (hu.below hb0)
  replace hr := Lib.hid hr
  replace hy := Lib.hid hy
  obtain ⟨ua, un, uc, rfl⟩ := hu.out.shape
  have hL0 : ((T.length : Int) == 0) = false := by rw [beq_eq_false_iff_ne]; omega
  have hL1 : ¬ (T.length : Int) = 0 := by omega
  have hL2 : (0 : Int) < T.length := by omega
  go_enter Tryd.func12, Tryd.ntmps12
  go_wp2_with fail
  refine (check_ok K R _ T _ h.out hr.out).mono ?_
  rintro e w1 ⟨x, rfl, hb, rfl⟩
  obtain ⟨z0, z1, z2, -, -, -⟩ := cells3 hb
  go_wp2_with fail
  refine (rule_odd K _ ys _ (hu.out.below hb)).mono ?_
  rintro e w2 ⟨x, rfl, hb', rfl⟩
  rw [hodd.out]
  have zz := Lib.hid (And.intro z0 (And.intro z1 z2))
  clear z0 z1 z2
  have hb2 := Below.step hb hb'
  obtain ⟨z0, z1, z2⟩ := keep3 hb' zz.out
  have zz2 := Lib.hid (And.intro z0 (And.intro z1 z2))
  clear z0 z1 z2
  have hsz : w.heap.size < w2.heap.size := World.block_lt_of_cell? _ _ zz2.out.1
  have hT2 := Lib.hid (h.out.below hb2)
  have hu2 := Lib.hid (hu.out.below hb2)
  go_wp2
  go_loopw [8, 9, 31] (fun o n i wr => ∃ j : Nat, j ≤ ys.length ∧ i = .int .i64 j ∧ n = .int .i64 (numW K (ys.take j) % T.length : Nat) ∧ OwnI w2.heap.size wr o (imgP K R T (ys.take j)) ∧ Below w2.heap.size w2 wr) (fun _ _ i _ => ys.length - (intOf i).toNat)
  case atStart => exact ⟨0, by omega, rfl, by simp [numW], by simpa [imgP] using OwnI.nil _ _, Below.refl _ _⟩
  case round =>
    obtain ⟨j, hj, rfl, rfl, hO, hbO⟩ := hrel
    obtain ⟨wo, rfl⟩ : ∃ wo : World, wo = wr := ⟨_, rfl⟩
    by_cases hjl : j < ys.length
    · have hyi := hu2.out.below hbO
      have i1 := hyi.idx j hjl
      have c1 := hyi.cell j hjl
      have hx := hy.out ys[j] (by simp)
      obtain ⟨z0, z1, z2⟩ := keep3 hbO zz2.out
      have hst : Hid (numW K (ys.take (j + 1)) % T.length = (numW K (ys.take j) % T.length * K + ys[j].toNat) % T.length) := by
        show _ = _
        rw [take_snoc ys j hjl]; exact numW_step ..
      have hsy : Syms K (ys.take j ++ [ys[j]]) := by
        intro y hy'; exact hy.out y (by rw [← take_snoc ys j hjl] at hy'; exact List.mem_of_mem_take hy')
      have him := imgP_snoc (T := T) (R := R) hlT.out hsy
      rw [← take_snoc ys j hjl, hst.out] at him
      have htl : (ys.take j).length = j := by simp; omega
      rw [htl] at him
      have hol : (imgP K R T (ys.take j)).length ≤ 5000 := by rw [imgP_length]; omega
      have hNl : numW K (ys.take j) % T.length < T.length := Nat.mod_lt _ (by omega)
      generalize ys[j] = x at c1 hx hst him
      replace him := Lib.hid him
      generalize numW K (ys.take j) % T.length = N at hst him hNl
      generalize imgP K R T (ys.take j) = O at hO hol him
      have hm1 : 0 ≤ (N : Int) * (K : Int) := Int.mul_nonneg (by omega) (by omega)
      have hm2 : (N : Int) * (K : Int) ≤ 65536 := by
        have : N * K ≤ 65536 := Nat.mul_le_mul (show N ≤ 16384 by omega) hk4
        have h2 := Int.ofNat_le.2 this
        rw [Int.natCast_mul] at h2
        exact h2
      obtain ⟨X, rfl⟩ := Int.eq_ofNat_of_zero_le hx.1
      rw [Int.toNat_natCast] at him hst
      have hcast : Hid ((((N * K + X) % T.length : Nat) : Int) = ((N : Int) * (K : Int) + (X : Int)) % (T.length : Int)) := by show _ = _; simp
      have hMl : (N * K + X) % T.length < T.length := Nat.mod_lt _ (by omega)
      have hTw := hT2.out.below hbO
      have i2 : ∀ w', (Instr.indexAt 22 (.slice va vn vc) (.int .i64 (((N : Int) * (K : Int) + (X : Int)) % (T.length : Int)))).run Tryd.prog w' = .ok (.pointer (some (valAt (.slice va vn vc) ((N * K + X) % T.length)))) w' := by
        intro w'
        rw [← hcast.out]
        exact hTw.idx _ hMl w'
      have c2 := hTw.cellD _ hMl
      replace hO := Lib.hid hO
      clear hyi hTw
      generalize T.getD ((N * K + X) % T.length) 0 = y at c2 him
      by_cases hge : 2 * R ≤ j
      · replace him := Lib.hid (him.out.trans (if_pos hge))
        go_wp2_with (at_builtin; refine wpl_append1 rfl _ _ rfl w2.heap.size _ O y hO.out rfl rfl (by omega) hbO.size ?_)
        intro nv w4 hO4 hb4 _ _
        have hbT := hbO.trans hb4
        replace hO4 := Lib.hid hO4
        go_wp2
        go_roundw
        case rel => exact ⟨j + 1, by omega, by go_num, by rw [hst.out, hcast.out], by rw [him.out]; exact hO4.out, hbT⟩
        case measure => simp [intOf]; omega
      · replace him := Lib.hid (him.out.trans (if_neg hge))
        go_wp2
        go_roundw
        case rel => exact ⟨j + 1, by omega, by go_num, by rw [hst.out, hcast.out], by rw [him.out]; exact hO.out, hbO⟩
        case measure => simp [intOf]; omega
    · obtain rfl : j = ys.length := by omega
      rw [List.take_length] at hO
      go_wp2
      go_ret2
      exact ⟨_, _, rfl, Below.step hb0 (Below.step hb2 hbO), hO.mono (by omega), rfl⟩
end Go.Proofs.YtbpdmpcakenjhaaDoor

namespace Go.Proofs.YtbpdmpcakenjhaaDoor
open Go.RowKit
set_option maxRecDepth 100000

/-- rule.Step's error. -/
def stepE (k R : Int) (T ys : List Int) : PErr :=
  match checkP k R T with
  | some t => some t
  | none => if 4096 < ys.length then fresh sRule 0 4 else if idxOf (odd1 k) ys = -1 then none else fresh sRule (idxOf (odd1 k) ys) 2
theorem stepE_none {k R : Int} {T ys : List Int} (h : stepE k R T ys = none) : ∃ K Q : Nat, k = K ∧ R = Q ∧ RuleOk K Q T ∧ Syms K ys ∧ ys.length ≤ 4096 := by
  unfold stepE at h
  cases hc : checkP k R T with
  | some t => rw [hc] at h; cases h
  | none =>
    rw [hc] at h
    obtain ⟨K, Q, rfl, rfl, hr⟩ := checkP_none hc
    simp only [] at h
    split at h
    · simp [fresh] at h
    · rename_i hl
      refine ⟨K, Q, rfl, rfl, hr, ?_, by omega⟩
      rcases syms_or K ys with hs | ⟨i, hi, _⟩
      · exact hs
      · rw [if_neg (by omega)] at h; simp [fresh] at h
theorem stepE_ok {K R : Nat} {T ys : List Int} (h : RuleOk K R T) (hy : Syms K ys) (hl : ys.length ≤ 4096) : stepE K R T ys = none := by
  unfold stepE; rw [h.check]; simp only []; rw [if_neg (by omega), if_pos hy.odd]

set_option maxHeartbeats 1000000 in
theorem step_any (r : Nat → Addr) (k R : Int) (va : Option Addr) (vn vc : Nat) (T : List Int) (u : Value) (ys : List Int) (w : World) (hg : Glob r w) (h : IntsAt w (.slice va vn vc) T) (hu : IntsAt w u ys) :
    Calls Tryd.prog 12 #[.agg #[.int .i64 k, .int .i64 R, .slice va vn vc], u] w (Ret2 (fun x y w' => ErrIs r w' (stepE k R T ys) y ∧ (stepE k R T ys = none → OwnI w.heap.size w' x (imgP k.toNat R.toNat T ys)) ∧ (stepE k R T ys ≠ none → x = .slice none 0 0)) w) := by
  cases hst : stepE k R T ys with
  | none =>
    obtain ⟨K, Q, rfl, rfl, hr, hy, hl⟩ := stepE_none hst
    refine (step_ok K Q va vn vc T u ys w h hr hu hy hl).mono ?_
    rintro e w' ⟨x, y, rfl, hb, ho, rfl⟩
    exact ⟨x, _, rfl, hb, rfl, fun _ => by simpa using ho, fun h => absurd rfl h⟩
  | some t =>
    have b0 := belowAlloc w (.cells #[.int .i64 k, .int .i64 R, .slice va vn vc] 24)
    have q : Box3 (w.alloc (.cells #[.int .i64 k, .int .i64 R, .slice va vn vc] 24)) w.heap.size (.int .i64 k) (.int .i64 R) (.slice va vn vc) := by simp [Box3, go_sem]
    have l1 := hu.len
    obtain ⟨ua, un, uc, rfl⟩ := hu.shape
    replace hg := Lib.hid (hg.below b0)
    replace h := Lib.hid (h.below b0)
    replace hu := Lib.hid (hu.below b0)
    obtain ⟨e0, hst', he0⟩ : ∃ e0, (some t = match e0 with | some t => some t | none => if 4096 < ys.length then fresh sRule 0 4 else if idxOf (odd1 k) ys = -1 then none else fresh sRule (idxOf (odd1 k) ys) 2) ∧ checkP k R T = e0 := ⟨_, hst.symm, rfl⟩
    replace he0 := Lib.hid he0
    replace hst := Lib.hid hst
    go_enter Tryd.func12, Tryd.ntmps12
    go_wp2_with fail
    refine (check_any r k R _ T _ hg.out h.out).mono ?_
    rintro e w1 ⟨x, rfl, b1, he⟩
    rw [he0.out] at he
    cases e0 with
    | some t' =>
      simp only [] at hst'
      replace hst' := Lib.hid hst'
      obtain ⟨T1, a1, rfl⟩ := ErrIs.some_shape he
      replace he := Lib.hid he
      go_wp2
      go_ret2
      exact ⟨_, _, rfl, Below.step b0 b1, by rw [hst'.out]; exact he.out, fun h => by (first | cases h | (rw [hst'.out] at h; cases h)), fun _ => rfl⟩
    | none =>
      obtain rfl := he.none_eq
      simp only [] at hst'
      clear he
      obtain ⟨⟨z0, z1, z2⟩, -, -, -⟩ := q.below b1
      by_cases hl : 4096 < ys.length
      · rw [if_pos hl] at hst'
        replace hst' := Lib.hid hst'
        go_wp2_with fail
        refine (rule_wrong r _ _ _ (hg.out.below b1) (by decide) (by decide)).mono ?_
        rintro e w2 ⟨x, rfl, b2, he⟩
        replace he := Lib.hid he
        go_wp2
        go_ret2
        exact ⟨_, _, rfl, Below.step b0 (Below.step b1 b2), by rw [hst'.out]; exact he.out, (fun h => (by cases h)), fun _ => rfl⟩
      · rw [if_neg hl] at hst'
        rcases idxOf_cases (odd1 k) ys with ⟨hi, _⟩ | ⟨i, hi, hi', _⟩
        · rw [if_pos hi] at hst'; cases hst'
        · rw [if_neg (by omega), hi] at hst'
          replace hst' := Lib.hid hst'
          replace hi := Lib.hid hi
          go_wp2_with fail
          refine (rule_odd k _ ys _ (hu.out.below b1)).mono ?_
          rintro e w2 ⟨x, rfl, b2, rfl⟩
          rw [hi.out]
          clear z0 z1 z2
          go_wp2_with fail
          refine (rule_wrong r _ _ _ (hg.out.below (Below.step b1 b2)) (by decide) (by decide)).mono ?_
          rintro e w3 ⟨x, rfl, b3, he⟩
          replace he := Lib.hid he
          go_wp2
          go_ret2
          exact ⟨_, _, rfl, Below.step b0 (Below.step b1 (Below.step b2 b3)), by rw [hst'.out]; exact he.out, (fun h => (by cases h)), fun _ => rfl⟩
end Go.Proofs.YtbpdmpcakenjhaaDoor

namespace Go.Proofs.YtbpdmpcakenjhaaDoor

theorem snoc_indS {P : List Int → Prop} (h0 : P []) (h1 : ∀ l x, P l → P (l ++ [x])) (l : List Int) : P l := by
  have key : ∀ n (l : List Int), l.length = n → P l := by
    intro n
    induction n with
    | zero => intro l hl; obtain rfl := List.length_eq_zero_iff.1 hl; exact h0
    | succ n ih =>
      intro l hl
      have hne : l ≠ [] := by intro e; subst e; simp at hl
      have := h1 l.dropLast (l.getLast hne) (ih _ (by simp [hl]))
      rwa [List.dropLast_concat_getLast hne] at this
  exact key _ l rfl

theorem mod_step (a K s N : Nat) : (a * K + s) % N = (a % N * K + s) % N := by
  simp [Nat.add_mod, Nat.mul_mod]
theorem mod_block {a K s N : Nat} (hs : s < K) (hN : 0 < N) : (a * K + s) % (N * K) = a % N * K + s := by
  have h1 : a = N * (a / N) + a % N := (Nat.div_add_mod a N).symm
  have h2 : a % N < N := Nat.mod_lt _ hN
  have h3 : a * K + s = N * K * (a / N) + (a % N * K + s) := by
    conv => lhs; rw [h1]
    rw [Nat.add_mul, Nat.mul_assoc, Nat.mul_comm (a / N) K, ← Nat.mul_assoc, Nat.add_assoc]
  rw [h3, Nat.mul_add_mod]
  refine Nat.mod_eq_of_lt ?_
  have : (a % N + 1) * K ≤ N * K := Nat.mul_le_mul_right _ h2
  rw [Nat.add_mul] at this
  omega

section
variable {K R : Nat} {T : List Int}

/-- Where the last place permutes the symbol fits. -/
theorem fit_last (h : RuleOk K R T) (hp : unlikeP K T 1 = true) (node : Nat) (hn : node < T.length / K) (y : Int) (hy : 0 ≤ y ∧ y < K) : T.getD (node * K + fit K T (node * K) 1 y) 0 = y := by
  have hl := h.half.2
  have hd := h.half.1
  have hf := unlikeP_full hp (node * K) (by rw [hl]; exact Nat.mul_lt_mul_of_pos_right (by rw [← hd]; exact hn) (by have := h.k1; omega)) (by rw [Nat.div_one, Nat.mul_mod_left])
  obtain ⟨s, hs, he⟩ := fullP_all h.k1 h.syms hf y.toNat (by omega)
  have := fit_ok (K := K) T (node * K) 1 y ⟨s, hs, by rw [he]; omega⟩
  rwa [Nat.mul_one] at this
/-- And no other does. -/
theorem fit_last_only (h : RuleOk K R T) (hp : unlikeP K T 1 = true) (node : Nat) (hn : node < T.length / K) (x : Nat) (hx : x < K) : fit K T (node * K) 1 (T.getD (node * K + x) 0) = x := by
  have hl := h.half.2
  have hd := h.half.1
  have hf := unlikeP_full hp (node * K) (by rw [hl]; exact Nat.mul_lt_mul_of_pos_right (by rw [← hd]; exact hn) (by have := h.k1; omega)) (by rw [Nat.div_one, Nat.mul_mod_left])
  have hinj := (fullP_iff h.k1 h.k4 h.syms 1 _).1 hf
  refine fit_at T (node * K) 1 _ x hx (by rw [Nat.mul_one]) fun j hj => ?_
  have := hinj j x hj hx
  rwa [Nat.mul_one x] at this

theorem nodes_pos (h : RuleOk K R T) : 0 < T.length / K := by rw [h.half.1]; exact pw_pos _ h.k1
theorem ends_lt (h : RuleOk K R T) {zs : List Int} (hz : Syms K zs) (hl : zs.length = 2 * R) : numW K zs < T.length / K := by
  have := numW_lt zs hz
  rw [hl, ← h.half.1] at this; exact this

theorem right_num (h : RuleOk K R T) {zs : List Int} (hz : Syms K zs) (hl : zs.length = 2 * R) (ys : List Int) : numW K (zs ++ rightP K T (numW K zs) ys) % (T.length / K) = rightN K T (numW K zs) ys := by
  refine snoc_indS (P := fun ys => numW K (zs ++ rightP K T (numW K zs) ys) % (T.length / K) = rightN K T (numW K zs) ys) ?_ (fun l x ih => ?_) ys
  · simp only [rightP, rightN, List.append_nil]; exact Nat.mod_eq_of_lt (ends_lt h hz hl)
  · rw [rightP_snoc, rightN_snoc, ← List.append_assoc, numW_snoc, Int.toNat_natCast, ← ih]
    exact mod_step _ _ _ _

/-- The image of Right's word is the word. -/
theorem right_img (h : RuleOk K R T) (hp : unlikeP K T 1 = true) {zs : List Int} (hz : Syms K zs) (hl : zs.length = 2 * R) (ys : List Int) (hy : Syms K ys) : imgP K R T (zs ++ rightP K T (numW K zs) ys) = ys := by
  revert hy
  refine snoc_indS (P := fun ys => Syms K ys → imgP K R T (zs ++ rightP K T (numW K zs) ys) = ys) ?_ (fun l x ih hy => ?_) ys
  · intro _; simp [rightP, imgP, hl]
  · have hyl : Syms K l := fun y hy' => hy y (by simp [hy'])
    have hx := hy x (by simp)
    have hsy : Syms K (zs ++ rightP K T (numW K zs) l ++ [(fit K T (rightN K T (numW K zs) l * K) 1 x : Int)]) := by
      refine syms_snoc (by omega) (by have := fit_lt h.k1 T (rightN K T (numW K zs) l * K) 1 x; omega) ?_
      intro y hy'
      rcases List.mem_append.1 hy' with hy' | hy'
      · exact hz y hy'
      · exact rightP_syms h.k1 T _ l y hy'
    rw [rightP_snoc, ← List.append_assoc, imgP_snoc h.len hsy, if_pos (by simp; omega), ih hyl, numW_snoc, Int.toNat_natCast]
    congr 2
    have e1 : T.length = T.length / K * K := by
      conv => lhs; rw [h.half.2]
      rw [h.half.1]
    conv => lhs; arg 2; arg 2; rw [e1]
    rw [mod_block (fit_lt h.k1 ..) (nodes_pos h), right_num h hz hl]
    exact fit_last h hp _ (rightN_lt (nodes_pos h) _ (ends_lt h hz hl) l) x hx

/-- Right of a word's own image and beginning is the word. -/
theorem right_back (h : RuleOk K R T) (hp : unlikeP K T 1 = true) {zs : List Int} (hz : Syms K zs) (hl : zs.length = 2 * R) (u : List Int) (hu : Syms K u) : rightP K T (numW K zs) (imgP K R T (zs ++ u)) = u := by
  revert hu
  refine snoc_indS (P := fun u => Syms K u → rightP K T (numW K zs) (imgP K R T (zs ++ u)) = u) ?_ (fun l x ih hy => ?_) u
  · intro _; simp [rightP, imgP, hl]
  · have hyl : Syms K l := fun y hy' => hy y (by simp [hy'])
    have hx := hy x (by simp)
    have hsy : Syms K (zs ++ l ++ [x]) := by
      intro y hy'
      rcases List.mem_append.1 hy' with hy' | hy'
      · rcases List.mem_append.1 hy' with hy' | hy'
        · exact hz y hy'
        · exact hyl y hy'
      · simp at hy'; subst hy'; exact hx
    rw [← List.append_assoc, imgP_snoc h.len hsy, if_pos (by simp; omega), rightP_snoc, ih hyl]
    congr 2
    have hnum := right_num h hz hl (imgP K R T (zs ++ l))
    rw [ih hyl] at hnum
    have e1 : T.length = T.length / K * K := by
      conv => lhs; rw [h.half.2]
      rw [h.half.1]
    rw [numW_snoc]
    conv => lhs; arg 1; arg 5; arg 2; arg 2; rw [e1]
    rw [mod_block (by omega) (nodes_pos h), hnum, fit_last_only h hp _ (by rw [← hnum]; exact Nat.mod_lt _ (nodes_pos h)) _ (by omega)]
    omega

/-- One symbol more ahead. -/
theorem imgP_front (K R : Nat) (T : List Int) (s : Int) (u : List Int) (hu : 2 * R ≤ u.length) : imgP K R T (s :: u) = T.getD (numW K ((s :: u).take (2 * R + 1))) 0 :: imgP K R T u := by
  unfold imgP
  rw [show (s :: u).length - 2 * R = (u.length - 2 * R) + 1 by simp; omega, List.range_succ_eq_map, List.map_cons, List.map_map]
  congr 1

/-- Where the first place permutes the symbol fits. -/
theorem fit_first (h : RuleOk K R T) (hp : unlikeP K T (T.length / K) = true) (node : Nat) (hn : node < T.length / K) (y : Int) (hy : 0 ≤ y ∧ y < K) : T.getD (node + fit K T node (T.length / K) y * (T.length / K)) 0 = y := by
  have hle : T.length / K ≤ T.length := Nat.div_le_self _ _
  have hf := unlikeP_full hp node (by omega) (by rw [Nat.div_eq_of_lt hn, Nat.zero_mod])
  obtain ⟨s, hs, he⟩ := fullP_all h.k1 h.syms hf y.toNat (by omega)
  exact fit_ok (K := K) T node _ y ⟨s, hs, by rw [he]; omega⟩

theorem leftS_syms {K : Nat} (hK : 1 ≤ K) (T : List Int) (node : Nat) (w : List Int) : Syms K (leftS K T node w).2 := by
  induction w with
  | nil => intro x hx; simp [leftS] at hx
  | cons y w ih =>
    intro x hx
    simp only [leftS, List.mem_cons] at hx
    rcases hx with rfl | hx
    · have := fit_lt hK T (leftS K T node w).1 (T.length / K) y; omega
    · exact ih x hx

theorem left_both (h : RuleOk K R T) (hp : unlikeP K T (T.length / K) = true) {zs : List Int} (hz : Syms K zs) (hl : zs.length = 2 * R) (ys : List Int) (hy : Syms K ys) :
    (leftS K T (numW K zs) ys).1 = numW K (((leftS K T (numW K zs) ys).2 ++ zs).take (2 * R)) ∧ imgP K R T ((leftS K T (numW K zs) ys).2 ++ zs) = ys := by
  induction ys with
  | nil =>
    refine ⟨?_, ?_⟩
    · simp only [leftS, List.nil_append]; rw [List.take_of_length_le (by omega)]
    · simp [leftS, imgP, hl]
  | cons y l ih =>
    obtain ⟨i1, i2⟩ := ih (fun x hx => hy x (by simp [hx]))
    have hs2 := leftS_syms h.k1 T (numW K zs) l
    have hl2 := leftS_length K T (numW K zs) l
    have hlt : (leftS K T (numW K zs) l).1 < T.length / K := by
      rw [i1, h.half.1]
      refine Nat.lt_of_lt_of_le (numW_lt _ fun x hx => ?_) (Nat.le_of_eq (congrArg (pw K) (by simp; omega)))
      rcases List.mem_append.1 (List.mem_of_mem_take hx) with hx | hx
      · exact hs2 x hx
      · exact hz x hx
    have hfit := fit_first h hp _ hlt y (hy y (by simp))
    have hsl := fit_lt h.k1 T (leftS K T (numW K zs) l).1 (T.length / K) y
    simp only [leftS]
    generalize leftS K T (numW K zs) l = p at i1 i2 hs2 hl2 hlt hfit hsl
    obtain ⟨M, P⟩ := p
    simp only [] at i1 i2 hs2 hl2 hlt hfit hsl ⊢
    generalize fit K T M (T.length / K) y = s at hfit hsl
    have hul : 2 * R ≤ (P ++ zs).length := by simp; omega
    have e1 : numW K (((s : Int) :: (P ++ zs)).take (2 * R + 1)) = s * (T.length / K) + M := by
      rw [List.take_succ_cons, numW_cons, ← i1, Int.toNat_natCast, h.half.1]
      congr 3
      simp; omega
    have hall : Syms K ((s : Int) :: (P ++ zs)) := by
      intro x hx
      rcases List.mem_cons.1 hx with rfl | hx
      · omega
      · rcases List.mem_append.1 hx with hx | hx
        · exact hs2 x hx
        · exact hz x hx
    have hlen : 2 * R < ((s : Int) :: (P ++ zs)).length := by simp at hul ⊢; omega
    have e2 := take_snoc ((s : Int) :: (P ++ zs)) (2 * R) hlen
    rw [e2, numW_snoc] at e1
    have hx := hall _ (List.getElem_mem hlen)
    refine ⟨?_, ?_⟩
    · rw [List.cons_append, ← e1]
      rw [Nat.mul_comm, Nat.mul_add_div (by have := h.k1; omega), Nat.div_eq_of_lt (by omega), Nat.add_zero]
    · rw [List.cons_append, imgP_front _ _ _ _ _ hul, i2, e2, numW_snoc, e1, Nat.add_comm, hfit]
end
end Go.Proofs.YtbpdmpcakenjhaaDoor

namespace Go.Proofs.YtbpdmpcakenjhaaDoor
open Go.RowKit
set_option maxRecDepth 100000

def tab19 : List Int := [0, 1, 0, 1, 1, 0, 1, 0]

set_option maxHeartbeats 1000000 in
theorem awake19 (r : Nat → Addr) (w : World) (hg : Glob r w) : Calls Tryd.prog 9 #[] w (Ret1 (fun x _ => x = .bool true) w) := by
  replace hg := Lib.hid hg
  have hrok : RuleOk 2 1 tab19 := ⟨by decide, by decide, by decide, by decide, by intro x hx; simp [tab19] at hx; omega⟩
  have hu1 : unlikeP 2 tab19 1 = true := by decide +kernel
  have hu4 : unlikeP 2 tab19 (tab19.length / 2) = true := by decide +kernel
  have hchk : checkM 2 1 [1, 0, 1] [0, 0] = none := by decide +kernel
  have hres : [0, 0] ++ rightP 2 tab19 (numW 2 [0, 0]) [1, 0, 1] = [0, 0, 1, 0, 0] := by decide +kernel
  replace hrok := Lib.hid hrok
  replace hu1 := Lib.hid hu1
  replace hu4 := Lib.hid hu4
  replace hchk := Lib.hid hchk
  replace hres := Lib.hid hres
  go_enter Tryd.func9, Tryd.ntmps9
  go_wp2_with fail
  have hT0 := (OwnI.lit 0 w (Nat.zero_le _) tab19 (by decide) #[.int .i64 0, .int .i64 1, .int .i64 0, .int .i64 1, .int .i64 1, .int .i64 0, .int .i64 1, .int .i64 0] rfl 8 rfl).at
  have hT := hT0.below (belowAlloc _ (.cells #[.int .i64 2, .int .i64 1, .slice (some ⟨w.heap.size, 0, none⟩) 8 8] 24))
  have hb0 := Below.step (belowAlloc w (.cells #[.int .i64 0, .int .i64 1, .int .i64 0, .int .i64 1, .int .i64 1, .int .i64 0, .int .i64 1, .int .i64 0] 3)) (belowAlloc _ (.cells #[.int .i64 2, .int .i64 1, .slice (some ⟨w.heap.size, 0, none⟩) 8 8] 24))
  refine (sides_ok 2 1 _ _ _ tab19 _ hT hrok.out).mono ?_
  rintro e w1 ⟨x, y, z, rfl, hb, rfl, rfl, rfl⟩
  rw [hu1.out, hu4.out]
  obtain ⟨z0, z1, z2, -, -, -⟩ := cells3 hb
  rw [show (w.alloc (.cells #[.int .i64 0, .int .i64 1, .int .i64 0, .int .i64 1, .int .i64 1, .int .i64 0, .int .i64 1, .int .i64 0] 3)).heap.size = w.heap.size + 1 by simp] at z0 z1 z2
  go_wp2_with fail
  have l1 := (OwnI.lit 0 w1 (Nat.zero_le _) [1, 0, 1] (by decide) #[.int .i64 1, .int .i64 0, .int .i64 1] rfl 3 rfl).at
  have l2 := (OwnI.lit 0 (w1.alloc (.cells #[.int .i64 1, .int .i64 0, .int .i64 1] 3)) (Nat.zero_le _) [0, 0] (by decide) #[.int .i64 0, .int .i64 0] rfl 2 rfl).at
  have hb1 := Below.step (belowAlloc w1 (.cells #[.int .i64 1, .int .i64 0, .int .i64 1] 3)) (belowAlloc _ (.cells #[.int .i64 0, .int .i64 0] 3))
  replace l1 := l1.below (belowAlloc _ (.cells #[.int .i64 0, .int .i64 0] 3))
  rw [show (w1.alloc (.cells #[.int .i64 1, .int .i64 0, .int .i64 1] 3)).heap.size = w1.heap.size + 1 by simp] at l2
  replace hb1 := Below.step hb hb1
  refine (right_ok r 2 1 _ _ _ tab19 _ _ [1, 0, 1] [0, 0] _ (hg.out.below (Below.step hb0 hb1)) (hT.below hb1) hrok.out hu1.out l1 l2 hchk.out).mono ?_
  rintro e w2 ⟨x, y, rfl, hb2, ho, rfl⟩
  rw [hres.out] at ho
  replace ho := Lib.hid ho
  have hb3 := Below.step hb0 (Below.step hb1 hb2)
  clear hb hb1
  go_wp2_with fail
  refine (ints_any _ _ [0, 0, 1, 0, 0] [0, 0, 1, 0, 0] _ (ho.out.at.below (belowAlloc _ _)) (OwnI.lit 0 w2 (Nat.zero_le _) [0, 0, 1, 0, 0] (by decide) #[.int .i64 0, .int .i64 0, .int .i64 1, .int .i64 0, .int .i64 0] rfl 5 rfl).at).mono ?_
  rintro e w3 hq
  obtain ⟨rfl, hb5⟩ := hq.below
  clear hq
  replace hb5 := Lib.hid (Below.step hb3 (Below.step (belowAlloc _ _) hb5))
  clear hb3
  go_wp2
  go_ret
  exact ⟨_, rfl, hb5.out, rfl⟩
end Go.Proofs.YtbpdmpcakenjhaaDoor

namespace Go.Proofs.YtbpdmpcakenjhaaDoor
open Go.RowKit
set_option maxRecDepth 100000

/-- Each owned, no two in one block. -/
structure Kin (w : World) (lo : Nat) (vs : List Value) (xs : List (List Int)) : Prop where
  len : vs.length = xs.length
  own : ∀ t, t < vs.length → OwnI lo w (vAt vs t) (xs.getD t [])
  two : ∀ s t, s < vs.length → t < vs.length → s ≠ t → (vAt vs s).ownBlock = none ∨ (vAt vs s).ownBlock ≠ (vAt vs t).ownBlock

theorem Owns.kin {w : World} {lo : Nat} {vs : List Value} {xs : List (List Int)} (h : Owns w lo vs xs) : Kin w lo vs xs :=
  ⟨h.get.1, h.get.2, h.two⟩

/-- The last two of four change places. -/
theorem Kin.swap {w : World} {lo : Nat} {a b c d : Value} {x y z u : List Int} (h : Kin w lo [a, b, c, d] [x, y, z, u]) : Kin w lo [a, b, d, c] [x, y, u, z] := by
  refine ⟨rfl, fun t ht => ?_, fun s t hs ht hne => ?_⟩
  · have : t = 0 ∨ t = 1 ∨ t = 2 ∨ t = 3 := by simp at ht; omega
    rcases this with rfl | rfl | rfl | rfl
    · exact h.own 0 (by simp)
    · exact h.own 1 (by simp)
    · exact h.own 3 (by simp)
    · exact h.own 2 (by simp)
  · have h1 : s = 0 ∨ s = 1 ∨ s = 2 ∨ s = 3 := by simp at hs; omega
    have h2 : t = 0 ∨ t = 1 ∨ t = 2 ∨ t = 3 := by simp at ht; omega
    rcases h1 with rfl | rfl | rfl | rfl <;> rcases h2 with rfl | rfl | rfl | rfl
    · exact absurd rfl hne
    · exact h.two 0 1 (by simp) (by simp) (by decide)
    · exact h.two 0 3 (by simp) (by simp) (by decide)
    · exact h.two 0 2 (by simp) (by simp) (by decide)
    · exact h.two 1 0 (by simp) (by simp) (by decide)
    · exact absurd rfl hne
    · exact h.two 1 3 (by simp) (by simp) (by decide)
    · exact h.two 1 2 (by simp) (by simp) (by decide)
    · exact h.two 3 0 (by simp) (by simp) (by decide)
    · exact h.two 3 1 (by simp) (by simp) (by decide)
    · exact absurd rfl hne
    · exact h.two 3 2 (by simp) (by simp) (by decide)
    · exact h.two 2 0 (by simp) (by simp) (by decide)
    · exact h.two 2 1 (by simp) (by simp) (by decide)
    · exact h.two 2 3 (by simp) (by simp) (by decide)
    · exact absurd rfl hne

theorem apart_kin (lv : Value) (vs : List Value) (xs : List (List Int)) (lo : Nat) (w : World) (h : Kin w lo vs xs) (hv : ValsAt w lv vs) (hn : vs.length ≤ 100) (hx : ∀ x ∈ xs, x.length ≤ 1099511627776) (hlo : lo ≤ w.heap.size)
    (hd : ∀ i t, i < vs.length → t < vs.length → (vAt vs t).ownBlock ≠ some (valAt lv i).block) :
    Calls Tryd.prog 26 #[lv] w fun e w' => e = .returned (.bool true) ∧ Below lo w w' := by
  refine apart_any lo _ vs (fun t => xs.getD t []) _ hv hn (fun t ht => ?_) h.own ⟨h.two, fun i t hi ht e => hd i t hi ht e⟩ hlo
  have : t < xs.length := by have := h.len; omega
  simp only [List.getD, List.getElem?_eq_getElem this, Option.getD_some]
  exact hx _ (List.getElem_mem this)

theorem Kin.of_kept {w w' : World} {lo : Nat} {vs : List Value} {xs : List (List Int)} (h : Kin w lo vs xs) (hk : ∀ t, t < vs.length → OwnI lo w (vAt vs t) (xs.getD t []) → OwnI lo w' (vAt vs t) (xs.getD t [])) : Kin w' lo vs xs :=
  ⟨h.len, fun t ht => hk t ht (h.own t ht), h.two⟩

/-- append, its run known. -/
theorem wpl_app_run {w : World} {ops : Array Oper} {rest : List Oper} {o : Oper} {a : Act} {Q : Exit → Act → World → Prop} (hgd : o.guard = none) (s x : Operand) (T : TypeId)
    (ho : o.op = .call { callee := .builtin .append, args := #[s, x], argTypes := #[T, T] })
    (v u : Value) (hs : a.eval s = v) (hx : a.eval x = u) {v' : Value} {w' : World} (hr : (Builtin.append_ #[T, T] o.type #[v, u]).run Tryd.prog w = .ok v' w')
    (h : wpList Tryd.prog ops Q rest (a.put o.dst v') w') :
    wpList Tryd.prog ops Q (o :: rest) a w := by
  refine wpList_plain hgd fun K hK => ?_
  unfold Oper.wp execOp
  simp only [ho, resolve, invoke, builtin, Sem.run_bind, Sem.run_pure, Result.andThen_ok, List.map_toArray, List.map_cons, List.map_nil, hs, hx]
  rw [hr]
  exact hK _ _ h

/-- append(all, o), all a literal list just laid. -/
theorem app_kin (w : World) (lo : Nat) (vs : List Value) (o : Value) (xs : List (List Int)) (h : Kin w lo (vs ++ [o]) xs) (hn : vs.length ≤ 90) (cs : Array Value) (hcs : cs.toList = vs) (n : Nat) (hnn : n = vs.length) (ho : o.oneCell' = true)
    (b : Nat) (hb : b = w.heap.size + 1) :
    ∃ v' w', (Builtin.append_ #[32, 32] 32 #[.slice (some ⟨w.heap.size, 0, none⟩) n n, .slice (some ⟨b, 0, none⟩) 1 1]).run Tryd.prog ((w.alloc (.cells cs 22)).alloc (.cells #[o] 22)) = .ok v' w' ∧
      ValsAt w' v' (vs ++ [o]) ∧ Kin w' lo (vs ++ [o]) xs ∧ Below w.heap.size w w' ∧ ∀ i t, i < (vs ++ [o]).length → t < (vs ++ [o]).length → (vAt (vs ++ [o]) t).ownBlock ≠ some (valAt v' i).block := by
  subst hnn hb
  have hs : cs.size = vs.length * 1 := by rw [← Array.length_toList, hcs]; simp
  have hm : vs.length ≤ maxLen := by unfold maxLen; omega
  have hv : OwnV 22 w.heap.size (w.alloc (.cells cs 22)) (.slice (some ⟨w.heap.size, 0, none⟩) vs.length vs.length) vs := by
    have := World.ownsRow_lit (base := w.heap.size) (e := 22) (size := 1) w cs vs.length (Nat.le_refl _) hm hs
    rw [hcs] at this
    exact this
  have hsz : (w.alloc (.cells cs 22)).heap.size = w.heap.size + 1 := by simp
  have hc1 := cell_one_new (w.alloc (.cells cs 22)) o 22
  rw [hsz] at hc1
  obtain ⟨v', w', hr, h2, h3⟩ := run_app oneLists ((w.alloc (.cells cs 22)).alloc (.cells #[o] 22)) w.heap.size 32 _ vs (hv.alloc _) ⟨w.heap.size + 1, 0, none⟩ 1 [o] (by simp) hc1 (by simpa using ho) (by simp; omega) (by simp; omega)
  have hal : Below w.heap.size w ((w.alloc (.cells cs 22)).alloc (.cells #[o] 22)) := ((Below.refl _ _).alloc (Nat.le_refl _) _).alloc (by simp) _
  have hne : ∀ t, t < (vs ++ [o]).length → (vAt (vs ++ [o]) t).ownBlock = none ∨ (vAt (vs ++ [o]) t).ownBlock ≠ some w.heap.size := fun t ht => by
    cases hk : (vAt (vs ++ [o]) t).ownBlock with
    | none => exact .inl rfl
    | some q =>
      right
      intro e
      have := ((h.own t ht).lt q hk).2
      simp at e
      omega
  refine ⟨v', w', hr, h2.at, h.of_kept fun t ht h0 => ?_, ?_, fun i t hi ht e => ?_⟩
  · have h1 := (h0.alloc (.cells cs 22)).alloc (.cells #[o] 22)
    rcases h3 with ⟨_, hg⟩ | ⟨_, hg⟩
    · exact h1.kept hg (hne t ht)
    · refine h1.kept hg ?_
      cases (vAt (vs ++ [o]) t).ownBlock <;> simp
  · rcases h3 with ⟨_, hg⟩ | ⟨_, hg⟩
    · exact hal.grown hg hal.size (by intro k hk; simp [Value.ownBlock] at hk; omega)
    · exact hal.grown hg hal.size (by intro k hk; cases hk)
  · have h5 := (h2.blkB i hi).2
    have := ((h.own t ht).lt _ e).2
    omega
end Go.Proofs.YtbpdmpcakenjhaaDoor

namespace Go.Proofs.YtbpdmpcakenjhaaDoor
open Go.RowKit Go.Shelf
set_option maxRecDepth 100000

def Tryd.laysRev_ren : Go.Shelf.Ren := ⟨fun | 112 => 81 | n => n, fun | 28 => 22 | 3 => 3 | 4 => 4 | 0 => 0 | n => n, fun | n => n⟩
theorem Tryd.laysRev : Go.Proofs.Lays.n112 Tryd.prog Tryd.laysRev_ren := {
  mixed := by kernel_rfl
  f112 := Tryd.func81.trans (congrArg some (by kernel_rfl))
  t0 := Tryd.underlying0
  a0 := Tryd.isAgg0
  z0 := Tryd.sizeOf0
  v0 := Tryd.zeroValue0
  t3 := Tryd.underlying3
  a3 := Tryd.isAgg3
  z3 := Tryd.sizeOf3
  v3 := Tryd.zeroValue3
  t4 := Tryd.underlying4
  a4 := Tryd.isAgg4
  z4 := Tryd.sizeOf4
  v4 := Tryd.zeroValue4
  t28 := Tryd.underlying22
  a28 := Tryd.isAgg22
  z28 := Tryd.sizeOf22
  v28 := Tryd.zeroValue22 }

theorem setCells_own {B g n cap : Nat} {w0 : World} : ∀ (zs : List Int) (o : Nat) (xs : List Int) (w : World), xs.length = n → o + zs.length ≤ n → OwnI B w (.slice (some ⟨g, 0, none⟩) n cap) xs → Below B w0 w →
    OwnI B (w.setCells g o (zs.map (Value.int .i64))) (.slice (some ⟨g, 0, none⟩) n cap) (xs.take o ++ zs ++ xs.drop (o + zs.length)) ∧ Below B w0 (w.setCells g o (zs.map (Value.int .i64)))
  | [], o, xs, w, _, _, h, hb => ⟨by simpa [World.setCells] using h, hb⟩
  | z :: r, o, xs, w, hn, ho, h, hb => by
    have hol : o < xs.length := by simp at ho; omega
    have h1 := h.set o hol z
    have h2 := h.setBelow hb o hol (.int .i64 z)
    rw [valAt_row] at h1 h2
    have ih := setCells_own r (o + 1) (xs.set o z) _ (by simpa using hn) (by simp at ho; omega) h1 h2
    have e : (xs.set o z).take (o + 1) ++ r ++ (xs.set o z).drop (o + 1 + r.length) = xs.take o ++ (z :: r) ++ xs.drop (o + (z :: r).length) := by
      rw [List.take_set, List.drop_set_of_lt (by omega)]
      rw [show (xs.take (o + 1)).set o z = xs.take o ++ [z] by rw [take_snoc xs o hol, List.set_append_right _ _ (by simp; omega)]; simp [show o - min o xs.length = 0 by omega]]
      simp [show o + 1 + r.length = o + (r.length + 1) by omega]
    rw [e] at ih
    exact ih

/-- slices.Reverse at a list of one's own. -/
theorem reverse_own (B : Nat) (v : Value) (xs : List Int) (w : World) (h : OwnI B w v xs) (hl : xs.length ≤ 9223372036854775807) :
    Calls Tryd.prog 81 #[v] w fun e w' => e = .returned (.tuple #[]) ∧ OwnI B w' v xs.reverse ∧ Below B w w' := by
  rcases h.2 with ⟨rfl, hn⟩ | ⟨g, cap, cur, rfl, hb, hg, hn, hm, hs, ht⟩
  · obtain rfl := List.length_eq_zero_iff.1 hn
    refine Calls.mono (Any.slices_Reverse_int_empty Tryd.laysRev none 0 w) ?_
    rintro e w' ⟨rfl, rfl⟩
    exact ⟨rfl, h, Below.refl _ _⟩
  · refine Calls.mono (Any.slices_Reverse_int_cells Tryd.laysRev g 0 xs.length cap xs w (Nat.le_refl _) hl (fun j hj => ?_) (fun j hj => ?_)) ?_
    · have := h.at.cellD j hj
      rw [valAt_row] at this
      simpa using this
    · have := h.frz j hj
      rw [valAt_row] at this
      simpa using this
    · rintro e w' ⟨rfl, q, rfl⟩
      rw [List.take_length]
      have := setCells_own (w0 := w) xs.reverse 0 xs (w.drewN q) rfl (by simp) (h.drewN q) (below_drewN (Below.refl _ _) q)
      simp at this
      simpa using ⟨this.1, this.2⟩

end Go.Proofs.YtbpdmpcakenjhaaDoor

namespace Go.Proofs.YtbpdmpcakenjhaaDoor
open Go.RowKit
set_option maxRecDepth 100000

theorem errTest {r : Nat → Addr} {w : World} {t : PErr} {v : Value} (h : ErrIs r w t v) : (t = none ∧ v = .nilIface) ∨ (t ≠ none ∧ ∃ T a, v = .iface T (.pointer (some a))) := by
  cases t with
  | none => exact .inl ⟨rfl, h⟩
  | some t => exact .inr ⟨by simp, h.some_shape⟩

theorem permF_none {k R : Int} {T : List Int} {W : Nat} {ys zs : List Int} (h : permF k R T W ys zs = none) : ∃ K Q : Nat, k = K ∧ R = Q ∧ RuleOk K Q T ∧ unlikeP K T W = true ∧ checkM K Q ys zs = none := by
  unfold permF at h
  cases hc : checkP k R T with
  | some t => rw [hc] at h; cases h
  | none =>
    rw [hc] at h
    simp only at h
    obtain ⟨K, Q, rfl, rfl, hr⟩ := checkP_none hc
    simp only [Int.toNat_natCast] at h
    cases hu : unlikeP K T W with
    | false => rw [hu, if_pos rfl] at h; cases h
    | true => rw [hu, if_neg (by decide)] at h; exact ⟨K, Q, rfl, rfl, hr, hu, h⟩

theorem checkM_nil {K Q : Nat} {ys zs : List Int} (h : checkM K Q ys zs = none) : checkM K Q [] zs = none := by
  obtain ⟨_, h2, _, h4⟩ := checkM_none h
  unfold checkM
  rw [if_neg (by simp), if_neg (by simpa using h2), if_pos]
  simpa using h4.odd

theorem permF_nil {k R : Int} {T : List Int} {W : Nat} {ys zs : List Int} (h : permF k R T W ys zs = none) : permF k R T W [] zs = none := by
  obtain ⟨K, Q, rfl, rfl, hr, hu, hc⟩ := permF_none h
  simp [permF, hr.check, hu, checkM_nil hc]

end Go.Proofs.YtbpdmpcakenjhaaDoor

namespace Go.Proofs.YtbpdmpcakenjhaaDoor
open Go.RowKit

theorem IntsAt.piece {w : World} {a : Option Addr} {cap : Nat} {xs : List Int} (h : IntsAt w (.slice a xs.length cap) xs) (k l : Nat) (hk : k ≤ l) (hl : l ≤ xs.length) :
    IntsAt w (sliced a k l cap 1) ((xs.take l).drop k) := by
  obtain ⟨a', cap', e, h1, h2, h3, h4⟩ := h
  injection e with e1 _ e3
  subst e1 e3
  have hlen : ((xs.take l).drop k).length = l - k := by simp; omega
  refine ⟨if cap = k then a else a.map (·.add (k * 1)), cap - k, by rw [hlen]; rfl, by rw [hlen]; omega, by omega, ?_, fun i hi => ?_⟩
  · intro hn
    by_cases hc : cap = k
    · omega
    · rw [if_neg hc] at hn
      have := h3 (Option.map_eq_none_iff.1 hn)
      omega
  · rw [hlen] at hi
    have hc : ¬ cap = k := by omega
    show w.cell? (valAt (.slice (if cap = k then a else a.map (·.add (k * 1))) _ _) i) = _
    rw [if_neg hc]
    cases a with
    | none => have := h3 rfl; omega
    | some p =>
      have h5 := h4 (k + i) (by omega)
      simp only [valAt] at h5
      show w.cell? ((p.add (k * 1)).add i) = _
      rw [Nat.mul_one, show (p.add k).add i = p.add (k + i) by unfold Addr.add; by_cases hk0 : k = 0 <;> by_cases hi0 : i = 0 <;> simp [hk0, hi0, Nat.add_assoc], h5]
      simp

/-- s[k:]. -/
theorem IntsAt.post {w : World} {v : Value} {xs : List Int} (h : IntsAt w v xs) (k : Nat) (hk : k ≤ xs.length) :
    ∃ u, (∀ w', (Instr.slice 22 v (some (.int .i64 k)) none none).run Tryd.prog w' = .ok u w') ∧ IntsAt w u (xs.drop k) := by
  have h' := h
  obtain ⟨a, cap, rfl, _⟩ := h'
  refine ⟨sliced a k xs.length cap 1, fun w' => ?_, ?_⟩
  · rw [run_slice_l w' 22 a xs.length cap uIntsE .i64 k (by omega) (by omega), eInts, sInt]
    rfl
  · have := h.piece k xs.length hk (Nat.le_refl _)
    rwa [List.take_length] at this

/-- s[k:l]. -/
theorem IntsAt.mid {w : World} {v : Value} {xs : List Int} (h : IntsAt w v xs) (k l : Nat) (hk : k ≤ l) (hl : l ≤ xs.length) :
    ∃ u, (∀ w', (Instr.slice 22 v (some (.int .i64 k)) (some (.int .i64 l)) none).run Tryd.prog w' = .ok u w') ∧ IntsAt w u ((xs.take l).drop k) := by
  have h' := h
  obtain ⟨a, cap, rfl, h1, _⟩ := h'
  refine ⟨sliced a k l cap 1, fun w' => ?_, h.piece k l hk hl⟩
  rw [run_slice_lh w' 22 a xs.length cap uIntsE .i64 .i64 k l (by omega) (by omega) (by omega), eInts, sInt]
  rfl

/-- s[:l]. -/
theorem IntsAt.front {w : World} {v : Value} {xs : List Int} (h : IntsAt w v xs) (l : Nat) (hl : l ≤ xs.length) :
    ∃ u, (∀ w', (Instr.slice 22 v none (some (.int .i64 l)) none).run Tryd.prog w' = .ok u w') ∧ IntsAt w u (xs.take l) := by
  have h' := h
  obtain ⟨a, cap, rfl, h1, _⟩ := h'
  refine ⟨sliced a 0 l cap 1, fun w' => ?_, ?_⟩
  · rw [run_slice_h w' 22 a xs.length cap uIntsE .i64 l (by omega) (by omega), eInts, sInt]
    rfl
  · have := h.piece 0 l (Nat.zero_le _) hl
    simpa using this
end Go.Proofs.YtbpdmpcakenjhaaDoor
