/-
  From a card's list of laid variables that holds two tables of unicode/utf8 beside the package errors and the handle of the type error.
  Walk: edenlaw20.awake, edenlaw20.heavy.
  What is known of a rule whose inverse is found.
  Opening what a call is handed: []int, api.Rule, the package-level errors.
  From a card's list of laid variables that holds the handle of the type error: the package errors and errors.errorType.
-/
import Derived.Test.YtjiadfblphdchaaGreatDoorMVb10
import Derived.Test.YtjiadfblphdchaaGreatDoorRows
import Derived.ProofKit
import Derived.OpenShut
import Derived.ShutString
import Derived.ChangeOld
import Derived.LaidMore
import Derived.Stop.Joined
import Derived.Stop.LaidErr
import Derived.Lib.SmallJoins
import Derived.LaidHandle
import Derived.Lay
namespace Go.Proofs.YtjiadfblphdchaaGreatDoor
open Go.RowKit
set_option maxRecDepth 100000
/-- A rule that is taken back is one to one. -/
theorem TakesBack.one {K R d : Nat} {T S : List Int} (h : TakesBack K R T d S) : ¬ NotOne K R T:=fun hn => by
 obtain ⟨x,y,sx,sy,lx,ly,hne,e⟩:=hn (R + d)
 refine hne ?_
 rw [← h x sx lx,← h y sy ly,e]
theorem find_one {K R : Nat} {T : List Int} {d : Nat} {S : List Int} (hr : RuleOk K R T) (h : findP K R T = some (d,S)) : ¬ NotOne K R T:=by
 obtain ⟨_,_,h1,_,_⟩:=find_some 4 0 h
 exact (try_takes hr h1).one
/-- Each cell becomes what stands to its right. -/
def rT : List Int:=[0,1,0,1,0,1,0,1]
theorem rT_ok : RuleOk 2 1 rT:=⟨by decide,by decide,by decide,by decide,fun x hx => by simp [rT] at hx; omega⟩
theorem rT_inv : RuleOk 2 1 [0,0,0,0,1,1,1,1]:=⟨by decide,by decide,by decide,by decide,fun x hx => by simp at hx; omega⟩
theorem rT_e : invE (2 : Nat) (1 : Nat) rT = none:=(invE_ok rT_ok (by decide)).2.2 (find_one rT_ok find_shift) (by show findP 2 1 rT ≠ none; rw [show findP 2 1 rT = _ from find_shift]; simp)
theorem nT_e : invE (2 : Nat) (1 : Nat) nT = fresh sInverse 0 9:=(invE_ok nT_ok (by decide)).1 nT_not
theorem txt240 : strOfNums [48 + ((2 : Nat) : Int),46,48 + ((1 : Nat) : Int),46] ++ txtW (decL (codeN 2 [0,0,0,0,1,1,1,1])) = ⟨#[50,46,49,46,50,52,48]⟩:=by
 rw [codeN_shift,decL_small]
 rfl
theorem heavy20 (k R : Int) (va : Option Addr) (vn vc : Nat) (T : List Int) (w : World) (h : IntsAt w (.slice va vn vc) T) :
 Calls Tryz.prog 9 #[.agg #[.int .i64 k,.int .i64 R,.slice va vn vc]] w (Ret1 (fun x _ => x = .bool (decide (64 < T.length))) w):=by
 have b0:=belowAlloc w (.cells #[.int .i64 k,.int .i64 R,.slice va vn vc] 24)
 have lT:=h.len
 replace h:=Lib.hid h
 go_enter Tryz.func9,Tryz.ntmps9
 go_wp2
 go_ret
 refine ⟨_,rfl,b0,?_⟩
 show Value.bool _ = Value.bool _
 congr 1
 rw [decide_eq_decide]
 omega
set_option maxHeartbeats 2000000 in
theorem awake20 (r : Nat → Addr) (w : World) (hg : Glob r w) (hG : GlobE w) : Calls Tryz.prog 8 #[] w (Ret1 (fun x _ => x = .bool true) w):=by
 have bl:=belowAlloc w (.cells #[.int .i64 0,.int .i64 1,.int .i64 0,.int .i64 1,.int .i64 0,.int .i64 1,.int .i64 0,.int .i64 1] 3)
 have hlit:=lit_ints w rT #[.int .i64 0,.int .i64 1,.int .i64 0,.int .i64 1,.int .i64 0,.int .i64 1,.int .i64 0,.int .i64 1] rfl (by decide)
 obtain ⟨w0,hw0⟩ : ∃ W : World,w.alloc (.cells #[.int .i64 0,.int .i64 1,.int .i64 0,.int .i64 1,.int .i64 0,.int .i64 1,.int .i64 0,.int .i64 1] 3) = W:=⟨_,rfl⟩
 rw [hw0] at bl hlit
 have b1:=belowAlloc w0 (.cells #[.int .i64 2,.int .i64 1,.slice (some ⟨w.heap.size,0,none⟩) 8 8] 24)
 have q : Box3 (w0.alloc (.cells #[.int .i64 2,.int .i64 1,.slice (some ⟨w.heap.size,0,none⟩) 8 8] 24)) w0.heap.size (.int .i64 2) (.int .i64 1) (.slice (some ⟨w.heap.size,0,none⟩) 8 8):=by simp [Box3,go_sem]
 have b01:=Below.step bl b1
 have hl1:=hlit.below b1
 obtain ⟨⟨z0,z1,z2⟩,-,-,-⟩:=q
 replace hlit:=Lib.hid hlit
 replace hl1:=Lib.hid hl1
 replace hg:=Lib.hid hg
 replace hG:=Lib.hid hG
 go_enter Tryz.func8,Tryz.ntmps8
 go_wp2_with fail
 refine (inv_rule r (2 : Nat) (1 : Nat) _ _ _ rT _ (hg.out.below b01) hl1.out).mono ?_
 rintro e w2 ⟨x,y,rfl,b2,hy,hx⟩
 rw [rT_e] at hy
 obtain rfl:=hy.none_eq
 obtain ⟨d,S,a,n,c,hf,rfl,ho⟩:=hx.1 rT_e
 rw [show findP ((2 : Nat) : Int).toNat ((1 : Nat) : Int).toNat rT = some (1,[0,0,0,0,1,1,1,1]) from find_shift] at hf
 obtain ⟨rfl,rfl⟩ : 1 = d ∧ [0,0,0,0,1,1,1,1] = S:=by
  injection hf with hf; injection hf with h1 h2; exact ⟨h1,h2⟩
 clear hx hy hf
 have b3:=belowAlloc w2 (.cells #[.int .i64 2,.int .i64 1,.slice a n c] 24)
 have q3 : Box3 (w2.alloc (.cells #[.int .i64 2,.int .i64 1,.slice a n c] 24)) w2.heap.size (.int .i64 2) (.int .i64 1) (.slice a n c):=by simp [Box3,go_sem]
 have b03:=Below.step (Below.step b01 b2) b3
 have ho3:=ho.below b3
 clear z0 z1 z2
 obtain ⟨⟨z0,z1,z2⟩,-,-,-⟩:=q3
 replace ho:=Lib.hid ho
 replace ho3:=Lib.hid ho3
 go_wp2_with fail
 refine (rule_text r 2 1 a n c _ _ (hg.out.below b03) ho3.out.at rT_inv (by decide)).mono ?_
 rintro e w4 ⟨_,_,rfl,b4,rfl,rfl⟩
 rw [txt240]
 have b04:=Below.step b03 b4
 have bl5:=belowAlloc w4 (.cells #[.int .i64 0,.int .i64 1,.int .i64 0,.int .i64 1,.int .i64 1,.int .i64 0,.int .i64 1,.int .i64 0] 3)
 have hlit5:=lit_ints w4 nT #[.int .i64 0,.int .i64 1,.int .i64 0,.int .i64 1,.int .i64 1,.int .i64 0,.int .i64 1,.int .i64 0] rfl (by decide)
 have b05:=Below.step b04 bl5
 replace hlit5:=Lib.hid hlit5
 clear z0 z1 z2
 go_wp2_with fail
 refine (inv_radius r (2 : Nat) (1 : Nat) _ _ _ nT _ (hg.out.below b05) hlit5.out).mono ?_
 rintro e w6 ⟨x,y,rfl,b6,hy,rfl⟩
 rw [nT_e] at hy
 have b06:=Below.step b05 b6
 have hy':=Lib.hid hy
 obtain ⟨T3,a3,rfl⟩:=hy.some_shape
 clear hy
 go_wp2_with fail
 refine (raw_new _ _ _ _).mono ?_
 rintro e w7 ⟨ev,rfl,b7,he⟩
 have b07:=Below.step b06 b7
 obtain ⟨e1,n1,c1,e2,n2,c2,rfl,hs1,hs2⟩:=he.at
 have he':=he.at
 replace he':=Lib.hid he'
 clear hs1 hs2 he
 go_wp2_with fail
 refine (raw_is r (fresh sInverse 0 9) _ _ _ (hg.out.below b07) (hG.out.below b07) (hy'.out.below b7) he'.out ⟨by decide,by decide,by decide⟩).mono ?_
 rintro e w8 ⟨_,rfl,b8,rfl⟩
 have b08:=Below.step b07 b8
 go_wp2
 go_ret
 exact ⟨_,rfl,b08,rfl⟩
end Go.Proofs.YtjiadfblphdchaaGreatDoor
namespace Go.Proofs.YtjiadfblphdchaaGreatDoor
open Go.RowKit
set_option maxRecDepth 100000
theorem ErrIs.nil_none {r : Nat → Addr} {w : World} {t : PErr} (h : ErrIs r w t .nilIface) : t = none:=by
 cases t with
 | none => rfl
 | some t => obtain ⟨T,a,e⟩:=h.some_shape; cases e
/-- A rule and the inverse that is found. -/
structure Found (K R : Nat) (T : List Int) (d : Nat) (S : List Int) : Prop where
 rule : RuleOk K R T
 inv : RuleOk K d S
 one : ¬ NotOne K R T
 find : findP K R T = some (d,S)
 takes : TakesBack K R T d S
 back : TakesBack K d S R T
theorem Found.of {K R d : Nat} {T S : List Int} (hr : RuleOk K R T) (h : findP K R T = some (d,S)) : Found K R T d S:=by
 have ho:=find_one hr h
 have hon:=onto_of_one hr ho
 obtain ⟨-,hd,h1,rfl,-⟩:=find_some 4 0 h
 have ht:=try_takes hr h1
 exact ⟨hr,takes_ok hr hon (by omega) (tryF_len ..) ht,ho,h,ht,takes_sym hon ht⟩
theorem InvIs.found {B : Nat} {w : World} {k R : Int} {T : List Int} {x : Value} (h : InvIs B w k R T x) (e : invE k R T = none) :
 ∃ (K Q d : Nat) (S : List Int),∃ a n c,k = K ∧ R = Q ∧ T.length ≤ 256 ∧ x = .agg #[.int .i64 K,.int .i64 d,.slice a n c] ∧ OwnI B w (.slice a n c) S ∧ Found K Q T d S:=by
 obtain ⟨d,S,a,n,c,hf,hx,ho⟩:=h.1 e
 have hsm : smallP k R T = none:=by
  cases hs : smallP k R T with
  | none => rfl
  | some t => rw [invE_bad hs] at e; cases e
 obtain ⟨K,Q,rfl,rfl,hr,hl⟩:=smallP_of hsm
 rw [Int.toNat_natCast,Int.toNat_natCast] at hf
 exact ⟨K,Q,d,S,a,n,c,rfl,rfl,hl,hx,ho,Found.of hr hf⟩
theorem chkE_takes {K R d : Nat} {T S : List Int} (hr : RuleOk K R T) (hs : RuleOk K d S) (h : R + d ≤ 4) (ht : TakesBack K R T d S) : chkE K R T K d S = none:=by
 rw [chkE_ok hr hs,if_neg (by simp),if_neg (by omega),back_takes hr.k1 ht,if_neg (by decide)]
theorem invE_of {K R d : Nat} {T S : List Int} (hr : RuleOk K R T) (hl : T.length ≤ 256) (h : findP K R T = some (d,S)) : invE K R T = none :=
 (invE_ok hr hl).2.2 (find_one hr h) (by rw [h]; simp)
theorem Found.twice {K R d Q : Nat} {T S N : List Int} (h : Found K R T d S) (hn : NarrIs K R T Q N) (hl : S.length ≤ 256) : invE K d S = none ∧ findP K d S = some (Q,N):=by
 have hf:=find_twice h.rule (onto_of_one h.rule h.one) h.find hn
 exact ⟨invE_of h.inv hl hf,hf⟩
end Go.Proofs.YtjiadfblphdchaaGreatDoor
namespace Go.Proofs.YtjiadfblphdchaaGreatDoor
open Go.ChangeShapes Go.WideShapes Go.ChangeAt Go.RowKit Go.Joins
set_option maxRecDepth 100000
theorem own : ownKnob Tryz.prog.godebug = none:=by kernel_rfl
theorem laidOut : laidOutB Tryz.prog = true:=by kernel_rfl
theorem cellsInt : Tryz.prog.cellsOf 3 = 1:=by kernel_rfl
theorem uInt : Tryz.prog.underlying 3 = some (.int .i64):=by kernel_rfl
theorem bytesInt : Tryz.prog.bytesOf 3 = 8:=by kernel_rfl
theorem i64_of_wf {n : Int} (h : (Lit.int .i64 n).wf = true) : I64 n:=by
 have:=bounds_i64 h
 unfold I64
 omega
/-- A []int that came in. -/
theorem open_intsV {H : Type} {enc : TypeId × Value → H} {W : World} {held : Bool} {fuel : Nat} {v : Value} {y : DataW H × List MemPlace}
 (h : DataW.trod enc Tryz.prog W 0 (fun _ => true) held fuel 22 [v] = some y) (hw : ∀ n ∈ y.1.weights Tryz.prog 22,n ≤ reachBytes) :
 ∃ xs,IntsAt W v xs ∧ xs.length ≤ 17592186043904 ∧ ∀ x ∈ xs,I64 x:=by
 rcases open_ints uInts uInt cellsInt h with ⟨hcs,_⟩ | ⟨a,len,cap,zs,hcs,_,hl,hm,hz,hx,hcell,hwz⟩
 ·simp at hcs
  subst hcs
  exact ⟨[],(OwnI.nil 0 W).at,by simp,by simp⟩
 ·simp at hcs
  subst hcs
  simp only [if_true] at hz
  have hzl : (zs.take len).length = len:=by simp; omega
  refine ⟨zs.take len,⟨some a,cap,by rw [hzl],by rw [hzl]; exact hl,hm,(fun e => by cases e),fun i hi => ?_⟩,?_,fun x hx => i64_of_wf (hwz x (List.mem_of_mem_take hx))⟩
  ·have hi' : i < zs.length:=by rw [hzl] at hi; omega
   show W.cell? (a.add i) = _
   rw [hcell i hi']
   simp [List.getD,hi']
  ·rw [hx] at hw
   have:=hw ((lits (H:=H) .i64 (zs.take len)).length * 8 + (lits (H:=H) .i64 (zs.drop len)).length * 8) (by
    simp only [DataW.weights,uInts,bytesInt,List.mem_cons]
    left; omega)
   simp only [lits,List.length_map,reachBytes] at this
   omega
theorem weights_each3 {H : Type} {t0 t1 t2 : TypeId} {y0 y1 y2 : DataW H} {n : Nat} (h : n ∈ y2.weights Tryz.prog t2) : n ∈ DataW.weightsEach Tryz.prog [t0,t1,t2] [y0,y1,y2]:=by
 simp only [DataW.weightsEach,List.mem_append]
 exact .inr (.inr (.inl h))
/-- A rule that came in. -/
theorem open_ruleV {H : Type} {enc : TypeId × Value → H} {W : World} {held : Bool} {v : Value} {d : DataW H} {p : List MemPlace} {b0 : Nat}
 (hv : Value.okWide Tryz.prog W .any b0 24 v) (h : DataW.Trod enc Tryz.prog W 0 (fun _ => true) held 24 v d p) (hw : ∀ n ∈ d.weights Tryz.prog 24,n ≤ reachBytes) :
 ∃ (k R : Int) (u : Value) (xs : List Int),v = .agg #[.int .i64 k,.int .i64 R,u] ∧ IntsAt W u xs ∧ xs.length ≤ 17592186043904 ∧ (∀ x ∈ xs,I64 x) ∧ I64 k ∧ I64 R:=by
 obtain ⟨v0,v1,v2,y0,y1,y2,n,rfl,rfl,rfl,h0,h1,h2⟩:=open_agg3 Tryz.underlying24 (by kernel_rfl) (by kernel_rfl) hv h
 obtain ⟨a,e0,_,wa⟩:=DataW.trod_int uInt h0
 obtain ⟨b,e1,_,wb⟩:=DataW.trod_int uInt h1
 simp at e0 e1
 subst e0 e1
 obtain ⟨xs,hx,hl,hb⟩:=open_intsV h2 fun n hn => hw n (by
  simp only [DataW.weights,Tryz.underlying24]
  exact weights_each3 (t0:=3) (t1:=3) (t2:=22) hn)
 exact ⟨a,b,v2,xs,rfl,hx,hl,hb,i64_of_wf wa,i64_of_wf wb⟩
/-! The package-level errors. -/
theorem star : "*" ++ "errors.errorString" = "*errors.errorString" := by decide
theorem rowES (u : TypeId) (h : Tryz.prog.typeName? 3 u = some "*errors.errorString") : u = 255 :=
 typeName_ptr_named (nm := "errors.errorString") (by rw [star]; kernel_rfl) (by kernel_rfl) (by decide) u (by rw [star]; exact h)
theorem pES : Tryz.prog.underlying 255 = some (.pointer 276):=by kernel_rfl
theorem cES : Tryz.prog.cellsOf 276 = 1:=by kernel_rfl
theorem cStr : Tryz.prog.cellsOf 9 = 1:=by kernel_rfl
def laid12 : List (String × DataW Unit) := [("eden/api.BadRule", Rows.laid_eden_api_BadRule), ("eden/api.BadWord", Rows.laid_eden_api_BadWord), ("eden/api.BadArg", Rows.laid_eden_api_BadArg), ("eden/api.TooBig", Rows.laid_eden_api_TooBig), ("eden/api.NoBudget", Rows.laid_eden_api_NoBudget), ("eden/api.BadText", Rows.laid_eden_api_BadText), ("eden/api.BadPatch", Rows.laid_eden_api_BadPatch), ("eden/api.BadCert", Rows.laid_eden_api_BadCert), ("eden/api.NoInverse", Rows.laid_eden_api_NoInverse), ("eden/api.BadLine", Rows.laid_eden_api_BadLine), ("eden/api.BadState", Rows.laid_eden_api_BadState), ("eden/api.Unknown", Rows.laid_eden_api_Unknown)]
theorem sentinel {n : String} {text : List UInt8} {r : List (String × DataW Unit)} {W : World} {g : Nat}
 (h : laidMet Tryz.prog ((n, .iface "*errors.errorString" (.ptr (.agg [.lit (.string text)]))) :: r) W)
 (hg : Tryz.prog.globalNamed n = some g) (ht : (Tryz.prog.globals[g]?).map (·.type) = some 28) :
 (∃ a : Addr,W.cell? ⟨g,0,none⟩ = some (.iface 255 (.pointer (some a))) ∧ ∃ s,W.cell? a = some (.string s) ∧ s.data.toList = text) ∧ laidMet Tryz.prog r W:=by
 refine ⟨?_,h.tail⟩
 obtain ⟨a,s,hv,hc,hs,_⟩:=laid_sentinel h hg ht Tryz.underlying28 rowES pES Tryz.underlying276 rfl rfl Tryz.underlying9 cES cStr
 exact ⟨a,by simpa using World.var?_cell hg hv 0,s,hc,hs⟩
def txt : Nat → List UInt8
 | 1 => [98,97,100,32,114,117,108,101]
 | 2 => [98,97,100,32,119,111,114,100]
 | 3 => [98,97,100,32,97,114,103,117,109,101,110,116]
 | 4 => [116,111,111,32,98,105,103]
 | 5 => [110,111,32,98,117,100,103,101,116]
 | 6 => [98,97,100,32,116,101,120,116]
 | 7 => [98,97,100,32,112,97,116,99,104]
 | 8 => [98,97,100,32,99,101,114,116,105,102,105,99,97,116,101]
 | 9 => [110,111,32,105,110,118,101,114,115,101]
 | 10 => [98,97,100,32,108,105,110,101]
 | 11 => [98,97,100,32,115,116,97,116,101]
 | 99 => [117,110,107,110,111,119,110]
 | _ => []
theorem txt_apart : ∀ m n : Fin 12,1 ≤ m.val → 1 ≤ n.val → txt m.val = txt n.val → m = n:=by decide
theorem glob_of_laidR {W : World} {l : List (String × DataW Unit)} (h : laidMet Tryz.prog (laid12 ++ l) W) : ∃ r,Glob r W:=by
 obtain ⟨⟨a1,c1,s1,e1,t1⟩,h⟩:=sentinel (text:=txt 1) h (g:=0) (by kernel_rfl) (by kernel_rfl)
 obtain ⟨⟨a2,c2,s2,e2,t2⟩,h⟩:=sentinel (text:=txt 2) h (g:=1) (by kernel_rfl) (by kernel_rfl)
 obtain ⟨⟨a3,c3,s3,e3,t3⟩,h⟩:=sentinel (text:=txt 3) h (g:=2) (by kernel_rfl) (by kernel_rfl)
 obtain ⟨⟨a4,c4,s4,e4,t4⟩,h⟩:=sentinel (text:=txt 4) h (g:=3) (by kernel_rfl) (by kernel_rfl)
 obtain ⟨⟨a5,c5,s5,e5,t5⟩,h⟩:=sentinel (text:=txt 5) h (g:=4) (by kernel_rfl) (by kernel_rfl)
 obtain ⟨⟨a6,c6,s6,e6,t6⟩,h⟩:=sentinel (text:=txt 6) h (g:=5) (by kernel_rfl) (by kernel_rfl)
 obtain ⟨⟨a7,c7,s7,e7,t7⟩,h⟩:=sentinel (text:=txt 7) h (g:=6) (by kernel_rfl) (by kernel_rfl)
 obtain ⟨⟨a8,c8,s8,e8,t8⟩,h⟩:=sentinel (text:=txt 8) h (g:=7) (by kernel_rfl) (by kernel_rfl)
 obtain ⟨⟨a9,c9,s9,e9,t9⟩,h⟩:=sentinel (text:=txt 9) h (g:=8) (by kernel_rfl) (by kernel_rfl)
 obtain ⟨⟨a10,c10,s10,e10,t10⟩,h⟩:=sentinel (text:=txt 10) h (g:=9) (by kernel_rfl) (by kernel_rfl)
 obtain ⟨⟨a11,c11,s11,e11,t11⟩,h⟩:=sentinel (text:=txt 11) h (g:=10) (by kernel_rfl) (by kernel_rfl)
 obtain ⟨⟨a99,c99,s99,e99,t99⟩,h⟩:=sentinel (text:=txt 99) h (g:=11) (by kernel_rfl) (by kernel_rfl)
 clear h
 have key : ∀ n : Nat,(1 ≤ n ∧ n ≤ 11) ∨ n = 99 → ∃ s,W.cell? ((fun n : Nat => match n with | 1 => a1 | 2 => a2 | 3 => a3 | 4 => a4 | 5 => a5 | 6 => a6 | 7 => a7 | 8 => a8 | 9 => a9 | 10 => a10 | 11 => a11 | _ => a99) n) = some (.string s) ∧ s.data.toList = txt n:=by
  intro n hn
  have : n = 1 ∨ n = 2 ∨ n = 3 ∨ n = 4 ∨ n = 5 ∨ n = 6 ∨ n = 7 ∨ n = 8 ∨ n = 9 ∨ n = 10 ∨ n = 11 ∨ n = 99:=by omega
  rcases this with rfl | rfl | rfl | rfl | rfl | rfl | rfl | rfl | rfl | rfl | rfl | rfl
  ·exact ⟨s1,e1,t1⟩
  ·exact ⟨s2,e2,t2⟩
  ·exact ⟨s3,e3,t3⟩
  ·exact ⟨s4,e4,t4⟩
  ·exact ⟨s5,e5,t5⟩
  ·exact ⟨s6,e6,t6⟩
  ·exact ⟨s7,e7,t7⟩
  ·exact ⟨s8,e8,t8⟩
  ·exact ⟨s9,e9,t9⟩
  ·exact ⟨s10,e10,t10⟩
  ·exact ⟨s11,e11,t11⟩
  ·exact ⟨s99,e99,t99⟩
 refine ⟨(fun n : Nat => match n with | 1 => a1 | 2 => a2 | 3 => a3 | 4 => a4 | 5 => a5 | 6 => a6 | 7 => a7 | 8 => a8 | 9 => a9 | 10 => a10 | 11 => a11 | _ => a99),c1,c2,c3,c4,c5,c6,c7,c8,c9,c10,c11,c99,(fun n hn => ?_),fun m n hm1 hm2 hn1 hn2 he => ?_⟩
 ·obtain ⟨s,hs,_⟩:=key n hn
  exact ⟨s,hs⟩
 ·obtain ⟨s,hs,ts⟩:=key m.toNat (by omega)
  obtain ⟨s',hs',ts'⟩:=key n.toNat (by omega)
  have hss : s = s':=by
   have:=hs.symm.trans ((congrArg W.cell? he).trans hs')
   simpa using this
  subst hss
  have:=txt_apart ⟨m.toNat,by omega⟩ ⟨n.toNat,by omega⟩ (by simp; omega) (by simp; omega) (ts.symm.trans ts')
  have:=congrArg Fin.val this
  simp at this
  omega
end Go.Proofs.YtjiadfblphdchaaGreatDoor
namespace Go.Proofs.YtjiadfblphdchaaGreatDoor
open Go.RowKit
set_option maxRecDepth 100000
theorem rtypeNo : (Tryz.prog.cutTypes.find? (·.1 == "internal/reflectlite.rtype")).map (·.2) = some 161 := by kernel_rfl
theorem errorTypeNo : Tryz.prog.globalNamed "errors.errorType" = some 12 := by kernel_rfl
theorem typesNo : Tryz.prog.types.size = 388 - 100:=by kernel_rfl
theorem oneError : ((List.range (388 - 100)).filter fun t => Tryz.prog.rowNamed t [101,114,114,111,114]) = [28]:=by kernel_rfl
theorem handleErr : typeHandle Tryz.prog 28 = .pointer (some ⟨17,28,none⟩):=by kernel_rfl
end Go.Proofs.YtjiadfblphdchaaGreatDoor
namespace Go.Proofs.YtjiadfblphdchaaGreatDoor
open Go.RowKit
set_option maxRecDepth 100000
def laid15 : List (String × DataW Unit) := ("unicode/utf8.acceptRanges", Rows.laid_unicode_utf8_acceptRanges) :: ("errors.errorType", Rows.laid_errors_errorType) :: (laid12 ++ [("unicode/utf8.first", Rows.laid_unicode_utf8_first)])
theorem glob_of_laidP {W : World} (h : laidMetH Tryz.prog laid15 W) : ∃ r,Glob r W ∧ GlobE W:=by
 have h' : laidMet Tryz.prog (("unicode/utf8.acceptRanges", Rows.laid_unicode_utf8_acceptRanges) :: (laid12 ++ [("unicode/utf8.first", Rows.laid_unicode_utf8_first)])) W ∧ handlesMet Tryz.prog [("errors.errorType", Rows.laid_errors_errorType)] W := h
 obtain ⟨r,hg⟩:=glob_of_laidR h'.1.tail
 refine ⟨r,hg,?_⟩
 obtain ⟨name,u,ty,e1,e2,e3,e4,e5⟩:=h'.2 _ (List.mem_cons_self ..)
 have en : name = [101,114,114,111,114]:=(Option.some.inj e1).symm
 subst en
 obtain rfl:=Option.some.inj (rtypeNo.symm.trans e2)
 have hm : ty ∈ (List.range (388 - 100)).filter fun t => Tryz.prog.rowNamed t [101,114,114,111,114]:=List.mem_filter.2 ⟨List.mem_range.2 (by rw [← typesNo]; exact e3),e4⟩
 rw [oneError] at hm
 obtain rfl:=List.mem_singleton.1 hm
 rw [handleErr] at e5
 simpa [GlobE] using World.var?_cell errorTypeNo e5 0
/-- The witness's world: the door's, and the table that no text lays. -/
noncomputable def doorP (os : Os) : World := (World.doorLaid Tryz.prog 400 os).layVars Tryz.prog [("unicode/utf8.first", Rows.laid_unicode_utf8_first)]
theorem doorP_os (os : Os) : (doorP os).os = os:=World.layVars_os _ _ _
end Go.Proofs.YtjiadfblphdchaaGreatDoor
