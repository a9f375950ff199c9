/-
  Texts that the proof leans on.
-/
import Derived.Calls
import Derived.Lib.Hide
import Derived.Test.YtkaoebokbfcmhaaGreatDoorProg
import Derived.KernelRfl
import Derived.WalkKit
import Derived.WalkSpells
import Derived.WalkLawsBesides
import Derived.Maps.AppendAt
import Derived.Laws.Bits64b
import Derived.BigQuiet
import Derived.Deep.DeepCutAuto
namespace Go.Proofs.YtkaoebokbfcmhaaGreatDoor
theorem Hd {p:Prop} (h:p):RowKit.Hid p:=h
theorem pq:(∀ (a:Act) (v:Value),a.put none v=a)∧(∀ (a:Act) (k:Tmp) (v:Value),a.put (some k) v={ a with tmps:=a.tmps.setIfInBounds k v })∧(∀ (l:List Value) (i:Nat) (v:Value),l.toArray.setIfInBounds i v=(l.set i v).toArray)∧(∀ (x v:Value) (l:List Value),(x::l).set 0 v=v::l)∧(∀ (x v:Value) (l:List Value) (n:Nat),(x::l).set (n+1) v=x::l.set n v) :=
 ⟨fun _ _=>rfl,fun _ _ _=>rfl,fun _ _ _=>by simp,fun _ _ _=>rfl,fun _ _ _ _=>rfl⟩
open Go.RowKit
def valAt (v:Value) (i:Nat):Addr:=match v with | .slice (some p) _ _=>p.add i | _=>default
def IntsAt (w:World) (v:Value) (xs:List Int):Prop :=
 ∃ a cap,v=.slice a xs.length cap∧xs.length≤cap∧cap≤maxLen∧(a=none→cap=0)∧∀ i (h:i<xs.length),w.cell? (valAt v i)=some (.int .i64 xs[i])
theorem IntsAt.len_le {w:World} {v:Value} {xs:List Int} (h:IntsAt w v xs):xs.length≤9223372036854775807:=by
 obtain ⟨a,cap,rfl,h1,h2,_⟩:=h
 unfold maxLen at h2; omega
theorem uInts:Tryz.prog.underlying 22=some (.slice 3):=by kernel_rfl
theorem iInt:(Tryz.prog.info? 3).map (fun i=>(i.zero,i.size,i.bytes))=some (some (.int .i64 0),1,8):=by kernel_rfl
theorem eInts:Tryz.prog.elem 22=3:=by kernel_rfl
theorem uIntsE:Tryz.prog.underlying 22=some (.slice (Tryz.prog.elem 22)):=by rw [eInts]; exact uInts
theorem sInt (w:World):(sizeOf 3).run Tryz.prog w=.ok 1 w:=by kernel_rfl
theorem IntsAt.len {w:World} {v:Value} {xs:List Int} (h:IntsAt w v xs) (w':World) :
 (Builtin.len_ #[22] 3 #[v]).run Tryz.prog w'=.ok (.int .i64 xs.length) w':=by
 obtain ⟨a,cap,rfl,h1,h2,h3,h4⟩:=h
 rw [run_len_slice _ _ _ _ _ _ uIntsE]
 rfl
theorem IntsAt.idx {w:World} {v:Value} {xs:List Int} (h:IntsAt w v xs) (i:Nat) (hi:i<xs.length) (w':World) :
 (Instr.indexAt 22 v (.int .i64 i)).run Tryz.prog w'=.ok (.pointer (some (valAt v i))) w':=by
 obtain ⟨a,cap,rfl,h1,h2,h3,h4⟩:=h
 cases a with
 | none=>have:=h3 rfl; omega
 | some p =>
  rw [run_indexAt_slice _ _ _ _ _ _ _ uIntsE,if_pos (by omega),eInts,sInt]
  simp [valAt]
theorem IntsAt.idxI {w:World} {v:Value} {xs:List Int} (h:IntsAt w v xs) (i:Int) (h0:0≤i) (hi:i<xs.length) (w':World) :
 (Instr.indexAt 22 v (.int .i64 i)).run Tryz.prog w'=.ok (.pointer (some (valAt v i.toNat))) w':=by
 have:=h.idx i.toNat (by omega) w'
 rwa [Int.toNat_of_nonneg h0] at this
theorem IntsAt.cell {w:World} {v:Value} {xs:List Int} (h:IntsAt w v xs) (i:Nat) (hi:i<xs.length) :
 w.cell? (valAt v i)=some (.int .i64 xs[i]):=by
 obtain ⟨a,cap,rfl,h1,h2,h3,h4⟩:=h
 exact h4 i hi
theorem IntsAt.cellD {w:World} {v:Value} {xs:List Int} (h:IntsAt w v xs) (i:Nat) (hi:i<xs.length) :
 w.cell? (valAt v i)=some (.int .i64 (xs.getD i 0)):=by
 rw [h.cell i hi]; simp [List.getD,hi]
theorem IntsAt.blk {w:World} {v:Value} {xs:List Int} (h:IntsAt w v xs) (i:Nat) (hi:i<xs.length):(valAt v i).block<w.heap.size :=
 World.block_lt_of_cell? _ _ (h.cell i hi)
theorem IntsAt.below {w w':World} {v:Value} {xs:List Int} (h:IntsAt w v xs) (hb:Below w.heap.size w w'):IntsAt w' v xs:=by
 have hk:=h.blk
 obtain ⟨a,cap,e,h1,h2,h3,h4⟩:=h
 exact ⟨a,cap,e,h1,h2,h3,fun i hi=>by rw [hb.cell (hk i hi)]; exact h4 i hi⟩
theorem IntsAt.cells_eq {w w':World} {v:Value} {xs:List Int} (h:IntsAt w v xs) (hc:∀ i,i<xs.length→w'.cell? (valAt v i)=w.cell? (valAt v i)):IntsAt w' v xs:=by
 obtain ⟨a,cap,e,h1,h2,h3,h4⟩:=h
 exact ⟨a,cap,e,h1,h2,h3,fun i hi=>by rw [hc i hi]; exact h4 i hi⟩
def OwnI (B:Nat) (w:World) (v:Value) (xs:List Int):Prop:=w.ownsRow B 3 1 v xs.length (xs.map (Value.int .i64))
theorem OwnI.nil (B:Nat) (w:World):OwnI B w (.slice none 0 0) []:=World.ownsRow_nil w B _ 1
theorem OwnI.at {B:Nat} {w:World} {v:Value} {xs:List Int} (h:OwnI B w v xs):IntsAt w v xs:=by
 rcases h.2 with ⟨rfl,hn⟩ | ⟨g,cap,cur,rfl,hb,hg,hn,hm,hs,ht⟩
 ·obtain rfl:=List.length_eq_zero_iff.1 hn
  exact ⟨none,0,rfl,by simp,by simp,fun _=>rfl,by simp⟩
 ·refine ⟨some ⟨g,0,none⟩,cap,rfl,hn,hm,(by intro e; cases e),fun i hi=>?_⟩
  exact World.ownsRow.cells h (g:=g) rfl i _ (by simp [hi])
theorem OwnI.mono {B B':Nat} {w:World} {v:Value} {xs:List Int} (h:OwnI B w v xs) (hB:B'≤B):OwnI B' w v xs:=by
 refine ⟨h.1,?_⟩
 rcases h.2 with h2 | ⟨g,cap,cur,e,hb,r⟩
 ·exact .inl h2
 ·exact .inr ⟨g,cap,cur,e,Nat.le_trans hB hb,r⟩
theorem OwnI.lt {B:Nat} {w:World} {v:Value} {xs:List Int} (h:OwnI B w v xs):∀ k,v.ownBlock=some k→B≤k∧k<w.heap.size:=World.ownsRow.lt h
theorem valAt_row (g i n cap:Nat):valAt (.slice (some ⟨g,0,none⟩) n cap) i=⟨g,i,none⟩:=by
 show (⟨g,0,none⟩:Addr).add i=_
 unfold Addr.add; split<;>simp_all
theorem OwnI.frz {B:Nat} {w:World} {v:Value} {xs:List Int} (h:OwnI B w v xs) (i:Nat) (hi:i<xs.length):w.frozen? (valAt v i)=false:=by
 rcases h.2 with ⟨rfl,hn⟩ | ⟨g,cap,cur,rfl,hb,hg,hn,hm,hs,ht⟩
 ·omega
 ·rw [valAt_row]
  exact frozen_of_row w g i cur _ hg
theorem OwnI.blkB {B:Nat} {w:World} {v:Value} {xs:List Int} (h:OwnI B w v xs) (i:Nat) (hi:i<xs.length):B≤(valAt v i).block:=by
 rcases h.2 with ⟨rfl,hn⟩ | ⟨g,cap,cur,rfl,hb,hg,hn,hm,hs,ht⟩
 ·omega
 ·rw [valAt_row]; exact hb
theorem OwnI.set {B:Nat} {w:World} {v:Value} {xs:List Int} (h:OwnI B w v xs) (i:Nat) (hi:i<xs.length) (y:Int) :
 OwnI B (w.setCell (valAt v i) (.int .i64 y)) v (xs.set i y):=by
 rcases h.2 with ⟨rfl,hn⟩ | ⟨g,cap,cur,rfl,hb,hg,hn,hm,hs,ht⟩
 ·omega
 ·rw [valAt_row]
  have:=(World.ownsRow.stored h i (.int .i64 y)).1
  unfold OwnI
  rw [List.map_set,List.length_set]
  exact this
theorem OwnI.setBelow {B:Nat} {w0 w:World} {v:Value} {xs:List Int} (h:OwnI B w v xs) (hb:Below B w0 w) (i:Nat) (hi:i<xs.length) (y:Value) :
 Below B w0 (w.setCell (valAt v i) y):=hb.setCell (h.blkB i hi) y
theorem OwnI.below {B:Nat} {w w':World} {v:Value} {xs:List Int} (h:OwnI B w v xs) (hb:Below w.heap.size w w'):OwnI B w' v xs:=by
 refine ⟨h.1,?_⟩
 rcases h.2 with h2 | ⟨g,cap,cur,e,hB,hg,r⟩
 ·exact .inl h2
 ·refine .inr ⟨g,cap,cur,e,hB,?_,r⟩
  rw [hb.block g (Array.getElem?_eq_some_iff.1 hg).1]; exact hg
theorem OwnI.alloc {B:Nat} {w:World} {v:Value} {xs:List Int} (h:OwnI B w v xs) (o:Obj):OwnI B (w.alloc o) v xs:=World.ownsRow.alloc h o
theorem OwnI.drew {B:Nat} {w:World} {v:Value} {xs:List Int} (h:OwnI B w v xs):OwnI B w.drew v xs:=h
theorem OwnI.drewN {B:Nat} {w:World} {v:Value} {xs:List Int} (h:OwnI B w v xs) (n:Nat):OwnI B (w.drewN n) v xs:=h
theorem IntsAt.drew {w:World} {v:Value} {xs:List Int} (h:IntsAt w v xs):IntsAt w.drew v xs:=h
theorem IntsAt.drewN {w:World} {v:Value} {xs:List Int} (h:IntsAt w v xs) (n:Nat):IntsAt (w.drewN n) v xs:=h
theorem OwnI.kept {B:Nat} {w w':World} {row:Option Nat} {v:Value} {xs:List Int} (h:OwnI B w v xs) (hg:w.grownBy w' row) (hne:v.ownBlock=none∨v.ownBlock≠row):OwnI B w' v xs:=World.ownsRow.kept h hg hne
theorem OwnI.setOther {B B':Nat} {w:World} {v u:Value} {xs ys:List Int} (h:OwnI B w v xs) (k:OwnI B' w u ys) (hne:v.ownBlock≠u.ownBlock) (i:Nat) (hi:i<ys.length) (y:Value) :
 OwnI B (w.setCell (valAt u i) y) v xs:=by
 rcases k.2 with ⟨rfl,hn⟩ | ⟨g,cap,cur,rfl,hb,hg,hn,hm,hs,ht⟩
 ·omega
 ·rw [valAt_row]
  exact h.kept (row:=some g) ⟨rfl,rfl,rfl,by simp [World.setCell],fun j _ hj=>Below.heap_setCell _ _ _ _ (by simp at hj; omega)⟩ (.inr (by simpa [Value.ownBlock] using hne))
theorem OwnI.lit (B:Nat) (w:World) (hB:B≤w.heap.size) (xs:List Int) (hm:xs.length≤maxLen) (cs:Array Value) (hc:cs.toList=xs.map (Value.int .i64)) (n:Nat) (hn:n=xs.length) :
 OwnI B (w.alloc (.cells cs 3)) (.slice (some ⟨w.heap.size,0,none⟩) n n) xs:=by
 subst hn
 have hs:cs.size=xs.length*1:=by rw [← Array.length_toList,hc]; simp
 have:=World.ownsRow_lit (base:=B) (e:=3) (size:=1) w cs xs.length hB hm hs
 unfold OwnI
 rw [← hc]; exact this
theorem wpl_make {w:World} {ops:Array Oper} {rest:List Oper} {o:Oper} {a:Act} {Q:Exit→Act→World→Prop}
 (hg:o.guard=none) (l c:Operand) (hop:o.op=Op.makeSlice 22 l c) (C:Int) (hl:a.eval l=.int .i64 C) (hc:a.eval c=.int .i64 C)
 (h0:0≤C) (hC:C≤17592186044416)
 (hK:∀ v w',OwnI w.heap.size w' v (List.replicate C.toNat 0)→Below w.heap.size w w'→wpList Tryz.prog ops Q rest (a.put o.dst v) w') :
 wpList Tryz.prog ops Q (o::rest) a w:=by
 obtain ⟨i,hi,hz0,hz1,hz2⟩:=info_parts iInt
 obtain ⟨n,rfl⟩:=Int.eq_ofNat_of_zero_le h0
 refine wpList_make_full w hg l c 22 hop w.heap.size 3 i (.int .i64 0) 1 uInts hi hz0 hz1 .i64 .i64 n n n hl hc rfl rfl (by rw [hz2]; omega) (by unfold maxLen; omega) (Nat.le_refl _) ?_
 intro w' hown hgrow
 refine hK _ _ ?_ ((Below.refl _ _).grown hgrow (Nat.le_refl _) (by intro k hk; cases hk))
 have e:(madeCells (Value.cells (.int .i64 0)) (n*1)).toList=(List.replicate n (0:Int)).map (Value.int .i64):=by
  rw [show Value.cells (.int .i64 0)=#[.int .i64 0] from rfl,toList_madeCells_one]; simp
 rw [e] at hown
 simpa [OwnI] using hown
theorem wpl_append1 {w:World} {ops:Array Oper} {rest:List Oper} {o:Oper} {a:Act} {Q:Exit→Act→World→Prop} (hgd:o.guard=none) (s x:Operand)
 (ho:o.op=.call { callee:=.builtin .append,args:=#[s,x],argTypes:=#[22,22] })
 (B:Nat) (v:Value) (xs:List Int) (y:Int) (hown:OwnI B w v xs) (hs:a.eval s=v) (hx:a.eval x=.slice (some ⟨w.heap.size,0,none⟩) 1 1)
 (hlen:xs.length<17592186044415) (hB:B≤w.heap.size)
 (h:∀ v' w',OwnI B w' v' (xs++[y])→Below B w w'→w.grownBy w' v.ownBlock→(v'.ownBlock=v.ownBlock∨∃ k,v'.ownBlock=some k∧w.heap.size≤k)→wpList Tryz.prog ops Q rest (a.put o.dst v') w') :
 wpList Tryz.prog ops Q (o::rest) a (w.alloc (.cells #[.int .i64 y] 3)):=by
 obtain ⟨i,hi,hz0,hz1,hz2⟩:=info_parts iInt
 have hown':=hown.alloc (.cells #[.int .i64 y] 3)
 refine wpList_append_own_at _ hgd s x 22 ho B 3 i (.int .i64 0) 1 8 uInts hi hz0 hz1 hz2 rfl (by decide) v xs.length _ hs hown' _ 1 1 [.int .i64 y] hx rfl (cell_one_new _ _ _) (by simp [Value.oneCell']) (by unfold maxLen; omega) (by omega) (by simp; omega) ?_
 intro v' w' ho' hgr _ hat
 have hg2:w.grownBy w' v.ownBlock:=(World.grownBy_alloc w _ _).trans hgr
 refine h v' w' (by simpa [OwnI] using ho') ((Below.refl _ _).grown hg2 hB (fun k hk=>(hown.lt k hk).1)) hg2 ?_
 rcases hat with hat | hat
 ·exact .inl hat
 ·exact .inr ⟨_,hat,by simp⟩
theorem wpl_append {w:World} {ops:Array Oper} {rest:List Oper} {o:Oper} {a:Act} {Q:Exit→Act→World→Prop} (hgd:o.guard=none) (s x:Operand)
 (ho:o.op=.call { callee:=.builtin .append,args:=#[s,x],argTypes:=#[22,22] })
 (B:Nat) (v u:Value) (xs ys:List Int) (hown:OwnI B w v xs) (hu:IntsAt w u ys) (hs:a.eval s=v) (hx:a.eval x=u)
 (hlen:xs.length+ys.length≤17592186044416) (hB:B≤w.heap.size)
 (h:∀ v' w',OwnI B w' v' (xs++ys)→Below B w w'→w.grownBy w' v.ownBlock→(v'.ownBlock=v.ownBlock∨∃ k,v'.ownBlock=some k∧w.heap.size≤k)→wpList Tryz.prog ops Q rest (a.put o.dst v') w') :
 wpList Tryz.prog ops Q (o::rest) a w:=by
 obtain ⟨i,hi,hz0,hz1,hz2⟩:=info_parts iInt
 have hu':=hu
 obtain ⟨ao,cap,rfl,h1,h2,h3,h4⟩:=hu
 cases ao with
 | none =>
  obtain rfl:=h3 rfl
  have hy:ys=[]:=List.length_eq_zero_iff.1 (by omega)
  subst hy
  refine wpList_plain hgd fun K hK=>?_
  have hrun:=run_append_owned_none (P:=Tryz.prog) w B 22 o.type 3 i 1 uInts hi v xs.length _ hown
  unfold Oper.wp execOp
  simp only [ho,resolve,invoke,builtin,Sem.run_bind,Sem.run_pure,Result.andThen_ok,List.map_toArray,List.map_cons,List.map_nil,hs,hx]
  rw [show (Value.slice none ([]:List Int).length 0)=.slice none 0 0 from rfl,hrun]
  exact hK _ _ (h v w (by simpa using hown) (Below.refl _ _) (World.grownBy.refl _ _) (.inl rfl))
 | some p =>
  refine wpList_append_own_at _ hgd s x 22 ho B 3 i (.int .i64 0) 1 8 uInts hi hz0 hz1 hz2 rfl (by decide) v xs.length _ hs hown p ys.length cap (ys.map (.int .i64)) hx (by simp) ?_ (ints_oneCell _ _) (by unfold maxLen; omega) (by omega) hB ?_
  ·intro j u hj
   have hjl:j<ys.length:=by have:=(List.getElem?_eq_some_iff.1 hj).1; simpa using this
   have:=h4 j hjl
   simp only [valAt] at this
   rw [this,← hj]; simp [hjl]
  ·intro v' w' ho' hgr _ hat
   refine h v' w' (by simpa [OwnI] using ho') ((Below.refl _ _).grown hgr hB (fun k hk=>(hown.lt k hk).1)) hgr ?_
   rcases hat with hat | hat
   ·exact .inl hat
   ·exact .inr ⟨_,hat,Nat.le_refl _⟩
theorem IntsAt.shape {w:World} {v:Value} {xs:List Int} (h:IntsAt w v xs):∃ a n c,v=.slice a n c:=by
 obtain ⟨a,cap,e,_⟩:=h; exact ⟨_,_,_,e⟩
theorem OwnI.setBelowBase {B:Nat} {w:World} {v:Value} {xs:List Int} (h:OwnI B w v xs) {a:Addr} (ha:a.block<B) (u:Value):OwnI B (w.setCell a u) v xs:=ownsRow_setCell_below h ha u
theorem cells3 {w w':World} {a b c:Value} {T:TypeId} (hb:Below (w.alloc (.cells #[a,b,c] T)).heap.size (w.alloc (.cells #[a,b,c] T)) w') :
 w'.cell? ⟨w.heap.size,0,none⟩=some a∧w'.cell? ⟨w.heap.size,1,none⟩=some b∧w'.cell? ⟨w.heap.size,2,none⟩=some c ∧
 w'.frozen? ⟨w.heap.size,0,none⟩=false∧w'.frozen? ⟨w.heap.size,1,none⟩=false∧w'.frozen? ⟨w.heap.size,2,none⟩=false:=by
 refine ⟨?_,?_,?_,?_,?_,?_⟩
 ·rw [hb.cell (by simp)]; simp
 ·rw [hb.cell (by simp)]; simp
 ·rw [hb.cell (by simp)]; simp
 ·rw [hb.frozen (by simp)]; simp
 ·rw [hb.frozen (by simp)]; simp
 ·rw [hb.frozen (by simp)]; simp
theorem setCell_self {w:World} {a:Addr} {u:Value} (h:w.cell? a=some u):w.setCell a u=w:=by
 have hh:(w.setCell a u).heap=w.heap:=by
  simp only [World.setCell]
  apply Array.ext_getElem?
  intro i
  rw [Array.getElem?_modify]
  split
  ·rename_i e
   subst e
   unfold World.cell? at h
   cases hx:w.heap[a.block]? with
   | none=>rfl
   | some o =>
    rw [hx] at h
    cases o with
    | cells c el fz =>
     simp only at h
     split at h
     ·cases h
     ·rename_i hs
      simp only [Option.map_some,hs]
      congr 2
      apply Array.ext_getElem?
      intro j
      simp only [Bool.false_eq_true,if_false]
      rw [Array.getElem?_setIfInBounds]
      split
      ·rename_i e; subst e
       obtain ⟨hl,he⟩:=Array.getElem?_eq_some_iff.1 h
       rw [if_pos hl,h]
      ·rfl
    | _=>rfl
  ·rfl
 have e:w.setCell a u={ w with heap:=(w.setCell a u).heap }:=rfl
 rw [e,hh]
theorem wrapK {x:Int} (h1:-9223372036854775808≤x) (h2:x<9223372036854775808):IntKind.i64.wrap x=x:=by simp [IntKind.wrap_i64]; omega
def I64 (x:Int):Prop:=-9223372036854775808≤x∧x<9223372036854775808
theorem ret_int {a b:Int} (h:a=b):Ending.returned (.int .i64 a)=.returned (.int .i64 b):=by rw [h]
theorem ret_bool {a b:Bool} (h:a=b):Ending.returned (.bool a)=.returned (.bool b):=by rw [h]
end Go.Proofs.YtkaoebokbfcmhaaGreatDoor
namespace Go.Proofs.YtkaoebokbfcmhaaGreatDoor
abbrev PErr:=Option (Int×List (ByteArray×Int))
def under (op:ByteArray) (at_:Int) (t:PErr):PErr:=t.map fun x=>(x.1,(op,at_)::x.2)
def fresh (op:ByteArray) (at_:Int) (n:Int):PErr:=some (n,[(op,at_)])
def sRule:ByteArray:=⟨#[114,117,108,101]⟩
def sAdditive:ByteArray:=⟨#[97,100,100,105,116,105,118,101]⟩
def pw (K i:Nat):Nat:=K ^ i
theorem pw_zero (K:Nat):pw K 0=1:=rfl
theorem pw_succ (K i:Nat):pw K (i+1)=pw K i*K:=Nat.pow_succ ..
theorem pw_one (K:Nat):pw K 1=K:=by simp [pw]
theorem pw_add (K i j:Nat):pw K (i+j)=pw K i*pw K j:=Nat.pow_add ..
theorem pw_pos {K:Nat} (i:Nat) (h:1≤K):1≤pw K i:=Nat.one_le_pow _ _ h
theorem pw_mono {K i j:Nat} (h1:1≤K) (h:i≤j):pw K i≤pw K j:=Nat.pow_le_pow_right h1 h
theorem pw_le {K i:Nat} (_h1:1≤K) (h4:K≤4) (hi:i≤7):pw K i≤16384 :=
 Nat.le_trans (Nat.pow_le_pow_left h4 i) (Nat.le_trans (Nat.pow_le_pow_right (by omega) hi) (by decide))
def idxOf (p:Int→Bool) (xs:List Int):Int:=match xs.findIdx? p with | some i=>i | none=>-1
theorem idxOf_neg {p:Int→Bool} {xs:List Int} (h:∀ x∈xs,p x=false):idxOf p xs=-1:=by
 have:xs.findIdx? p=none:=List.findIdx?_eq_none_iff.2 h
 simp [idxOf,this]
theorem idxOf_at {p:Int→Bool} {xs:List Int} (k:Nat) (hk:k<xs.length) (hp:p xs[k]=true) (hj:∀ j (h:j<xs.length),j<k→p xs[j]=false):idxOf p xs=k:=by
 have:xs.findIdx? p=some k:=by
  rw [List.findIdx?_eq_some_iff_getElem]
  exact ⟨hk,hp,fun j hjk=>by simp [hj j (by omega) hjk]⟩
 simp [idxOf,this]
theorem idxOf_cases (p:Int→Bool) (xs:List Int):(idxOf p xs=-1∧∀ x∈xs,p x=false)∨(∃ k:Nat,idxOf p xs=k∧∃ h:k<xs.length,p xs[k]=true∧∀ j (h:j<xs.length),j<k→p xs[j]=false):=by
 cases h:xs.findIdx? p with
 | none=>exact .inl ⟨by simp [idxOf,h],List.findIdx?_eq_none_iff.1 h⟩
 | some k =>
  obtain ⟨hk,hp,hj⟩:=List.findIdx?_eq_some_iff_getElem.1 h
  exact .inr ⟨k,by simp [idxOf,h],hk,hp,fun j hj' hjk=>by simpa using hj j hjk⟩
def odd1 (k:Int) (x:Int):Bool:=decide (x<0)||decide (k≤x)
theorem odd1_false {k x:Int}:odd1 k x=false↔0≤x∧x<k:=by simp [odd1]
def Syms (k:Int) (xs:List Int):Prop:=∀ x∈xs,0≤x∧x<k
theorem Syms.odd {k:Int} {xs:List Int} (h:Syms k xs):idxOf (odd1 k) xs=-1:=idxOf_neg fun x hx=>odd1_false.2 (h x hx)
theorem syms_or (k:Int) (xs:List Int):Syms k xs∨∃ i:Nat,idxOf (odd1 k) xs=i∧i<xs.length:=by
 rcases idxOf_cases (odd1 k) xs with ⟨_,h⟩ | ⟨i,h,hi,_⟩
 ·exact .inl fun x hx=>odd1_false.1 (h x hx)
 ·exact .inr ⟨i,h,hi⟩
structure RuleOk (K R:Nat) (xs:List Int):Prop where
 k1:1≤K
 k4:K≤4
 r3:R≤3
 len:xs.length=pw K (2*R+1)
 syms:Syms K xs
theorem RuleOk.len_le {K R:Nat} {xs:List Int} (h:RuleOk K R xs):xs.length≤16384:=by
 rw [h.len]; exact pw_le h.k1 h.k4 (by have:=h.r3; omega)
def checkP (k r:Int) (xs:List Int):PErr :=
 if k<1∨4<k then fresh sRule 0 1
 else if r<0∨3<r then fresh sRule 1 1
 else if xs.length≠pw k.toNat (2*r.toNat+1) then fresh sRule 2 1
 else if idxOf (odd1 k) xs=-1 then none
 else fresh sRule (3+idxOf (odd1 k) xs) 1
theorem checkP_none {k r:Int} {xs:List Int} (h:checkP k r xs=none):∃ K R:Nat,k=K∧r=R∧RuleOk K R xs:=by
 unfold checkP at h
 by_cases h1:k<1∨4<k
 ·rw [if_pos h1] at h; cases h
 rw [if_neg h1] at h
 by_cases h2:r<0∨3<r
 ·rw [if_pos h2] at h; cases h
 rw [if_neg h2] at h
 by_cases h3:xs.length≠pw k.toNat (2*r.toNat+1)
 ·rw [if_pos h3] at h; cases h
 rw [if_neg h3] at h
 by_cases h4:idxOf (odd1 k) xs=-1
 ·refine ⟨k.toNat,r.toNat,by omega,by omega,by omega,by omega,by omega,by omega,?_⟩
  rw [show ((k.toNat:Nat):Int)=k by omega]
  rcases syms_or k xs with h5 | ⟨i,h5,_⟩
  ·exact h5
  ·omega
 ·rw [if_neg h4] at h; cases h
theorem RuleOk.check {K R:Nat} {xs:List Int} (h:RuleOk K R xs):checkP K R xs=none:=by
 have:=h.k1; have:=h.k4; have:=h.r3
 unfold checkP
 rw [if_neg (by omega),if_neg (by omega),if_neg (by simp [h.len]),if_pos h.syms.odd]
set_option maxHeartbeats 8000000
open Go.RowKit
def Ret1 (Φ:Value→World→Prop) (w:World) (e:Ending) (w':World):Prop:=∃ x,e=.returned x∧Below w.heap.size w w'∧Φ x w'
def Ret2 (Φ:Value→Value→World→Prop) (w:World) (e:Ending) (w':World):Prop:=∃ x y,e=.returned (.tuple #[x,y])∧Below w.heap.size w w'∧Φ x y w'
def Ret3 (Φ:Value→Value→Value→World→Prop) (w:World) (e:Ending) (w':World):Prop:=∃ x y z,e=.returned (.tuple #[x,y,z])∧Below w.heap.size w w'∧Φ x y z w'
abbrev rootV (r:Nat→Addr) (n:Int):Value:=.iface 287 (.pointer (some (r n.toNat)))
structure Glob (r:Nat→Addr) (w:World):Prop where
 c1:w.cell? ⟨0,0,none⟩=some (rootV r 1)
 c2:w.cell? ⟨4,0,none⟩=some (rootV r 2)
 c3:w.cell? ⟨5,0,none⟩=some (rootV r 3)
 c4:w.cell? ⟨1,0,none⟩=some (rootV r 4)
 c5:w.cell? ⟨6,0,none⟩=some (rootV r 5)
 c6:w.cell? ⟨7,0,none⟩=some (rootV r 6)
 c7:w.cell? ⟨8,0,none⟩=some (rootV r 7)
 c8:w.cell? ⟨9,0,none⟩=some (rootV r 8)
 c9:w.cell? ⟨2,0,none⟩=some (rootV r 9)
 c10:w.cell? ⟨10,0,none⟩=some (rootV r 10)
 c11:w.cell? ⟨11,0,none⟩=some (rootV r 11)
 c12:w.cell? ⟨12,0,none⟩=some (rootV r 99)
 str:∀ n:Nat,(1≤n∧n≤11)∨n=99→∃ s,w.cell? (r n)=some (.string s)
 apart:∀ m n:Int,1≤m→m≤11→1≤n→n≤11→r m.toNat=r n.toNat→m=n
 flat:∀ n:Nat,(1≤n∧n≤11)∨n=99→∃ c t,w.heap[(r n).block]?=some (.cells c t (0,0))
theorem Glob.below {r:Nat→Addr} {w w':World} (h:Glob r w) (hb:Below w.heap.size w w'):Glob r w':=by
 have k:∀ {i v},w.cell? ⟨i,0,none⟩=some v→w'.cell? ⟨i,0,none⟩=some v:=fun {i v} hc=>by
  rw [hb.cell (World.block_lt_of_cell? _ _ hc)]; exact hc
 exact ⟨k h.c1,k h.c2,k h.c3,k h.c4,k h.c5,k h.c6,k h.c7,k h.c8,k h.c9,k h.c10,k h.c11,k h.c12,(fun n hn=>by
  obtain ⟨s,hs⟩:=h.str n hn
  exact ⟨s,by rw [hb.cell (World.block_lt_of_cell? _ _ hs)]; exact hs⟩),h.apart,fun n hn=>by
  obtain ⟨s,hs⟩:=h.str n hn
  obtain ⟨c,t,e⟩:=h.flat n hn
  exact ⟨c,t,by rw [hb.block _ (World.block_lt_of_cell? _ _ hs)]; exact e⟩⟩
def ErrAt (r:Nat→Addr) (w:World) (n:Int):List (ByteArray×Int)→Value→Prop
 | [],v=>v=rootV r n
 | (op,at_)::rest,v=>∃ p u,v=.iface 75 (.pointer (some ⟨p,0,none⟩))∧w.cell? ⟨p,0,none⟩=some (.string op)∧w.cell? ⟨p,1,none⟩=some (.int .i64 at_) ∧
     w.cell? ⟨p,2,none⟩=some u∧ErrAt r w n rest u
def ErrIs (r:Nat→Addr) (w:World) (t:PErr) (v:Value):Prop :=
 match t with
 | none=>v=.nilIface
 | some (n,l)=>ErrAt r w n l v
theorem ErrAt.below {r:Nat→Addr} {w w':World} {n:Int} (hb:Below w.heap.size w w'):∀ {l:List (ByteArray×Int)} {v:Value},ErrAt r w n l v→ErrAt r w' n l v
 | [],_,h=>h
 | (op,at_)::rest,v,⟨p,u,e,c0,c1,c2,h⟩=>by
  have k:∀ {i x},w.cell? ⟨p,i,none⟩=some x→w'.cell? ⟨p,i,none⟩=some x:=fun {i x} hc=>by
   rw [hb.cell (World.block_lt_of_cell? _ _ hc)]; exact hc
  exact ⟨p,u,e,k c0,k c1,k c2,ErrAt.below hb h⟩
theorem ErrIs.below {r:Nat→Addr} {w w':World} {t:PErr} {v:Value} (h:ErrIs r w t v) (hb:Below w.heap.size w w'):ErrIs r w' t v:=by
 match t,h with
 | none,h=>exact h
 | some (n,l),h=>exact ErrAt.below hb h
theorem ErrAt.shape {r:Nat→Addr} {w:World} {n:Int} {l:List (ByteArray×Int)} {v:Value} (h:ErrAt r w n l v):∃ T a,v=.iface T (.pointer (some a)):=by
 match l,h with
 | [],h=>exact ⟨_,_,h⟩
 | _::_,⟨p,u,e,_⟩=>exact ⟨_,_,e⟩
theorem ErrIs.none_eq {r:Nat→Addr} {w:World} {v:Value} (h:ErrIs r w none v):v=.nilIface:=h
theorem ErrIs.some_shape {r:Nat→Addr} {w:World} {t:Int×List (ByteArray×Int)} {v:Value} (h:ErrIs r w (some t) v):∃ T a,v=.iface T (.pointer (some a)):=ErrAt.shape h
theorem root_any (r:Nat→Addr) (n:Int) (w:World) (hg:Glob r w) (h1:1≤n) (h2:n≤11) :
 Calls Tryz.prog 73 #[.int .i64 n] w fun e w'=>e=.returned (rootV r n)∧w=w':=by
 obtain ⟨c1,c2,c3,c4,c5,c6,c7,c8,c9,c10,c11,_,_,_,_⟩:=hg
 have hn:n=1∨n=2∨n=3∨n=4∨n=5∨n=6∨n=7∨n=8∨n=9∨n=10∨n=11:=by omega
 rcases hn with rfl | rfl | rfl | rfl | rfl | rfl | rfl | rfl | rfl | rfl | rfl <;>
 (clear h1 h2
  go_enter Tryz.func73,Tryz.ntmps73
  go_wp2
  go_ret
  exact ⟨rfl,rfl⟩)
theorem new_any (r:Nat→Addr) (op:ByteArray) (at_ n:Int) (w:World) (hg:Glob r w) (h1:1≤n) (h2:n≤11) :
 Calls Tryz.prog 83 #[.string op,.int .i64 at_,.int .i64 n] w (Ret1 (fun v w'=>ErrIs r w' (fresh op at_ n) v) w):=by
 have hn:(n==0)=false:=by simp; omega
 go_enter Tryz.func83,Tryz.ntmps83
 go_wp2_with fail
 refine (root_any r n w hg h1 h2).mono ?_
 rintro e w' ⟨rfl,rfl⟩
 go_wp2
 go_ret
 refine ⟨_,rfl,(Below.refl _ _).alloc (Nat.le_refl _) _,w.heap.size,rootV r n,rfl,?_,?_,?_,rfl⟩<;>simp
theorem under_nil (op:ByteArray) (at_:Int) (w:World) :
 Calls Tryz.prog 52 #[.string op,.int .i64 at_,.nilIface] w fun e w'=>e=.returned .nilIface∧w=w':=by
 go_enter Tryz.func52,Tryz.ntmps52
 go_wp2
 go_ret
 exact ⟨rfl,rfl⟩
theorem under_any (r:Nat→Addr) (op:ByteArray) (at_:Int) (t:PErr) (v:Value) (w:World) (h:ErrIs r w t v) :
 Calls Tryz.prog 52 #[.string op,.int .i64 at_,v] w (Ret1 (fun u w'=>ErrIs r w' (under op at_ t) u) w):=by
 match t,h with
 | none,h =>
  obtain rfl:=h.none_eq
  exact (under_nil op at_ w).mono fun e w' ⟨he,hw⟩=>by subst hw; exact ⟨_,he,Below.refl _ _,rfl⟩
 | some t,h =>
  obtain ⟨T,a,rfl⟩:=h.some_shape
  have h':=Hd h
  clear h
  go_enter Tryz.func52,Tryz.ntmps52
  go_wp2
  go_ret
  refine ⟨_,rfl,(Below.refl _ _).alloc (Nat.le_refl _) _,w.heap.size,.iface T (.pointer (some a)),rfl,?_,?_,?_,ErrAt.below ((Below.refl _ _).alloc (Nat.le_refl _) _) h'.out⟩<;>simp
end Go.Proofs.YtkaoebokbfcmhaaGreatDoor
namespace Go.Proofs.YtkaoebokbfcmhaaGreatDoor
open Go.RowKit
def ValsAt (w:World) (v:Value) (vs:List Value):Prop :=
 ∃ a cap,v=.slice a vs.length cap∧vs.length≤cap∧cap≤maxLen∧(a=none→cap=0)∧∀ i (h:i<vs.length),w.cell? (valAt v i)=some vs[i]
theorem ValsAt.cell {w:World} {v:Value} {vs:List Value} (h:ValsAt w v vs) (i:Nat) (hi:i<vs.length):w.cell? (valAt v i)=some vs[i]:=by
 obtain ⟨a,cap,e,h1,h2,h3,h4⟩:=h
 exact h4 i hi
theorem ValsAt.len_le {w:World} {v:Value} {vs:List Value} (h:ValsAt w v vs):vs.length≤9223372036854775807:=by
 obtain ⟨a,cap,rfl,h1,h2,_⟩:=h
 unfold maxLen at h2; omega
theorem ValsAt.blk {w:World} {v:Value} {vs:List Value} (h:ValsAt w v vs) (i:Nat) (hi:i<vs.length):(valAt v i).block<w.heap.size :=
 World.block_lt_of_cell? _ _ (h.cell i hi)
theorem ValsAt.below {w w':World} {v:Value} {vs:List Value} (h:ValsAt w v vs) (hb:Below w.heap.size w w'):ValsAt w' v vs:=by
 have hk:=h.blk
 obtain ⟨a,cap,e,h1,h2,h3,h4⟩:=h
 exact ⟨a,cap,e,h1,h2,h3,fun i hi=>by rw [hb.cell (hk i hi)]; exact h4 i hi⟩
theorem ValsAt.cells_eq {w w':World} {v:Value} {vs:List Value} (h:ValsAt w v vs) (hc:∀ i,i<vs.length→w'.cell? (valAt v i)=w.cell? (valAt v i)):ValsAt w' v vs:=by
 obtain ⟨a,cap,e,h1,h2,h3,h4⟩:=h
 exact ⟨a,cap,e,h1,h2,h3,fun i hi=>by rw [hc i hi]; exact h4 i hi⟩
structure OneCell (T E:TypeId) (z:Value) (bytes:Nat):Prop where
 ht:Tryz.prog.underlying T=some (.slice E)
 hi:(Tryz.prog.info? E).map (fun i=>(i.zero,i.size,i.bytes))=some (some z,1,bytes)
 hz:z.cells=#[z]
 hb:bytes≤32
 hs:∀ w,(sizeOf E).run Tryz.prog w=.ok 1 w
theorem oneInts:OneCell 22 3 (.int .i64 0) 8:=⟨uInts,iInt,rfl,by decide,sInt⟩
theorem ValsAt.len {T E:TypeId} {z:Value} {b:Nat} (o:OneCell T E z b) {w:World} {v:Value} {vs:List Value} (h:ValsAt w v vs) (ty:TypeId) (w':World) :
 (Builtin.len_ #[T] ty #[v]).run Tryz.prog w'=.ok (.int .i64 vs.length) w':=by
 obtain ⟨a,cap,rfl,h1,h2,h3,h4⟩:=h
 have e:Tryz.prog.elem T=E:=by simp [Program.elem,o.ht]
 rw [run_len_slice _ _ _ _ _ _ (by rw [e]; exact o.ht)]
 rfl
theorem ValsAt.idx {T E:TypeId} {z:Value} {b:Nat} (o:OneCell T E z b) {w:World} {v:Value} {vs:List Value} (h:ValsAt w v vs) (i:Nat) (hi:i<vs.length) (w':World) :
 (Instr.indexAt T v (.int .i64 i)).run Tryz.prog w'=.ok (.pointer (some (valAt v i))) w':=by
 obtain ⟨a,cap,rfl,h1,h2,h3,h4⟩:=h
 have e:Tryz.prog.elem T=E:=by simp [Program.elem,o.ht]
 cases a with
 | none=>have:=h3 rfl; omega
 | some p =>
  rw [run_indexAt_slice _ _ _ _ _ _ _ (by rw [e]; exact o.ht),if_pos (by omega),e,o.hs]
  simp [valAt]
def OwnV (E:TypeId) (B:Nat) (w:World) (v:Value) (vs:List Value):Prop:=w.ownsRow B E 1 v vs.length vs
theorem OwnI.toV {B:Nat} {w:World} {v:Value} {xs:List Int} (h:OwnI B w v xs):OwnV 3 B w v (xs.map (Value.int .i64)):=by
 unfold OwnV; simpa [OwnI] using h
theorem OwnV.toI {B:Nat} {w:World} {v:Value} {xs:List Int} (h:OwnV 3 B w v (xs.map (Value.int .i64))):OwnI B w v xs:=by
 unfold OwnV at h; simpa [OwnI] using h
theorem OwnV.nil (E:TypeId) (B:Nat) (w:World):OwnV E B w (.slice none 0 0) []:=World.ownsRow_nil w B _ 1
theorem OwnV.at {E:TypeId} {B:Nat} {w:World} {v:Value} {vs:List Value} (h:OwnV E B w v vs):ValsAt w v vs:=by
 rcases h.2 with ⟨rfl,hn⟩ | ⟨g,cap,cur,rfl,hb,hg,hn,hm,hs,ht⟩
 ·obtain rfl:=List.length_eq_zero_iff.1 hn
  exact ⟨none,0,rfl,by simp,by simp,fun _=>rfl,by simp⟩
 ·refine ⟨some ⟨g,0,none⟩,cap,rfl,hn,hm,(by intro e; cases e),fun i hi=>?_⟩
  exact World.ownsRow.cells h (g:=g) rfl i _ (by simp [hi])
theorem OwnV.mono {E:TypeId} {B B':Nat} {w:World} {v:Value} {vs:List Value} (h:OwnV E B w v vs) (hB:B'≤B):OwnV E B' w v vs:=by
 refine ⟨h.1,?_⟩
 rcases h.2 with h2 | ⟨g,cap,cur,e,hb,r⟩
 ·exact .inl h2
 ·exact .inr ⟨g,cap,cur,e,Nat.le_trans hB hb,r⟩
theorem OwnV.lt {E:TypeId} {B:Nat} {w:World} {v:Value} {vs:List Value} (h:OwnV E B w v vs):∀ k,v.ownBlock=some k→B≤k∧k<w.heap.size:=World.ownsRow.lt h
theorem OwnV.frz {E:TypeId} {B:Nat} {w:World} {v:Value} {vs:List Value} (h:OwnV E B w v vs) (i:Nat) (hi:i<vs.length):w.frozen? (valAt v i)=false:=by
 rcases h.2 with ⟨rfl,hn⟩ | ⟨g,cap,cur,rfl,hb,hg,hn,hm,hs,ht⟩
 ·omega
 ·rw [valAt_row]; exact frozen_of_row w g i cur _ hg
theorem OwnV.blkB {E:TypeId} {B:Nat} {w:World} {v:Value} {vs:List Value} (h:OwnV E B w v vs) (i:Nat) (hi:i<vs.length):v.ownBlock=some (valAt v i).block∧B≤(valAt v i).block:=by
 rcases h.2 with ⟨rfl,hn⟩ | ⟨g,cap,cur,rfl,hb,hg,hn,hm,hs,ht⟩
 ·omega
 ·rw [valAt_row]; exact ⟨rfl,hb⟩
theorem OwnV.set {E:TypeId} {B:Nat} {w:World} {v:Value} {vs:List Value} (h:OwnV E B w v vs) (i:Nat) (hi:i<vs.length) (y:Value) :
 OwnV E B (w.setCell (valAt v i) y) v (vs.set i y):=by
 rcases h.2 with ⟨rfl,hn⟩ | ⟨g,cap,cur,rfl,hb,hg,hn,hm,hs,ht⟩
 ·omega
 ·rw [valAt_row]
  have:=(World.ownsRow.stored h i y).1
  unfold OwnV
  rw [List.length_set]
  exact this
theorem OwnV.setGrown {E:TypeId} {B:Nat} {w:World} {v:Value} {vs:List Value} (h:OwnV E B w v vs) (i:Nat) (hi:i<vs.length) (y:Value) :
 w.grownBy (w.setCell (valAt v i) y) v.ownBlock:=by
 have hb:=(h.blkB i hi).1
 exact ⟨rfl,rfl,rfl,by simp [World.setCell],fun k _ hk=>Below.heap_setCell _ _ _ _ (by rw [hb] at hk; simp at hk; omega)⟩
theorem OwnV.below {E:TypeId} {B:Nat} {w w':World} {v:Value} {vs:List Value} (h:OwnV E B w v vs) (hb:Below w.heap.size w w'):OwnV E B w' v vs:=by
 refine ⟨h.1,?_⟩
 rcases h.2 with h2 | ⟨g,cap,cur,e,hB,hg,r⟩
 ·exact .inl h2
 ·refine .inr ⟨g,cap,cur,e,hB,?_,r⟩
  rw [hb.block g (Array.getElem?_eq_some_iff.1 hg).1]; exact hg
theorem OwnV.kept {E:TypeId} {B:Nat} {w w':World} {row:Option Nat} {v:Value} {vs:List Value} (h:OwnV E B w v vs) (hg:w.grownBy w' row) (hne:v.ownBlock=none∨v.ownBlock≠row):OwnV E B w' v vs:=World.ownsRow.kept h hg hne
theorem OwnV.alloc {E:TypeId} {B:Nat} {w:World} {v:Value} {vs:List Value} (h:OwnV E B w v vs) (o:Obj):OwnV E B (w.alloc o) v vs:=World.ownsRow.alloc h o
theorem OwnV.shape {E:TypeId} {B:Nat} {w:World} {v:Value} {vs:List Value} (h:OwnV E B w v vs):∃ a n c,v=.slice a n c:=by
 obtain ⟨a,cap,e,_⟩:=h.at; exact ⟨_,_,_,e⟩
def roomOf (v:Value):Option Addr×Nat:=match v with | .slice a _ c=>(a,c) | _=>(none,0)
theorem OwnV.front {E:TypeId} {B:Nat} {w w':World} {v v':Value} {xs ys:List Value} (h:OwnV E B w v xs) (h':OwnV E B w' v' (xs++ys)) (hb:roomOf v'=roomOf v):OwnV E B w' v xs:=by
 rcases h.2 with ⟨rfl,hn⟩ | ⟨g,cap,cur,rfl,hB,hg,hn,hm,hs,ht⟩
 ·obtain rfl:=List.length_eq_zero_iff.1 hn
  exact OwnV.nil E B w'
 ·rcases h'.2 with ⟨rfl,_⟩ | ⟨g',cap',cur',rfl,hB',hg',hn',hm',hs',ht'⟩
  ·simp [roomOf] at hb
  ·simp [roomOf] at hb
   obtain ⟨rfl,rfl⟩:=hb
   refine ⟨by simp,.inr ⟨g',cap',cur',rfl,hB',hg',hn,hm',hs',?_⟩⟩
   have:=congrArg (List.take xs.length) ht'
   rw [List.take_take,List.take_left'] at this
   ·rw [Nat.mul_one] at this ⊢
    rwa [Nat.min_eq_left (by simp)] at this
   ·rfl
theorem ownBlock_of_room {v v':Value} {a n c a' n' c'} (hv:v=.slice a n c) (hv':v'=.slice a' n' c') (h:roomOf v'=roomOf v):v'.ownBlock=v.ownBlock:=by
 subst hv hv'
 simp [roomOf] at h
 obtain ⟨rfl,rfl⟩:=h
 cases a'<;>rfl
theorem run_app {T E:TypeId} {z:Value} {b:Nat} (o:OneCell T E z b) (w:World) (B:Nat) (ty:TypeId) (v:Value) (xs:List Value) (hown:OwnV E B w v xs)
 (a:Addr) (c:Nat) (ys:List Value) (h0:0<ys.length) (hys:∀ j u,ys[j]?=some u→w.cell? (a.add j)=some u) (h1:∀ u∈ys,u.oneCell'=true)
 (hlen:xs.length+ys.length≤4398046511104) (hB:B≤w.heap.size) :
 ∃ v' w',(Builtin.append_ #[T,T] ty #[v,.slice (some a) ys.length c]).run Tryz.prog w=.ok v' w'∧OwnV E B w' v' (xs++ys) ∧
  ((roomOf v'=roomOf v∧w.grownBy w' v.ownBlock)∨(v'.ownBlock=some w.heap.size∧w.grownBy w' none)):=by
 obtain ⟨i,hi,hz0,hz1,hz2⟩:=info_parts o.hi
 have hb:=o.hb
 have hl1:(xs++ys).length=(xs.length+ys.length)*1:=by simp
 have big:∀ (old:Nat),old<xs.length+ys.length →
  OwnV E B (w.drew.alloc (.cells (xs.toArray++ys.toArray++Builtin.zeroCells z.cells (grownCap w (xs.length+ys.length) old E-(xs.length+ys.length))) E)) (.slice (some ⟨w.heap.size,0,none⟩) (xs.length+ys.length) (grownCap w (xs.length+ys.length) old E)) (xs++ys):=by
  intro old ho
  have hge:=grownCap_ge w (xs.length+ys.length) old E
  have hcm:grownCap w (xs.length+ys.length) old E≤maxLen:=grownCap_le_maxLen w _ old E (by unfold maxLen; omega)
  refine ⟨by simp,.inr ⟨w.heap.size,_,_,by simp,hB,heap_alloc_new w.drew _,by simpa using hge,hcm,?_,?_⟩⟩
  ·simp only [Array.size_append,List.size_toArray,size_zeroCells,o.hz]
   simp
   omega
  ·simp only [Array.toList_append,Nat.mul_one,List.length_append]
   exact List.take_left' (by simp)
 have grw:∀ (oo:Obj),w.grownBy (w.drew.alloc oo) none:=fun oo=>⟨rfl,rfl,rfl,by simp,fun k hk _=>Below.heap_alloc w.drew oo k hk⟩
 rcases hown.2 with ⟨rfl,hn⟩ | ⟨g,cap,cur,rfl,hbg,hg,hnc,hcm,hcs,htake⟩
 ·obtain rfl:=List.length_eq_zero_iff.1 hn
  have hr:=run_append_nil (P:=Tryz.prog) w T ty E i z o.ht hi hz0 a ys.length c ys (by rw [hz1]; simp) hys h0 (by simp at hlen; omega) (by
   rw [hz2]
   simp only [List.length_nil,Nat.zero_add] at hlen
   calc ys.length*b≤4398046511104*32:=Nat.mul_le_mul hlen hb
    _≤_:=by decide)
  have hbg:=big 0 (by simpa using h0)
  simp only [List.length_nil,Nat.zero_add,List.nil_append,Array.empty_append] at hbg
  exact ⟨_,_,hr,by simpa using hbg,.inr ⟨rfl,grw _⟩⟩
 ·by_cases hroom:xs.length+ys.length≤cap
  ·have hr:=run_append_room (P:=Tryz.prog) w T ty E i o.ht hi g xs.length cap cur hg a ys.length c ys (by rw [hz1]; simp) hys h1 hroom (by rw [hz1,hcs]; omega)
   refine ⟨_,_,hr,⟨by simp,.inr ⟨g,cap,_,by simp,hbg,setRow_heap w g cur _ E _ hg,by simpa using hroom,hcm,?_,?_⟩⟩,.inl ⟨rfl,⟨rfl,rfl,rfl,by simp,fun k _ hk=>setRow_other w g k _ (fun e=>hk (by simp [Value.ownBlock,e]))⟩⟩⟩
   ·simp only [List.size_toArray,List.length_append,List.length_take,List.length_drop,Array.length_toList,hz1]
    omega
   ·rw [hz1,htake]
    simp only [Nat.mul_one,List.length_append]
    exact List.take_left' (by simp)
  ·have holds:∀ j u,xs[j]?=some u→w.cell? ((⟨g,0,none⟩:Addr).add j)=some u:=World.ownsRow.cells hown (g:=g) rfl
   have hr:=run_append_grow (P:=Tryz.prog) w T ty E i z o.ht hi hz0 ⟨g,0,none⟩ xs.length cap xs (by rw [hz1]; simp) holds a ys.length c ys (by rw [hz1]; simp) hys (by omega) (by omega) (by
    rw [hz2]
    exact growslice_fits (by omega) (by
     calc (xs.length+ys.length)*b≤4398046511104*32:=Nat.mul_le_mul hlen hb
      _≤_:=by decide))
   exact ⟨_,_,hr,big cap (by omega),.inr ⟨rfl,grw _⟩⟩
theorem wpl_app1 {w:World} {ops:Array Oper} {rest:List Oper} {o:Oper} {a:Act} {Q:Exit→Act→World→Prop} (hgd:o.guard=none) (s x:Operand)
 (ho:o.op=.call { callee:=.builtin .append,args:=#[s,x],argTypes:=#[22,22] })
 (B:Nat) (v:Value) (xs:List Int) (y:Int) (hown:OwnI B w v xs) (hs:a.eval s=v) (hx:a.eval x=.slice (some ⟨w.heap.size,0,none⟩) 1 1)
 (hlen:xs.length<4398046511104) (hB:B≤w.heap.size)
 (h:∀ v' w',OwnI B w' v' (xs++[y])→Below B w w'→((roomOf v'=roomOf v∧w.grownBy w' v.ownBlock)∨(∃ k,v'.ownBlock=some k∧w.heap.size≤k∧w.grownBy w' none))→wpList Tryz.prog ops Q rest (a.put o.dst v') w') :
 wpList Tryz.prog ops Q (o::rest) a (w.alloc (.cells #[.int .i64 y] 3)):=by
 refine wpList_plain hgd fun K hK=>?_
 obtain ⟨v',w',hr,h2,h3⟩:=run_app oneInts (w.alloc (.cells #[.int .i64 y] 3)) B o.type v _ (hown.alloc _).toV ⟨w.heap.size,0,none⟩ 1 [.int .i64 y] (by simp) (cell_one_new _ _ _) (by simp [Value.oneCell']) (by simp; omega) (by simp; omega)
 unfold Oper.wp execOp
 simp only [ho,resolve,invoke,builtin,Sem.run_bind,Sem.run_pure,Result.andThen_ok,List.map_toArray,List.map_cons,List.map_nil,hs,hx]
 rw [show ([.int .i64 y]:List Value).length=1 from rfl] at hr
 rw [hr]
 have hal:∀ row,w.grownBy (w.alloc (.cells #[.int .i64 y] 3)) row:=fun row=>World.grownBy_alloc w _ row
 have ho':OwnI B w' v' (xs++[y]):=OwnV.toI (by simpa using h2)
 rcases h3 with ⟨hroom,hg⟩ | ⟨hk,hg⟩
 ·have hg2:=(hal v.ownBlock).trans hg
  exact hK _ _ (h v' w' ho' ((Below.refl _ _).grown hg2 hB (fun k hk=>(hown.lt k hk).1)) (.inl ⟨hroom,hg2⟩))
 ·have hg2:=(hal none).trans hg
  exact hK _ _ (h v' w' ho' ((Below.refl _ _).grown hg2 hB (by intro k hk; cases hk)) (.inr ⟨_,hk,by simp,hg2⟩))
theorem oneLists:OneCell 31 22 (.slice none 0 0) 24:=⟨by kernel_rfl,by kernel_rfl,rfl,by decide,fun _=>by kernel_rfl⟩
theorem wpl_makeV {T E:TypeId} {z:Value} {b:Nat} (oc:OneCell T E z b) {w:World} {ops:Array Oper} {rest:List Oper} {o:Oper} {a:Act} {Q:Exit→Act→World→Prop}
 (hg:o.guard=none) (l c:Operand) (hop:o.op=Op.makeSlice T l c) (C:Int) (hl:a.eval l=.int .i64 C) (hc:a.eval c=.int .i64 C)
 (h0:0≤C) (hC:C≤4398046511104)
 (hK:∀ v w',OwnV E w.heap.size w' v (List.replicate C.toNat z)→w.grownBy w' none→wpList Tryz.prog ops Q rest (a.put o.dst v) w') :
 wpList Tryz.prog ops Q (o::rest) a w:=by
 obtain ⟨i,hi,hz0,hz1,hz2⟩:=info_parts oc.hi
 obtain ⟨n,rfl⟩:=Int.eq_ofNat_of_zero_le h0
 have hb:=oc.hb
 refine wpList_make_full w hg l c T hop w.heap.size E i z 1 oc.ht hi hz0 hz1 .i64 .i64 n n n hl hc rfl rfl (by
  rw [hz2]
  calc b*n≤32*4398046511104:=Nat.mul_le_mul hb (by omega)
   _≤_:=by decide) (by unfold maxLen; omega) (Nat.le_refl _) ?_
 intro w' hown hgrow
 refine hK _ _ ?_ hgrow
 rw [oc.hz,toList_madeCells_one] at hown
 simpa [OwnV] using hown
end Go.Proofs.YtkaoebokbfcmhaaGreatDoor
namespace Go.Proofs.YtkaoebokbfcmhaaGreatDoor
def natV:List Nat→Nat
 | []=>0
 | x::l=>x+4294967296*natV l
def Limbs (l:List Nat):Prop:=∀ x∈l,x<4294967296
theorem natV_append (a b:List Nat):natV (a++b)=natV a+4294967296 ^ a.length*natV b:=by
 induction a with
 | nil=>simp [natV]
 | cons x a ih =>
  rw [List.cons_append,natV,ih,natV,List.length_cons,Nat.pow_succ,Nat.mul_add,← Nat.mul_assoc,Nat.mul_comm 4294967296 (4294967296 ^ a.length),Nat.add_assoc]
theorem natV_snoc (a:List Nat) (x:Nat):natV (a++[x])=natV a+4294967296 ^ a.length*x:=by
 rw [natV_append]; simp [natV]
theorem natV_lt {l:List Nat} (h:Limbs l):natV l<4294967296 ^ l.length:=by
 induction l with
 | nil=>simp [natV]
 | cons x l ih =>
  have h1:=h x (by simp)
  have h2:=ih fun y hy=>h y (by simp [hy])
  rw [natV,List.length_cons,Nat.pow_succ]
  have h3:4294967296*(natV l+1)≤4294967296*4294967296 ^ l.length:=Nat.mul_le_mul_left _ h2
  rw [Nat.mul_add] at h3
  rw [Nat.mul_comm (4294967296 ^ l.length)]
  omega
def Norm (l:List Nat):Prop:=∀ h:l≠[],l.getLast h≠0
theorem norm_unique {a b:List Nat} (ha:Limbs a) (hb:Limbs b) (na:Norm a) (nb:Norm b) (h:natV a=natV b):a=b:=by
 induction a generalizing b with
 | nil =>
  cases b with
  | nil=>rfl
  | cons y b =>
   exfalso
   have hz:∀ l:List Nat,natV l=0→∀ x∈l,x=0:=by
    intro l
    induction l with
    | nil=>intro _ x hx; cases hx
    | cons z l ih =>
     intro h x hx
     rw [natV] at h
     rcases List.mem_cons.1 hx with rfl | hx
     ·omega
     ·exact ih (by omega) x hx
   have:=hz _ h.symm _ (List.getLast_mem (l:=y::b) (by simp))
   exact nb (by simp) this
 | cons x a ih =>
  cases b with
  | nil =>
   exfalso
   have hz:∀ l:List Nat,natV l=0→∀ x∈l,x=0:=by
    intro l
    induction l with
    | nil=>intro _ x hx; cases hx
    | cons z l ih =>
     intro h x hx
     rw [natV] at h
     rcases List.mem_cons.1 hx with rfl | hx
     ·omega
     ·exact ih (by omega) x hx
   have:=hz _ h _ (List.getLast_mem (l:=x::a) (by simp))
   exact na (by simp) this
  | cons y b =>
   have hx:=ha x (by simp)
   have hy:=hb y (by simp)
   rw [natV,natV] at h
   have e1:x=y:=by omega
   subst e1
   have e2:natV a=natV b:=by omega
   rw [ih (fun z hz=>ha z (by simp [hz])) (fun z hz=>hb z (by simp [hz])) (fun hne=>by have:=na (by simp); rwa [List.getLast_cons hne] at this) (fun hne=>by have:=nb (by simp); rwa [List.getLast_cons hne] at this) e2]
theorem add_round {i x y c P Q:Nat} {o:List Nat} (ho:o.length=i) (h:natV o+4294967296 ^ i*c=P+Q) :
 natV (o++[(x+y+c)%4294967296])+4294967296 ^ (i+1)*((x+y+c)/4294967296)=(P+4294967296 ^ i*x)+(Q+4294967296 ^ i*y):=by
 rw [natV_snoc,ho,Nat.pow_succ,Nat.mul_assoc,Nat.add_assoc,← Nat.mul_add,Nat.mod_add_div,Nat.mul_add,Nat.mul_add]
 omega
open Go.RowKit
set_option maxRecDepth 100000
set_option maxHeartbeats 8000000
def limbs (l:List Nat):List Value:=l.map fun (n:Nat)=>Value.int .u32 (n:Int)
theorem limbs_len (l:List Nat):(limbs l).length=l.length:=by simp [limbs]
theorem limbs_take (l:List Nat) (m:Nat):limbs (l.take m)=(limbs l).take m:=by simp [limbs,List.map_take]
theorem limbs_set (l:List Nat) (i x:Nat):limbs (l.set i x)=(limbs l).set i (.int .u32 (x:Int)):=by simp [limbs,List.map_set]
theorem limbs_zeros (n:Nat):List.replicate n (Value.int .u32 0)=limbs (List.replicate n 0):=by simp [limbs]
theorem uNat:Tryz.prog.underlying 35=some (.slice 82):=by kernel_rfl
theorem oneNat:OneCell 35 82 (.int .u32 0) 4:=⟨by kernel_rfl,by kernel_rfl,rfl,by decide,fun _=>by kernel_rfl⟩
theorem eNat:Tryz.prog.elem 35=82:=by kernel_rfl
theorem uNatE:Tryz.prog.underlying 35=some (.slice (Tryz.prog.elem 35)):=by rw [eNat]; exact uNat
def cutAt (v:Value) (m:Nat):Value:=match v with | .slice a _ c=>.slice a m c | _=>v
theorem valAt_cut (v:Value) (m i:Nat):valAt (cutAt v m) i=valAt v i:=by
 cases v<;>try rfl
 rename_i a n c; cases a<;>rfl
def lenV (v:Value):Nat:=match v with | .slice _ n _=>n | _=>0
theorem lenV_cut {v:Value} (h:∃ a n c,v=.slice a n c) (m:Nat):lenV (cutAt v m)=m:=by
 obtain ⟨a,n,c,rfl⟩:=h; rfl
theorem ValsAt.cut {w:World} {v:Value} {vs:List Value} (h:ValsAt w v vs) {m:Nat} (hm:m≤vs.length):ValsAt w (cutAt v m) (vs.take m):=by
 obtain ⟨a,cap,rfl,h1,h2,h3,h4⟩:=h
 have hl:(vs.take m).length=m:=by simp; omega
 refine ⟨a,cap,by rw [hl]; rfl,by rw [hl]; omega,h2,h3,fun i hi=>?_⟩
 rw [hl] at hi
 rw [valAt_cut,h4 i (by omega)]; simp
theorem OwnV.cut {E:TypeId} {B:Nat} {w:World} {v:Value} {vs:List Value} (h:OwnV E B w v vs) {m:Nat} (hm:m≤vs.length):OwnV E B w (cutAt v m) (vs.take m):=by
 have hl:(vs.take m).length=m:=by simp; omega
 rcases h.2 with ⟨rfl,hn⟩ | ⟨g,cap,cur,rfl,hB,hg,hn,hmm,hs,ht⟩
 ·obtain rfl:m=0:=by omega
  exact OwnV.nil E B w
 ·refine ⟨by simp,.inr ⟨g,cap,cur,by rw [hl]; rfl,hB,hg,by rw [hl]; omega,hmm,hs,?_⟩⟩
  rw [hl]
  have:=congrArg (List.take m) ht
  rw [List.take_take] at this
  simp only [Nat.mul_one] at this ⊢
  rwa [Nat.min_eq_left (by omega)] at this
def LimbsAt (w:World) (v:Value) (l:List Nat):Prop:=ValsAt w v (limbs l)
def OwnN (B:Nat) (w:World) (v:Value) (l:List Nat):Prop:=OwnV 82 B w v (limbs l)
theorem OwnN.at {B:Nat} {w:World} {v:Value} {l:List Nat} (h:OwnN B w v l):LimbsAt w v l:=OwnV.at h
theorem LimbsAt.below {w w':World} {v:Value} {l:List Nat} (h:LimbsAt w v l) (hb:Below w.heap.size w w'):LimbsAt w' v l:=ValsAt.below h hb
theorem LimbsAt.shape {w:World} {v:Value} {l:List Nat} (h:LimbsAt w v l):∃ a n c,v=.slice a n c:=by
 obtain ⟨a,cap,e,_⟩:=h; exact ⟨_,_,_,e⟩
theorem LimbsAt.len {w:World} {v:Value} {l:List Nat} (h:LimbsAt w v l) (w':World) :
 (Builtin.len_ #[35] 3 #[v]).run Tryz.prog w'=.ok (.int .i64 l.length) w':=by
 have:=ValsAt.len oneNat h 3 w'
 rwa [limbs_len] at this
theorem LimbsAt.idx {w:World} {v:Value} {l:List Nat} (h:LimbsAt w v l) (i:Nat) (hi:i<l.length) (w':World) :
 (Instr.indexAt 35 v (.int .i64 i)).run Tryz.prog w'=.ok (.pointer (some (valAt v i))) w':=ValsAt.idx oneNat h i (by rw [limbs_len]; exact hi) w'
theorem LimbsAt.cell {w:World} {v:Value} {l:List Nat} (h:LimbsAt w v l) (i:Nat) (hi:i<l.length):w.cell? (valAt v i)=some (.int .u32 ((l.getD i 0:Nat):Int)):=by
 have:=ValsAt.cell h i (by rw [limbs_len]; exact hi)
 rw [this]; simp [limbs,List.getD,hi]
theorem LimbsAt.len_le {w:World} {v:Value} {l:List Nat} (h:LimbsAt w v l):l.length≤9223372036854775807:=by
 have:=ValsAt.len_le h
 rwa [limbs_len] at this
theorem LimbsAt.cut {w:World} {v:Value} {l:List Nat} (h:LimbsAt w v l) {m:Nat} (hm:m≤l.length):LimbsAt w (cutAt v m) (l.take m):=by
 have:=ValsAt.cut h (m:=m) (by rw [limbs_len]; exact hm)
 rwa [← limbs_take] at this
theorem OwnN.cut {B:Nat} {w:World} {v:Value} {l:List Nat} (h:OwnN B w v l) {m:Nat} (hm:m≤l.length):OwnN B w (cutAt v m) (l.take m):=by
 have:=OwnV.cut h (m:=m) (by rw [limbs_len]; exact hm)
 rwa [← limbs_take] at this
theorem OwnN.set {B:Nat} {w:World} {v:Value} {l:List Nat} (h:OwnN B w v l) (i:Nat) (hi:i<l.length) (x:Nat):OwnN B (w.setCell (valAt v i) (.int .u32 (x:Int))) v (l.set i x):=by
 have:=OwnV.set h i (by rw [limbs_len]; exact hi) (.int .u32 (x:Int))
 rwa [← limbs_set] at this
theorem OwnN.frz {B:Nat} {w:World} {v:Value} {l:List Nat} (h:OwnN B w v l) (i:Nat) (hi:i<l.length):w.frozen? (valAt v i)=false:=OwnV.frz h i (by rw [limbs_len]; exact hi)
theorem OwnN.blkB {B:Nat} {w:World} {v:Value} {l:List Nat} (h:OwnN B w v l) (i:Nat) (hi:i<l.length):B≤(valAt v i).block:=(OwnV.blkB h i (by rw [limbs_len]; exact hi)).2
theorem OwnN.setBelow {B:Nat} {w0 w:World} {v:Value} {l:List Nat} (h:OwnN B w v l) (hb:Below B w0 w) (i:Nat) (hi:i<l.length) (y:Value):Below B w0 (w.setCell (valAt v i) y):=hb.setCell (h.blkB i hi) y
theorem OwnN.mono {B B':Nat} {w:World} {v:Value} {l:List Nat} (h:OwnN B w v l) (hB:B'≤B):OwnN B' w v l:=OwnV.mono h hB
theorem OwnN.below {B:Nat} {w w':World} {v:Value} {l:List Nat} (h:OwnN B w v l) (hb:Below w.heap.size w w'):OwnN B w' v l:=OwnV.below h hb
theorem LimbsAt.front {w:World} {v:Value} {l:List Nat} (h:LimbsAt w v l) (m:Nat) (hm:m≤l.length) (w':World) :
 (Instr.slice 35 v none (some (.int .i64 m)) none).run Tryz.prog w'=.ok (cutAt v m) w':=by
 obtain ⟨a,cap,rfl,h1,h2,h3,h4⟩:=h
 rw [limbs_len] at h1 ⊢
 rw [run_slice_h w' 35 a l.length cap uNatE .i64 m (by omega) (by omega),eNat,oneNat.hs]
 show Result.ok (sliced a 0 m cap 1) w'=.ok (.slice a m cap) w'
 unfold sliced
 by_cases hc:cap=0
 ·subst hc; simp
 ·rw [if_neg hc]
  cases a with
  | none=>rfl
  | some p=>simp [Addr.add]
theorem run_makeNat (C:Int) (n:Nat) (w:World) (hC:C=n) (hn:n≤4398046511104) :
 ∃ v w',(Instr.makeSlice 35 (.int .i64 C) (.int .i64 C)).run Tryz.prog w=.ok v w'∧OwnN w.heap.size w' v (List.replicate n 0)∧Below w.heap.size w w':=by
 subst hC
 obtain ⟨i,hi,hz0,hz1,hz2⟩:=info_parts oneNat.hi
 obtain ⟨w',hrun,r1,r2⟩:=run_make_full (P:=Tryz.prog) w w.heap.size 35 82 i (.int .u32 0) 1 oneNat.ht hi hz0 hz1 .i64 .i64 n (by
  rw [hz2]
  calc 4*n≤4*4398046511104:=Nat.mul_le_mul_left _ hn
   _≤_:=by decide) (by unfold maxLen; omega) (Nat.le_refl _)
 refine ⟨_,w',hrun,?_,(Below.refl _ _).grown r2 (Nat.le_refl _) (by intro k hk; cases hk)⟩
 rw [oneNat.hz,toList_madeCells_one,limbs_zeros,Nat.mul_one] at r1
 unfold OwnN OwnV
 rw [limbs_len,List.length_replicate]
 exact r1
theorem take_norm {l:List Nat} {m:Nat} (hm:m+1≤l.length) (h0:l.getD m 0=0):natV (l.take m)=natV (l.take (m+1)):=by
 rw [show l.take (m+1)=l.take m++[l.getD m 0] by
  rw [List.take_add_one]; simp [List.getD,show m<l.length by omega],natV_snoc,h0]
 simp
theorem norm_take {l:List Nat} {m:Nat} (hm:m+1≤l.length) (h0:l.getD m 0≠0):Norm (l.take (m+1)):=by
 intro hne
 rw [List.getLast_eq_getElem]
 have hl:(l.take (m+1)).length=m+1:=by simp; omega
 have e:(l.take (m+1))[(l.take (m+1)).length-1]'(by omega)=l.getD m 0:=by
  simp [List.getD,show m<l.length by omega,show min (m+1) l.length-1=m by omega]
 rwa [e]
theorem norm_any (v:Value) (l:List Nat) (w:World) (h:LimbsAt w v l) :
 Calls Tryz.prog 47 #[v] w fun e w'=>∃ m,m≤l.length∧e=.returned (cutAt v m)∧Norm (l.take m)∧natV (l.take m)=natV l∧w=w':=by
 have hml:=h.len_le
 have hv:v=cutAt v l.length:=by
  obtain ⟨a,cap,rfl,_⟩:=h
  rw [limbs_len]; rfl
 have hnat:natV (l.take l.length)=natV l:=by rw [List.take_length]
 replace h:=Hd h
 replace hv:=Hd hv
 replace hnat:=Hd hnat
 go_enter Tryz.func47,Tryz.ntmps47
 go_wp2
 go_loopw [0] (fun av wr=>∃ (m:Nat) (u:Value),u=av∧m≤l.length∧u=cutAt v m∧natV (l.take m)=natV l∧wr=w) (fun av _=>lenV av)
 case atStart=>exact ⟨l.length,v,rfl,Nat.le_refl _,hv.out,hnat.out,rfl⟩
 case round =>
  obtain ⟨m,u,rfl,hm,rfl,hval,rfl⟩:=hrel
  have hu:=h.out.cut hm
  have hul:=hu.len
  rw [List.length_take,Nat.min_eq_left hm] at hul
  obtain ⟨ua,un,uc,hus⟩:=hu.shape
  have hun:un=m:=by
   have:=hu
   obtain ⟨a,cap,e,_⟩:=this
   rw [hus] at e; injection e with _ e _; rw [e,limbs_len,List.length_take,Nat.min_eq_left hm]
  subst hun
  by_cases hz:un=0
  ·subst hz
   go_wp2
   go_ret
   exact ⟨0,Nat.zero_le _,rfl,fun hne=>absurd (by simp) hne,hval,rfl⟩
  ·obtain ⟨m,rfl⟩:∃ m,un=m+1:=⟨un-1,by omega⟩
   have hcm:((m+1:Nat):Int)-1=(m:Int):=by omega
   have iX:=hu.idx m (by rw [List.length_take]; omega)
   have cX:=hu.cell m (by rw [List.length_take]; omega)
   have hgd:(l.take (m+1)).getD m 0=l.getD m 0:=by
    simp [List.getD]
   rw [hgd] at cX
   have fr:=fun w'=>hu.front m (by rw [List.length_take]; omega) w'
   have hcc:cutAt (cutAt v (m+1)) m=cutAt v m:=by cases v<;>rfl
   rw [hcc] at fr
   obtain ⟨x,hx⟩:∃ x,l.getD m 0=x:=⟨_,rfl⟩
   rw [hx] at cX
   have hx':=Hd hx
   obtain ⟨p,hp⟩:∃ p,valAt (cutAt v (m+1)) m=p:=⟨_,rfl⟩
   rw [hp] at iX cX
   obtain ⟨q,hq⟩:∃ q,cutAt v (m+1)=q:=⟨_,rfl⟩
   rw [hq] at iX fr hul hu ⊢
   have hq':=Hd hq
   have hp':=Hd hp
   clear hx hp hq hus hgd
   by_cases h0:x=0
   ·subst h0
    go_wp2
    go_roundw
    case rel=>exact ⟨m,_,rfl,by omega,rfl,by rw [take_norm hm hx'.out]; exact hval,by first | rfl | trivial⟩
    case measure=>rw [lenV_cut h.out.shape,← hq'.out,lenV_cut h.out.shape]; omega
   ·have hne:((x:Int)==0)=false:=by rw [beq_eq_false_iff_ne]; omega
    go_wp2
    go_ret
    exact ⟨m+1,hm,by show Ending.returned q=_; rw [hq'.out],norm_take hm (by rw [hx'.out]; exact h0),hval,rfl⟩
def NumIs (B:Nat) (w:World) (v:Value) (n:Nat):Prop:=∃ l,OwnN B w v l∧Limbs l∧Norm l∧natV l=n
theorem NumIs.below {B:Nat} {w w':World} {v:Value} {n:Nat} (h:NumIs B w v n) (hb:Below w.heap.size w w'):NumIs B w' v n:=by
 obtain ⟨l,h1,h2⟩:=h; exact ⟨l,h1.below hb,h2⟩
theorem NumIs.mono {B B':Nat} {w:World} {v:Value} {n:Nat} (h:NumIs B w v n) (hB:B'≤B):NumIs B' w v n:=by
 obtain ⟨l,h1,h2⟩:=h; exact ⟨l,h1.mono hB,h2⟩
theorem OwnN.lit2 (w:World) (x y:Nat):OwnN w.heap.size (w.alloc (.cells #[.int .u32 (x:Int),.int .u32 (y:Int)] 82)) (.slice (some ⟨w.heap.size,0,none⟩) 2 2) [x,y] :=
 World.ownsRow_lit (base:=w.heap.size) (e:=82) (size:=1) w #[.int .u32 (x:Int),.int .u32 (y:Int)] 2 (Nat.le_refl _) (by decide) rfl
theorem limbs_take_mem {l:List Nat} (h:Limbs l) (m:Nat):Limbs (l.take m):=fun x hx=>h x (List.mem_of_mem_take hx)
theorem norm_own (B:Nat) (v:Value) (l:List Nat) (n:Nat) (w:World) (h:OwnN B w v l) (hl:Limbs l) (hn:natV l=n) :
 Calls Tryz.prog 47 #[v] w fun e w'=>(∃ x,e=.returned x∧NumIs B w x n)∧w=w':=by
 refine (norm_any v l w h.at).mono ?_
 rintro e w' ⟨m,hm,rfl,h1,h2,rfl⟩
 exact ⟨⟨_,rfl,_,h.cut hm,limbs_take_mem hl m,h1,by rw [h2,hn]⟩,rfl⟩
theorem nat_from (x:Nat) (w:World) (hx:x<18446744073709551616) :
 Calls Tryz.prog 19 #[.int .u64 (x:Int)] w (Ret1 (fun v w'=>NumIs w.heap.size w' v x) w):=by
 have e1:(x:Int)%4294967296=((x%4294967296:Nat):Int):=by omega
 have e2:(x:Int)/4294967296=((x/4294967296:Nat):Int):=by omega
 have b0:=(Below.refl w.heap.size w).alloc (Nat.le_refl _) (.cells #[.int .u32 ((x%4294967296:Nat):Int),.int .u32 ((x/4294967296:Nat):Int)] 82)
 have ho:=OwnN.lit2 w (x%4294967296) (x/4294967296)
 replace e1:=Hd e1
 replace e2:=Hd e2
 go_enter Tryz.func19,Tryz.ntmps19
 go_wp2_with fail
 rw [e1.out,e2.out]
 refine (norm_own w.heap.size _ _ x _ ho ?_ ?_).mono ?_
 ·intro z hz
  simp at hz
  rcases hz with rfl | rfl<;>omega
 ·simp [natV]; omega
 ·rintro e w' ⟨⟨v,rfl,hv⟩,rfl⟩
  replace hv:=Hd hv
  go_wp2
  go_ret
  exact ⟨_,rfl,b0,hv.out⟩
theorem add32_any (x y c:Nat) (w:World) (hx:x<4294967296) (hy:y<4294967296) (hc:c≤1) :
 Calls Tryz.prog 46 #[.int .u32 (x:Int),.int .u32 (y:Int),.int .u32 (c:Int)] w fun e w'=>e=.returned (.tuple #[.int .u32 (((x+y+c)%4294967296:Nat):Int),.int .u32 (((x+y+c)/4294967296:Nat):Int)])∧w=w':=by
 have e1:((x:Int)+(y:Int)+(c:Int))%4294967296=(((x+y+c)%4294967296:Nat):Int):=by omega
 have e2:((x:Int)+(y:Int)+(c:Int))/4294967296=(((x+y+c)/4294967296:Nat):Int):=by omega
 replace e1:=Hd e1
 replace e2:=Hd e2
 go_enter Tryz.func46,Tryz.ntmps46
 go_wp2
 rw [e1.out,e2.out]
 go_ret2
 exact ⟨rfl,rfl⟩
theorem natV_take_succ (l:List Nat) (i:Nat):natV (l.take (i+1))=natV (l.take i)+4294967296 ^ i*l.getD i 0:=by
 by_cases h:i<l.length
 ·rw [show l.take (i+1)=l.take i++[l.getD i 0] by rw [List.take_add_one]; simp [List.getD,h],natV_snoc,List.length_take,Nat.min_eq_left (by omega)]
 ·rw [List.take_of_length_le (by omega),List.take_of_length_le (by omega),show l.getD i 0=0 by simp [List.getD,show l.length≤i by omega]]; simp
theorem natV_take_all {l:List Nat} {i:Nat} (h:l.length≤i):natV (l.take i)=natV l:=by rw [List.take_of_length_le h]
theorem set_zeros {o:List Nat} {i k:Nat} (ho:o.length=i) (x:Nat):(o++List.replicate (k+1) 0).set i x=(o++[x])++List.replicate k 0:=by
 rw [List.set_append_right _ _ (by omega),ho,Nat.sub_self,List.replicate_succ,List.set_cons_zero,List.append_assoc]; rfl
theorem limbs_snoc {o:List Nat} {x:Nat} (h:Limbs o) (hx:x<4294967296):Limbs (o++[x]):=fun y hy=>by
 rcases List.mem_append.1 hy with hy | hy
 ·exact h y hy
 ·simp at hy; subst hy; exact hx
theorem limb_getD {l:List Nat} (h:Limbs l) (i:Nat):l.getD i 0<4294967296:=by
 by_cases hi:i<l.length
 ·rw [show l.getD i 0=l[i] by simp [List.getD,hi]]; exact h _ (List.getElem_mem hi)
 ·rw [show l.getD i 0=0 by simp [List.getD,show l.length≤i by omega]]; decide
theorem add_ge (v u:Value) (l m:List Nat) (w:World) (h:LimbsAt w v l) (k:LimbsAt w u m) (hl:Limbs l) (hm:Limbs m) (hll:l.length≤1000000) (hlt:m.length≤l.length) :
 Calls Tryz.prog 12 #[v,u] w (Ret1 (fun x w'=>NumIs w.heap.size w' x (natV l+natV m)) w):=by
 have l1:=h.len
 have l2:=k.len
 obtain ⟨n,hn⟩:∃ n,l.length=n:=⟨_,rfl⟩
 obtain ⟨q,hq⟩:∃ q,m.length=q:=⟨_,rfl⟩
 have hqn:q≤n:=by omega
 have hnb:n≤1000000:=by omega
 have d0:decide (n<q)=false:=decide_eq_false (by omega)
 rw [hn] at l1
 rw [hq] at l2
 obtain ⟨ov,w1,mk,ho,b1⟩:=run_makeNat ((n:Int)+1) (n+1) w (by omega) (by omega)
 replace h:=Hd h
 replace k:=Hd k
 replace hl:=Hd hl
 replace hm:=Hd hm
 replace ho:=Hd ho
 replace hn:=Hd hn
 replace hq:=Hd hq
 go_enter Tryz.func12,Tryz.ntmps12
 go_wp2_with fail
 go_loopw [6,23] (fun cv iv wr=>∃ (i c:Nat) (o:List Nat),i≤n∧iv=.int .i64 i∧cv=.int .u32 (c:Int)∧c≤1∧o.length=i∧Limbs o∧OwnN w.heap.size wr ov (o++List.replicate (n+1-i) 0)∧Below w.heap.size w wr∧natV o+4294967296 ^ i*c=natV (l.take i)+natV (m.take i)) (fun _ iv _=>n-(intOf iv).toNat)
 case atStart=>exact ⟨0,0,[],Nat.zero_le _,rfl,rfl,by omega,rfl,(fun x hx=>by cases hx),ho.out,b1,by simp [natV]⟩
 case round =>
  clear mk
  obtain ⟨i,c,o,hi,rfl,rfl,hc,hol,hlo,hO,hB,hv⟩:=hrel
  obtain ⟨wo,rfl⟩:∃ wo:World,wo=wr:=⟨_,rfl⟩
  by_cases hin:i<n
  ·have di:decide ((i:Int)<(n:Int))=true:=decide_eq_true (by omega)
   have hA:=h.out.below (hB)
   have hB':=k.out.below (hB)
   have iA:=fun w'=>hA.idx i (by rw [hn.out]; exact hin) w'
   have cA:=hA.cell i (by rw [hn.out]; exact hin)
   have xl:=limb_getD hl.out i
   have yl:=limb_getD hm.out i
   have hvA:=natV_take_succ l i
   have hvB:=natV_take_succ m i
   have hk1:n+1-i=(n-i)+1:=by omega
   have hol2:(o++List.replicate (n+1-i) 0).length=n+1:=by rw [List.length_append,List.length_replicate]; omega
   have iO:=fun w'=>hO.at.idx i (by rw [hol2]; omega) w'
   have fO:=hO.frz i (by rw [hol2]; omega)
   obtain ⟨z0,cO⟩:∃ z,wo.cell? (valAt ov i)=some z:=⟨_,hO.at.cell i (by rw [hol2]; omega)⟩
   obtain ⟨x,hx⟩:∃ x,l.getD i 0=x:=⟨_,rfl⟩
   obtain ⟨y,hy⟩:∃ y,m.getD i 0=y:=⟨_,rfl⟩
   rw [hx] at cA xl hvA
   rw [hy] at yl hvB
   have hset:=hO.set i (by rw [hol2]; omega) ((x+y+c)%4294967296)
   have hsb:=hO.setBelow hB i (by rw [hol2]; omega) (.int .u32 (((x+y+c)%4294967296:Nat):Int))
   rw [hk1,set_zeros hol] at hset
   have hrnd:=add_round (x:=x) (y:=y) hol hv
   rw [← hvA,← hvB] at hrnd
   have hz:(x+y+c)/4294967296≤1:=by omega
   have hzl:(x+y+c)%4294967296<4294967296:=Nat.mod_lt _ (by decide)
   have hadd:=add32_any x y c wo xl yl hc
   obtain ⟨pa,hpa⟩:∃ p,valAt v i=p:=⟨_,rfl⟩
   obtain ⟨po,hpo⟩:∃ p,valAt ov i=p:=⟨_,rfl⟩
   rw [hpa] at iA cA
   rw [hpo] at iO cO fO hset hsb
   obtain ⟨s,hs⟩:∃ s,(x+y+c)%4294967296=s:=⟨_,rfl⟩
   obtain ⟨c2,hc2⟩:∃ s,(x+y+c)/4294967296=s:=⟨_,rfl⟩
   rw [hs] at hset hsb hrnd hzl hadd
   rw [hc2] at hrnd hz hadd
   have hlo2:=limbs_snoc hlo hzl
   replace hset:=Hd hset
   replace hsb:=Hd hsb
   replace hrnd:=Hd hrnd
   replace hv:=Hd hv
   replace hvA:=Hd hvA
   replace hvB:=Hd hvB
   replace hO:=Hd hO
   replace hlo:=Hd hlo
   replace hlo2:=Hd hlo2
   replace hol:=Hd hol
   replace hol2:=Hd hol2
   replace hx:=Hd hx
   replace hy2:=Hd hy
   replace hs:=Hd hs
   replace hc2:=Hd hc2
   replace hpa:=Hd hpa
   replace hpo:=Hd hpo
   replace hk1:=Hd hk1
   replace hadd:=Hd hadd
   by_cases hiq:i<q
   ·have dq:decide ((i:Int)<(q:Int))=true:=decide_eq_true (by omega)
    have iB:=fun w'=>hB'.idx i (by rw [hq.out]; exact hiq) w'
    have cB:=hB'.cell i (by rw [hq.out]; exact hiq)
    rw [hy] at cB
    obtain ⟨pb,hpb⟩:∃ p,valAt u i=p:=⟨_,rfl⟩
    rw [hpb] at iB cB
    replace hpb:=Hd hpb
    clear hy
    replace hA:=Hd hA
    replace hB':=Hd hB'
    go_wp2_with fail
    refine hadd.out.mono ?_
    rintro e w' ⟨rfl,rfl⟩
    go_wp2
    go_roundw
    case measure=>simp [intOf]; omega
    case rel=>exact ⟨i+1,c2,_,by omega,by go_num,rfl,hz,by rw [List.length_append,hol.out,List.length_singleton],hlo2.out,by rw [show n+1-(i+1)=n-i by omega]; exact hset.out,hsb.out,hrnd.out⟩
   ·have dq:decide ((i:Int)<(q:Int))=false:=decide_eq_false (by omega)
    have hy0:y=0:=by rw [← hy]; simp [List.getD,show m.length≤i by rw [hq.out]; omega]
    subst hy0
    clear hy
    replace hA:=Hd hA
    replace hB':=Hd hB'
    go_wp2_with fail
    refine hadd.out.mono ?_
    rintro e w' ⟨rfl,rfl⟩
    go_wp2
    go_roundw
    case measure=>simp [intOf]; omega
    case rel=>exact ⟨i+1,c2,_,by omega,by go_num,rfl,hz,by rw [List.length_append,hol.out,List.length_singleton],hlo2.out,by rw [show n+1-(i+1)=n-i by omega]; exact hset.out,hsb.out,hrnd.out⟩
  ·obtain rfl:i=n:=by omega
   have di:decide ((i:Int)<(i:Int))=false:=decide_eq_false (by omega)
   have hol2:(o++List.replicate (i+1-i) 0).length=i+1:=by rw [List.length_append,List.length_replicate]; omega
   have iO:=fun w'=>hO.at.idx i (by rw [hol2]; omega) w'
   have fO:=hO.frz i (by rw [hol2]; omega)
   obtain ⟨z0,cO⟩:∃ z,wo.cell? (valAt ov i)=some z:=⟨_,hO.at.cell i (by rw [hol2]; omega)⟩
   have hset:=hO.set i (by rw [hol2]; omega) c
   have hsb:=hO.setBelow hB i (by rw [hol2]; omega) (.int .u32 (c:Int))
   rw [show i+1-i=0+1 by omega,set_zeros hol,List.replicate_zero,List.append_nil] at hset
   rw [natV_take_all (by rw [hn.out]; exact Nat.le_refl _),natV_take_all (by rw [hq.out]; exact hqn)] at hv
   have hval:natV (o++[c])=natV l+natV m:=(by rw [natV_snoc,hol]; exact hv)
   have hlim:=limbs_snoc hlo (show c<4294967296 by omega)
   obtain ⟨po,hpo⟩:∃ p,valAt ov i=p:=⟨_,rfl⟩
   rw [hpo] at iO cO fO hset hsb
   replace hset:=Hd hset
   replace hsb:=Hd hsb
   replace hv:=Hd hv
   replace hO:=Hd hO
   replace hlo:=Hd hlo
   replace hol:=Hd hol
   replace hol2:=Hd hol2
   replace hpo:=Hd hpo
   replace hval:=Hd hval
   replace hlim:=Hd hlim
   go_wp2_with fail
   refine (norm_own w.heap.size _ _ _ _ hset.out hlim.out hval.out).mono ?_
   rintro e w' ⟨⟨x,rfl,hx⟩,rfl⟩
   replace hx:=Hd hx
   go_wp2
   go_ret
   exact ⟨_,rfl,hsb.out,hx.out⟩
theorem add_lt (v u:Value) (l m:List Nat) (w:World) (h:LimbsAt w v l) (k:LimbsAt w u m) (hl:Limbs l) (hm:Limbs m) (hml:m.length≤1000000) (hlt:l.length<m.length) :
 Calls Tryz.prog 12 #[v,u] w (Ret1 (fun x w'=>NumIs w.heap.size w' x (natV l+natV m)) w):=by
 have l1:=h.len
 have l2:=k.len
 obtain ⟨n,hn⟩:∃ n,m.length=n:=⟨_,rfl⟩
 obtain ⟨q,hq⟩:∃ q,l.length=q:=⟨_,rfl⟩
 have hqn:q≤n:=by omega
 have hnb:n≤1000000:=by omega
 have d0:decide (q<n)=true:=decide_eq_true (by omega)
 rw [hq] at l1
 rw [hn] at l2
 obtain ⟨ov,w1,mk,ho,b1⟩:=run_makeNat ((n:Int)+1) (n+1) w (by omega) (by omega)
 replace h:=Hd h
 replace k:=Hd k
 replace hl:=Hd hl
 replace hm:=Hd hm
 replace ho:=Hd ho
 replace hn:=Hd hn
 replace hq:=Hd hq
 go_enter Tryz.func12,Tryz.ntmps12
 go_wp2_with fail
 go_loopw [6,23] (fun cv iv wr=>∃ (i c:Nat) (o:List Nat),i≤n∧iv=.int .i64 i∧cv=.int .u32 (c:Int)∧c≤1∧o.length=i∧Limbs o∧OwnN w.heap.size wr ov (o++List.replicate (n+1-i) 0)∧Below w.heap.size w wr∧natV o+4294967296 ^ i*c=natV (m.take i)+natV (l.take i)) (fun _ iv _=>n-(intOf iv).toNat)
 case atStart=>exact ⟨0,0,[],Nat.zero_le _,rfl,rfl,by omega,rfl,(fun x hx=>by cases hx),ho.out,b1,by simp [natV]⟩
 case round =>
  clear mk
  obtain ⟨i,c,o,hi,rfl,rfl,hc,hol,hlo,hO,hB,hv⟩:=hrel
  obtain ⟨wo,rfl⟩:∃ wo:World,wo=wr:=⟨_,rfl⟩
  by_cases hin:i<n
  ·have di:decide ((i:Int)<(n:Int))=true:=decide_eq_true (by omega)
   have hA:=k.out.below (hB)
   have hB':=h.out.below (hB)
   have iA:=fun w'=>hA.idx i (by rw [hn.out]; exact hin) w'
   have cA:=hA.cell i (by rw [hn.out]; exact hin)
   have xl:=limb_getD hm.out i
   have yl:=limb_getD hl.out i
   have hvA:=natV_take_succ m i
   have hvB:=natV_take_succ l i
   have hk1:n+1-i=(n-i)+1:=by omega
   have hol2:(o++List.replicate (n+1-i) 0).length=n+1:=by rw [List.length_append,List.length_replicate]; omega
   have iO:=fun w'=>hO.at.idx i (by rw [hol2]; omega) w'
   have fO:=hO.frz i (by rw [hol2]; omega)
   obtain ⟨z0,cO⟩:∃ z,wo.cell? (valAt ov i)=some z:=⟨_,hO.at.cell i (by rw [hol2]; omega)⟩
   obtain ⟨x,hx⟩:∃ x,m.getD i 0=x:=⟨_,rfl⟩
   obtain ⟨y,hy⟩:∃ y,l.getD i 0=y:=⟨_,rfl⟩
   rw [hx] at cA xl hvA
   rw [hy] at yl hvB
   have hset:=hO.set i (by rw [hol2]; omega) ((x+y+c)%4294967296)
   have hsb:=hO.setBelow hB i (by rw [hol2]; omega) (.int .u32 (((x+y+c)%4294967296:Nat):Int))
   rw [hk1,set_zeros hol] at hset
   have hrnd:=add_round (x:=x) (y:=y) hol hv
   rw [← hvA,← hvB] at hrnd
   have hz:(x+y+c)/4294967296≤1:=by omega
   have hzl:(x+y+c)%4294967296<4294967296:=Nat.mod_lt _ (by decide)
   have hadd:=add32_any x y c wo xl yl hc
   obtain ⟨pa,hpa⟩:∃ p,valAt u i=p:=⟨_,rfl⟩
   obtain ⟨po,hpo⟩:∃ p,valAt ov i=p:=⟨_,rfl⟩
   rw [hpa] at iA cA
   rw [hpo] at iO cO fO hset hsb
   obtain ⟨s,hs⟩:∃ s,(x+y+c)%4294967296=s:=⟨_,rfl⟩
   obtain ⟨c2,hc2⟩:∃ s,(x+y+c)/4294967296=s:=⟨_,rfl⟩
   rw [hs] at hset hsb hrnd hzl hadd
   rw [hc2] at hrnd hz hadd
   have hlo2:=limbs_snoc hlo hzl
   replace hset:=Hd hset
   replace hsb:=Hd hsb
   replace hrnd:=Hd hrnd
   replace hv:=Hd hv
   replace hvA:=Hd hvA
   replace hvB:=Hd hvB
   replace hO:=Hd hO
   replace hlo:=Hd hlo
   replace hlo2:=Hd hlo2
   replace hol:=Hd hol
   replace hol2:=Hd hol2
   replace hx:=Hd hx
   replace hy2:=Hd hy
   replace hs:=Hd hs
   replace hc2:=Hd hc2
   replace hpa:=Hd hpa
   replace hpo:=Hd hpo
   replace hk1:=Hd hk1
   replace hadd:=Hd hadd
   by_cases hiq:i<q
   ·have dq:decide ((i:Int)<(q:Int))=true:=decide_eq_true (by omega)
    have iB:=fun w'=>hB'.idx i (by rw [hq.out]; exact hiq) w'
    have cB:=hB'.cell i (by rw [hq.out]; exact hiq)
    rw [hy] at cB
    obtain ⟨pb,hpb⟩:∃ p,valAt v i=p:=⟨_,rfl⟩
    rw [hpb] at iB cB
    replace hpb:=Hd hpb
    clear hy
    replace hA:=Hd hA
    replace hB':=Hd hB'
    go_wp2_with fail
    refine hadd.out.mono ?_
    rintro e w' ⟨rfl,rfl⟩
    go_wp2
    go_roundw
    case measure=>simp [intOf]; omega
    case rel=>exact ⟨i+1,c2,_,by omega,by go_num,rfl,hz,by rw [List.length_append,hol.out,List.length_singleton],hlo2.out,by rw [show n+1-(i+1)=n-i by omega]; exact hset.out,hsb.out,hrnd.out⟩
   ·have dq:decide ((i:Int)<(q:Int))=false:=decide_eq_false (by omega)
    have hy0:y=0:=by rw [← hy]; simp [List.getD,show l.length≤i by rw [hq.out]; omega]
    subst hy0
    clear hy
    replace hA:=Hd hA
    replace hB':=Hd hB'
    go_wp2_with fail
    refine hadd.out.mono ?_
    rintro e w' ⟨rfl,rfl⟩
    go_wp2
    go_roundw
    case measure=>simp [intOf]; omega
    case rel=>exact ⟨i+1,c2,_,by omega,by go_num,rfl,hz,by rw [List.length_append,hol.out,List.length_singleton],hlo2.out,by rw [show n+1-(i+1)=n-i by omega]; exact hset.out,hsb.out,hrnd.out⟩
  ·obtain rfl:i=n:=by omega
   have di:decide ((i:Int)<(i:Int))=false:=decide_eq_false (by omega)
   have hol2:(o++List.replicate (i+1-i) 0).length=i+1:=by rw [List.length_append,List.length_replicate]; omega
   have iO:=fun w'=>hO.at.idx i (by rw [hol2]; omega) w'
   have fO:=hO.frz i (by rw [hol2]; omega)
   obtain ⟨z0,cO⟩:∃ z,wo.cell? (valAt ov i)=some z:=⟨_,hO.at.cell i (by rw [hol2]; omega)⟩
   have hset:=hO.set i (by rw [hol2]; omega) c
   have hsb:=hO.setBelow hB i (by rw [hol2]; omega) (.int .u32 (c:Int))
   rw [show i+1-i=0+1 by omega,set_zeros hol,List.replicate_zero,List.append_nil] at hset
   rw [natV_take_all (by rw [hn.out]; exact Nat.le_refl _),natV_take_all (by rw [hq.out]; exact hqn)] at hv
   have hval:natV (o++[c])=natV l+natV m:=(by rw [natV_snoc,hol]; exact hv.trans (Nat.add_comm _ _))
   have hlim:=limbs_snoc hlo (show c<4294967296 by omega)
   obtain ⟨po,hpo⟩:∃ p,valAt ov i=p:=⟨_,rfl⟩
   rw [hpo] at iO cO fO hset hsb
   replace hset:=Hd hset
   replace hsb:=Hd hsb
   replace hv:=Hd hv
   replace hO:=Hd hO
   replace hlo:=Hd hlo
   replace hol:=Hd hol
   replace hol2:=Hd hol2
   replace hpo:=Hd hpo
   replace hval:=Hd hval
   replace hlim:=Hd hlim
   go_wp2_with fail
   refine (norm_own w.heap.size _ _ _ _ hset.out hlim.out hval.out).mono ?_
   rintro e w' ⟨⟨x,rfl,hx⟩,rfl⟩
   replace hx:=Hd hx
   go_wp2
   go_ret
   exact ⟨_,rfl,hsb.out,hx.out⟩
theorem nat_add (v u:Value) (l m:List Nat) (w:World) (h:LimbsAt w v l) (k:LimbsAt w u m) (hl:Limbs l) (hm:Limbs m) (hll:l.length≤1000000) (hml:m.length≤1000000) :
 Calls Tryz.prog 12 #[v,u] w (Ret1 (fun x w'=>NumIs w.heap.size w' x (natV l+natV m)) w):=by
 by_cases hlt:l.length<m.length
 ·exact add_lt v u l m w h k hl hm hml hlt
 ·exact add_ge v u l m w h k hl hm hll (by omega)
end Go.Proofs.YtkaoebokbfcmhaaGreatDoor
namespace Go.Proofs.YtkaoebokbfcmhaaGreatDoor
theorem take_snoc (l:List Int) (k:Nat) (h:k<l.length):l.take (k+1)=l.take k++[l[k]]:=by rw [List.take_succ_eq_append_getElem h]
def numP (k:Int) (f:List Int) (from_:Int):PErr:=if idxOf (odd1 k) f=-1 then none else fresh sAdditive (from_+idxOf (odd1 k) f) 2
theorem Syms.num {k:Int} {f:List Int} (h:Syms k f) (a:Int):numP k f a=none:=by rw [numP,if_pos h.odd]
theorem Syms.getD {K:Int} {xs:List Int} (hK:0<K) (h:Syms K xs) (i:Nat):0≤xs.getD i 0∧xs.getD i 0<K:=by
 by_cases c:i<xs.length
 ·simp only [List.getD,List.getElem?_eq_getElem c,Option.getD_some]
  exact h _ (by simp)
 ·simp only [List.getD,List.getElem?_eq_none (Nat.le_of_not_lt c),Option.getD_none]
  omega
def fitP (T:List Int) (rest W:Nat) (image:Int):Nat→Nat→Nat
 | 0,_=>0
 | n+1,s=>if T.getD (rest+s*W) 0=image then s else fitP T rest W image n (s+1)
def fit (K:Nat) (T:List Int) (rest W:Nat) (image:Int):Nat:=fitP T rest W image K 0
def numW (K:Nat) (xs:List Int):Nat:=xs.foldl (fun n x=>n*K+x.toNat) 0
theorem numW_snoc (K:Nat) (xs:List Int) (x:Int):numW K (xs++[x])=numW K xs*K+x.toNat:=by simp [numW]
theorem numW_lt {K:Nat} (xs:List Int) (h:Syms K xs):numW K xs<pw K xs.length:=by
 suffices H:∀ ys zs,xs=ys++zs→numW K ys<pw K ys.length from H xs [] (by simp)
 intro ys
 induction hn:ys.length generalizing ys with
 | zero=>intro zs _; have:=List.eq_nil_of_length_eq_zero hn; subst this; simp [numW,pw]
 | succ n ih =>
  intro zs e
  have hne:ys≠[]:=by intro e; subst e; simp at hn
  obtain ⟨b,x,rfl⟩:∃ b x,ys=b++[x]:=⟨ys.dropLast,ys.getLast hne,(List.dropLast_concat_getLast hne).symm⟩
  have hb:b.length=n:=by simpa using hn
  have h1:=ih b hb ([x]++zs) (by rw [e]; simp)
  have hx:=h x (by rw [e]; simp)
  rw [numW_snoc,pw_succ]
  have:(numW K b+1)*K≤pw K n*K:=Nat.mul_le_mul_right _ (by omega)
  rw [Nat.succ_mul] at this
  omega
theorem RuleOk.half {K R:Nat} {xs:List Int} (h:RuleOk K R xs):xs.length/K=pw K (2*R)∧xs.length=pw K (2*R)*K:=by
 have e:=h.len
 rw [pw_succ] at e
 have:=h.k1
 exact ⟨by rw [e,Nat.mul_div_cancel _ (by omega)],e⟩
def digs (K:Nat):Nat→Nat→List Int
 | 0,_=>[]
 | n+1,x=>digs K n (x/K)++[((x%K:Nat):Int)]
theorem digs_length (K n x:Nat):(digs K n x).length=n:=by
 induction n generalizing x with
 | zero=>rfl
 | succ n ih=>simp [digs,ih]
theorem digs_syms {K:Nat} (hK:1≤K) (n x:Nat):Syms K (digs K n x):=by
 induction n generalizing x with
 | zero=>intro y hy; simp [digs] at hy
 | succ n ih =>
  intro y hy
  rw [digs,List.mem_append,List.mem_singleton] at hy
  rcases hy with hy | rfl
  ·exact ih _ y hy
  ·have:=Nat.mod_lt x (show 0<K by omega); omega
theorem numW_digs {K:Nat} (hK:1≤K) (n x:Nat) (hx:x<pw K n):numW K (digs K n x)=x:=by
 induction n generalizing x with
 | zero=>simp [pw] at hx; subst hx; rfl
 | succ n ih =>
  rw [digs,numW_snoc,ih _ (by rw [Nat.div_lt_iff_lt_mul (by omega),← pw_succ]; exact hx),Int.toNat_natCast]
  exact Nat.div_add_mod' x K
def imgP (K R:Nat) (T:List Int) (w:List Int):List Int:=(List.range (w.length-2*R)).map fun i=>T.getD (numW K ((w.drop i).take (2*R+1))) 0
theorem imgP_length (K R:Nat) (T w:List Int):(imgP K R T w).length=w.length-2*R:=by simp [imgP]
theorem imgP_getD (K R:Nat) (T w:List Int) (i:Nat) (hi:i<w.length-2*R):(imgP K R T w).getD i 0=T.getD (numW K ((w.drop i).take (2*R+1))) 0:=by
 simp [imgP,List.getD,hi]
theorem imgP_syms {K:Nat} (hK:1≤K) {R:Nat} {T w:List Int} (hT:Syms K T):Syms K (imgP K R T w):=by
 intro y hy
 obtain ⟨i,_,rfl⟩:=List.mem_map.1 hy
 exact hT.getD (by omega) _
theorem numW_append (K:Nat) (u v:List Int):numW K (u++v)=numW K u*pw K v.length+numW K v:=by
 induction hn:v.length generalizing v with
 | zero =>
  obtain rfl:=List.eq_nil_of_length_eq_zero hn
  simp [numW,pw]
 | succ n ih =>
  have hne:v≠[]:=by intro e; subst e; simp at hn
  obtain ⟨b,x,rfl⟩:∃ b x,v=b++[x]:=⟨v.dropLast,v.getLast hne,(List.dropLast_concat_getLast hne).symm⟩
  have hb:b.length=n:=by simpa using hn
  rw [← List.append_assoc,numW_snoc,numW_snoc,ih b hb,pw_succ,Nat.add_mul,Nat.mul_assoc]
  omega
theorem numW_mod {K:Nat} {u v:List Int} (h:Syms K v):numW K (u++v)%pw K v.length=numW K v:=by
 rw [numW_append,Nat.mul_comm,Nat.mul_add_mod,Nat.mod_eq_of_lt (numW_lt v h)]
theorem imgP_snoc {K R:Nat} {T w:List Int} {x:Int} (hT:T.length=pw K (2*R+1)) (hw:Syms K (w++[x])) :
 imgP K R T (w++[x])=if 2*R≤w.length then imgP K R T w++[T.getD (numW K (w++[x])%T.length) 0] else imgP K R T w:=by
 by_cases h:2*R≤w.length
 ·rw [if_pos h]
  unfold imgP
  rw [show (w++[x]).length-2*R=(w.length-2*R)+1 by simp; omega,List.range_succ,List.map_append]
  congr 1
  ·refine List.map_congr_left fun i hi=>?_
   have hi':=List.mem_range.1 hi
   congr 2
   rw [List.drop_append_of_le_length (by omega),List.take_append_of_le_length (by simp; omega)]
  ·simp only [List.map_cons,List.map_nil]
   congr 2
   have e:((w++[x]).drop (w.length-2*R)).take (2*R+1)=(w++[x]).drop (w.length-2*R):=List.take_of_length_le (by simp; omega)
   rw [e,hT]
   have hl:((w++[x]).drop (w.length-2*R)).length=2*R+1:=by simp; omega
   have:=numW_mod (K:=K) (u:=(w++[x]).take (w.length-2*R)) (v:=(w++[x]).drop (w.length-2*R)) (fun y hy=>hw y (List.mem_of_mem_drop hy))
   rw [List.take_append_drop,hl] at this
   exact this.symm
 ·rw [if_neg h]
  unfold imgP
  rw [show (w++[x]).length-2*R=0 by simp; omega,show w.length-2*R=0 by omega]
  rfl
theorem digs_getD (K n x j:Nat) (hj:j<n):(digs K n x).getD (n-1-j) 0=((x/pw K j%K:Nat):Int):=by
 induction n generalizing x j with
 | zero=>omega
 | succ n ih =>
  rw [digs]
  cases j with
  | zero =>
   rw [pw_zero,Nat.div_one,show n+1-1-0=(digs K n (x/K)).length by rw [digs_length]; omega]
   simp [List.getD]
  | succ j =>
   have h:=ih (x/K) j (by omega)
   have hl:n+1-1-(j+1)<(digs K n (x/K)).length:=by rw [digs_length]; omega
   simp only [List.getD,List.getElem?_append_left hl] at h ⊢
   rw [show n+1-1-(j+1)=n-1-j by omega,h,pw_succ,Nat.div_div_eq_div_mul,Nat.mul_comm]
theorem digs_fill (K n x j:Nat) (hj:j<n) (p:List Int) (hp:p.length=n) :
 (p.take (n-j)++(digs K n x).drop (n-j)).set (n-1-j) ((x/pw K j%K:Nat):Int)=p.take (n-(j+1))++(digs K n x).drop (n-(j+1)):=by
 have hd:=digs_getD K n x j hj
 have hdl:=digs_length K n x
 rw [show n-(j+1)=n-1-j by omega,show n-j=n-1-j+1 by omega]
 have hm:n-1-j<n:=by omega
 generalize n-1-j=m at hd hm
 rw [← hd,take_snoc p m (by omega),List.drop_eq_getElem_cons (show m<(digs K n x).length by omega),List.append_assoc,List.set_append_right _ _ (by simp; omega)]
 have e:m-(p.take m).length=0:=by simp; omega
 rw [e]
 simp [List.getD,show m<(digs K n x).length by omega]
theorem digs_numW {K:Nat} (hK:1≤K) (w:List Int) (h:Syms K w):digs K w.length (numW K w)=w:=by
 induction hn:w.length generalizing w with
 | zero=>obtain rfl:=List.eq_nil_of_length_eq_zero hn; rfl
 | succ n ih =>
  have hne:w≠[]:=by intro e; subst e; simp at hn
  obtain ⟨b,x,rfl⟩:∃ b x,w=b++[x]:=⟨w.dropLast,w.getLast hne,(List.dropLast_concat_getLast hne).symm⟩
  have hb:b.length=n:=by simpa using hn
  have hx:=h x (by simp)
  have hxn:x.toNat<K:=by omega
  have:=ih b (fun y hy=>h y (by simp [hy])) hb
  rw [digs,numW_snoc]
  rw [show (numW K b*K+x.toNat)/K=numW K b by rw [Nat.mul_comm,Nat.mul_add_div (by omega),Nat.div_eq_of_lt hxn,Nat.add_zero],this,
   show (numW K b*K+x.toNat)%K=x.toNat by rw [Nat.mul_comm,Nat.mul_add_mod,Nat.mod_eq_of_lt hxn]]
  congr 2
  omega
theorem mul_add_lt {K q s m:Nat} (hs:s<K) (hq:q<m):q*K+s<m*K:=by
 have:=Nat.mul_le_mul_right K (show q+1≤m from hq)
 rw [Nat.succ_mul] at this
 omega
theorem div_mk {K q s:Nat} (hs:s<K):(q*K+s)/K=q:=by
 rw [Nat.mul_comm,Nat.mul_add_div (by omega),Nat.div_eq_of_lt hs,Nat.add_zero]
theorem mod_mk {K q s:Nat} (hs:s<K):(q*K+s)%K=s:=by
 rw [Nat.mul_comm,Nat.mul_add_mod,Nat.mod_eq_of_lt hs]
theorem num_shift {K:Nat} {u:List Int} {s:Int} (h:Syms K (u++[s])):numW K ((u++[s]).drop 1)=numW K (u++[s])%pw K u.length:=by
 have hl:((u++[s]).drop 1).length=u.length:=by simp
 have:=numW_mod (K:=K) (u:=(u++[s]).take 1) (v:=(u++[s]).drop 1) (fun y hy=>h y (List.mem_of_mem_drop hy))
 rw [List.take_append_drop,hl] at this
 exact this.symm
theorem syms_cons {K:Nat} {s:Int} {u:List Int} (h0:0≤s) (h1:s<K) (hu:Syms K u):Syms K (s::u):=by
 intro y hy
 rcases List.mem_cons.1 hy with rfl | hy
 ·exact ⟨h0,h1⟩
 ·exact hu y hy
theorem syms_snoc {K:Nat} {s:Int} {u:List Int} (h0:0≤s) (h1:s<K) (hu:Syms K u):Syms K (u++[s]):=by
 intro y hy
 rcases List.mem_append.1 hy with hy | hy
 ·exact hu y hy
 ·rw [List.mem_singleton] at hy; subst hy; exact ⟨h0,h1⟩
theorem imgP_cons {K R:Nat} {T:List Int} {x:Int} {w:List Int} (h:2*R≤w.length):imgP K R T (x::w)=T.getD (numW K (x::w.take (2*R))) 0::imgP K R T w:=by
 unfold imgP
 rw [show (x::w).length-2*R=(w.length-2*R)+1 by simp; omega,List.range_succ_eq_map,List.map_cons,List.map_map]
 congr 1
inductive Goes (adj:Nat→List Nat):Nat→Nat→Prop
 | refl (x:Nat):Goes adj x x
 | step {x y z:Nat} (h:Goes adj x y) (hz:z∈adj y):Goes adj x z
theorem Goes.one {adj:Nat→List Nat} {x y:Nat} (h:y∈adj x):Goes adj x y:=.step (.refl x) h
theorem Goes.trans {adj:Nat→List Nat} {x y z:Nat} (h:Goes adj x y) (h2:Goes adj y z):Goes adj x z:=by
 induction h2 with
 | refl=>exact h
 | step _ hz ih=>exact .step ih hz
theorem Goes.closed {adj:Nat→List Nat} {P:Nat→Prop} (hP:∀ x,P x→∀ t∈adj x,P t) {x y:Nat} (h:Goes adj x y) (hx:P x):P y:=by
 induction h with
 | refl=>exact hx
 | step _ hz ih=>exact hP _ ih _ hz
def updN {α:Type} (f:Nat→α) (v:Nat) (a:α):Nat→α:=fun x=>if x=v then a else f x
theorem updN_same {α:Type} (f:Nat→α) (v:Nat) (a:α):updN f v a v=a:=by simp [updN]
theorem updN_other {α:Type} (f:Nat→α) (v:Nat) (a:α) {x:Nat} (h:x≠v):updN f v a x=f x:=by simp [updN,h]
theorem updN_self {α:Type} (f:Nat→α) (v:Nat):updN f v (f v)=f:=by funext x; by_cases h:x=v<;>simp [updN,h]
structure TS where
 time:Nat
 low:Nat→Nat
 found:Nat→Nat
 idx:Nat→Nat
 opn:List Nat
 part:Nat→Int
 calls:List Nat
def enterS (S:TS) (v:Nat):TS:={ S with time:=S.time+1,low:=updN S.low v (S.time+1),found:=updN S.found v (S.time+1),idx:=updN S.idx v 0,opn:=v::S.opn,calls:=v::S.calls }
def closeS (v:Nat):List Nat→(Nat→Int)→List Nat×(Nat→Int)
 | [],p=>([],p)
 | t::r,p=>if t=v then (r,updN p t v) else closeS v r (updN p t v)
def lowS (low:Nat→Nat) (v:Nat):List Nat→Nat→Nat
 | []=>low
 | u::_=>updN low u (min (low u) (low v))
def leaveS (S:TS) (v:Nat) (r:List Nat):TS :=
 if lowS S.low v r v=S.found v then { S with low:=lowS S.low v r,calls:=r,opn:=(closeS v S.opn S.part).1,part:=(closeS v S.opn S.part).2 }
 else { S with low:=lowS S.low v r,calls:=r }
def stepS (adj:Nat→List Nat) (S:TS):TS :=
 match S.calls with
 | []=>S
 | v::r =>
  if S.idx v=(adj v).length then leaveS S v r
  else
   let t:=(adj v).getD (S.idx v) 0
   let S1:={ S with idx:=updN S.idx v (S.idx v+1) }
   if S.found t=0 then enterS S1 t
   else if S.part t<0 then { S1 with low:=updN S.low v (min (S.low v) (S.found t)) }
   else S1
theorem stepS_nil {adj:Nat→List Nat} {S:TS} (hc:S.calls=[]):stepS adj S=S:=by
 cases S; simp only at hc; subst hc; rfl
theorem stepS_cons {adj:Nat→List Nat} {S:TS} {v:Nat} {r:List Nat} (hc:S.calls=v::r):stepS adj S =
 if S.idx v=(adj v).length then leaveS S v r
 else if S.found ((adj v).getD (S.idx v) 0)=0 then enterS { S with idx:=updN S.idx v (S.idx v+1) } ((adj v).getD (S.idx v) 0)
 else if S.part ((adj v).getD (S.idx v) 0)<0 then { S with idx:=updN S.idx v (S.idx v+1),low:=updN S.low v (min (S.low v) (S.found ((adj v).getD (S.idx v) 0))) }
 else { S with idx:=updN S.idx v (S.idx v+1) }:=by
 cases S; simp only at hc; subst hc; rfl
def wsum (c found:Nat→Nat):Nat→Nat
 | 0=>0
 | n+1=>wsum c found n+if found n=0 then c n else 0
theorem wsum_upd (c found:Nat→Nat) (t a:Nat) (ha:a≠0) (ht:found t=0) (n:Nat) :
 wsum c (updN found t a) n+(if t<n then c t else 0)=wsum c found n:=by
 induction n with
 | zero=>simp [wsum]
 | succ n ih =>
  simp only [wsum]
  by_cases e:n=t
  ·subst e
   rw [if_neg (Nat.lt_irrefl n)] at ih
   rw [updN_same,if_neg ha,if_pos ht,if_pos (by omega)]; omega
  ·rw [updN_other _ _ _ e]
   by_cases h:t<n
   ·rw [if_pos h] at ih; rw [if_pos (show t<n+1 by omega)]; omega
   ·rw [if_neg h] at ih; rw [if_neg (show ¬ t<n+1 by omega)]; omega
structure TInv (n:Nat) (adj:Nat→List Nat) (S:TS):Prop where
 adjLt:∀ v,v<n→∀ t∈adj v,t<n
 seenLt:∀ v,S.found v≠0→v<n
 leTime:∀ v,S.found v≤S.time
 count:S.time+wsum (fun _=>1) S.found n=n
 inj:∀ x y,S.found x=S.found y→S.found x≠0→x=y
 opnIff:∀ v,v∈S.opn↔S.found v≠0∧S.part v<0
 opnSorted:S.opn.Pairwise (fun a b=>S.found b<S.found a)
 callsSorted:S.calls.Pairwise (fun a b=>S.found b<S.found a)
 callsOpen:∀ c∈S.calls,c∈S.opn
 idxLe:∀ v,v∈S.opn→S.idx v≤(adj v).length
 idxDone:∀ v,v∈S.opn→v∉S.calls→S.idx v=(adj v).length
 partSeen:∀ v,0≤S.part v→S.found v≠0
 partLow:∀ v,-1≤S.part v
 A:∀ c∈S.calls,∀ x∈S.opn,S.found c≤S.found x→Goes adj c x
 B:∀ x∈S.opn,∃ c∈S.calls,S.found c≤S.found x∧Goes adj x c
 C:∀ x,0≤S.part x→∀ t∈adj x,0≤S.part t
 D:∀ x∈S.opn,∀ j<S.idx x,∀ t,(adj x)[j]?=some t→S.found t≠0
 E:∀ x∈S.opn,∀ j<S.idx x,∀ t∈S.opn,(adj x)[j]?=some t→∀ c∈S.calls,S.found c≤S.found x →
  (∀ d∈S.calls,S.found d≤S.found x→S.found d≤S.found c)→S.low c≤S.found t
 F:∀ c∈S.calls,S.low c≤S.found c
 G:∀ c∈S.calls,∃ z∈S.opn,S.found z=S.low c∧Goes adj c z
 P1:∀ x,0≤S.part x→∃ p:Nat,S.part x=p∧0≤S.part p∧Goes adj x p∧Goes adj p x
 P2:∀ x y,0≤S.part x→0≤S.part y→Goes adj x y→Goes adj y x→S.part x=S.part y
variable {n:Nat} {adj:Nat→List Nat} {S:TS}
theorem TInv.callsSeen (h:TInv n adj S) {c:Nat} (hc:c∈S.calls):S.found c≠0∧S.part c<0:=(h.opnIff c).1 (h.callsOpen c hc)
theorem TInv.opn_nil (h:TInv n adj S) (hc:S.calls=[]):S.opn=[]:=by
 cases e:S.opn with
 | nil=>rfl
 | cons x l =>
  obtain ⟨c,hm,_⟩:=h.B x (by rw [e]; exact List.mem_cons_self)
  rw [hc] at hm; cases hm
theorem TInv.enterEdge (h:TInv n adj S) {v:Nat} {r:List Nat} (hc:S.calls=v::r) {t:Nat} (ht:(adj v)[S.idx v]?=some t) (hw:S.found t=0) :
 TInv n adj (enterS { S with idx:=updN S.idx v (S.idx v+1) } t):=by
 have hvc:v∈S.calls:=by rw [hc]; exact List.mem_cons_self
 have hvo:=h.callsOpen v hvc
 have hvs:=h.callsSeen hvc
 have hvn:=h.seenLt v hvs.1
 have htm:t∈adj v:=List.mem_of_getElem? ht
 have htn:=h.adjLt v hvn t htm
 have hil:S.idx v<(adj v).length:=by
  by_cases q:S.idx v<(adj v).length
  ·exact q
  ·rw [List.getElem?_eq_none (by omega)] at ht; cases ht
 have hp:S.part t<0:=by
  by_cases hp:S.part t<0
  ·exact hp
  ·exact absurd hw (h.partSeen t (by omega))
 have hcnt:=wsum_upd (fun _=>1) S.found t (S.time+1) (by omega) hw n
 rw [if_pos htn] at hcnt
 have hcl:∀ x,0≤S.part x→x≠t:=fun x hx e=>by subst e; omega
 have hop:∀ x,x∈S.opn→x≠t:=fun x hx e=>by subst e; exact ((h.opnIff x).1 hx).1 hw
 have hca:∀ x,x∈S.calls→x≠t:=fun x hx=>hop x (h.callsOpen x hx)
 have fo:∀ x,x∈S.opn→updN S.found t (S.time+1) x=S.found x:=fun x hx=>updN_other _ _ _ (hop x hx)
 have fc:∀ x,x∈S.calls→updN S.found t (S.time+1) x=S.found x:=fun x hx=>updN_other _ _ _ (hca x hx)
 have lc:∀ x,x∈S.calls→updN S.low t (S.time+1) x=S.low x:=fun x hx=>updN_other _ _ _ (hca x hx)
 have ft:updN S.found t (S.time+1) t=S.time+1:=updN_same _ _ _
 have lt:updN S.low t (S.time+1) t=S.time+1:=updN_same _ _ _
 have hgt:∀ c∈S.calls,Goes adj c t:=fun c hcm=>by
  refine .step (h.A c hcm v hvo ?_) htm
  have:=h.callsSorted
  rw [hc] at this hcm
  rcases List.mem_cons.1 hcm with e | e
  ·rw [e]; exact Nat.le_refl _
  ·exact Nat.le_of_lt ((List.pairwise_cons.1 this).1 c e)
 have ix:∀ x,x∈S.opn→∀ j,j<updN (updN S.idx v (S.idx v+1)) t 0 x→j<S.idx x∨(x=v∧j=S.idx v):=fun x hx j hj=>by
  rw [updN_other _ _ _ (hop x hx)] at hj
  by_cases e:x=v
  ·subst e; rw [updN_same] at hj; omega
  ·rw [updN_other _ _ _ e] at hj; exact .inl hj
 have mono:∀ x,S.found x≠0→updN S.found t (S.time+1) x≠0:=fun x hx=>by
  by_cases e:x=t
  ·subst e; exact absurd hw hx
  ·rw [updN_other _ _ _ e]; exact hx
 constructor
 case adjLt=>exact h.adjLt
 case seenLt =>
  intro x hx
  by_cases e:x=t
  ·omega
  ·simp only [enterS,updN_other _ _ _ e] at hx; exact h.seenLt x hx
 case leTime =>
  intro x
  simp only [enterS]
  by_cases e:x=t
  ·subst e; rw [updN_same]; omega
  ·rw [updN_other _ _ _ e]; have:=h.leTime x; omega
 case count=>simp only [enterS]; have:=h.count; omega
 case inj =>
  intro x y hxy hx
  simp only [enterS] at hxy hx
  by_cases ex:x=t<;>by_cases ey:y=t
  ·omega
  ·subst ex; rw [updN_same,updN_other _ _ _ ey] at hxy; have:=h.leTime y; omega
  ·subst ey; rw [updN_same,updN_other _ _ _ ex] at hxy; have:=h.leTime x; omega
  ·rw [updN_other _ _ _ ex,updN_other _ _ _ ey] at hxy; rw [updN_other _ _ _ ex] at hx; exact h.inj x y hxy hx
 case opnIff =>
  intro x
  simp only [enterS,List.mem_cons]
  by_cases e:x=t
  ·subst e; rw [updN_same]; exact ⟨fun _=>⟨by omega,hp⟩,fun _=>.inl rfl⟩
  ·rw [updN_other _ _ _ e,← h.opnIff x]
   exact ⟨fun h1=>h1.resolve_left e,.inr⟩
 case opnSorted =>
  simp only [enterS]
  refine List.pairwise_cons.2 ⟨fun x hx=>?_,h.opnSorted.imp_of_mem fun ha hb hab=>?_⟩
  ·rw [fo x hx,ft]; have:=h.leTime x; omega
  ·rw [fo _ ha,fo _ hb]; exact hab
 case callsSorted =>
  simp only [enterS]
  refine List.pairwise_cons.2 ⟨fun x hx=>?_,h.callsSorted.imp_of_mem fun ha hb hab=>?_⟩
  ·rw [fc x hx,ft]; have:=h.leTime x; omega
  ·rw [fc _ ha,fc _ hb]; exact hab
 case callsOpen =>
  intro c hc2; simp only [enterS,List.mem_cons] at hc2 ⊢; exact hc2.imp id (h.callsOpen c)
 case idxLe =>
  intro x hx; simp only [enterS,List.mem_cons] at hx ⊢
  rcases hx with rfl | hx
  ·rw [updN_same]; omega
  ·rw [updN_other _ _ _ (hop x hx)]
   by_cases e:x=v
   ·subst e; rw [updN_same]; omega
   ·rw [updN_other _ _ _ e]; exact h.idxLe x hx
 case idxDone =>
  intro x hx hx2; simp only [enterS,List.mem_cons,not_or] at hx hx2 ⊢
  have hx3:=hx.resolve_left hx2.1
  rw [updN_other _ _ _ hx2.1,updN_other _ _ _ (fun e=>hx2.2 (by rw [e]; exact hvc))]
  exact h.idxDone x hx3 hx2.2
 case partSeen =>
  intro x hx; simp only [enterS] at hx ⊢; rw [updN_other _ _ _ (hcl x hx)]; exact h.partSeen x hx
 case partLow=>exact h.partLow
 case A =>
  intro c hc2 x hx hle
  simp only [enterS,List.mem_cons] at hc2 hx hle
  rcases hc2 with rfl | hc2
  ·rcases hx with rfl | hx
   ·exact .refl _
   ·rw [ft,fo x hx] at hle; have:=h.leTime x; omega
  ·rcases hx with rfl | hx
   ·exact hgt c hc2
   ·rw [fo x hx,fc c hc2] at hle; exact h.A c hc2 x hx hle
 case B =>
  intro x hx
  simp only [enterS,List.mem_cons] at hx
  rcases hx with rfl | hx
  ·exact ⟨x,by simp [enterS],Nat.le_refl _,.refl _⟩
  ·obtain ⟨c,h1,h2,h3⟩:=h.B x hx
   refine ⟨c,by simp only [enterS,List.mem_cons]; exact .inr h1,?_,h3⟩
   simp only [enterS]; rw [fo x hx,fc c h1]; exact h2
 case C=>exact h.C
 case D =>
  intro x hx j hj t' ht'
  simp only [enterS,List.mem_cons] at hx hj ⊢
  rcases hx with rfl | hx
  ·rw [updN_same] at hj; omega
  ·rcases ix x hx j hj with hj | ⟨rfl,rfl⟩
   ·exact mono _ (h.D x hx j hj t' ht')
   ·rw [ht] at ht'; cases ht'; rw [ft]; omega
 case E =>
  intro x hx j hj t' hto ht' c hc2 hle htop
  simp only [enterS,List.mem_cons] at hx hj hto hc2 hle htop ⊢
  rcases hx with rfl | hx
  ·rw [updN_same] at hj; omega
  ·rcases hc2 with rfl | hc2
   ·rw [ft,fo x hx] at hle; have:=h.leTime x; omega
   ·rw [fc c hc2,fo x hx] at hle
    rw [lc c hc2]
    rcases hto with rfl | hto
    ·rw [ft]; have:=h.F c hc2; have:=h.leTime c; omega
    ·rw [fo _ hto]
     rcases ix x hx j hj with hj | ⟨rfl,rfl⟩
     ·refine h.E x hx j hj t' hto ht' c hc2 hle fun d hd hd2=>?_
      have:=htop d (.inr hd) (by rw [fc d hd,fo x hx]; exact hd2)
      rwa [fc d hd,fc c hc2] at this
     ·rw [ht] at ht'; cases ht'; exact absurd rfl (hop _ hto)
 case F =>
  intro c hc2; simp only [enterS,List.mem_cons] at hc2 ⊢
  rcases hc2 with rfl | hc2
  ·rw [updN_same,updN_same]; exact Nat.le_refl _
  ·rw [lc c hc2,fc c hc2]; exact h.F c hc2
 case G =>
  intro c hc2; simp only [enterS,List.mem_cons] at hc2 ⊢
  rcases hc2 with rfl | hc2
  ·exact ⟨c,.inl rfl,by rw [updN_same,updN_same],.refl _⟩
  ·obtain ⟨z,h1,h2,h3⟩:=h.G c hc2
   exact ⟨z,.inr h1,by rw [lc c hc2,fo z h1]; exact h2,h3⟩
 case P1=>exact h.P1
 case P2=>exact h.P2
theorem TInv.edge (h:TInv n adj S) {v:Nat} {r:List Nat} (hc:S.calls=v::r) {t:Nat} (ht:(adj v)[S.idx v]?=some t) (hw:S.found t≠0) (lo:Nat→Nat)
 (hlo:∀ c,c≠v→lo c=S.low c) (hle:lo v≤S.low v) (hlt:S.part t<0→lo v≤S.found t) (hlg:lo v=S.low v∨(S.part t<0∧lo v=S.found t)) :
 TInv n adj { S with idx:=updN S.idx v (S.idx v+1),low:=lo }:=by
 have hvc:v∈S.calls:=by rw [hc]; exact List.mem_cons_self
 have hvo:=h.callsOpen v hvc
 have htm:t∈adj v:=List.mem_of_getElem? ht
 have hil:S.idx v<(adj v).length:=by
  by_cases q:S.idx v<(adj v).length
  ·exact q
  ·rw [List.getElem?_eq_none (by omega)] at ht; cases ht
 have lol:∀ c,lo c≤S.low c:=fun c=>by
  by_cases e:c=v
  ·rw [e]; exact hle
  ·rw [hlo c e]; exact Nat.le_refl _
 have ix:∀ x,∀ j,j<updN S.idx v (S.idx v+1) x→j<S.idx x∨(x=v∧j=S.idx v):=fun x j hj=>by
  by_cases e:x=v
  ·subst e; rw [updN_same] at hj; omega
  ·rw [updN_other _ _ _ e] at hj; exact .inl hj
 constructor
 case adjLt=>exact h.adjLt
 case seenLt=>exact h.seenLt
 case leTime=>exact h.leTime
 case count=>exact h.count
 case inj=>exact h.inj
 case opnIff=>exact h.opnIff
 case opnSorted=>exact h.opnSorted
 case callsSorted=>exact h.callsSorted
 case callsOpen=>exact h.callsOpen
 case idxLe =>
  intro x hx
  show updN S.idx v (S.idx v+1) x≤_
  by_cases e:x=v
  ·subst e; rw [updN_same]; omega
  ·rw [updN_other _ _ _ e]; exact h.idxLe x hx
 case idxDone =>
  intro x hx hx2
  show updN S.idx v (S.idx v+1) x=_
  rw [updN_other _ _ _ (fun e=>hx2 (by rw [e]; exact hvc))]
  exact h.idxDone x hx hx2
 case partSeen=>exact h.partSeen
 case partLow=>exact h.partLow
 case A=>exact h.A
 case B=>exact h.B
 case C=>exact h.C
 case D =>
  intro x hx j hj t' ht'
  rcases ix x j hj with hj | ⟨rfl,rfl⟩
  ·exact h.D x hx j hj t' ht'
  ·rw [ht] at ht'; cases ht'; exact hw
 case E =>
  intro x hx j hj t' hto ht' c hc2 hcx htop
  show lo c≤_
  rcases ix x j hj with hj | ⟨rfl,rfl⟩
  ·exact Nat.le_trans (lol c) (h.E x hx j hj t' hto ht' c hc2 hcx htop)
  ·rw [ht] at ht'; cases ht'
   have e:c=x:=by
    have h1:=htop x hvc (Nat.le_refl _)
    exact h.inj c x (by have h2:S.found c≤S.found x:=hcx; have h3:S.found x≤S.found c:=h1; omega) (h.callsSeen hc2).1
   subst e
   exact hlt ((h.opnIff t).1 hto).2
 case F=>intro c hc2; exact Nat.le_trans (lol c) (h.F c hc2)
 case G =>
  intro c hc2
  show ∃ z∈S.opn,S.found z=lo c∧_
  by_cases e:c=v
  ·subst e
   rcases hlg with e | ⟨e1,e2⟩
   ·rw [e]; exact h.G c hc2
   ·exact ⟨t,(h.opnIff t).2 ⟨hw,e1⟩,e2.symm,.one htm⟩
  ·rw [hlo c e]; exact h.G c hc2
 case P1=>exact h.P1
 case P2=>exact h.P2
theorem TInv.low_eq (h:TInv n adj S) {v:Nat} {r:List Nat} (hc:S.calls=v::r):lowS S.low v r v=S.low v:=by
 cases r with
 | nil=>rfl
 | cons u r =>
  have:=h.callsSorted
  rw [hc] at this
  have h1:=(List.pairwise_cons.1 this).1 u List.mem_cons_self
  exact updN_other _ _ _ (fun e=>by subst e; omega)
theorem TInv.leaveN (h:TInv n adj S) {v:Nat} {r:List Nat} (hc:S.calls=v::r) (hi:S.idx v=(adj v).length) (hl:S.low v≠S.found v) :
 TInv n adj { S with low:=lowS S.low v r,calls:=r }:=by
 have hvc:v∈S.calls:=by rw [hc]; exact List.mem_cons_self
 have hvo:=h.callsOpen v hvc
 have hsrt:=h.callsSorted
 rw [hc] at hsrt
 have hrl:∀ c∈r,S.found c<S.found v:=(List.pairwise_cons.1 hsrt).1
 have hsub:∀ c∈r,c∈S.calls:=fun c hm=>by rw [hc]; exact List.mem_cons_of_mem _ hm
 have hcs:∀ c∈S.calls,c=v∨c∈r:=fun c hm=>by rw [hc] at hm; exact List.mem_cons.1 hm
 have hF:=h.F v hvc
 obtain ⟨z,hz1,hz2,hz3⟩:=h.G v hvc
 obtain ⟨g,hg1,hg2,hg3⟩:=h.B z hz1
 have hgr:g∈r:=(hcs g hg1).resolve_left (fun e=>by subst e; omega)
 obtain ⟨u,r',rfl⟩:∃ u r',r=u::r':=by cases r with
  | nil=>cases hgr
  | cons u r'=>exact ⟨u,r',rfl⟩
 have hur:u∈u::r':=List.mem_cons_self
 have huc:=hsub u hur
 have hru:∀ c∈u::r',S.found c≤S.found u:=fun c hm=>by
  rcases List.mem_cons.1 hm with e | e
  ·rw [e]; exact Nat.le_refl _
  ·exact Nat.le_of_lt ((List.pairwise_cons.1 (List.pairwise_cons.1 hsrt).2).1 c e)
 have lol:∀ c,lowS S.low v (u::r') c≤S.low c:=fun c=>by
  show updN S.low u _ c≤_
  by_cases e:c=u
  ·subst e; rw [updN_same]; omega
  ·rw [updN_other _ _ _ e]; exact Nat.le_refl _
 have lou:lowS S.low v (u::r') u=min (S.low u) (S.low v):=updN_same _ _ _
 have loc:∀ c,c≠u→lowS S.low v (u::r') c=S.low c:=fun c e=>updN_other _ _ _ e
 constructor
 case adjLt=>exact h.adjLt
 case seenLt=>exact h.seenLt
 case leTime=>exact h.leTime
 case count=>exact h.count
 case inj=>exact h.inj
 case opnIff=>exact h.opnIff
 case opnSorted=>exact h.opnSorted
 case callsSorted=>exact (List.pairwise_cons.1 hsrt).2
 case callsOpen=>exact fun c hm=>h.callsOpen c (hsub c hm)
 case idxLe=>exact h.idxLe
 case idxDone =>
  intro x hx hx2
  show S.idx x=_
  by_cases e:x=v
  ·rw [e]; exact hi
  ·exact h.idxDone x hx (fun hm=>(hcs x hm).elim e hx2)
 case partSeen=>exact h.partSeen
 case partLow=>exact h.partLow
 case A=>exact fun c hm=>h.A c (hsub c hm)
 case B =>
  intro x hx
  obtain ⟨c,h1,h2,h3⟩:=h.B x hx
  rcases hcs c h1 with rfl | hcr
  ·refine ⟨g,hgr,?_,h3.trans (hz3.trans hg3)⟩
   show S.found g≤S.found x
   omega
  ·exact ⟨c,hcr,h2,h3⟩
 case C=>exact h.C
 case D=>exact h.D
 case E =>
  intro x hx j hj t hto ht c hc2 hcx htop
  have hcx:S.found c≤S.found x:=hcx
  have htop:∀ d∈u::r',S.found d≤S.found x→S.found d≤S.found c:=htop
  show lowS S.low v (u::r') c≤S.found t
  by_cases hvx:S.found v≤S.found x
  ·have hux:=htop u hur (by have:=hrl u hur; omega)
   have hcu:=hru c hc2
   have e:c=u:=h.inj c u (by omega) (h.callsSeen (hsub c hc2)).1
   rw [e,lou]
   have:=h.E x hx j hj t hto ht v hvc hvx (fun d hd _=>by
    rcases hcs d hd with e | e
    ·rw [e]; exact Nat.le_refl _
    ·exact Nat.le_of_lt (hrl d e))
   omega
  ·refine Nat.le_trans (lol c) (h.E x hx j hj t hto ht c (hsub c hc2) hcx fun d hd hdx=>?_)
   rcases hcs d hd with e | e
   ·rw [e] at hdx; exact absurd hdx hvx
   ·exact htop d e hdx
 case F=>exact fun c hm=>Nat.le_trans (lol c) (h.F c (hsub c hm))
 case G =>
  intro c hc2
  show ∃ z∈S.opn,S.found z=lowS S.low v (u::r') c∧_
  by_cases e:c=u
  ·subst e
   rw [lou]
   by_cases q:S.low v≤S.low c
   ·rw [Nat.min_eq_right q]
    exact ⟨z,hz1,hz2,(h.A c huc v hvo (Nat.le_of_lt (hrl c hur))).trans hz3⟩
   ·rw [Nat.min_eq_left (by omega)]; exact h.G c huc
  ·rw [loc c e]; exact h.G c (hsub c hc2)
 case P1=>exact h.P1
 case P2=>exact h.P2
theorem closeS_spec (found:Nat→Nat) (v:Nat):∀ (l:List Nat) (p:Nat→Int),l.Pairwise (fun a b=>found b<found a)→v∈l →
 (closeS v l p).1.Sublist l∧(∀ x,x∈(closeS v l p).1↔x∈l∧found x<found v) ∧
 (∀ x,(x∈l∧found v≤found x)→(closeS v l p).2 x=(v:Int))∧(∀ x,¬ (x∈l∧found v≤found x)→(closeS v l p).2 x=p x):=by
 intro l
 induction l with
 | nil=>intro p _ h; cases h
 | cons t r ih =>
  intro p hs hv
  have ⟨h1,h2⟩:=List.pairwise_cons.1 hs
  unfold closeS
  by_cases e:t=v
  ·subst e
   rw [if_pos rfl]
   refine ⟨List.sublist_cons_self _ _,fun x=>?_,fun x ⟨hx,hf⟩=>?_,fun x hx=>?_⟩
   ·refine ⟨fun hx=>⟨List.mem_cons_of_mem _ hx,h1 x hx⟩,fun ⟨hx,hf⟩=>?_⟩
    rcases List.mem_cons.1 hx with e | e
    ·subst e; omega
    ·exact e
   ·rcases List.mem_cons.1 hx with e | e
    ·subst e; exact updN_same _ _ _
    ·have:=h1 x e; omega
   ·exact updN_other _ _ _ (fun e=>hx (by rw [e]; exact ⟨List.mem_cons_self,Nat.le_refl _⟩))
  ·rw [if_neg e]
   have hvr:v∈r:=(List.mem_cons.1 hv).resolve_left (fun q=>e q.symm)
   obtain ⟨i1,i2,i3,i4⟩:=ih (updN p t v) h2 hvr
   have htv:=h1 v hvr
   refine ⟨i1.trans (List.sublist_cons_self _ _),fun x=>?_,fun x ⟨hx,hf⟩=>?_,fun x hx=>?_⟩
   ·rw [i2 x]
    refine ⟨fun ⟨a,b⟩=>⟨List.mem_cons_of_mem _ a,b⟩,fun ⟨a,b⟩=>⟨?_,b⟩⟩
    rcases List.mem_cons.1 a with e | e
    ·subst e; omega
    ·exact e
   ·by_cases hxr:x∈r
    ·exact i3 x ⟨hxr,hf⟩
    ·rw [i4 x (fun q=>hxr q.1)]
     rcases List.mem_cons.1 hx with e | e
     ·subst e; exact updN_same _ _ _
     ·exact absurd e hxr
   ·rw [i4 x (fun q=>hx ⟨List.mem_cons_of_mem _ q.1,q.2⟩)]
    exact updN_other _ _ _ (fun e=>hx (by rw [e]; exact ⟨List.mem_cons_self,Nat.le_of_lt htv⟩))
theorem TInv.leaveC (h:TInv n adj S) {v:Nat} {r:List Nat} (hc:S.calls=v::r) (hi:S.idx v=(adj v).length) (hl:S.low v=S.found v) :
 TInv n adj { S with low:=lowS S.low v r,calls:=r,opn:=(closeS v S.opn S.part).1,part:=(closeS v S.opn S.part).2 }:=by
 have hvc:v∈S.calls:=by rw [hc]; exact List.mem_cons_self
 have hvo:=h.callsOpen v hvc
 have hsrt:=h.callsSorted
 rw [hc] at hsrt
 have hrl:∀ c∈r,S.found c<S.found v:=(List.pairwise_cons.1 hsrt).1
 have hsub:∀ c∈r,c∈S.calls:=fun c hm=>by rw [hc]; exact List.mem_cons_of_mem _ hm
 have hcs:∀ c∈S.calls,c=v∨c∈r:=fun c hm=>by rw [hc] at hm; exact List.mem_cons.1 hm
 have hlow:lowS S.low v r=S.low:=by
  cases r with
  | nil=>rfl
  | cons u r' =>
   have h1:=hrl u List.mem_cons_self
   have h2:=h.F u (hsub u List.mem_cons_self)
   show updN S.low u _=_
   rw [Nat.min_eq_left (by omega),updN_self]
 rw [hlow]
 obtain ⟨k1,k2,k3,k4⟩:=closeS_spec S.found v S.opn S.part h.opnSorted hvo
 generalize (closeS v S.opn S.part).1=O at *
 generalize (closeS v S.opn S.part).2=P at *
 have seg:∀ x,x∈S.opn→S.found v≤S.found x→Goes adj v x∧Goes adj x v:=fun x hx hf=>by
  refine ⟨h.A v hvc x hx hf,?_⟩
  obtain ⟨c,h1,h2,h3⟩:=h.B x hx
  rcases hcs c h1 with e | e
  ·rw [← e]; exact h3
  ·exact h3.trans (h.A c h1 v hvo (Nat.le_of_lt (hrl c e)))
 have old:∀ x,0≤S.part x→P x=S.part x:=fun x hx=>k4 x (fun q=>by have:=((h.opnIff x).1 q.1).2; omega)
 have new:∀ x,0≤P x→0≤S.part x∨(x∈S.opn∧S.found v≤S.found x):=fun x hx=>by
  by_cases q:x∈S.opn∧S.found v≤S.found x
  ·exact .inr q
  ·rw [k4 x q] at hx; exact .inl hx
 have C2:∀ x,0≤P x→∀ t∈adj x,0≤P t:=fun x hx t ht=>by
  rcases new x hx with hx | ⟨hxo,hxf⟩
  ·have:=h.C x hx t ht; rw [old t this]; exact this
  ·obtain ⟨j,hj⟩:=List.mem_iff_getElem?.1 ht
   have hjl:j<(adj x).length:=by
    by_cases q:j<(adj x).length
    ·exact q
    ·rw [List.getElem?_eq_none (by omega)] at hj; cases hj
   have hix:S.idx x=(adj x).length:=by
    by_cases e:x=v
    ·rw [e]; exact hi
    ·refine h.idxDone x hxo (fun hm=>?_)
     rcases hcs x hm with q | q
     ·exact e q
     ·have:=hrl x q; omega
   have hft:=h.D x hxo j (by omega) t hj
   by_cases hp:0≤S.part t
   ·rw [old t hp]; exact hp
   ·have hto:=(h.opnIff t).2 ⟨hft,by omega⟩
    have:=h.E x hxo j (by omega) t hto hj v hvc hxf (fun d hd _=>by
     rcases hcs d hd with e | e
     ·rw [e]; exact Nat.le_refl _
     ·exact Nat.le_of_lt (hrl d e))
    rw [k3 t ⟨hto,by omega⟩]; omega
 constructor
 case adjLt=>exact h.adjLt
 case seenLt=>exact h.seenLt
 case leTime=>exact h.leTime
 case count=>exact h.count
 case inj=>exact h.inj
 case opnIff =>
  intro x
  show x∈O↔S.found x≠0∧P x<0
  rw [k2 x]
  constructor
  ·rintro ⟨a,b⟩
   have:=(h.opnIff x).1 a
   rw [k4 x (fun q=>by omega)]; exact this
  ·rintro ⟨a,b⟩
   by_cases q:x∈S.opn∧S.found v≤S.found x
   ·rw [k3 x q] at b; omega
   ·rw [k4 x q] at b
    have:=(h.opnIff x).2 ⟨a,b⟩
    exact ⟨this,by have:¬ S.found v≤S.found x:=fun w=>q ⟨this,w⟩; omega⟩
 case opnSorted=>exact h.opnSorted.sublist k1
 case callsSorted=>exact (List.pairwise_cons.1 hsrt).2
 case callsOpen=>exact fun c hm=>(k2 c).2 ⟨h.callsOpen c (hsub c hm),hrl c hm⟩
 case idxLe=>exact fun x hx=>h.idxLe x ((k2 x).1 hx).1
 case idxDone =>
  intro x hx hx2
  refine h.idxDone x ((k2 x).1 hx).1 (fun hm=>?_)
  rcases hcs x hm with e | e
  ·have:=((k2 x).1 hx).2; subst e; omega
  ·exact hx2 e
 case partSeen =>
  intro x hx
  rcases new x hx with q | q
  ·exact h.partSeen x q
  ·exact ((h.opnIff x).1 q.1).1
 case partLow =>
  intro x
  show -1≤P x
  by_cases q:x∈S.opn∧S.found v≤S.found x
  ·rw [k3 x q]; omega
  ·rw [k4 x q]; exact h.partLow x
 case A=>exact fun c hm x hx hf=>h.A c (hsub c hm) x ((k2 x).1 hx).1 hf
 case B =>
  intro x hx
  have ⟨hx1,hx2⟩:=(k2 x).1 hx
  obtain ⟨c,h1,h2,h3⟩:=h.B x hx1
  rcases hcs c h1 with e | e
  ·subst e; omega
  ·exact ⟨c,e,h2,h3⟩
 case C=>exact C2
 case D=>exact fun x hx=>h.D x ((k2 x).1 hx).1
 case E =>
  intro x hx j hj t hto ht c hc2 hcx htop
  have ⟨hx1,hx2⟩:=(k2 x).1 hx
  refine h.E x hx1 j hj t ((k2 t).1 hto).1 ht c (hsub c hc2) hcx fun d hd hdx=>?_
  rcases hcs d hd with e | e
  ·subst e; omega
  ·exact htop d e hdx
 case F=>exact fun c hm=>h.F c (hsub c hm)
 case G =>
  intro c hm
  obtain ⟨z,h1,h2,h3⟩:=h.G c (hsub c hm)
  have:=h.F c (hsub c hm)
  have:=hrl c hm
  exact ⟨z,(k2 z).2 ⟨h1,by omega⟩,h2,h3⟩
 case P1 =>
  intro x hx
  rcases new x hx with q | q
  ·obtain ⟨p,a,b,c,d⟩:=h.P1 x q
   exact ⟨p,by show P x=_; rw [old x q]; exact a,by show 0≤P p; rw [old _ b]; exact b,c,d⟩
  ·have:=seg x q.1 q.2
   exact ⟨v,k3 x q,by show 0≤P v; rw [k3 v ⟨hvo,Nat.le_refl _⟩]; omega,this.2,this.1⟩
 case P2 =>
  intro x y hx hy hxy hyx
  show P x=P y
  rcases new x hx with q | q<;>rcases new y hy with q' | q'
  ·rw [old x q,old y q']; exact h.P2 x y q q' hxy hyx
  ·have:=Goes.closed (P:=fun z=>0≤S.part z) h.C hxy q
   have:=((h.opnIff y).1 q'.1).2; omega
  ·have:=Goes.closed (P:=fun z=>0≤S.part z) h.C hyx q'
   have:=((h.opnIff x).1 q.1).2; omega
  ·rw [k3 x q,k3 y q']
theorem TInv.leave (h:TInv n adj S) {v:Nat} {r:List Nat} (hc:S.calls=v::r) (hi:S.idx v=(adj v).length):TInv n adj (leaveS S v r):=by
 unfold leaveS
 rw [h.low_eq hc]
 split
 ·next q=>exact h.leaveC hc hi q
 ·next q=>exact h.leaveN hc hi q
theorem TInv.idx_get (h:TInv n adj S) {v:Nat} {r:List Nat} (hc:S.calls=v::r) (hi:S.idx v≠(adj v).length) :
 S.idx v<(adj v).length∧(adj v)[S.idx v]?=some ((adj v).getD (S.idx v) 0)∧(adj v).getD (S.idx v) 0<n:=by
 have hvc:v∈S.calls:=by rw [hc]; exact List.mem_cons_self
 have hvo:=h.callsOpen v hvc
 have h1:S.idx v<(adj v).length:=by have:=h.idxLe v hvo; omega
 have h2:(adj v)[S.idx v]?=some ((adj v).getD (S.idx v) 0):=by simp [List.getD,List.getElem?_eq_getElem h1]
 exact ⟨h1,h2,h.adjLt v (h.seenLt v (h.callsSeen hvc).1) _ (List.mem_of_getElem? h2)⟩
theorem TInv.step (h:TInv n adj S):TInv n adj (stepS adj S):=by
 cases hc:S.calls with
 | nil=>rw [stepS_nil hc]; exact h
 | cons v r =>
  rw [stepS_cons hc]
  by_cases hi:S.idx v=(adj v).length
  ·rw [if_pos hi]; exact h.leave hc hi
  ·rw [if_neg hi]
   obtain ⟨_,h2,_⟩:=h.idx_get hc hi
   by_cases hf:S.found ((adj v).getD (S.idx v) 0)=0
   ·rw [if_pos hf]; exact h.enterEdge hc h2 hf
   ·rw [if_neg hf]
    by_cases hp:S.part ((adj v).getD (S.idx v) 0)<0
    ·rw [if_pos hp]
     refine h.edge hc h2 hf (updN S.low v (min (S.low v) (S.found ((adj v).getD (S.idx v) 0)))) (fun c (hcv:c≠v)=>updN_other S.low v _ hcv) ?_ (fun _=>?_) ?_
     ·rw [updN_same]; omega
     ·rw [updN_same]; omega
     ·rw [updN_same]
      by_cases q:S.low v≤S.found ((adj v).getD (S.idx v) 0)
      ·exact .inl (Nat.min_eq_left q)
      ·exact .inr ⟨hp,Nat.min_eq_right (by omega)⟩
    ·rw [if_neg hp]
     exact h.edge hc h2 hf S.low (fun _ _=>rfl) (Nat.le_refl _) (fun q=>absurd q hp) (.inl rfl)
def initS:TS:=⟨0,fun _=>0,fun _=>0,fun _=>0,[],fun _=>-1,[]⟩
theorem wsum_white (n:Nat):wsum (fun _=>1) (fun _=>0) n=n:=by
 induction n with
 | zero=>rfl
 | succ n ih=>simp [wsum,ih]
theorem TInv.init (n:Nat) (adj:Nat→List Nat) (ha:∀ v,v<n→∀ t∈adj v,t<n):TInv n adj initS:=by
 constructor
 case adjLt=>exact ha
 case count=>simp [initS,wsum_white]
 case C=>intro x hx; simp [initS] at hx
 case P1=>intro x hx; simp [initS] at hx
 case P2=>intro x y hx; simp [initS] at hx
 all_goals simp [initS]
theorem TInv.done (h:TInv n adj S) (hc:S.calls=[]) (hall:∀ v,v<n→S.found v≠0) :
 (∀ v,v<n→0≤S.part v)∧∀ x y,x<n→y<n→(S.part x=S.part y↔Goes adj x y∧Goes adj y x):=by
 have hp:∀ v,v<n→0≤S.part v:=fun v hv=>by
  by_cases q:S.part v<0
  ·have:=(h.opnIff v).2 ⟨hall v hv,q⟩; rw [h.opn_nil hc] at this; cases this
  ·omega
 refine ⟨hp,fun x y hx hy=>⟨fun e=>?_,fun ⟨a,b⟩=>h.P2 x y (hp x hx) (hp y hy) a b⟩⟩
 obtain ⟨p,p1,_,p2,p3⟩:=h.P1 x (hp x hx)
 obtain ⟨q,q1,_,q2,q3⟩:=h.P1 y (hp y hy)
 have:p=q:=by omega
 subst this
 exact ⟨p2.trans q3,q2.trans p3⟩
def sPairs:ByteArray:=⟨#[112,97,105,114,115]⟩
def toN (K N u s:Nat):Nat:=(u*K+s)%N
def labN (K:Nat) (T:List Int) (u s:Nat):Int:=T.getD (u*K+s) 0
def rawT (K N:Nat) (T:List Int) (u v s t:Nat):List Nat:=if labN K T u s=labN K T v t then [toN K N u s*N+toN K N v t] else []
def rawS (K N:Nat) (T:List Int) (u v s n:Nat):List Nat:=(List.range n).flatMap fun t=>rawT K N T u v s t
def rawP (K N:Nat) (T:List Int) (u v n:Nat):List Nat:=(List.range n).flatMap fun s=>rawS K N T u v s K
theorem rawS_succ (K N:Nat) (T:List Int) (u v s n:Nat):rawS K N T u v s (n+1)=rawS K N T u v s n++rawT K N T u v s n:=by
 simp [rawS,List.range_succ]
theorem rawP_succ (K N:Nat) (T:List Int) (u v n:Nat):rawP K N T u v (n+1)=rawP K N T u v n++rawS K N T u v n K:=by
 simp [rawP,List.range_succ]
theorem rawT_len (K N:Nat) (T:List Int) (u v s t:Nat):(rawT K N T u v s t).length≤1:=by unfold rawT; split<;>simp
theorem rawS_len (K N:Nat) (T:List Int) (u v s n:Nat):(rawS K N T u v s n).length≤n:=by
 induction n with
 | zero=>simp [rawS]
 | succ n ih=>rw [rawS_succ,List.length_append]; have:=rawT_len K N T u v s n; omega
theorem rawP_len (K N:Nat) (T:List Int) (u v n:Nat):(rawP K N T u v n).length≤n*K:=by
 induction n with
 | zero=>simp [rawP]
 | succ n ih=>rw [rawP_succ,List.length_append,Nat.add_mul]; have:=rawS_len K N T u v n K; omega
def Arr (K N:Nat) (T:List Int) (u v q:Nat):Prop:=∃ s t,s<K∧t<K∧labN K T u s=labN K T v t∧q=toN K N u s*N+toN K N v t
theorem mem_rawP {K N:Nat} {T:List Int} {u v q:Nat}:q∈rawP K N T u v K↔Arr K N T u v q:=by
 unfold rawP rawS rawT Arr
 simp only [List.mem_flatMap,List.mem_range]
 constructor
 ·rintro ⟨s,hs,t,ht,h⟩
  split at h
  ·rename_i e
   exact ⟨s,t,hs,ht,e,by simpa using h⟩
  ·cases h
 ·rintro ⟨s,t,hs,ht,e,h⟩
  exact ⟨s,hs,t,ht,by rw [if_pos e]; simpa using h⟩
theorem toN_lt {K N u s:Nat} (hN:0<N):toN K N u s<N:=Nat.mod_lt _ hN
theorem pair_lt {N a b:Nat} (ha:a<N) (hb:b<N):a*N+b<N*N:=by
 have:=Nat.mul_le_mul_right N (show a+1≤N by omega)
 rw [Nat.add_mul] at this; omega
theorem pair_div {N a b:Nat} (hb:b<N):(a*N+b)/N=a:=div_mk hb
theorem pair_mod {N a b:Nat} (hb:b<N):(a*N+b)%N=b:=mod_mk hb
theorem pair_eq (p N:Nat):p/N*N+p%N=p:=by rw [Nat.mul_comm]; exact Nat.div_add_mod p N
theorem div_lt_of {p N:Nat} (h:p<N*N):p/N<N:=Nat.div_lt_of_lt_mul h
theorem Arr.lt {K N:Nat} {T:List Int} {u v q:Nat} (hN:0<N) (h:Arr K N T u v q):q<N*N:=by
 obtain ⟨s,t,_,_,_,rfl⟩:=h
 exact pair_lt (toN_lt hN) (toN_lt hN)
def pairL (K N:Nat) (T:List Int) (p:Nat):List Nat:=(List.range (N*N)).filter fun q=>decide (q∈rawP K N T (p/N) (p%N) K)
theorem pairL_sorted (K N:Nat) (T:List Int) (p:Nat):(pairL K N T p).Pairwise (·<·):=List.Pairwise.filter _ List.pairwise_lt_range
theorem mem_pairL {K N:Nat} {T:List Int} {p q:Nat} (hN:0<N):q∈pairL K N T p↔Arr K N T (p/N) (p%N) q:=by
 unfold pairL
 rw [List.mem_filter,List.mem_range,decide_eq_true_iff,mem_rawP]
 exact ⟨fun h=>h.2,fun h=>⟨h.lt hN,h⟩⟩
theorem nodup_sub {α:Type} [DecidableEq α]:∀ {l m:List α},l.Nodup→l ⊆ m→l.length≤m.length
 | [],_,_,_=>by simp
 | a::l,m,hn,hs=>by
  obtain ⟨h1,h2⟩:=List.nodup_cons.1 hn
  have ha:=hs List.mem_cons_self
  have:=nodup_sub (l:=l) (m:=m.erase a) h2 (fun b hb=>(List.mem_erase_of_ne (fun e=>h1 (by rw [← e]; exact hb))).2 (hs (List.mem_cons_of_mem _ hb)))
  have hl:=List.length_erase_of_mem ha
  have:=List.length_pos_of_mem ha
  simp only [List.length_cons]; omega
theorem pairL_len (K N:Nat) (T:List Int) (p:Nat):(pairL K N T p).length≤K*K:=by
 have hn:(pairL K N T p).Nodup:=(pairL_sorted K N T p).imp (fun h=>Nat.ne_of_lt h)
 have hs:pairL K N T p ⊆ rawP K N T (p/N) (p%N) K:=fun q hq=>by
  unfold pairL at hq
  simpa using (List.mem_filter.1 hq).2
 exact Nat.le_trans (nodup_sub hn hs) (rawP_len ..)
def nodeAt (K m:Nat) (x:List Int) (i:Nat):Nat:=numW K ((x.drop i).take m)
theorem win_snoc {x:List Int} {i m:Nat} (h:i+m<x.length):(x.drop i).take (m+1)=(x.drop i).take m++[x.getD (i+m) 0]:=by
 rw [List.take_add_one,List.getElem?_drop]
 simp [List.getD,h]
theorem win_cons {x:List Int} {i m:Nat}:((x.drop i).take (m+1)).drop 1=(x.drop (i+1)).take m:=by
 rw [List.drop_take]; simp
theorem syms_drop {K:Int} {x:List Int} (h:Syms K x) (i:Nat):Syms K (x.drop i):=fun y hy=>h y (List.mem_of_mem_drop hy)
theorem syms_take {K:Int} {x:List Int} (h:Syms K x) (i:Nat):Syms K (x.take i):=fun y hy=>h y (List.mem_of_mem_take hy)
theorem syms_at {K:Nat} {x:List Int} (h:Syms K x) {i:Nat} (hi:i<x.length):0≤x.getD i 0∧x.getD i 0<K∧(x.getD i 0).toNat<K:=by
 have:=h (x[i]) (List.getElem_mem hi)
 simp only [List.getD_eq_getElem?_getD,List.getElem?_eq_getElem hi,Option.getD_some]
 omega
theorem win_num {K m:Nat} {x:List Int} {i:Nat} (h:i+m<x.length):numW K ((x.drop i).take (m+1))=nodeAt K m x i*K+(x.getD (i+m) 0).toNat:=by
 rw [win_snoc h,numW_snoc]; rfl
theorem node_lt {K m:Nat} {x:List Int} (hx:Syms K x) {i:Nat} (h:i+m≤x.length):nodeAt K m x i<pw K m:=by
 have:=numW_lt _ (syms_take (syms_drop hx i) m)
 rwa [show ((x.drop i).take m).length=m by simp; omega] at this
theorem node_next {K m:Nat} {x:List Int} (hx:Syms K x) {i:Nat} (h:i+m<x.length):nodeAt K m x (i+1)=toN K (pw K m) (nodeAt K m x i) (x.getD (i+m) 0).toNat:=by
 have hl:((x.drop i).take m).length=m:=by simp; omega
 have hs:Syms K ((x.drop i).take m++[x.getD (i+m) 0]):=by rw [← win_snoc h]; exact syms_take (syms_drop hx i) _
 have:=num_shift hs
 rw [← win_snoc h,win_cons,hl,win_num h] at this
 exact this
theorem img_at {K R:Nat} {T x:List Int} {i:Nat} (h:i+2*R<x.length):(imgP K R T x).getD i 0=labN K T (nodeAt K (2*R) x i) (x.getD (i+2*R) 0).toNat:=by
 rw [imgP_getD _ _ _ _ _ (by omega),win_num h]; rfl
theorem img_eq {K R:Nat} {T x y:List Int} (hl:x.length=y.length):imgP K R T x=imgP K R T y ↔
 ∀ i,i+2*R<x.length→labN K T (nodeAt K (2*R) x i) (x.getD (i+2*R) 0).toNat=labN K T (nodeAt K (2*R) y i) (y.getD (i+2*R) 0).toNat:=by
 constructor
 ·intro h i hi
  rw [← img_at hi,← img_at (by omega),h]
 ·intro h
  refine List.ext_getElem (by rw [imgP_length,imgP_length,hl]) fun i h1 h2=>?_
  rw [imgP_length] at h1 h2
  have:=h i (by omega)
  rw [← img_at (by omega),← img_at (by omega)] at this
  simpa [List.getD_eq_getElem?_getD,imgP_length,h1,h2] using this
theorem wayW_arr {K R:Nat} {T x y:List Int} (hx:Syms K x) (hy:Syms K y) (hl:x.length=y.length) (he:imgP K R T x=imgP K R T y) {i:Nat} (hi:i+2*R<x.length) :
 Arr K (pw K (2*R)) T (nodeAt K (2*R) x i) (nodeAt K (2*R) y i) (nodeAt K (2*R) x (i+1)*pw K (2*R)+nodeAt K (2*R) y (i+1)) :=
 ⟨_,_,(syms_at hx hi).2.2,(syms_at hy (by omega)).2.2,(img_eq hl).1 he i hi,by rw [node_next hx hi,node_next hy (by omega)]⟩
def StepFits (K N:Nat) (T:List Int) (p q:Nat):Prop :=
 toN K N (p/N) (q/N%K)=q/N∧toN K N (p%N) (q%N%K)=q%N∧labN K T (p/N) (q/N%K)=labN K T (p%N) (q%N%K)
instance (K N:Nat) (T:List Int) (p q:Nat):Decidable (StepFits K N T p q):=by unfold StepFits; exact inferInstance
theorem toN_mod {K R u s:Nat} (_hK:1≤K) (hR:1≤R) (hs:s<K):toN K (pw K (2*R)) u s%K=s:=by
 unfold toN
 have:K ∣ pw K (2*R):=⟨pw K (2*R-1),by rw [Nat.mul_comm K,← pw_succ]; congr 1; omega⟩
 rw [Nat.mod_mod_of_dvd _ this,mod_mk hs]
theorem fits_iff {K R:Nat} {T:List Int} {p q:Nat} (hK:1≤K) (hR:1≤R) (hq:q<pw K (2*R)*pw K (2*R)) :
 StepFits K (pw K (2*R)) T p q↔Arr K (pw K (2*R)) T (p/pw K (2*R)) (p%pw K (2*R)) q:=by
 have hN:=pw_pos (K:=K) (2*R) hK
 constructor
 ·rintro ⟨h1,h2,h3⟩
  exact ⟨_,_,Nat.mod_lt _ (by omega),Nat.mod_lt _ (by omega),h3,by rw [h1,h2,pair_eq]⟩
 ·rintro ⟨s,t,hs,ht,e,rfl⟩
  unfold StepFits
  rw [pair_div (toN_lt (by omega)),pair_mod (toN_lt (by omega)),toN_mod hK hR hs,toN_mod hK hR ht]
  exact ⟨rfl,rfl,e⟩
def alongW (K m:Nat) (F:Nat→Nat) (way:List Nat):List Int:=digs K m (F (way.getD 0 0))++(way.drop 1).map fun p=>((F p%K:Nat):Int)
theorem alongW_len (K m:Nat) (F:Nat→Nat) (way:List Nat):(alongW K m F way).length=m+(way.length-1):=by simp [alongW,digs_length]
theorem alongW_syms {K m:Nat} (hK:1≤K) (F:Nat→Nat) (way:List Nat):Syms K (alongW K m F way):=by
 intro y hy
 rcases List.mem_append.1 hy with hy | hy
 ·exact digs_syms hK _ _ y hy
 ·obtain ⟨p,_,rfl⟩:=List.mem_map.1 hy
  have:=Nat.mod_lt (F p) (show 0<K by omega); omega
theorem alongW_get {K m:Nat} {F:Nat→Nat} {way:List Nat} {i:Nat} (h:i+1<way.length):(alongW K m F way).getD (i+m) 0=((F (way.getD (i+1) 0)%K:Nat):Int):=by
 unfold alongW
 rw [List.getD_eq_getElem?_getD,List.getElem?_append_right (by rw [digs_length]; omega),digs_length,Nat.add_sub_cancel,List.getElem?_map,List.getElem?_drop,Nat.add_comm 1 i]
 rw [List.getElem?_eq_getElem h]
 simp [List.getD,h]
theorem along_node {K m:Nat} (hK:1≤K) {F:Nat→Nat} {way:List Nat} (h0:F (way.getD 0 0)<pw K m) (hs:∀ i,i+1<way.length→toN K (pw K m) (F (way.getD i 0)) (F (way.getD (i+1) 0)%K)=F (way.getD (i+1) 0)) :
 ∀ i,i<way.length→nodeAt K m (alongW K m F way) i=F (way.getD i 0)
 | 0,_=>by
  unfold nodeAt alongW
  rw [List.drop_zero,List.take_append_of_le_length (by rw [digs_length]; omega),List.take_of_length_le (by rw [digs_length]; omega),numW_digs hK _ _ h0]
 | i+1,hi=>by
  have ih:=along_node hK h0 hs i (by omega)
  rw [node_next (alongW_syms hK F way) (by rw [alongW_len]; omega),ih,alongW_get hi,Int.toNat_natCast]
  exact hs i hi
theorem along_word {K R:Nat} (hK:1≤K) (hR:1≤R) {F:Nat→Nat} {x:List Int} (hx:Syms K x) (hl:2*R≤x.length) {way:List Nat} (hw:way.length=x.length-2*R+1)
 (hF:∀ i,i<way.length→F (way.getD i 0)=nodeAt K (2*R) x i):alongW K (2*R) F way=x:=by
 have hN:=pw_pos (K:=K) (2*R) hK
 refine List.ext_getElem (by rw [alongW_len]; omega) fun i h1 h2=>?_
 by_cases hi:i<2*R
 ·have e:digs K (2*R) (F (way.getD 0 0))=x.take (2*R):=by
   rw [hF 0 (by omega)]
   have:=digs_numW hK (x.take (2*R)) (syms_take hx _)
   rw [show (x.take (2*R)).length=2*R by simp; omega] at this
   simpa [nodeAt] using this
  simp only [alongW,e]
  rw [List.getElem_append_left (by simp; omega),List.getElem_take]
 ·obtain ⟨j,rfl⟩:∃ j,i=j+2*R:=⟨i-2*R,by omega⟩
  have hj:j+1<way.length:=by omega
  have:=alongW_get (K:=K) (m:=2*R) (F:=F) hj
  rw [hF (j+1) hj,node_next hx (by omega),toN_mod hK hR (syms_at hx (by omega)).2.2] at this
  simp only [List.getD_eq_getElem?_getD,List.getElem?_eq_getElem h1,List.getElem?_eq_getElem h2,Option.getD_some] at this
  rw [this]
  have:=(hx (x[j+2*R]) (List.getElem_mem _)).1
  omega
structure IsTwins (K R:Nat) (T a b:List Int):Prop where
 sa:Syms K a
 sb:Syms K b
 len:a.length=b.length
 ne:a≠b
 low:2*R≤a.length
 front:a.take (2*R)=b.take (2*R)
 back:a.drop (a.length-2*R)=b.drop (b.length-2*R)
 img:imgP K R T a=imgP K R T b
theorem IsTwins.symm {K R:Nat} {T a b:List Int} (h:IsTwins K R T a b):IsTwins K R T b a :=
 ⟨h.sb,h.sa,h.len.symm,h.ne.symm,by rw [← h.len]; exact h.low,h.front.symm,h.back.symm,h.img.symm⟩
theorem IsTwins.context {K R:Nat} {T a b:List Int} (h:IsTwins K R T a b) (u v:List Int):imgP K R T (u++a++v)=imgP K R T (u++b++v):=by
 have hlen:=h.len
 have hlow:=h.low
 have fr:∀ k,k<2*R→a[k]?=b[k]?:=fun k hk=>by
  have:=congrArg (·[k]?) h.front
  simpa [List.getElem?_take,hk] using this
 have bk:∀ k,a.length-2*R≤k→a[k]?=b[k]?:=fun k hk=>by
  have:=congrArg (·[k-(a.length-2*R)]?) h.back
  simp only [List.getElem?_drop] at this
  rw [show a.length-2*R+(k-(a.length-2*R))=k by omega,show b.length-2*R+(k-(a.length-2*R))=k by omega] at this
  exact this
 have at_:∀ (c:List Int) (p:Nat),(u++c++v)[p]?=if p<u.length then u[p]? else if p<u.length+c.length then c[p-u.length]? else v[p-(u.length+c.length)]?:=fun c p=>by
  rw [List.getElem?_append]
  simp only [List.length_append,List.getElem?_append]
  split
  ·split<;>rfl
  ·split
   ·omega
   ·rfl
 refine List.ext_getElem (by rw [imgP_length,imgP_length]; simp [hlen]) fun i h1 h2=>?_
 rw [imgP_length] at h1 h2
 have key:((u++a++v).drop i).take (2*R+1)=((u++b++v).drop i).take (2*R+1)∨(u.length≤i∧i+2*R<u.length+a.length):=by
  by_cases hin:u.length≤i∧i+2*R<u.length+a.length
  ·exact .inr hin
  ·left
   refine List.ext_getElem? fun j=>?_
   rw [List.getElem?_take,List.getElem?_take]
   split
   ·rw [List.getElem?_drop,List.getElem?_drop,at_,at_,← hlen]
    split
    ·rfl
    ·split
     ·by_cases q:i<u.length
      ·exact fr _ (by omega)
      ·exact bk _ (by omega)
     ·rfl
   ·rfl
 have g1:=imgP_getD K R T (u++a++v) i h1
 have g2:=imgP_getD K R T (u++b++v) i h2
 simp only [List.getD_eq_getElem?_getD,List.getElem?_eq_getElem (show i<(imgP K R T (u++a++v)).length by rw [imgP_length]; exact h1),List.getElem?_eq_getElem (show i<(imgP K R T (u++b++v)).length by rw [imgP_length]; exact h2),Option.getD_some] at g1 g2
 rw [g1,g2]
 rcases key with key | ⟨k1,k2⟩
 ·rw [key]
 ·have win:∀ (c:List Int),c.length=a.length→((u++c++v).drop i).take (2*R+1)=(c.drop (i-u.length)).take (2*R+1):=fun c hc=>by
   rw [List.append_assoc,List.drop_append,List.drop_eq_nil_of_le (show u.length≤i by omega),List.nil_append,List.drop_append_of_le_length (by omega),List.take_append_of_le_length (by simp; omega)]
  rw [win a rfl,win b hlen.symm]
  have e:=congrArg (fun l=>l.getD (i-u.length) 0) h.img
  rw [imgP_getD _ _ _ _ _ (by omega),imgP_getD _ _ _ _ _ (by omega)] at e
  simpa [List.getD_eq_getElem?_getD] using e
def Diag (N p:Nat):Prop:=p/N=p%N
instance (N p:Nat):Decidable (Diag N p):=by unfold Diag; exact inferInstance
theorem diag_mk {N u:Nat} (h:u<N):Diag N (u*N+u):=by unfold Diag; rw [pair_div h,pair_mod h]
theorem Diag.eq {N p:Nat} (h:Diag N p):p=p/N*N+p/N:=by
 have:=pair_eq p N
 rw [← h] at this; exact this.symm
structure ApartWay (N:Nat) (adj:Nat→List Nat) (w:List Nat):Prop where
 len:3≤w.length
 low:∀ i,i<w.length→w.getD i 0<N*N
 arr:∀ i,i+1<w.length→w.getD (i+1) 0∈adj (w.getD i 0)
 fst:Diag N (w.getD 0 0)
 lst:Diag N (w.getD (w.length-1) 0)
 inn:∀ i,0<i→i+1<w.length→¬ Diag N (w.getD i 0)
theorem last_diag {N:Nat} {W:Nat→Nat} (h0:Diag N (W 0)):∀ i,¬ Diag N (W i)→∃ k,k<i∧Diag N (W k)∧∀ j,k<j→j≤i→¬ Diag N (W j)
 | 0,h=>absurd h0 h
 | i+1,h=>by
  by_cases q:Diag N (W i)
  ·exact ⟨i,by omega,q,fun j h1 h2=>by obtain rfl:j=i+1:=by omega
                                       exact h⟩
  ·obtain ⟨k,h1,h2,h3⟩:=last_diag h0 i q
   refine ⟨k,by omega,h2,fun j h4 h5=>?_⟩
   by_cases e:j=i+1
   ·subst e; exact h
   ·exact h3 j h4 (by omega)
theorem next_diag {N:Nat} {W:Nat→Nat} {i:Nat} (h:¬ Diag N (W i)):∀ k,Diag N (W (i+k))→∃ m,i<m∧m≤i+k∧Diag N (W m)∧∀ j,i≤j→j<m→¬ Diag N (W j)
 | 0,hk=>absurd hk h
 | k+1,hk=>by
  by_cases q:∃ m,i<m∧m≤i+k∧Diag N (W m)∧∀ j,i≤j→j<m→¬ Diag N (W j)
  ·obtain ⟨m,h1,h2,h3⟩:=q
   exact ⟨m,h1,by omega,h3⟩
  ·refine ⟨i+(k+1),by omega,Nat.le_refl _,hk,fun j h1 h2 hd=>q ?_⟩
   obtain ⟨d,rfl⟩:∃ d,j=i+d:=⟨j-i,by omega⟩
   obtain ⟨m,m1,m2,m3⟩:=next_diag h d hd
   exact ⟨m,m1,by omega,m3⟩
theorem list_range_get (f:Nat→Nat) (n i:Nat) (h:i<n):((List.range n).map f).getD i 0=f i:=by simp [List.getD,h]
theorem IsTwins.way {K R:Nat} {T a b:List Int} (hK:1≤K) (hR:1≤R) (h:IsTwins K R T a b):∃ w,ApartWay (pw K (2*R)) (pairL K (pw K (2*R)) T) w∧2*R+(w.length-1)≤a.length:=by
 have hlen:=h.len
 have hlow:=h.low
 have hN:=pw_pos (K:=K) (2*R) hK
 have na:∀ i,i+2*R≤a.length→nodeAt K (2*R) a i<pw K (2*R):=fun i hi=>node_lt h.sa hi
 have nb:∀ i,i+2*R≤a.length→nodeAt K (2*R) b i<pw K (2*R):=fun i hi=>node_lt h.sb (by omega)
 obtain ⟨W,hW⟩:∃ W:Nat→Nat,W=fun i=>nodeAt K (2*R) a i*pw K (2*R)+nodeAt K (2*R) b i:=⟨_,rfl⟩
 have hWi:∀ i,W i=nodeAt K (2*R) a i*pw K (2*R)+nodeAt K (2*R) b i:=fun i=>by rw [hW]
 have dg:∀ i,i+2*R≤a.length→(Diag (pw K (2*R)) (W i)↔nodeAt K (2*R) a i=nodeAt K (2*R) b i):=fun i hi=>by
  unfold Diag; rw [hWi,pair_div (nb i hi),pair_mod (nb i hi)]
 have d0:Diag (pw K (2*R)) (W 0):=by
  rw [dg 0 (by omega)]; unfold nodeAt; rw [List.drop_zero,List.drop_zero,h.front]
 obtain ⟨n,hn⟩:∃ n,a.length=n+2*R:=⟨a.length-2*R,by omega⟩
 have dn:Diag (pw K (2*R)) (W n):=by
  rw [dg n (by omega)]; unfold nodeAt
  have:=h.back
  rw [← hlen,hn,Nat.add_sub_cancel] at this
  rw [this]
 have hex:∃ i,i≤n∧¬ Diag (pw K (2*R)) (W i):=by
  apply Classical.byContradiction
  intro hno
  have hall:∀ i,i≤n→nodeAt K (2*R) a i=nodeAt K (2*R) b i:=fun i hi=>(dg i (by omega)).1 (Classical.byContradiction fun q=>hno ⟨i,hi,q⟩)
  apply h.ne
  have hget:∀ i,i<n+1→((List.range (n+1)).map (nodeAt K (2*R) a)).getD i 0=nodeAt K (2*R) a i:=fun i hi=>list_range_get _ _ _ hi
  have e1:=along_word (F:=id) (way:=(List.range (n+1)).map (nodeAt K (2*R) a)) hK hR h.sa h.low (by simp; omega) (fun i hi=>hget i (by simpa using hi))
  have e2:=along_word (F:=id) (way:=(List.range (n+1)).map (nodeAt K (2*R) a)) hK hR h.sb (by omega) (by simp; omega) (fun i hi=>by
   have hi:i<n+1:=by simpa using hi
   show ((List.range (n+1)).map (nodeAt K (2*R) a)).getD i 0=_
   rw [hget i hi,hall i (by omega)])
  rw [← e1,e2]
 obtain ⟨i,hi,hnd⟩:=hex
 obtain ⟨k,k1,k2,k3⟩:=last_diag d0 i hnd
 obtain ⟨m,m1,m2,m3,m4⟩:=next_diag hnd (n-i) (by rw [show i+(n-i)=n by omega]; exact dn)
 have hget:∀ j,j<m-k+1→((List.range (m-k+1)).map fun j=>W (k+j)).getD j 0=W (k+j):=fun j hj=>list_range_get _ _ _ hj
 refine ⟨(List.range (m-k+1)).map fun j=>W (k+j),⟨by simp; omega,fun j hj=>?_,fun j hj=>?_,?_,?_,fun j j0 j1=>?_⟩,by simp; omega⟩
 ·rw [hget j (by simpa using hj),hWi]
  have:j<m-k+1:=by simpa using hj
  exact pair_lt (na _ (by omega)) (nb _ (by omega))
 ·have hj:j+1<m-k+1:=by simpa using hj
  rw [hget j (by omega),hget (j+1) hj,mem_pairL (by omega),hWi,hWi,pair_div (nb _ (by omega)),pair_mod (nb _ (by omega)),← Nat.add_assoc]
  exact wayW_arr h.sa h.sb hlen h.img (by omega)
 ·rw [hget 0 (by omega)]; exact k2
 ·rw [List.length_map,List.length_range,Nat.add_sub_cancel,hget _ (by omega),show k+(m-k)=m by omega]; exact m3
 ·have hj:j+1<m-k+1:=by simpa using j1
  rw [hget j (by omega)]
  by_cases q:k+j≤i
  ·exact k3 _ (by omega) q
  ·exact m4 _ (by omega) (by omega)
theorem ways_words {K R:Nat} {T:List Int} {w:List Nat} (hK:1≤K) (hR:1≤R) (hw:1≤w.length) (low:∀ i,i<w.length→w.getD i 0<pw K (2*R)*pw K (2*R))
 (arr:∀ i,i+1<w.length→w.getD (i+1) 0∈pairL K (pw K (2*R)) T (w.getD i 0)) :
 (∀ i,i<w.length→nodeAt K (2*R) (alongW K (2*R) (·/pw K (2*R)) w) i=w.getD i 0/pw K (2*R)∧nodeAt K (2*R) (alongW K (2*R) (·%pw K (2*R)) w) i=w.getD i 0%pw K (2*R)) ∧
 imgP K R T (alongW K (2*R) (·/pw K (2*R)) w)=imgP K R T (alongW K (2*R) (·%pw K (2*R)) w):=by
 have hN:=pw_pos (K:=K) (2*R) hK
 have fits:∀ i,i+1<w.length→StepFits K (pw K (2*R)) T (w.getD i 0) (w.getD (i+1) 0):=fun i hi =>
  (fits_iff hK hR (low _ hi)).2 ((mem_pairL (by omega)).1 (arr i hi))
 have n1:=along_node (K:=K) (m:=2*R) (F:=(·/pw K (2*R))) (way:=w) hK (div_lt_of (low 0 (by omega))) (fun i hi=>(fits i hi).1)
 have n2:=along_node (K:=K) (m:=2*R) (F:=(·%pw K (2*R))) (way:=w) hK (Nat.mod_lt _ (by omega)) (fun i hi=>(fits i hi).2.1)
 refine ⟨fun i hi=>⟨n1 i hi,n2 i hi⟩,?_⟩
 rw [img_eq (by rw [alongW_len,alongW_len])]
 intro i hi
 rw [alongW_len] at hi
 rw [n1 i (by omega),n2 i (by omega),alongW_get (by omega),alongW_get (by omega),Int.toNat_natCast,Int.toNat_natCast]
 exact (fits i (by omega)).2.2
theorem ApartWay.twins {K R:Nat} {T:List Int} {w:List Nat} (hK:1≤K) (hR:1≤R) (h:ApartWay (pw K (2*R)) (pairL K (pw K (2*R)) T) w) :
 IsTwins K R T (alongW K (2*R) (·/pw K (2*R)) w) (alongW K (2*R) (·%pw K (2*R)) w):=by
 have hN:=pw_pos (K:=K) (2*R) hK
 have h3:=h.len
 obtain ⟨hn,hi⟩:=ways_words hK hR (by omega) h.low h.arr
 have la:=alongW_len K (2*R) (·/pw K (2*R)) w
 have lb:=alongW_len K (2*R) (·%pw K (2*R)) w
 have sa:=alongW_syms (m:=2*R) hK (·/pw K (2*R)) w
 have sb:=alongW_syms (m:=2*R) hK (·%pw K (2*R)) w
 generalize alongW K (2*R) (·/pw K (2*R)) w=a at *
 generalize alongW K (2*R) (·%pw K (2*R)) w=b at *
 have same:∀ i,i<w.length→Diag (pw K (2*R)) (w.getD i 0)→(a.drop i).take (2*R)=(b.drop i).take (2*R):=fun i hi hd=>by
  obtain ⟨e1,e2⟩:=hn i hi
  have q1:=digs_numW hK _ (syms_take (syms_drop sa i) (2*R))
  have q2:=digs_numW hK _ (syms_take (syms_drop sb i) (2*R))
  rw [show ((a.drop i).take (2*R)).length=2*R by simp; omega] at q1
  rw [show ((b.drop i).take (2*R)).length=2*R by simp; omega] at q2
  rw [← q1,← q2]
  show digs K (2*R) (nodeAt K (2*R) a i)=digs K (2*R) (nodeAt K (2*R) b i)
  rw [e1,e2,hd]
 refine ⟨sa,sb,by omega,fun e=>?_,by omega,?_,?_,hi⟩
 ·subst e
  obtain ⟨e1,e2⟩:=hn 1 (by omega)
  exact h.inn 1 (by omega) (by omega) (e1.symm.trans e2)
 ·have:=same 0 (by omega) h.fst
  simpa using this
 ·have:=same (w.length-1) (by omega) h.lst
  rw [List.take_of_length_le (by simp; omega),List.take_of_length_le (by simp; omega)] at this
  rw [show a.length-2*R=w.length-1 by omega,show b.length-2*R=w.length-1 by omega]
  exact this
def TwinLen (K R:Nat) (T:List Int) (n:Nat):Prop:=(∃ a b,IsTwins K R T a b∧a.length=n)∧∀ a b,IsTwins K R T a b→n≤a.length
theorem TwinLen.unique {K R:Nat} {T:List Int} {n m:Nat} (h:TwinLen K R T n) (k:TwinLen K R T m):n=m:=by
 obtain ⟨⟨a,b,h1,rfl⟩,h2⟩:=h
 obtain ⟨⟨c,d,k1,rfl⟩,k2⟩:=k
 exact Nat.le_antisymm (h2 _ _ k1) (k2 _ _ h1)
theorem way_twinLen {K R:Nat} {T:List Int} {w:List Nat} (hK:1≤K) (hR:1≤R) (h:ApartWay (pw K (2*R)) (pairL K (pw K (2*R)) T) w)
 (hm:∀ u,ApartWay (pw K (2*R)) (pairL K (pw K (2*R)) T) u→w.length≤u.length):TwinLen K R T (2*R+(w.length-1)):=by
 refine ⟨⟨_,_,h.twins hK hR,alongW_len ..⟩,fun a b hab=>?_⟩
 obtain ⟨u,hu,hl⟩:=hab.way hK hR
 have:=hm u hu
 omega
theorem no_twins {K R:Nat} {T:List Int} (hK:1≤K) (hR:1≤R) (hm:∀ u,¬ ApartWay (pw K (2*R)) (pairL K (pw K (2*R)) T) u) (a b:List Int):¬ IsTwins K R T a b:=fun h=>by
 obtain ⟨u,hu,_⟩:=h.way hK hR
 exact hm u hu
theorem emod_nat {a:Int} {n:Nat} (hn:1≤n):∃ m:Nat,m<n∧a%(n:Int)=m:=by
 have h1:=Int.emod_nonneg a (show (n:Int)≠0 by omega)
 have h2:=Int.emod_lt_of_pos a (show (0:Int)<n by omega)
 exact ⟨(a%(n:Int)).toNat,by omega,by omega⟩
def FirstIs (img:Nat→List Int) (m a b:Nat):Prop:=a<b∧b<m∧img a=img b∧∀ x y,x<y→y<b→img x≠img y
theorem FirstIs.unique {img:Nat→List Int} {m a b c d:Nat} (h:FirstIs img m a b) (k:FirstIs img m c d):a=c∧b=d:=by
 obtain ⟨h1,h2,h3,h4⟩:=h
 obtain ⟨k1,k2,k3,k4⟩:=k
 have e:b=d:=by
  rcases Nat.lt_trichotomy b d with e | e | e
  ·exact absurd h3 (k4 a b h1 e)
  ·exact e
  ·exact absurd k3 (h4 c d k1 e)
 subst e
 refine ⟨?_,rfl⟩
 rcases Nat.lt_trichotomy a c with e | e | e
 ·exact absurd (h3.trans k3.symm) (h4 a c e k1)
 ·exact e
 ·exact absurd (k3.trans h3.symm) (h4 c a e h1)
end Go.Proofs.YtkaoebokbfcmhaaGreatDoor
