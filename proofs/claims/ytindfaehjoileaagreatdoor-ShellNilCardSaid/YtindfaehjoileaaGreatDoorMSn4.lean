/-
  Texts that the proof leans on.
-/
import Derived.Test.YtindfaehjoileaaGreatDoorMSn3
import Derived.Maps.OwnSet
import Derived.StringKeys
import Derived.Laws.Bits64b
import Derived.Deep.DeepCutAuto
import Derived.BigQuiet
namespace Go.Proofs.YtindfaehjoileaaGreatDoor
def bitsN:List Bool→Nat
 | []=>0
 | b::l=>b.toNat+2*bitsN l
theorem bitsN_testBit:∀ (l:List Bool) (i:Nat),(bitsN l).testBit i=l.getD i false
 | [],i=>by simp [bitsN]
 | b::l,0=>by
  unfold bitsN
  rw [Nat.testBit_zero]
  cases b<;>simp
 | b::l,i+1=>by
  unfold bitsN
  rw [Nat.testBit_succ,show (b.toNat+2*bitsN l)/2=bitsN l by cases b<;>simp<;>omega,bitsN_testBit l i]
  simp
theorem bitsN_lt:∀ (l:List Bool),bitsN l<2 ^ l.length
 | []=>by simp [bitsN]
 | b::l=>by
  have:=bitsN_lt l
  unfold bitsN
  rw [List.length_cons,Nat.pow_succ]
  have:b.toNat≤1:=Bool.toNat_le b
  omega
theorem bitsN_zero (n:Nat):bitsN (List.replicate n false)=0:=by
 induction n with
 | zero=>rfl
 | succ n ih=>rw [List.replicate_succ]; simp [bitsN,ih]
def wordB (l:List Bool) (w:Nat):Nat:=bitsN ((l.drop (64*w)).take 64)
def wordsB (l:List Bool):List Nat:=(List.range ((l.length+63)/64)).map (wordB l)
theorem wordsB_len (l:List Bool):(wordsB l).length=(l.length+63)/64:=by simp [wordsB]
theorem wordsB_get {l:List Bool} {w:Nat} (h:w<(l.length+63)/64):(wordsB l).getD w 0=wordB l w:=by simp [wordsB,List.getD,h]
theorem wordB_lt (l:List Bool) (w:Nat):wordB l w<2 ^ 64:=by
 refine Nat.lt_of_lt_of_le (bitsN_lt _) (Nat.pow_le_pow_right (by decide) ?_)
 rw [List.length_take]; omega
theorem wordB_testBit {l:List Bool} {w j:Nat} (hj:j<64):(wordB l w).testBit j=l.getD (64*w+j) false:=by
 unfold wordB
 rw [bitsN_testBit,List.getD_eq_getElem?_getD,List.getD_eq_getElem?_getD,List.getElem?_take,if_pos hj,List.getElem?_drop]
theorem wordB_set {l:List Bool} {x:Nat} (h:x<l.length) (w:Nat):wordB (l.set x true) w=if w=x/64 then wordB l w ||| 2 ^ (x%64) else wordB l w:=by
 refine Nat.eq_of_testBit_eq fun j=>?_
 by_cases hj:j<64
 ·rw [wordB_testBit hj]
  split
  ·rename_i e
   rw [Nat.testBit_or,wordB_testBit hj,Nat.testBit_two_pow]
   by_cases e2:x=64*w+j
   ·have e3:x%64=j:=by omega
    rw [← e2]
    simp [List.getD,h,e3]
   ·have e3:¬ x%64=j:=by omega
    simp [List.getD,List.getElem?_set_ne e2,e3]
  ·rename_i e
   rw [wordB_testBit hj]
   have e2:x≠64*w+j:=by omega
   simp [List.getD,List.getElem?_set_ne e2]
 ·have big:∀ m,m<2 ^ 64→m.testBit j=false:=fun m hm=>Nat.testBit_lt_two_pow (Nat.lt_of_lt_of_le hm (Nat.pow_le_pow_right (by decide) (by omega)))
  rw [big _ (wordB_lt _ _)]
  split
  ·rw [Nat.testBit_or,big _ (wordB_lt _ _),Nat.testBit_two_pow]
   have:¬ x%64=j:=by omega
   simp [this]
  ·rw [big _ (wordB_lt _ _)]
theorem wordsB_set {l:List Bool} {x:Nat} (h:x<l.length):wordsB (l.set x true)=(wordsB l).set (x/64) (wordB l (x/64) ||| 2 ^ (x%64)):=by
 refine List.ext_getElem (by simp [wordsB_len]) fun i h1 h2=>?_
 rw [List.getElem_set]
 simp only [wordsB,List.getElem_map,List.getElem_range]
 rw [wordB_set h]
 by_cases e:i=x/64
 ·subst e; simp
 ·rw [if_neg e,if_neg (fun q=>e q.symm)]
theorem wordsB_zero (n:Nat):wordsB (List.replicate n false)=List.replicate ((n+63)/64) 0:=by
 unfold wordsB
 refine List.ext_getElem (by simp) fun i h1 h2=>?_
 simp only [List.getElem_map,List.getElem_range,List.getElem_replicate]
 unfold wordB
 rw [List.drop_replicate,List.take_replicate]
 exact bitsN_zero _
def bytesW (w:Nat):List Nat:=(List.range 8).map fun i=>w/256 ^ i%256
theorem bytesW_len (w:Nat):(bytesW w).length=8:=by simp [bytesW]
theorem bytesW_testBit {w i b:Nat} (hb:b<8):(w/256 ^ i%256).testBit b=w.testBit (8*i+b):=by
 rw [show (256:Nat)=2 ^ 8 from rfl,← Nat.pow_mul,Nat.testBit_mod_two_pow,Nat.testBit_div_two_pow]
 simp [hb,Nat.add_comm]
theorem bytesW_inj {w v:Nat} (hw:w<2 ^ 64) (hv:v<2 ^ 64) (h:bytesW w=bytesW v):w=v:=by
 refine Nat.eq_of_testBit_eq fun j=>?_
 by_cases hj:j<64
 ·have hi:j/8<8:=by omega
  have e:=congrArg (fun l:List Nat=>l.getD (j/8) 0) h
  simp only [bytesW,List.getD_eq_getElem?_getD,List.getElem?_map,List.getElem?_range hi,Option.map_some,Option.getD_some] at e
  have e2:=congrArg (fun m:Nat=>m.testBit (j%8)) e
  rw [bytesW_testBit (Nat.mod_lt _ (by decide)),bytesW_testBit (Nat.mod_lt _ (by decide)),Nat.div_add_mod] at e2
  exact e2
 ·have big:∀ m,m<2 ^ 64→m.testBit j=false:=fun m hm=>Nat.testBit_lt_two_pow (Nat.lt_of_lt_of_le hm (Nat.pow_le_pow_right (by decide) (by omega)))
  rw [big _ hw,big _ hv]
def keyB (ws:List Nat):List Nat:=ws.flatMap bytesW
theorem keyB_inj:∀ {ws vs:List Nat},(∀ w∈ws,w<2 ^ 64)→(∀ w∈vs,w<2 ^ 64)→ws.length=vs.length→keyB ws=keyB vs→ws=vs
 | [],[],_,_,_,_=>rfl
 | w::ws,v::vs,hw,hv,hl,h=>by
  unfold keyB at h
  rw [List.flatMap_cons,List.flatMap_cons] at h
  obtain ⟨h1,h2⟩:=List.append_inj h (by rw [bytesW_len,bytesW_len])
  rw [bytesW_inj (hw w (by simp)) (hv v (by simp)) h1,keyB_inj (fun x hx=>hw x (by simp [hx])) (fun x hx=>hv x (by simp [hx])) (by simpa using hl) h2]
theorem wordsB_lt (l:List Bool):∀ w∈wordsB l,w<2 ^ 64:=fun w hw=>by
 obtain ⟨i,_,rfl⟩:=List.mem_map.1 hw
 exact wordB_lt _ _
theorem wordsB_inj {l m:List Bool} (hl:l.length=m.length) (h:wordsB l=wordsB m):l=m:=by
 refine List.ext_getElem hl fun i h1 h2=>?_
 have hi:i/64<(l.length+63)/64:=by omega
 have e:=congrArg (fun q:List Nat=>(q.getD (i/64) 0).testBit (i%64)) h
 rw [wordsB_get hi,wordsB_get (by omega),wordB_testBit (Nat.mod_lt _ (by decide)),wordB_testBit (Nat.mod_lt _ (by decide)),Nat.div_add_mod] at e
 simpa [List.getD,h1,h2] using e
theorem key_inj {l m:List Bool} (hl:l.length=m.length) (h:keyB (wordsB l)=keyB (wordsB m)):l=m :=
 wordsB_inj hl (keyB_inj (wordsB_lt l) (wordsB_lt m) (by rw [wordsB_len,wordsB_len,hl]) h)
theorem bit_at (l:List Bool) (x:Nat):wordB l (x/64)/2 ^ (x%64) &&& 1=if l.getD x false=true then 1 else 0:=by
 have h:=wordB_testBit (l:=l) (w:=x/64) (j:=x%64) (Nat.mod_lt _ (by decide))
 rw [Nat.div_add_mod,Nat.testBit_eq_decide_div_mod_eq] at h
 rw [Nat.and_one_is_mod]
 cases hb:l.getD x false with
 | true =>
  rw [hb] at h
  rw [if_pos rfl]; exact of_decide_eq_true h
 | false =>
  rw [hb] at h
  have:=of_decide_eq_false h
  rw [if_neg (by decide)]; omega
theorem keyB_snoc (ws:List Nat) (w:Nat):keyB (ws++[w])=keyB ws++bytesW w:=by simp [keyB]
theorem bytesW_take (w i:Nat) (h:i<8):(bytesW w).take (i+1)=(bytesW w).take i++[w/256 ^ i%256]:=by
 rw [List.take_add_one]
 simp [bytesW,h]
theorem keyB_len (ws:List Nat):(keyB ws).length=8*ws.length:=by
 induction ws with
 | nil=>rfl
 | cons w ws ih=>unfold keyB at *; rw [List.flatMap_cons,List.length_append,bytesW_len,ih,List.length_cons]; omega
def memB (l:List Bool) (n:Nat):List Nat:=(List.range n).filter fun x=>l.getD x false
theorem memB_succ (l:List Bool) (n:Nat):memB l (n+1)=memB l n++if l.getD n false then [n] else []:=by
 unfold memB
 rw [List.range_succ,List.filter_append]
 congr 1
 by_cases h:l.getD n false=true
 ·rw [if_pos h,List.filter_cons,if_pos h]; rfl
 ·rw [if_neg h,List.filter_cons,if_neg h]; rfl
def setOf (n:Nat) (xs:List Nat):List Bool:=xs.foldl (fun l x=>l.set x true) (List.replicate n false)
theorem setOf_snoc (n:Nat) (xs:List Nat) (x:Nat):setOf n (xs++[x])=(setOf n xs).set x true:=by simp [setOf]
theorem setOf_len (n:Nat) (xs:List Nat):(setOf n xs).length=n:=by
 unfold setOf
 have key:∀ (xs:List Nat) (l:List Bool),(xs.foldl (fun l x=>l.set x true) l).length=l.length:=by
  intro xs
  induction xs with
  | nil=>intro l; rfl
  | cons x xs ih=>intro l; rw [List.foldl_cons,ih,List.length_set]
 rw [key,List.length_replicate]
theorem setOf_get {n:Nat} {xs:List Nat} {v:Nat} (hv:v<n):(setOf n xs).getD v false=decide (v∈xs):=by
 unfold setOf
 have key:∀ (xs:List Nat) (l:List Bool),l.length=n→(xs.foldl (fun l x=>l.set x true) l).getD v false=(l.getD v false||decide (v∈xs)):=by
  intro xs
  induction xs with
  | nil=>intro l _; simp
  | cons x xs ih =>
   intro l hl
   rw [List.foldl_cons,ih _ (by rw [List.length_set]; exact hl)]
   by_cases e:x=v
   ·subst e; simp [List.getD,hl,hv]
   ·have e2:¬ v=x:=fun q=>e q.symm
    simp [List.getD,List.getElem?_set_ne e,e2]
 rw [key _ _ (by simp)]
 simp [List.getD,hv]
theorem setOf_all (n:Nat):setOf n (List.range n)=List.replicate n true:=by
 refine List.ext_getElem (by rw [setOf_len,List.length_replicate]) fun i h1 h2=>?_
 rw [setOf_len] at h1
 have:=setOf_get (n:=n) (xs:=List.range n) h1
 rw [List.getD_eq_getElem?_getD,List.getElem?_eq_getElem (by rw [setOf_len]; exact h1),Option.getD_some] at this
 rw [this]; simp [h1]
def updM (M:Int→Option Int) (p x:Int):Int→Option Int:=fun q=>if q=p then some x else M q
def numM (p:Nat→Int):Nat→(Int→Option Int)×Nat
 | 0=>(fun _=>none,0)
 | k+1=>if ((numM p k).1 (p k)).isSome then numM p k else (updM (numM p k).1 (p k) ((numM p k).2:Int),(numM p k).2+1)
def numO (p:Nat→Int) (k:Nat):Int:=((numM p (k+1)).1 (p k)).getD 0
theorem numM_size (p:Nat→Int):∀ k,(numM p k).2≤k
 | 0=>Nat.le_refl _
 | k+1=>by
  have:=numM_size p k
  simp only [numM]; split<;>simp<;>omega
theorem numM_keep (p:Nat→Int) {q x:Int} (k:Nat) (h:(numM p k).1 q=some x):∀ d,(numM p (k+d)).1 q=some x
 | 0=>h
 | d+1=>by
  have ih:=numM_keep p k h d
  show (numM p (k+d+1)).1 q=some x
  simp only [numM]
  split
  ·exact ih
  ·next hn =>
   show updM _ _ _ q=some x
   unfold updM
   by_cases e:q=p (k+d)
   ·subst e; rw [ih] at hn; exact absurd rfl hn
   ·rw [if_neg e]; exact ih
theorem numM_own (p:Nat→Int) (k:Nat):(numM p (k+1)).1 (p k)=some (numO p k):=by
 unfold numO
 have:((numM p (k+1)).1 (p k)).isSome:=by
  simp only [numM]
  split
  ·next h=>exact h
  ·simp [updM]
 obtain ⟨x,hx⟩:=Option.isSome_iff_exists.1 this
 rw [hx]; rfl
theorem numM_below (p:Nat→Int):∀ k q x,(numM p k).1 q=some x→0≤x∧x<(numM p k).2
 | 0,q,x,h=>by cases h
 | k+1,q,x,h=>by
  have ih:=numM_below p k q x
  simp only [numM] at h ⊢
  split at h
  ·next hs=>rw [if_pos hs]; exact ih h
  ·next hs =>
   rw [if_neg hs]
   simp only [updM] at h ⊢
   by_cases e:q=p k
   ·rw [if_pos e] at h; injection h with h; omega
   ·rw [if_neg e] at h; have:=ih h; omega
theorem numM_inj (p:Nat→Int):∀ k q q' x,(numM p k).1 q=some x→(numM p k).1 q'=some x→q=q'
 | 0,q,q',x,h,_=>by cases h
 | k+1,q,q',x,h,h'=>by
  have ih:=numM_inj p k q q' x
  simp only [numM] at h h'
  split at h
  ·next hs=>rw [if_pos hs] at h'; exact ih h h'
  ·next hs =>
   rw [if_neg hs] at h'
   simp only [updM] at h h'
   by_cases e:q=p k<;>by_cases e':q'=p k
   ·rw [e,e']
   ·rw [if_pos e] at h; rw [if_neg e'] at h'
    have:=numM_below p k q' x h'
    injection h with h; omega
   ·rw [if_neg e] at h; rw [if_pos e'] at h'
    have:=numM_below p k q x h
    injection h' with h'; omega
   ·rw [if_neg e] at h; rw [if_neg e'] at h'; exact ih h h'
theorem numO_eq (p:Nat→Int) (i j:Nat):numO p i=numO p j↔p i=p j:=by
 have key:∀ i d,(numM p (i+1+d)).1 (p i)=some (numO p i):=fun i d=>numM_keep p (i+1) (numM_own p i) d
 have hi:=key i j
 have hj:=key j i
 rw [show j+1+i=i+1+j by omega] at hj
 constructor
 ·intro h; rw [h] at hi; exact numM_inj p _ _ _ _ hi hj
 ·intro h; rw [h] at hi; rw [hi] at hj; injection hj
def PartsOf (n:Nat) (adj:Nat→List Nat) (ps:List Int):Prop :=
 ∃ p:Nat→Int,(∀ x y,x<n→y<n→(p x=p y↔Goes adj x y∧Goes adj y x))∧ps=(List.range n).map (numO p)
theorem PartsOf.len {n:Nat} {adj:Nat→List Nat} {ps:List Int} (h:PartsOf n adj ps):ps.length=n:=by
 obtain ⟨p,_,rfl⟩:=h; simp
theorem PartsOf.eq {n:Nat} {adj:Nat→List Nat} {ps:List Int} (h:PartsOf n adj ps) {x y:Nat} (hx:x<n) (hy:y<n):ps.getD x 0=ps.getD y 0↔Goes adj x y∧Goes adj y x:=by
 obtain ⟨p,hp,rfl⟩:=h
 simp only [List.getD_eq_getElem?_getD,List.getElem?_map,List.getElem?_range hx,List.getElem?_range hy,Option.map_some,Option.getD_some]
 rw [numO_eq,hp x y hx hy]
open Go.RowKit Go.Maps Go.WideMaps
set_option maxRecDepth 100000
theorem uMapB:Tryz.prog.underlying 265=some (.map 9 3):=by kernel_rfl
theorem keyedB:Keyed Tryz.prog 9:=string_keyed uStr
theorem zeroB (w:World):(zeroValue 3).run Tryz.prog w=.ok (.int .i64 0) w:=by kernel_rfl
def heldB (v:Value):Option (DataW Value×List MemPlace):=some (.held v,[])
def numsK (ws:List Nat):List Int:=(keyB ws).map fun n:Nat=>(n:Int)
def txtK (ws:List Nat):ByteArray:=strOfNums (numsK ws)
def keyK (ws:List Nat):Lit:=.string (txtK ws).data.toList
theorem txtK_size (ws:List Nat):(txtK ws).size=8*ws.length:=by
 unfold txtK; rw [strOfNums_size]; unfold numsK; rw [List.length_map,keyB_len]
theorem keyK_of {ws:List Nat} (h:ws.length≤4096):keyOf Tryz.prog 9 (.string (txtK ws))=some (keyK ws):=keyOf_string_mk uStr (by rw [txtK_size]; unfold maxLen; omega)
theorem keyB_byte (ws:List Nat):∀ b∈keyB ws,b<256:=fun b hb=>by
 unfold keyB at hb
 obtain ⟨w,_,hb⟩:=List.mem_flatMap.1 hb
 unfold bytesW at hb
 obtain ⟨i,_,rfl⟩:=List.mem_map.1 hb
 exact Nat.mod_lt _ (by decide)
theorem keyK_inj {l m:List Bool} (hl:l.length=m.length) (h:keyK (wordsB l)=keyK (wordsB m)):l=m:=by
 have h2:(txtK (wordsB l)).data.toList=(txtK (wordsB m)).data.toList:=by injection h
 unfold txtK at h2
 rw [strOfNums_data,strOfNums_data] at h2
 unfold numsK at h2
 rw [List.map_map,List.map_map] at h2
 have key:∀ (a b:List Nat),(∀ x∈a,x<256)→(∀ x∈b,x<256)→a.map ((fun n:Int=>UInt8.ofNat n.toNat) ∘ fun n:Nat=>(n:Int))=b.map ((fun n:Int=>UInt8.ofNat n.toNat) ∘ fun n:Nat=>(n:Int))→a=b:=by
  intro a
  induction a with
  | nil =>
   intro b _ _ h
   cases b with
   | nil=>rfl
   | cons _ _=>simp at h
  | cons p a ih =>
   intro b ha hb h
   cases b with
   | nil=>simp at h
   | cons q b =>
    rw [List.map_cons,List.map_cons] at h
    injection h with h1 h2
    have e1:=ha p List.mem_cons_self
    have e2:=hb q List.mem_cons_self
    have:p=q:=by
     have h3:=congrArg UInt8.toNat h1
     simp only [Function.comp,UInt8.toNat_ofNat',Int.toNat_natCast] at h3
     omega
    rw [this,ih b (fun z hz=>ha z (List.mem_cons_of_mem _ hz)) (fun z hz=>hb z (List.mem_cons_of_mem _ hz)) h2]
 exact key_inj hl (key _ _ (keyB_byte _) (keyB_byte _) h2)
def BagMap (w:World) (b n:Nat) (sets:List (List Bool)):Prop :=
 ∃ D:DataW Value,w.ownsMap Tryz.prog 9 heldB b sets.length D∧(∀ y,y.length=n→(Maps.has D (keyK (wordsB y))=true↔y∈sets))∧∀ i,i<sets.length→D.atKey (keyK (wordsB (sets.getD i []))) (.held (.int .i64 0))=.held (.int .i64 (i:Nat))
theorem BagMap.made (w:World) (n:Nat):BagMap (w.alloc (.map #[] 0)) w.heap.size n [] :=
 ⟨_,World.ownsMap_made w Tryz.prog 9 _,fun y _=>⟨fun h=>(by cases h),fun h=>(by cases h)⟩,fun i hi=>absurd hi (Nat.not_lt_zero _)⟩
section
variable {w:World} {b n:Nat} {sets:List (List Bool)}
theorem BagMap.blk (h:BagMap w b n sets):∃ es c,w.heap[b]?=some (.map es c):=by
 obtain ⟨D,⟨es,c,hb,_⟩,_⟩:=h
 exact ⟨es,c,hb⟩
theorem BagMap.lt (h:BagMap w b n sets):b<w.heap.size:=by
 obtain ⟨D,h1,_⟩:=h
 exact h1.lt
theorem BagMap.below {w':World} (h:BagMap w b n sets) (hb:Below w.heap.size w w'):BagMap w' b n sets:=by
 obtain ⟨D,h1,h2⟩:=h
 refine ⟨D,?_,h2⟩
 have hlt:=h1.lt
 obtain ⟨es,clock,hb',F,hs,hD⟩:=h1
 exact ⟨es,clock,(hb.block b hlt).trans hb',F,hs,hD⟩
theorem BagMap.kept {w':World} {row:Option Nat} (h:BagMap w b n sets) (hg:w.grownBy w' row) (hne:some b≠row):BagMap w' b n sets:=by
 obtain ⟨D,h1,h2⟩:=h
 exact ⟨D,h1.kept hg hne,h2⟩
theorem BagMap.hit (h:BagMap w b n sets) {y:List Bool} (hm:y∈sets) (hl:y.length=n) (hn:n≤4096) :
 (Instr.lookup 265 (.map (some b)) (.string (txtK (wordsB y))) true).run Tryz.prog w=.ok (.tuple #[.int .i64 (sets.idxOf y:Nat),.bool true]) w:=by
 obtain ⟨D,h1,h2,h3⟩:=h
 have hk:=List.idxOf_lt_length_of_mem hm
 have e0:sets.getD (sets.idxOf y) []=y:=by
  rw [List.getD_eq_getElem?_getD,List.getElem?_eq_getElem hk,Option.getD_some]
  exact List.getElem_idxOf hk
 have h4:=h3 _ hk
 rw [e0] at h4
 obtain ⟨v,ps,hr,hv⟩:=h1.look_ok keyedB uMapB (zeroB w) (zd:=.held (.int .i64 0)) (zp:=[]) rfl (keyK_of (ws:=wordsB y) (by rw [wordsB_len]; omega))
 rw [h4] at hv
 unfold heldB at hv
 have e1:=Option.some.inj hv
 have e2:DataW.held v=DataW.held (Value.int .i64 (sets.idxOf y:Nat)):=congrArg Prod.fst e1
 have e:v=Value.int .i64 (sets.idxOf y:Nat):=by injection e2
 rw [hr,e,(h2 _ hl).2 hm]
theorem BagMap.miss (h:BagMap w b n sets) {y:List Bool} (hm:y∉sets) (hl:y.length=n) (hn:n≤4096) :
 ∃ v,(Instr.lookup 265 (.map (some b)) (.string (txtK (wordsB y))) true).run Tryz.prog w=.ok (.tuple #[v,.bool false]) w:=by
 obtain ⟨D,h1,h2,h3⟩:=h
 obtain ⟨v,ps,hr,hv⟩:=h1.look_ok keyedB uMapB (zeroB w) (zd:=.held (.int .i64 0)) (zp:=[]) rfl (keyK_of (ws:=wordsB y) (by rw [wordsB_len]; omega))
 have:Maps.has D (keyK (wordsB y))=false:=by
  cases hh:Maps.has D (keyK (wordsB y)) with
  | false=>rfl
  | true=>exact absurd ((h2 y hl).1 hh) hm
 exact ⟨v,by rw [hr,this]⟩
theorem BagMap.store (h:BagMap w b n sets) {y:List Bool} (hm:y∉sets) (hl:y.length=n) (hn:n≤4096) (hall:∀ x∈sets,x.length=n) (hj:sets.length<100000) :
 ∃ w',(Instr.mapUpdate 265 (.map (some b)) (.string (txtK (wordsB y))) (.int .i64 (sets.length:Nat))).run Tryz.prog w=.ok () w'∧BagMap w' b n (sets++[y])∧w.grownBy w' (some b):=by
 obtain ⟨D,h1,h2,h3⟩:=h
 have hI:=h1.isMap
 have hkey:=keyK_of (ws:=wordsB y) (by rw [wordsB_len]; omega)
 obtain ⟨w',hr,ho,hg⟩:=h1.update keyedB uMapB (by unfold maxLen; omega) hkey (val:=.int .i64 (sets.length:Nat)) (d:=.held (.int .i64 (sets.length:Nat))) (ps:=[]) rfl
 have hkl:WideAt.IsKeyLit (keyK (wordsB y)):=keyedB.key hkey
 refine ⟨w',hr,⟨_,by rw [List.length_append,List.length_singleton]; exact ho,fun z hz=>?_,fun i hi=>?_⟩,hg⟩
 ·by_cases e:z=y
  ·subst e
   exact ⟨fun _=>by simp,fun _=>Maps.has_put_same hI hkl _⟩
  ·have hne:keyK (wordsB z)≠keyK (wordsB y):=fun h=>e (keyK_inj (by rw [hz,hl]) h)
   rw [Maps.has_put_other hne,h2 z hz]
   simp [e]
 ·rw [List.length_append,List.length_singleton] at hi
  by_cases e:i=sets.length
  ·subst e
   have e2:(sets++[y]).getD sets.length []=y:=by simp [List.getD]
   rw [e2,Maps.atKey_put_same hI hkl]
  ·have hi2:i<sets.length:=by omega
   have e2:(sets++[y]).getD i []=sets.getD i []:=by simp [List.getD,List.getElem?_append_left hi2]
   have hmem:sets.getD i []∈sets:=by
    rw [List.getD_eq_getElem?_getD,List.getElem?_eq_getElem hi2,Option.getD_some]
    exact List.getElem_mem hi2
   have hne:keyK (wordsB (sets.getD i []))≠keyK (wordsB y):=fun h=>hm (keyK_inj (by rw [hall _ hmem,hl]) h▸hmem)
   rw [e2,Maps.atKey_put_other hne]
   exact h3 i hi2
end
theorem Rows.mapB {B:Nat} {w w':World} {f:Names} {b:Nat} {es:Array MapEntry} {c:Nat} (h:Rows B w f) (hb:w.heap[b]?=some (.map es c)) (hg:w.grownBy w' (some b)):Rows B w' f :=
 ⟨fun i r hi=>(by
   have ho:=h.1 i r hi
   refine World.ownsRow.kept ho hg ?_
   rcases ho.2 with ⟨e,_⟩ | ⟨g,cap,cur,e,_,hh,_⟩
   ·left; rw [e]; rfl
   ·right; rw [e]; intro q
    have:g=b:=by injection q
    subst this; rw [hh] at hb; cases hb),h.2⟩
end Go.Proofs.YtindfaehjoileaaGreatDoor
namespace Go.Proofs.YtindfaehjoileaaGreatDoor
open Go.RowKit
set_option maxRecDepth 100000
set_option maxHeartbeats 8000000
theorem oneWords:OneCell 306 97 (.int .u64 0) 8:=⟨by kernel_rfl,by kernel_rfl,rfl,by decide,fun _=>by kernel_rfl⟩
theorem take_snocN (l:List Nat) (i:Nat) (h:i<l.length):l.take (i+1)=l.take i++[l[i]]:=by
 rw [List.take_add_one]; simp [h]
def wordsV (ws:List Nat):List Value:=ws.map fun n:Nat=>Value.int .u64 (n:Int)
def byteN (ns:List Nat):List Value:=ns.map fun n:Nat=>Value.int .u8 (n:Int)
theorem wordsV_len (ws:List Nat):(wordsV ws).length=ws.length:=by simp [wordsV]
theorem byteN_snoc (ns:List Nat) (n:Nat):byteN (ns++[n])=byteN ns++[.int .u8 (n:Int)]:=by simp [byteN]
theorem conv_key (B:Nat) (w:World) (v:Value) (ws:List Nat) (h:OwnV 5 B w v (byteN (keyB ws))) (h1:1≤ws.length):(convert 34 9 v).run Tryz.prog w=.ok (.string (txtK ws)) w:=by
 have hl:(byteN (keyB ws)).length=(numsK ws).length:=by simp [byteN,numsK]
 have hp:(numsK ws).length=8*ws.length:=by unfold numsK; rw [List.length_map,keyB_len]
 rcases h.2 with ⟨rfl,hn⟩ | ⟨g,cap,cur,rfl,hb,hg,hn,hm,hs,ht⟩
 ·omega
 ·refine run_convert_bytes_arg (P:=Tryz.prog) w 34 5 oneBytes.ht uByte g 0 (byteN (keyB ws)).length cap (numsK ws) hl.symm (fun i hi=>?_) 9 uStr
  have:=h.at.cell i hi
  rw [valAt_row] at this
  rw [Nat.zero_add,this]
  have hi2:i<(keyB ws).length:=by rw [hl] at hi; unfold numsK at hi; rwa [List.length_map] at hi
  simp [byteN,numsK,List.getD,hi2]
theorem bag_key (v:Value) (ws:List Nat) (w:World) (h:ValsAt w v (wordsV ws)) (h1:1≤ws.length) (hl:ws.length≤64) (hw:∀ x∈ws,x<2 ^ 64) :
 Calls Tryz.prog 362 #[v] w (Ret1 (fun x _=>x=.string (txtK ws)) w):=by
 obtain ⟨va,vn,vc,rfl⟩:∃ a n c,v=.slice a n c:=(by obtain ⟨a,c,e,_⟩:=h; exact ⟨a,_,c,e⟩)
 have l1:=h.len oneWords
 rw [wordsV_len] at l1
 replace h:=Hd h
 replace hw:=Hd hw
 go_enter Tryz.func362,Tryz.ntmps362
 go_wp2_with (at_make; refine wpl_makeV0 oneBytes rfl _ _ rfl (8*ws.length) rfl (by go_num) (by omega) ?_)
 intro bv w2 ho2 b2
 replace ho2:=Hd ho2
 go_wp2_with fail
 go_loopw [3,12] (fun ov iv wr=>∃ (i:Nat) (ow:Value),ow=ov∧iv=.int .i64 i∧i≤ws.length∧OwnV 5 w.heap.size wr ow (byteN (keyB (ws.take i)))∧Below w.heap.size w wr) (fun _ iv _=>ws.length-(intOf iv).toNat)
 case atStart=>exact ⟨0,_,rfl,rfl,Nat.zero_le _,ho2.out,b2⟩
 case round =>
  obtain ⟨i,ow,rfl,rfl,hi,hO,hB⟩:=hrel
  obtain ⟨wo,rfl⟩:∃ wo:World,wo=wr:=⟨_,rfl⟩
  by_cases hil:i<ws.length
  ·have di:decide ((i:Int)<(ws.length:Int))=true:=decide_eq_true (by omega)
   have hv:=h.out.below hB
   have iX:=fun w'=>hv.idx oneWords i (by rw [wordsV_len]; exact hil) w'
   have cX:=hv.cell i (by rw [wordsV_len]; exact hil)
   have ex:(wordsV ws)[i]'(by rw [wordsV_len]; exact hil)=.int .u64 ((ws[i]:Nat):Int):=by simp [wordsV]
   rw [ex] at cX
   have hxb:=hw.out ws[i] (List.getElem_mem hil)
   have htk:keyB (ws.take (i+1))=keyB (ws.take i)++bytesW ws[i]:=by
    rw [take_snocN ws i hil,keyB_snoc]
   obtain ⟨x,hx⟩:∃ x,ws[i]=x:=⟨_,rfl⟩
   rw [hx] at cX hxb htk
   obtain ⟨xa,hxa⟩:∃ xa,valAt (.slice va vn vc) i=xa:=⟨_,rfl⟩
   rw [hxa] at iX cX
   have hlt:(keyB (ws.take i)).length≤512:=by rw [keyB_len,List.length_take]; omega
   obtain ⟨ns,hns⟩:∃ ns,keyB (ws.take i)=ns:=⟨_,rfl⟩
   rw [hns] at htk hO hlt
   replace hx:=Hd hx
   replace hxa:=Hd hxa
   replace hv:=Hd hv
   replace htk:=Hd htk
   replace hns:=Hd hns
   replace hxb:=Hd hxb
   replace hO:=Hd hO
   clear ex
   go_wp2
   go_loopw [3,5,16] (fun ov cv jv wr=>∃ (j c:Nat) (ow:Value),ow=ov∧cv=.int .u64 (c:Int)∧jv=.int .i64 j∧j≤8∧c=x/256 ^ j∧OwnV 5 w.heap.size wr ow (byteN (ns++(bytesW x).take j))∧Below w.heap.size w wr) (fun _ _ jv _=>8-(intOf jv).toNat)
   case atStart=>exact ⟨0,x,_,rfl,rfl,rfl,by omega,by simp,by simpa using hO.out,hB⟩
   case round =>
    obtain ⟨j,c,pw,rfl,rfl,rfl,hj,hc,hP,hBj⟩:=hrel
    obtain ⟨wj,rfl⟩:∃ wj:World,wj=wr:=⟨_,rfl⟩
    by_cases hjl:j<8
    ·have dj:decide ((j:Int)<8)=true:=decide_eq_true (by omega)
     have hBs:=hBj.size
     have hcb:c<2 ^ 64:=by rw [hc]; exact Nat.lt_of_le_of_lt (Nat.div_le_self _ _) hxb.out
     have hse:byteN (ns++(bytesW x).take (j+1))=byteN (ns++(bytesW x).take j)++[.int .u8 ((c%256:Nat):Int)]:=by
      rw [bytesW_take x j hjl,← List.append_assoc,byteN_snoc,hc]
     have hlm:(byteN (ns++(bytesW x).take j)).length<4398046511104:=by
      simp [byteN,bytesW_len]; omega
     have wr8:IntKind.u8.wrap (c:Int)=((c%256:Nat):Int):=by simp [IntKind.wrap,IntKind.signed,IntKind.bits]
     have hdv:(c:Int)/256=((c/256:Nat):Int):=by omega
     have hc2:c/256=x/256 ^ (j+1):=by rw [hc,Nat.div_div_eq_div_mul,Nat.pow_succ]
     obtain ⟨m,hm⟩:∃ m,c%256=m:=⟨_,rfl⟩
     rw [hm] at wr8 hse
     obtain ⟨d,hd⟩:∃ d,c/256=d:=⟨_,rfl⟩
     rw [hd] at hdv hc2
     replace hm:=Hd hm
     replace hd:=Hd hd
     replace hc:=Hd hc
     replace hc2:=Hd hc2
     replace hse:=Hd hse
     go_wp2_with (at_builtin; go_loud (refine wpl_appV oneBytes rfl _ _ rfl w.heap.size pw _ (.int .u8 (m:Int)) rfl hP rfl rfl hlm hBs ?_))
     intro v' w7 ho7 b7
     rw [← hse.out] at ho7
     replace ho7:=Hd ho7
     clear hP
     go_wp2
     go_roundw
     case measure=>simp [intOf]; omega
     case rel=>exact ⟨j+1,d,_,rfl,by simp,by go_num,by omega,hc2.out,ho7.out,hBj.trans b7⟩
    ·obtain rfl:j=8:=by omega
     have e8:(bytesW x).take 8=bytesW x:=List.take_of_length_le (by rw [bytesW_len]; exact Nat.le_refl _)
     rw [e8,← htk.out] at hP
     replace hP:=Hd hP
     have dj:decide (((8:Nat):Int)<8)=false:=by decide
     go_wp2
     go_roundw
     case measure=>simp [intOf]; omega
     case rel=>exact ⟨i+1,_,rfl,by go_num,by omega,hP.out,hBj⟩
  ·have di:decide ((i:Int)<(ws.length:Int))=false:=decide_eq_false (by omega)
   obtain rfl:i=ws.length:=by omega
   rw [List.take_length] at hO
   have hc:=conv_key w.heap.size wo ow ws hO h1
   obtain ⟨oa,on,oc,rfl⟩:=hO.shape
   replace hO:=Hd hO
   go_wp2
   go_ret
   exact ⟨_,rfl,hB,rfl⟩
def natI (xs:List Nat):List Int:=xs.map fun n:Nat=>(n:Int)
theorem natI_len (xs:List Nat):(natI xs).length=xs.length:=by simp [natI]
theorem natI_at {xs:List Nat} {i:Nat} (h:i<xs.length):(natI xs).getD i 0=((xs[i]:Nat):Int):=by simp [natI,List.getD,h]
theorem wordsV_set (ws:List Nat) (k x:Nat):(wordsV ws).set k (.int .u64 (x:Int))=wordsV (ws.set k x):=by simp [wordsV,List.map_set]
theorem wordsV_zero (n:Nat):wordsV (List.replicate n 0)=List.replicate n (.int .u64 0):=by simp [wordsV]
theorem or_bit {m j:Nat} (hm:m<2 ^ 64) (hj:j<64):bits BinOp.or IntKind.u64 (m:Int) (IntKind.u64.wrap (2 ^ j))=((m ||| 2 ^ j:Nat):Int):=by
 have hp:2 ^ j<2 ^ 64:=Nat.pow_lt_pow_right (by decide) hj
 have e:IntKind.u64.wrap (2 ^ j)=((2 ^ j:Nat):Int):=by
  have e1:((2:Int) ^ j)=((2 ^ j:Nat):Int):=by norm_cast
  rw [e1]
  simp only [IntKind.wrap,IntKind.signed,IntKind.bits]
  generalize 2 ^ j=a at hp
  simp; omega
 rw [e]
 exact bits_or_u64_nat m (2 ^ j) hm hp
theorem bag_bits (n g:Nat) (v:Value) (xs:List Nat) (w:World) (c0:w.cell? ⟨g,0,none⟩=some (.int .i64 n)) (h:IntsAt w v (natI xs)) (hx:∀ x∈xs,x<n) (hxl:xs.length≤100000) (h1:1≤n) (hn:n≤4096) :
 Calls Tryz.prog 331 #[.pointer (some ⟨g,0,none⟩),v] w (Ret2 (fun x y w'=>y=.nilIface∧OwnV 97 w.heap.size w' x (wordsV (wordsB (setOf n xs)))) w):=by
 have l1:=h.len
 rw [natI_len] at l1
 obtain ⟨va,vn,vc,rfl⟩:=h.shape
 have hg:=World.block_lt_of_cell? _ _ c0
 replace h:=Hd h
 replace hx:=Hd hx
 obtain ⟨q,hq⟩:∃ q,(n+63)/64=q:=⟨_,rfl⟩
 have eq0:((n:Int)+63)/64=(q:Int):=by omega
 have hq64:q≤64:=by omega
 replace hq:=Hd hq
 go_enter Tryz.func331,Tryz.ntmps331
 go_wp2_with (at_make; refine wpl_makeV oneWords rfl _ _ rfl (((n:Int)+63)/64) rfl rfl (by omega) (by omega) ?_)
 intro sv w1 ho1 g1
 have b1:Below w.heap.size w w1:=(Below.refl _ _).grown g1 (Nat.le_refl _) (by intro k hk; cases hk)
 rw [← wordsV_zero,← hq.out,← wordsB_zero] at ho1
 obtain ⟨sa,sn,sc,rfl⟩:=ho1.shape
 replace ho1:=Hd ho1
 go_wp2_with fail
 go_loopw [21] (fun iv wr=>∃ i:Nat,iv=.int .i64 i∧i≤xs.length∧OwnV 97 w.heap.size wr (.slice sa sn sc) (wordsV (wordsB (setOf n (xs.take i))))∧Below w.heap.size w wr) (fun iv _=>xs.length-(intOf iv).toNat)
 case atStart=>exact ⟨0,rfl,Nat.zero_le _,by simpa [setOf] using ho1.out,b1⟩
 case round =>
  obtain ⟨i,rfl,hi,hO,hB⟩:=hrel
  obtain ⟨wo,rfl⟩:∃ wo:World,wo=wr:=⟨_,rfl⟩
  have hgB:=hB.size
  have e0:wo.cell? ⟨g,0,none⟩=some (.int .i64 n):=by rw [hB.cell hg]; exact c0
  by_cases hil:i<xs.length
  ·have di:decide ((i:Int)<(xs.length:Int))=true:=decide_eq_true (by omega)
   have hv:=h.out.below hB
   have iX:=fun w'=>hv.idx i (by rw [natI_len]; exact hil) w'
   have cX:=hv.cellD i (by rw [natI_len]; exact hil)
   rw [natI_at hil] at cX
   have hxn:=hx.out xs[i] (List.getElem_mem hil)
   have htk:setOf n (xs.take (i+1))=(setOf n (xs.take i)).set xs[i] true:=by rw [take_snocN xs i hil,setOf_snoc]
   obtain ⟨x,hxx⟩:∃ x,xs[i]=x:=⟨_,rfl⟩
   rw [hxx] at cX hxn htk
   obtain ⟨xa,hxa⟩:∃ xa,valAt (.slice va vn vc) i=xa:=⟨_,rfl⟩
   rw [hxa] at iX cX
   obtain ⟨l,hl⟩:∃ l,setOf n (xs.take i)=l:=⟨_,rfl⟩
   have hll:l.length=n:=by rw [← hl,setOf_len]
   rw [hl] at htk hO
   have hxll:x<l.length:=by omega
   have hws:wordsV (wordsB (l.set x true))=(wordsV (wordsB l)).set (x/64) (.int .u64 ((wordB l (x/64) ||| 2 ^ (x%64):Nat):Int)):=by rw [wordsB_set hxll,wordsV_set]
   have hk:x/64<(wordsV (wordsB l)).length:=by rw [wordsV_len,wordsB_len]; omega
   have iS:∀ w',(Instr.indexAt 306 (.slice sa sn sc) (.int .i64 ((x:Int)/64))).run Tryz.prog w'=.ok (.pointer (some (valAt (.slice sa sn sc) (x/64)))) w':=by
    intro w'
    have:=hO.at.idx oneWords (x/64) hk w'
    rwa [show ((x/64:Nat):Int)=(x:Int)/64 by omega] at this
   have cS:=hO.at.cell (x/64) hk
   have eS:(wordsV (wordsB l))[x/64]=.int .u64 ((wordB l (x/64):Nat):Int):=by simp [wordsV,wordsB]
   rw [eS] at cS
   have fS:=hO.frz (x/64) hk
   have hO2:=hO.set (x/64) hk (.int .u64 ((wordB l (x/64) ||| 2 ^ (x%64):Nat):Int))
   rw [← hws,← htk] at hO2
   have hB2:=hB.setCell (hO.blkB (x/64) hk).2 (.int .u64 ((wordB l (x/64) ||| 2 ^ (x%64):Nat):Int))
   have dl:decide ((x:Int)<0)=false:=decide_eq_false (by omega)
   have dh:decide ((x:Int)≥(n:Int))=false:=decide_eq_false (by omega)
   have m0:(0:Int)≤(x:Int)%64:=by omega
   have m1:(x:Int)%64≤64:=by omega
   have hwl:=wordB_lt l (x/64)
   obtain ⟨m,hm⟩:∃ m,wordB l (x/64)=m:=⟨_,rfl⟩
   rw [hm] at cS hO2 hB2 hwl
   obtain ⟨aS,haS⟩:∃ aS,valAt (.slice sa sn sc) (x/64)=aS:=⟨_,rfl⟩
   rw [haS] at iS cS fS hO2 hB2
   replace hxx:=Hd hxx
   replace hxa:=Hd hxa
   replace hv:=Hd hv
   replace htk:=Hd htk
   replace hl:=Hd hl
   replace hws:=Hd hws
   replace hm:=Hd hm
   replace haS:=Hd haS
   replace hO2:=Hd hO2
   replace hB2:=Hd hB2
   replace hB:=Hd hB
   clear hO eS hk
   go_wp2
   go_region
   all_goals
    go_wp2
    go_roundw
    case measure=>simp [intOf]; omega
    case rel =>
     have eb:bits BinOp.or IntKind.u64 (m:Int) (IntKind.u64.wrap (2 ^ (x%64)))=((m ||| 2 ^ (x%64):Nat):Int):=or_bit hwl (Nat.mod_lt _ (by decide))
     rw [eb]
     exact ⟨i+1,by go_num,by omega,hO2.out.drew,hB2.out.drew⟩
  ·have di:decide ((i:Int)<(xs.length:Int))=false:=decide_eq_false (by omega)
   obtain rfl:i=xs.length:=by omega
   rw [List.take_length] at hO
   replace hO:=Hd hO
   go_wp2
   go_ret2
   exact ⟨_,_,rfl,hB,rfl,hO.out⟩
theorem oneSets:OneCell 396 306 (.slice none 0 0) 24:=⟨by kernel_rfl,by kernel_rfl,rfl,by decide,fun _=>by kernel_rfl⟩
theorem bag_set (g id:Nat) (at_:Int) (sv:Value) (svs:List Value) (w:World) (c1:w.cell? ⟨g,1,none⟩=some sv) (h:ValsAt w sv svs) (hid:id<svs.length) :
 Calls Tryz.prog 363 #[.pointer (some ⟨g,0,none⟩),.int .i64 id,.int .i64 at_] w (Ret2 (fun x y w'=>x=svs[id]∧y=.nilIface∧w'=w) w):=by
 have l1:=h.len oneSets
 have iX:=fun w'=>h.idx oneSets id hid w'
 have cX:=h.cell id hid
 obtain ⟨va,vn,vc,rfl⟩:∃ a n c,sv=.slice a n c:=(by obtain ⟨a,c,e,_⟩:=h; exact ⟨a,_,c,e⟩)
 obtain ⟨y,hy⟩:∃ y,svs[id]=y:=⟨_,rfl⟩
 rw [hy] at cX ⊢
 have d1:decide ((id:Int)<0)=false:=decide_eq_false (by omega)
 have d2:decide ((id:Int)≥(svs.length:Int))=false:=decide_eq_false (by omega)
 replace h:=Hd h
 replace hy:=Hd hy
 go_enter Tryz.func363,Tryz.ntmps363
 go_wp2
 go_ret2
 exact ⟨_,_,rfl,Below.refl _ _,rfl,rfl,rfl⟩
theorem natI_snoc (xs:List Nat) (x:Nat):natI (xs++[x])=natI xs++[(x:Int)]:=by simp [natI]
theorem and_bit {m j:Nat} (hm:m<2 ^ 64):bits BinOp.and IntKind.u64 ((m:Int)/2 ^ j) 1=((m/2 ^ j &&& 1:Nat):Int):=by
 have e:((m:Int)/2 ^ j)=((m/2 ^ j:Nat):Int):=by norm_cast
 rw [e]
 exact bits_and_u64_nat (m/2 ^ j) 1 (Nat.lt_of_le_of_lt (Nat.div_le_self _ _) hm) (by decide)
theorem bag_Get (n g id:Nat) (sv:Value) (svs:List Value) (l:List Bool) (w:World) (c0:w.cell? ⟨g,0,none⟩=some (.int .i64 n)) (c1:w.cell? ⟨g,1,none⟩=some sv) (h:ValsAt w sv svs) (hid:id<svs.length) (hs:ValsAt w svs[id] (wordsV (wordsB l))) (hl:l.length=n) (hn:n≤4096) :
 Calls Tryz.prog 333 #[.pointer (some ⟨g,0,none⟩),.int .i64 id] w (Ret2 (fun x y w'=>y=.nilIface∧OwnI w.heap.size w' x (natI (memB l n))) w):=by
 obtain ⟨va,vn,vc,hsv⟩:∃ a n c,svs[id]=.slice a n c:=(by obtain ⟨a,c,e,_⟩:=hs; exact ⟨a,_,c,e⟩)
 have hset:=bag_set g id 0 sv svs w c1 h hid
 rw [hsv] at hset hs
 have hg:=World.block_lt_of_cell? _ _ c0
 replace h:=Hd h
 replace hs:=Hd hs
 replace hsv:=Hd hsv
 go_enter Tryz.func333,Tryz.ntmps333
 go_wp2_with fail
 refine hset.mono ?_
 rintro e w1 ⟨_,_,rfl,b1,rfl,rfl,rfl⟩
 go_wp2
 go_loopw [8,23] (fun ov iv wr=>∃ (i:Nat) (ow:Value),ow=ov∧iv=.int .i64 i∧i≤n∧OwnI w1.heap.size wr ow (natI (memB l i))∧Below w1.heap.size w1 wr) (fun _ iv _=>n-(intOf iv).toNat)
 case atStart=>exact ⟨0,_,rfl,rfl,Nat.zero_le _,OwnI.nil _ _,Below.refl _ _⟩
 case round =>
  obtain ⟨i,ow,rfl,rfl,hi,hO,hB⟩:=hrel
  obtain ⟨wo,rfl⟩:∃ wo:World,wo=wr:=⟨_,rfl⟩
  by_cases hil:i<n
  ·have di:decide ((i:Int)<(n:Int))=true:=decide_eq_true (by omega)
   have hv:=hs.out.below hB
   have hk:i/64<(wordsV (wordsB l)).length:=by rw [wordsV_len,wordsB_len]; omega
   have iS:∀ w',(Instr.indexAt 306 (.slice va vn vc) (.int .i64 ((i:Int)/64))).run Tryz.prog w'=.ok (.pointer (some (valAt (.slice va vn vc) (i/64)))) w':=by
    intro w'
    have:=hv.idx oneWords (i/64) hk w'
    rwa [show ((i/64:Nat):Int)=(i:Int)/64 by omega] at this
   have cS:=hv.cell (i/64) hk
   have eS:(wordsV (wordsB l))[i/64]=.int .u64 ((wordB l (i/64):Nat):Int):=by simp [wordsV,wordsB]
   rw [eS] at cS
   have m0:(0:Int)≤(i:Int)%64:=by omega
   have m1:(i:Int)%64≤64:=by omega
   have hwl:=wordB_lt l (i/64)
   have hbit:=bit_at l i
   have hsn:=memB_succ l i
   have hBs:=hB.size
   have hml:(natI (memB l i)).length≤4096:=by
    rw [natI_len]
    exact Nat.le_trans (List.length_filter_le _ _) (by rw [List.length_range]; omega)
   obtain ⟨m,hm⟩:∃ m,wordB l (i/64)=m:=⟨_,rfl⟩
   rw [hm] at cS hwl hbit
   have hab:=and_bit (m:=m) (j:=i%64) hwl
   rw [hbit] at hab
   obtain ⟨aS,haS⟩:∃ aS,valAt (.slice va vn vc) (i/64)=aS:=⟨_,rfl⟩
   rw [haS] at iS cS
   replace hv:=Hd hv
   replace hm:=Hd hm
   replace haS:=Hd haS
   replace hbit:=Hd hbit
   clear hk eS
   cases hb:l.getD i false with
   | true =>
    have ha1:bits BinOp.and IntKind.u64 ((m:Int)/2 ^ (i%64)) 1=1:=by rw [hab,hb]; rfl
    have hn1:natI (memB l (i+1))=natI (memB l i)++[(i:Int)]:=by rw [hsn,hb,if_pos rfl,natI_snoc]
    obtain ⟨M,hM⟩:∃ M,natI (memB l i)=M:=⟨_,rfl⟩
    rw [hM] at hn1 hO hml
    clear hab hsn hb
    replace hM:=Hd hM
    replace hn1:=Hd hn1
    go_wp2_with (at_builtin; refine wpl_append1 rfl _ _ rfl w1.heap.size _ M (i:Int) hO rfl rfl (by omega) hBs ?_)
    intro v' w3 hO3 b3 _ _
    rw [← hn1.out] at hO3
    replace hO3:=Hd hO3
    clear hO
    go_wp2
    go_roundw
    case measure=>simp [intOf]; omega
    case rel=>exact ⟨i+1,_,rfl,by go_num,by omega,hO3.out,hB.trans b3⟩
   | false =>
    have ha1:bits BinOp.and IntKind.u64 ((m:Int)/2 ^ (i%64)) 1=0:=by rw [hab,hb]; rfl
    have hn1:memB l (i+1)=memB l i:=by rw [hsn,hb,if_neg (by decide),List.append_nil]
    rw [← hn1] at hO
    clear hab hsn hb hn1
    replace hO:=Hd hO
    go_wp2
    go_roundw
    case measure=>simp [intOf]; omega
    case rel=>exact ⟨i+1,_,rfl,by go_num,by omega,hO.out,hB⟩
  ·have di:decide ((i:Int)<(n:Int))=false:=decide_eq_false (by omega)
   obtain rfl:i=n:=by omega
   replace hO:=Hd hO
   go_wp2
   go_ret2
   exact ⟨_,_,rfl,hB,rfl,hO.out⟩
end Go.Proofs.YtindfaehjoileaaGreatDoor
namespace Go.Proofs.YtindfaehjoileaaGreatDoor
open Go.RowKit
set_option maxRecDepth 100000
theorem Rows.add2 {B:Nat} {w w':World} {f:Names} {i j:Nat×Nat} {r' s':Row} (h:Rows B w f) (hb:Below w.heap.size w w') (ho:r'.own B w') (hn:∀ k,r'.v.ownBlock=some k→w.heap.size≤k) (ho2:s'.own B w') (hn2:∀ k,s'.v.ownBlock=some k→w.heap.size≤k)
 (hne:r'.v.ownBlock=Option.none∨r'.v.ownBlock≠s'.v.ownBlock) (hij:i≠j):Rows B w' (upd (upd f i (some r')) j (some s')):=by
 have h1:=h.add (i:=i) hb ho hn
 have far:∀ k t,upd f i (some r') k=some t→k≠j→t.v.ownBlock=Option.none∨t.v.ownBlock≠s'.v.ownBlock:=fun k t hk hkj=>by
  by_cases e:k=i
  ·subst e
   rw [upd_same] at hk; cases hk
   exact hne
  ·rw [upd_ne _ _ e] at hk
   cases hs:t.v.ownBlock with
   | none=>exact .inl rfl
   | some m =>
    right; intro e2
    have:=hn2 m e2.symm
    have:=(h.lt hk m hs).2
    omega
 refine ⟨fun k t hk=>?_,fun k l s t hk hl hkl=>?_⟩
 ·by_cases e:k=j
  ·subst e; rw [upd_same] at hk; cases hk; exact ho2
  ·rw [upd_ne _ _ e] at hk
   exact h1.1 k t hk
 ·by_cases e:k=j
  ·subst e
   rw [upd_same] at hk; cases hk
   rw [upd_ne _ _ (Ne.symm hkl)] at hl
   rcases far l t hl (Ne.symm hkl) with e2 | e2
   ·cases hr:s'.v.ownBlock with
    | none=>exact .inl rfl
    | some m=>right; rw [e2]; simp
   ·exact .inr (Ne.symm e2)
  ·rw [upd_ne _ _ e] at hk
   by_cases e':l=j
   ·subst e'; rw [upd_same] at hl; cases hl
    exact far k s hk e
   ·rw [upd_ne _ _ e'] at hl
    exact h1.2 k l s t hk hl hkl
theorem Rows.addE {B:Nat} {w w':World} {f:Names} (i:Nat×Nat) {r':Row} (h:Rows B w f) (hb:Below w.heap.size w w') (ho:r'.own B w') (hn:∀ k,r'.v.ownBlock=some k→w.heap.size≤k) :
 ∃ f',Rows B w' f'∧f' i=some r'∧∀ j,j≠i→f' j=f j :=
 ⟨_,h.add (i:=i) hb ho hn,upd_same _ _ _,fun _ e=>upd_ne _ _ e⟩
theorem Rows.add2E {B:Nat} {w w':World} {f:Names} (i j:Nat×Nat) (hij:i≠j) {r' s':Row} (h:Rows B w f) (hb:Below w.heap.size w w') (ho:r'.own B w') (hn:∀ k,r'.v.ownBlock=some k→w.heap.size≤k) (ho2:s'.own B w') (hn2:∀ k,s'.v.ownBlock=some k→w.heap.size≤k)
 (hne:r'.v.ownBlock=Option.none∨r'.v.ownBlock≠s'.v.ownBlock):∃ f',Rows B w' f'∧f' i=some r'∧f' j=some s'∧∀ k,k≠i→k≠j→f' k=f k :=
 ⟨_,h.add2 hb ho hn ho2 hn2 hne hij,by rw [upd_ne _ _ hij,upd_same],upd_same _ _ _,fun k e1 e2=>by rw [upd_ne _ _ e2,upd_ne _ _ e1]⟩
theorem Rows.lose {B:Nat} {w w':World} {f:Names} {i:Nat×Nat} {r:Row} (h:Rows B w f) (hi:f i=some r) (hg:w.grownBy w' r.v.ownBlock):∃ f',Rows B w' f'∧∀ j,j≠i→f' j=f j :=
 ⟨upd f i Option.none,⟨fun j s hj=>by
   by_cases e:j=i
   ·subst e; rw [upd_same] at hj; cases hj
   ·rw [upd_ne _ _ e] at hj
    exact World.ownsRow.kept (h.1 j s hj) hg (h.2 j i s r hj hi e),(h.drop i).2⟩,fun _ e=>upd_ne _ _ e⟩
abbrev box4 (T:TypeId) (g:Nat) (cs:List Value):Row:=⟨T,4,.slice (some ⟨g,0,none⟩) 1 1,1,cs⟩
theorem Rows.box4 {B:Nat} {w:World} {f:Names} (i:Nat×Nat) (h:Rows B w f) (hB:B≤w.heap.size) (T:TypeId) (a b c d:Value) :
 ∃ f',Rows B (w.alloc (.cells #[a,b,c,d] T)) f'∧f' i=some (Go.Proofs.YtindfaehjoileaaGreatDoor.box4 T w.heap.size [a,b,c,d])∧∀ j,j≠i→f' j=f j :=
 h.addE i (r':=Go.Proofs.YtindfaehjoileaaGreatDoor.box4 T w.heap.size [a,b,c,d]) (belowAlloc w _) (World.ownsRow_lit (base:=B) (e:=T) (size:=4) w #[a,b,c,d] 1 hB (by decide) rfl) (fun k hk=>by cases hk; exact Nat.le_refl _)
structure Cells4 (w:World) (g:Nat) (a b c d:Value):Prop where
 c0:w.cell? ⟨g,0,none⟩=some a
 c1:w.cell? ⟨g,1,none⟩=some b
 c2:w.cell? ⟨g,2,none⟩=some c
 c3:w.cell? ⟨g,3,none⟩=some d
theorem Cells4.below {w w':World} {g:Nat} {a b c d:Value} (h:Cells4 w g a b c d) (hb:Below w.heap.size w w'):Cells4 w' g a b c d:=by
 have k:∀ {i x},w.cell? ⟨g,i,none⟩=some x→w'.cell? ⟨g,i,none⟩=some x:=fun {i x} hc=>by
  rw [hb.cell (World.block_lt_of_cell? _ _ hc)]; exact hc
 exact ⟨k h.c0,k h.c1,k h.c2,k h.c3⟩
theorem Cells4.belowB {B:Nat} {w w':World} {g:Nat} {a b c d:Value} (h:Cells4 w g a b c d) (hb:Below B w w') (hg:g<B):Cells4 w' g a b c d:=by
 have k:∀ {i x},w.cell? ⟨g,i,none⟩=some x→w'.cell? ⟨g,i,none⟩=some x:=fun {i x} hc=>by
  rw [hb.cell hg]; exact hc
 exact ⟨k h.c0,k h.c1,k h.c2,k h.c3⟩
theorem Cells4.alloc (w:World) (T:TypeId) (a b c d:Value):Cells4 (w.alloc (.cells #[a,b,c,d] T)) w.heap.size a b c d:=by
 refine ⟨?_,?_,?_,?_⟩<;>simp [go_sem]
theorem Rows.cells4 {B:Nat} {w:World} {f:Names} {i:Nat×Nat} {T:TypeId} {g:Nat} {a b c d:Value} (h:Rows B w f) (hi:f i=some (Go.Proofs.YtindfaehjoileaaGreatDoor.box4 T g [a,b,c,d])):Cells4 w g a b c d :=
 ⟨h.cell hi (g:=g) (cap:=1) rfl 0 (show 0<1*4 by decide),h.cell hi (g:=g) (cap:=1) rfl 1 (show 1<1*4 by decide),h.cell hi (g:=g) (cap:=1) rfl 2 (show 2<1*4 by decide),h.cell hi (g:=g) (cap:=1) rfl 3 (show 3<1*4 by decide)⟩
theorem Rows.frz4 {B:Nat} {w:World} {f:Names} {i:Nat×Nat} {T:TypeId} {g:Nat} {cs:List Value} (h:Rows B w f) (hi:f i=some (Go.Proofs.YtindfaehjoileaaGreatDoor.box4 T g cs)) (k:Nat):w.frozen? ⟨g,k,none⟩=false :=
 h.frozen hi (g:=g) (cap:=1) rfl k
theorem Rows.low4 {B:Nat} {w:World} {f:Names} {i:Nat×Nat} {T:TypeId} {g:Nat} {cs:List Value} (h:Rows B w f) (hi:f i=some (Go.Proofs.YtindfaehjoileaaGreatDoor.box4 T g cs)):B≤g∧g<w.heap.size :=
 h.lt hi g rfl
theorem Rows.st4 {B:Nat} {w:World} {f:Names} {i:Nat×Nat} {T:TypeId} {g:Nat} {cs:List Value} (h:Rows B w f) (hi:f i=some (Go.Proofs.YtindfaehjoileaaGreatDoor.box4 T g cs)) (k:Nat) (y:Value) :
 ∃ f',Rows B (w.setCell ⟨g,k,none⟩ y) f'∧f' i=some (Go.Proofs.YtindfaehjoileaaGreatDoor.box4 T g (cs.set k y))∧∀ j,j≠i→f' j=f j :=
 ⟨_,h.set hi (g:=g) (cap:=1) rfl k y,upd_same _ _ _,fun _ e=>upd_ne _ _ e⟩
theorem Rows.all4 {B:Nat} {w:World} {f:Names} {i:Nat×Nat} {T:TypeId} {g:Nat} {x0 x1 x2 x3:Value} (h:Rows B w f) (hi:f i=some (Go.Proofs.YtindfaehjoileaaGreatDoor.box4 T g [x0,x1,x2,x3])) (a b c d:Value) :
 ∃ f',Rows B ((((w.setCell ⟨g,0,none⟩ a).setCell ⟨g,1,none⟩ b).setCell ⟨g,2,none⟩ c).setCell ⟨g,3,none⟩ d) f'∧f' i=some (Go.Proofs.YtindfaehjoileaaGreatDoor.box4 T g [a,b,c,d])∧∀ j,j≠i→f' j=f j:=by
 obtain ⟨f1,h1,i1,o1⟩:=h.st4 hi 0 a
 obtain ⟨f2,h2,i2,o2⟩:=h1.st4 i1 1 b
 obtain ⟨f3,h3,i3,o3⟩:=h2.st4 i2 2 c
 obtain ⟨f4,h4,i4,o4⟩:=h3.st4 i3 3 d
 exact ⟨f4,h4,i4,fun j e=>by rw [o4 j e,o3 j e,o2 j e,o1 j e]⟩
theorem Below.all4 {B g:Nat} {w0 w:World} (h:Below B w0 w) (hb:B≤g) (a b c d:Value):Below B w0 ((((w.setCell ⟨g,0,none⟩ a).setCell ⟨g,1,none⟩ b).setCell ⟨g,2,none⟩ c).setCell ⟨g,3,none⟩ d) :=
 (((h.setCell (show B≤(⟨g,0,Option.none⟩:Addr).block from hb) _).setCell (show B≤(⟨g,1,Option.none⟩:Addr).block from hb) _).setCell (show B≤(⟨g,2,Option.none⟩:Addr).block from hb) _).setCell (show B≤(⟨g,3,Option.none⟩:Addr).block from hb) _
theorem Rows.merge {B:Nat} {w w':World} {f g:Names} (p:Nat×Nat→Bool) (h:Rows B w f) (hb:Below w.heap.size w w') (hg:Rows w.heap.size w' g) (hB:B≤w.heap.size):∃ f',Rows B w' f'∧(∀ i,p i=true→f' i=g i)∧∀ i,p i=false→f' i=f i:=by
 have hf:=h.below hb
 refine ⟨fun i=>if p i=true then g i else f i,⟨fun i r hi=>?_,fun i j r s hi hj hne=>?_⟩,fun i hi=>by simp [hi],fun i hi=>by simp [hi]⟩
 ·dsimp only at hi
  split at hi
  ·have ho:=hg.1 i r hi
   refine ⟨ho.1,?_⟩
   rcases ho.2 with h2 | ⟨b,cap,cur,e,hB',rest⟩
   ·exact .inl h2
   ·exact .inr ⟨b,cap,cur,e,Nat.le_trans hB hB',rest⟩
  ·exact hf.1 i r hi
 ·dsimp only at hi hj
  have far:∀ (k l:Nat×Nat) (r s:Row),f k=some r→g l=some s→r.v.ownBlock=Option.none∨r.v.ownBlock≠s.v.ownBlock:=fun k l r s hk hl=>by
   cases hr:r.v.ownBlock with
   | none=>exact .inl rfl
   | some m =>
    right
    intro e
    have h1:=(h.lt hk m hr).2
    have h2:=(hg.lt hl m e.symm).1
    omega
  split at hi
  ·split at hj
   ·exact hg.2 i j r s hi hj hne
   ·rcases far j i s r hj hi with e | e
    ·cases hr:r.v.ownBlock with
     | none=>exact .inl rfl
     | some m=>right; rw [e]; simp
    ·exact .inr (Ne.symm e)
  ·split at hj
   ·exact far i j r s hi hj
   ·exact hf.2 i j r s hi hj hne
theorem ErrIs.all4 {r:Nat→Addr} {w:World} {t:PErr} {v:Value} {g:Nat} {n:Int} {b c d:Value} (h:ErrIs r w t v) (hc:Cells4 w g (.int .i64 n) b c d) (x y z:Value) :
 ErrIs r ((((w.setCell ⟨g,0,none⟩ (.int .i64 0)).setCell ⟨g,1,none⟩ x).setCell ⟨g,2,none⟩ y).setCell ⟨g,3,none⟩ z) t v:=by
 have k1:(w.setCell ⟨g,0,none⟩ (.int .i64 0)).cell? ⟨g,0,none⟩=some (.int .i64 0):=World.cell?_setCell_same _ _ _ hc.c0
 have k2:((w.setCell ⟨g,0,none⟩ (.int .i64 0)).setCell ⟨g,1,none⟩ x).cell? ⟨g,0,none⟩=some (.int .i64 0):=by
  rw [World.cell?_setCell_other _ _ _ _ (by intro e; cases e)]; exact k1
 have k3:(((w.setCell ⟨g,0,none⟩ (.int .i64 0)).setCell ⟨g,1,none⟩ x).setCell ⟨g,2,none⟩ y).cell? ⟨g,0,none⟩=some (.int .i64 0):=by
  rw [World.cell?_setCell_other _ _ _ _ (by intro e; cases e)]; exact k2
 exact (((h.set (b:=g) (i:=0) (fun s e=>by rw [hc.c0] at e; cases e) _).set (b:=g) (i:=1) (fun s e=>by rw [k1] at e; cases e) _).set (b:=g) (i:=2) (fun s e=>by rw [k2] at e; cases e) _).set (b:=g) (i:=3) (fun s e=>by rw [k3] at e; cases e) _
def GrewIn (v:Value) (w w':World):Prop:=∃ row,w.grownBy w' row∧∀ k,row=some k→v.ownBlock=some k
def ElseSame (f f':Names) (i:Nat×Nat):Prop:=∀ j,j≠i→f' j=f j
theorem wpl_appR {T E:TypeId} {z:Value} {b:Nat} (oc:OneCell T E z b) {w:World} {ops:Array Oper} {rest:List Oper} {o:Oper} {a:Act} {Q:Exit→Act→World→Prop} (hgd:o.guard=none) (s x:Operand)
 (ho:o.op=.call { callee:=.builtin .append,args:=#[s,x],argTypes:=#[T,T] })
 {B:Nat} {f:Names} (hR:Rows B w f) (i:Nat×Nat) (v:Value) (xs:List Value) (hi:f i=some (rowV E v xs)) (y:Value) (hy:y.oneCell'=true) (hs:a.eval s=v) (hx:a.eval x=.slice (some ⟨w.heap.size,0,none⟩) 1 1)
 (hlen:xs.length<4398046511104) (hB:B≤w.heap.size)
 (h:∀ v' w' f',Rows B w' f'→f' i=some (rowV E v' (xs++[y]))→ElseSame f f' i→Below B w w'→GrewIn v w w'→wpList Tryz.prog ops Q rest (a.put o.dst v') w') :
 wpList Tryz.prog ops Q (o::rest) a (w.alloc (.cells #[y] E)):=by
 have hown:=hR.ownV hi
 refine wpList_plain hgd fun K hK=>?_
 have hA:Rows B (w.alloc (.cells #[y] E)) f:=hR.below (belowAlloc w _)
 obtain ⟨v',w',hr,h2,h3⟩:=run_app oc (w.alloc (.cells #[y] E)) B o.type v _ (hown.alloc _) ⟨w.heap.size,0,none⟩ 1 [y] (by simp) (cell_one_new _ _ _) (by simp [hy]) (by simp; omega) (by simp; omega)
 unfold Oper.wp execOp
 simp only [ho,resolve,invoke,builtin,Sem.run_bind,Sem.run_pure,Result.andThen_ok,List.map_toArray,List.map_cons,List.map_nil,hs,hx]
 rw [show ([y]:List Value).length=1 from rfl] at hr
 rw [hr]
 have hal:∀ row,w.grownBy (w.alloc (.cells #[y] E)) row:=fun row=>World.grownBy_alloc w _ row
 obtain ⟨a1,n1,q1,e1⟩:=h2.shape
 obtain ⟨a2,n2,q2,e2⟩:=hown.shape
 rcases h3 with ⟨hroom,hg⟩ | ⟨hk,hg⟩
 ·have hob:=ownBlock_of_room e2 e1 hroom
  have hR':=hA.grown (r':=rowV E v' (xs++[y])) hi hg h2 (.inl hob)
  exact hK _ _ (h v' w' _ hR' (upd_same _ _ _) (fun j e=>upd_ne _ _ e) ((Below.refl _ _).grown ((hal v.ownBlock).trans hg) hB (fun k hk=>(hown.lt k hk).1)) ⟨v.ownBlock,(hal _).trans hg,fun _ hk=>hk⟩)
 ·have hR':=hA.grown (r':=rowV E v' (xs++[y])) hi (grown_any hg _) h2 (.inr ⟨_,hk,Nat.le_refl _⟩)
  exact hK _ _ (h v' w' _ hR' (upd_same _ _ _) (fun j e=>upd_ne _ _ e) ((Below.refl _ _).grown ((hal none).trans hg) hB (by intro k hk; cases hk)) ⟨none,(hal none).trans hg,fun k hk=>by cases hk⟩)
abbrev box3 (T:TypeId) (g:Nat) (cs:List Value):Row:=⟨T,3,.slice (some ⟨g,0,none⟩) 1 1,1,cs⟩
structure BagAt (B:Nat) (w:World) (f:Names) (g b n:Nat) (sets:List (List Bool)) (sv:Value) (svs:List Value):Prop where
 box:f (20,0)=some (box3 398 g [.int .i64 n,sv,.map (some b)])
 out:f (21,0)=some (rowV 306 sv svs)
 len:svs.length=sets.length
 each:∀ i,i<sets.length→f (22,i)=some (rowV 97 (svs.getD i .nilIface) (wordsV (wordsB (sets.getD i []))))
 all:∀ x∈sets,x.length=n
 map:BagMap w b n sets
 blk:B≤b
section
variable {B:Nat} {w:World} {f:Names} {g b n:Nat} {sets:List (List Bool)} {sv:Value} {svs:List Value}
theorem BagAt.cells (h:BagAt B w f g b n sets sv svs) (hR:Rows B w f):w.cell? ⟨g,0,none⟩=some (.int .i64 n)∧w.cell? ⟨g,1,none⟩=some sv∧w.cell? ⟨g,2,none⟩=some (.map (some b)) :=
 ⟨hR.cell h.box (g:=g) (cap:=1) rfl 0 (show 0<1*3 by decide),hR.cell h.box (g:=g) (cap:=1) rfl 1 (show 1<1*3 by decide),hR.cell h.box (g:=g) (cap:=1) rfl 2 (show 2<1*3 by decide)⟩
theorem BagAt.frz (h:BagAt B w f g b n sets sv svs) (hR:Rows B w f) (k:Nat):w.frozen? ⟨g,k,none⟩=false:=hR.frozen h.box (g:=g) (cap:=1) rfl k
theorem BagAt.low (h:BagAt B w f g b n sets sv svs) (hR:Rows B w f):B≤g∧g<w.heap.size:=hR.lt h.box g rfl
theorem BagAt.outer (h:BagAt B w f g b n sets sv svs) (hR:Rows B w f):ValsAt w sv svs:=(hR.ownV h.out).at
theorem BagAt.set (h:BagAt B w f g b n sets sv svs) (hR:Rows B w f) {i:Nat} (hi:i<sets.length):ValsAt w (svs.getD i .nilIface) (wordsV (wordsB (sets.getD i []))):=(hR.ownV (h.each i hi)).at
theorem BagAt.below {w':World} (h:BagAt B w f g b n sets sv svs) (hb:Below w.heap.size w w'):BagAt B w' f g b n sets sv svs :=
 ⟨h.box,h.out,h.len,h.each,h.all,h.map.below hb,h.blk⟩
theorem BagAt.congr {f':Names} (h:BagAt B w f g b n sets sv svs) (e:∀ i,(i.1=20∨i.1=21∨i.1=22)→f' i=f i):BagAt B w f' g b n sets sv svs :=
 ⟨(e _ (.inl rfl)).trans h.box,(e _ (.inr (.inl rfl))).trans h.out,h.len,fun i hi=>(e _ (.inr (.inr rfl))).trans (h.each i hi),h.all,h.map,h.blk⟩
end
set_option maxHeartbeats 8000000
def sBag:ByteArray:=⟨#[98,97,103]⟩
theorem bag_wrong (r:Nat→Addr) (at_ n:Int) (w:World) (hg:Glob r w) (h1:1≤n) (h2:n≤11) :
 Calls Tryz.prog 330 #[.int .i64 at_,.int .i64 n] w (Ret1 (fun v w'=>ErrIs r w' (fresh sBag at_ n) v) w):=by
 go_enter Tryz.func330,Tryz.ntmps330
 go_wp2_with fail
 refine (new_any r _ at_ n w hg h1 h2).mono ?_
 rintro e w' ⟨v,rfl,hb,he⟩
 go_wp2
 go_ret
 exact ⟨_,rfl,hb,he⟩
theorem wordsB_small {y:List Bool} {n:Nat} (hy:y.length=n) (h1:1≤n) (hn:n≤4096):1≤(wordsB y).length∧(wordsB y).length≤64:=by
 rw [wordsB_len]; omega
theorem put_old {B:Nat} {f:Names} {g b n:Nat} {sets:List (List Bool)} {sv:Value} {svs:List Value} {w:World} (hR:Rows B w f) (hb:BagAt B w f g b n sets sv svs) (v:Value) (y:List Bool) (hv:ValsAt w v (wordsV (wordsB y))) (hy:y.length=n) (hm:y∈sets) (h1:1≤n) (hn:n≤4096) :
 Calls Tryz.prog 332 #[.pointer (some ⟨g,0,none⟩),v] w (Ret3 (fun x d e _=>x=.int .i64 (sets.idxOf y:Nat)∧d=.bool false∧e=.nilIface) w):=by
 obtain ⟨z0,z1,z2⟩:=hb.cells hR
 obtain ⟨k1,k2⟩:=wordsB_small hy h1 hn
 have key:=bag_key v (wordsB y) w hv k1 k2 (wordsB_lt y)
 have hgl:=(hb.low hR).2
 have hmap:=hb.map
 replace hb:=Hd hb
 replace hR:=Hd hR
 replace hv:=Hd hv
 go_enter Tryz.func332,Tryz.ntmps332
 go_wp2_with fail
 refine key.mono ?_
 rintro e w1 ⟨_,rfl,b1,rfl⟩
 have y2:w1.cell? ⟨g,2,none⟩=some (.map (some b)):=by rw [b1.cell hgl]; exact z2
 have hit:=(hmap.below b1).hit hm hy hn
 go_wp2
 go_ret3
 exact ⟨_,_,_,rfl,b1,rfl,rfl,rfl⟩
theorem put_big (r:Nat→Addr) {B:Nat} {f:Names} {g b n:Nat} {sets:List (List Bool)} {sv:Value} {svs:List Value} {w:World} (hg:Glob r w) (hR:Rows B w f) (hb:BagAt B w f g b n sets sv svs) (v:Value) (y:List Bool) (hv:ValsAt w v (wordsV (wordsB y))) (hy:y.length=n) (hm:y∉sets) (h1:1≤n) (hn:n≤4096) (h4:sets.length=4096) :
 Calls Tryz.prog 332 #[.pointer (some ⟨g,0,none⟩),v] w (Ret3 (fun x d e w'=>x=.int .i64 0∧d=.bool false∧ErrIs r w' (fresh sBag 0 4) e) w):=by
 obtain ⟨z0,z1,z2⟩:=hb.cells hR
 obtain ⟨k1,k2⟩:=wordsB_small hy h1 hn
 have key:=bag_key v (wordsB y) w hv k1 k2 (wordsB_lt y)
 have hgl:=(hb.low hR).2
 have hmap:=hb.map
 have ho:=hb.outer hR
 have l1:=ho.len oneSets
 have hl4:svs.length=4096:=by rw [hb.len,h4]
 rw [hl4] at l1
 obtain ⟨va,vn,vc,rfl⟩:∃ a n c,sv=.slice a n c:=(by obtain ⟨a,c,e,_⟩:=ho; exact ⟨a,_,c,e⟩)
 replace ho:=Hd ho
 replace hb:=Hd hb
 replace hR:=Hd hR
 replace hv:=Hd hv
 replace hg:=Hd hg
 go_enter Tryz.func332,Tryz.ntmps332
 go_wp2_with fail
 refine key.mono ?_
 rintro e w1 ⟨_,rfl,b1,rfl⟩
 have y1:w1.cell? ⟨g,1,none⟩=some (.slice va vn vc):=by rw [b1.cell hgl]; exact z1
 have y2:w1.cell? ⟨g,2,none⟩=some (.map (some b)):=by rw [b1.cell hgl]; exact z2
 obtain ⟨u,miss⟩:=(hmap.below b1).miss hm hy hn
 have hg1:=Hd (hg.out.below b1)
 go_wp2_with fail
 refine (bag_wrong r 0 4 _ hg1.out (by decide) (by decide)).mono ?_
 rintro e w2 ⟨x,rfl,b2,he⟩
 have b12:=Below.step b1 b2
 obtain ⟨T,a,rfl⟩:=ErrIs.some_shape he
 replace he:=Hd he
 go_wp2
 go_ret3
 exact ⟨_,_,_,rfl,b12,rfl,rfl,he.out⟩
theorem Rows.not_map {B:Nat} {w:World} {f:Names} {i:Nat×Nat} {r:Row} {b:Nat} {es:Array MapEntry} {c:Nat} (h:Rows B w f) (hi:f i=some r) (hb:w.heap[b]?=some (.map es c)):r.v.ownBlock≠some b:=by
 have ho:=h.1 i r hi
 rcases ho.2 with ⟨e,_⟩ | ⟨g,cap,cur,e,_,hh,_⟩
 ·rw [e]; intro q; cases q
 ·rw [e]; intro q
  have:g=b:=by injection q
  subst this; rw [hh] at hb; cases hb
theorem BagAt.more {B:Nat} {w w':World} {f f3:Names} {g b n:Nat} {sets:List (List Bool)} {sv sv' v:Value} {svs:List Value} {y:List Bool} (h:BagAt B w f g b n sets sv svs) (hR:Rows B w' f3) (e20:f3 (20,0)=some (box3 398 g [.int .i64 n,sv',.map (some b)])) (e21:f3 (21,0)=some (rowV 306 sv' (svs++[v])))
 (e22:∀ i,f3 (22,i)=f (22,i)) (e23:f3 (23,0)=some (rowV 97 v (wordsV (wordsB y)))) (hy:y.length=n) (hm:BagMap w' b n (sets++[y])) :
 ∃ f',Rows B w' f'∧BagAt B w' f' g b n (sets++[y]) sv' (svs++[v])∧∀ j:Nat×Nat,j.1≠22→j.1≠23→f' j=f3 j:=by
 have hown:=hR.1 _ _ e23
 have hmv:=hR.move (j:=(22,sets.length)) e23 hown rfl
 have ll:=h.len
 refine ⟨_,hmv,⟨?_,?_,by simp [ll],fun i hi=>?_,fun x hx=>?_,hm,h.blk⟩,fun j h1 h2=>?_⟩
 ·rw [upd_ne _ _ (by intro e; cases e),upd_ne _ _ (by intro e; cases e)]; exact e20
 ·rw [upd_ne _ _ (by intro e; cases e),upd_ne _ _ (by intro e; cases e)]; exact e21
 ·rw [List.length_append,List.length_singleton] at hi
  by_cases c:i=sets.length
  ·subst c
   have a1:(svs++[v]).getD sets.length .nilIface=v:=by rw [← ll]; simp [List.getD]
   have a2:(sets++[y]).getD sets.length []=y:=by simp [List.getD]
   rw [upd_same,a1,a2]
  ·have hi2:i<sets.length:=by omega
   have a1:(svs++[v]).getD i .nilIface=svs.getD i .nilIface:=by simp [List.getD,List.getElem?_append_left (show i<svs.length by omega)]
   have a2:(sets++[y]).getD i []=sets.getD i []:=by simp [List.getD,List.getElem?_append_left hi2]
   rw [upd_ne _ _ (by intro e; injection e with _ e; exact c e),upd_ne _ _ (by intro e; cases e),a1,a2,e22]
   exact h.each i hi2
 ·rcases List.mem_append.1 hx with hx | hx
  ·exact h.all x hx
  ·rw [List.mem_singleton] at hx; rw [hx]; exact hy
 ·rw [upd_ne _ _ (by intro e; exact h1 (by rw [e])),upd_ne _ _ (by intro e; exact h2 (by rw [e]))]
def PutPost (B:Nat) (f:Names) (g b n:Nat) (sets:List (List Bool)) (svs:List Value) (v:Value) (y:List Bool) (m:Nat) (w:World) (e:Ending) (w':World):Prop :=
 e=.returned (.tuple #[.int .i64 (m:Nat),.bool true,.nilIface])∧Below B w w'∧∃ f' sv',Rows B w' f'∧BagAt B w' f' g b n (sets++[y]) sv' (svs++[v])∧∀ j:Nat×Nat,j.1≠20→j.1≠21→j.1≠22→j.1≠23→f' j=f j
theorem put_new {B:Nat} {f:Names} {g b n:Nat} {sets:List (List Bool)} {sv:Value} {svs:List Value} {w:World} (hR:Rows B w f) (hb:BagAt B w f g b n sets sv svs) (v:Value) (y:List Bool) (hi:f (23,0)=some (rowV 97 v (wordsV (wordsB y)))) (hy:y.length=n) (hm:y∉sets) (h1:1≤n) (hn:n≤4096) (h4:sets.length<4096) :
 Calls Tryz.prog 332 #[.pointer (some ⟨g,0,none⟩),v] w (PutPost B f g b n sets svs v y sets.length w):=by
 obtain ⟨z0,z1,z2⟩:=hb.cells hR
 obtain ⟨k1,k2⟩:=wordsB_small hy h1 hn
 have hv:=(hR.ownV hi).at
 obtain ⟨ua,un,uc,rfl⟩:=(hR.ownV hi).shape
 have key:=bag_key _ (wordsB y) w hv k1 k2 (wordsB_lt y)
 obtain ⟨hgB,hgl⟩:=hb.low hR
 have hmap:=hb.map
 have ho:=hb.outer hR
 have hlen:=hb.len
 have l1:=ho.len oneSets
 obtain ⟨va,vn,vc,rfl⟩:=(hR.ownV hb.out).shape
 replace ho:=Hd ho
 replace hb:=Hd hb
 replace hR:=Hd hR
 replace hv:=Hd hv
 obtain ⟨m,hm0⟩:∃ m,sets.length=m:=⟨_,rfl⟩
 rw [hm0] at hlen h4 ⊢
 rw [hlen] at l1
 have d4:decide ((m:Int)=4096)=false:=decide_eq_false (by omega)
 go_enter Tryz.func332,Tryz.ntmps332
 go_wp2_with fail
 refine key.mono ?_
 rintro e w1 ⟨_,rfl,b1,rfl⟩
 have y1:w1.cell? ⟨g,1,none⟩=some (.slice va vn vc):=by rw [b1.cell hgl]; exact z1
 have y2:w1.cell? ⟨g,2,none⟩=some (.map (some b)):=by rw [b1.cell hgl]; exact z2
 have hmap1:=hmap.below b1
 obtain ⟨u,miss⟩:=hmap1.miss hm hy hn
 have hR1:=hR.out.below b1
 obtain ⟨w2,hst,hmap2,g2⟩:=hmap1.store hm hy hn hb.out.all (by omega)
 rw [hm0] at hst
 obtain ⟨es,cl,hblk⟩:=hmap1.blk
 have hR2:=hR1.mapB hblk g2
 have B2:Below B w1 w2:=(Below.refl _ _).grown g2 (Nat.le_trans (Nat.le_of_lt (Nat.lt_of_le_of_lt hgB hgl)) b1.size) (by intro k hk; injection hk with hk; subst hk; exact hb.out.blk)
 have x0:w2.cell? ⟨g,0,none⟩=some (.int .i64 n):=hR2.cell hb.out.box (g:=g) (cap:=1) rfl 0 (show 0<1*3 by decide)
 have x1:w2.cell? ⟨g,1,none⟩=some (.slice va vn vc):=hR2.cell hb.out.box (g:=g) (cap:=1) rfl 1 (show 1<1*3 by decide)
 have x2:w2.cell? ⟨g,2,none⟩=some (.map (some b)):=hR2.cell hb.out.box (g:=g) (cap:=1) rfl 2 (show 2<1*3 by decide)
 have hB2s:B≤w2.heap.size:=Nat.le_trans (Nat.le_of_lt (Nat.lt_of_le_of_lt hgB hgl)) (Nat.le_trans b1.size B2.size)
 obtain ⟨es2,cl2,hblk2⟩:=hmap2.blk
 have hsl:svs.length<4398046511104:=by omega
 have b12:Below B w w2:=(b1.mono (Nat.le_of_lt (Nat.lt_of_le_of_lt hgB hgl))).trans B2
 replace hmap2:=Hd hmap2
 replace hblk2:=Hd hblk2
 replace hblk:=Hd hblk
 replace b12:=Hd b12
 replace hi:=Hd hi
 clear hmap hmap1 hR1 B2 key
 go_wp2_with (at_builtin; go_loud (refine wpl_appR oneSets rfl _ _ rfl hR2 (21,0) (.slice va vn vc) svs hb.out.out (.slice ua un uc) rfl rfl rfl hsl hB2s ?_))
 intro v' w3 f3 hR3 i3 o3 B3 hgr
 obtain ⟨row,g3,hrow⟩:=hgr
 obtain ⟨xa,xn,xc,rfl⟩:=(hR3.ownV i3).shape
 have hmap3:=hmap2.out.kept g3 (fun e=>hR2.not_map hb.out.out hblk2.out (hrow b e.symm))
 have e20:f3 (20,0)=some (box3 398 g [.int .i64 n,.slice va vn vc,.map (some b)]):=(o3 _ (by intro e; cases e)).trans hb.out.box
 have t1:w3.cell? ⟨g,1,none⟩=some (.slice va vn vc):=hR3.cell e20 (g:=g) (cap:=1) rfl 1 (show 1<1*3 by decide)
 have t2:=hR3.frozen e20 (g:=g) (cap:=1) rfl 1
 obtain ⟨es3,cl3,hblk3⟩:=hmap3.blk
 have hR4:=hR3.set e20 (g:=g) (cap:=1) rfl 1 (.slice xa xn xc)
 have g4:w3.grownBy (w3.setCell ⟨g,1,none⟩ (.slice xa xn xc)) (some g):=(World.ownsRow.stored (hR3.1 _ _ e20) 1 (.slice xa xn xc)).2
 have hmap4:=hmap3.kept g4 (fun e=>hR3.not_map e20 hblk3 (by injection e with e; rw [e]; rfl))
 have hfin:=hb.out.more hR4 (sv':=.slice xa xn xc) (v:=.slice ua un uc) (y:=y) (by rw [upd_same]; rfl) (by rw [upd_ne _ _ (by intro e; cases e)]; exact i3) (fun i=>by rw [upd_ne _ _ (by intro e; cases e)]; exact o3 _ (by intro e; cases e)) (by rw [upd_ne _ _ (by intro e; cases e),o3 _ (by intro e; cases e)]; exact hi.out) hy hmap4
 have bfin:=b12.out.trans (B3.setCell (show B≤(⟨g,1,none⟩:Addr).block from hgB) (.slice xa xn xc))
 obtain ⟨f5,hR5,hb5,o5⟩:=hfin
 have o6:∀ j:Nat×Nat,j.1≠20→j.1≠21→j.1≠22→j.1≠23→f5 j=f j:=fun j h20 h21 h22 h23=>by
  rw [o5 j h22 h23,upd_ne _ _ (by intro e; exact h20 (by rw [e])),o3 j (by intro e; exact h21 (by rw [e]))]
 replace hb5:=Hd hb5
 replace hR5:=Hd hR5
 replace bfin:=Hd bfin
 clear hR4 hmap3 hmap4 hblk3 hR3 hR2 B3 g3 g4 i3 o3
 go_wp2
 go_ret3
 exact ⟨rfl,bfin.out,f5,_,hR5.out,hb5.out,o6⟩
theorem bag_Put_old {B:Nat} {f:Names} {g b n:Nat} {sets:List (List Bool)} {sv:Value} {svs:List Value} {w:World} (hR:Rows B w f) (hb:BagAt B w f g b n sets sv svs) (v:Value) (xs:List Nat) (h:IntsAt w v (natI xs)) (hx:∀ x∈xs,x<n) (hxl:xs.length≤100000) (hm:setOf n xs∈sets) (h1:1≤n) (hn:n≤4096) :
 Calls Tryz.prog 260 #[.pointer (some ⟨g,0,none⟩),v] w (Ret3 (fun x d e _=>x=.int .i64 (sets.idxOf (setOf n xs):Nat)∧d=.bool false∧e=.nilIface) w):=by
 obtain ⟨z0,z1,z2⟩:=hb.cells hR
 have hbits:=bag_bits n g v xs w z0 h hx hxl h1 hn
 obtain ⟨va,vn,vc,rfl⟩:=h.shape
 replace hb:=Hd hb
 replace hR:=Hd hR
 replace h:=Hd h
 go_enter Tryz.func260,Tryz.ntmps260
 go_wp2_with fail
 refine hbits.mono ?_
 rintro e w1 ⟨x,_,rfl,b1,rfl,ho⟩
 have hput:=put_old (hR.out.below b1) (hb.out.below b1) x (setOf n xs) ho.at (setOf_len _ _) hm h1 hn
 obtain ⟨xa,xn,xc,rfl⟩:=ho.shape
 replace ho:=Hd ho
 go_wp2_with fail
 refine hput.mono ?_
 rintro e w2 ⟨_,_,_,rfl,b2,rfl,rfl,rfl⟩
 have b12:=Below.step b1 b2
 go_wp2
 go_ret3
 exact ⟨_,_,_,rfl,b12,rfl,rfl,rfl⟩
theorem bag_Put_big (r:Nat→Addr) {B:Nat} {f:Names} {g b n:Nat} {sets:List (List Bool)} {sv:Value} {svs:List Value} {w:World} (hg:Glob r w) (hR:Rows B w f) (hb:BagAt B w f g b n sets sv svs) (v:Value) (xs:List Nat) (h:IntsAt w v (natI xs)) (hx:∀ x∈xs,x<n) (hxl:xs.length≤100000) (hm:setOf n xs∉sets) (h1:1≤n) (hn:n≤4096) (h4:sets.length=4096) :
 Calls Tryz.prog 260 #[.pointer (some ⟨g,0,none⟩),v] w (Ret3 (fun x d e w'=>x=.int .i64 0∧d=.bool false∧ErrIs r w' (fresh sBag 0 4) e) w):=by
 obtain ⟨z0,z1,z2⟩:=hb.cells hR
 have hbits:=bag_bits n g v xs w z0 h hx hxl h1 hn
 obtain ⟨va,vn,vc,rfl⟩:=h.shape
 replace hb:=Hd hb
 replace hR:=Hd hR
 replace h:=Hd h
 replace hg:=Hd hg
 go_enter Tryz.func260,Tryz.ntmps260
 go_wp2_with fail
 refine hbits.mono ?_
 rintro e w1 ⟨x,_,rfl,b1,rfl,ho⟩
 have hput:=put_big r (hg.out.below b1) (hR.out.below b1) (hb.out.below b1) x (setOf n xs) ho.at (setOf_len _ _) hm h1 hn h4
 obtain ⟨xa,xn,xc,rfl⟩:=ho.shape
 replace ho:=Hd ho
 go_wp2_with fail
 refine hput.mono ?_
 rintro e w2 ⟨_,_,_,rfl,b2,rfl,rfl,he⟩
 have b12:=Below.step b1 b2
 obtain ⟨T,a,rfl⟩:=ErrIs.some_shape he
 replace he:=Hd he
 go_wp2
 go_ret3
 exact ⟨_,_,_,rfl,b12,rfl,rfl,he.out⟩
theorem bag_Put_new {B:Nat} {f:Names} {g b n:Nat} {sets:List (List Bool)} {sv:Value} {svs:List Value} {w:World} (hR:Rows B w f) (hb:BagAt B w f g b n sets sv svs) (v:Value) (xs:List Nat) (h:IntsAt w v (natI xs)) (hx:∀ x∈xs,x<n) (hxl:xs.length≤100000) (hm:setOf n xs∉sets) (h1:1≤n) (hn:n≤4096) (h4:sets.length<4096) :
 Calls Tryz.prog 260 #[.pointer (some ⟨g,0,none⟩),v] w (fun e w'=>∃ u,PutPost B f g b n sets svs u (setOf n xs) sets.length w e w'):=by
 obtain ⟨z0,z1,z2⟩:=hb.cells hR
 have hgB:=(hb.low hR)
 have hbits:=bag_bits n g v xs w z0 h hx hxl h1 hn
 obtain ⟨va,vn,vc,rfl⟩:=h.shape
 replace hb:=Hd hb
 replace hR:=Hd hR
 replace h:=Hd h
 go_enter Tryz.func260,Tryz.ntmps260
 go_wp2_with fail
 refine hbits.mono ?_
 rintro e w1 ⟨x,_,rfl,b1,rfl,ho⟩
 have hBw:B≤w.heap.size:=by omega
 have hR1:=hR.out.add (i:=(23,0)) (r':=rowV 97 x (wordsV (wordsB (setOf n xs)))) b1 (ho.mono hBw) (fun k hk=>(ho.lt k hk).1)
 have hb1:=(hb.out.below b1).congr (f':=upd f (23,0) (some (rowV 97 x (wordsV (wordsB (setOf n xs)))))) (fun i hi=>upd_ne _ _ (by intro e; subst e; rcases hi with q | q | q<;>cases q))
 have hput:=put_new hR1 hb1 x (setOf n xs) (upd_same _ _ _) (setOf_len _ _) hm h1 hn h4
 obtain ⟨xa,xn,xc,rfl⟩:=ho.shape
 replace ho:=Hd ho
 replace hR1:=Hd hR1
 replace hb1:=Hd hb1
 go_wp2_with fail
 refine hput.mono ?_
 rintro e w2 ⟨rfl,b2,f2,sv2,hR2,hb2,o2⟩
 have hfin:PutPost B f g b n sets svs (.slice xa xn xc) (setOf n xs) sets.length w (.returned (.tuple #[.int .i64 (sets.length:Nat),.bool true,.nilIface])) w2 :=
  ⟨rfl,(b1.mono hBw).trans b2,f2,sv2,hR2,hb2,fun j a1 a2 a3 a4=>by rw [o2 j a1 a2 a3 a4,upd_ne _ _ (by intro e; exact a4 (by rw [e]))]⟩
 replace hfin:=Hd hfin
 clear hR2 hb2 o2
 go_wp2
 go_ret3
 exact ⟨_,hfin.out⟩
end Go.Proofs.YtindfaehjoileaaGreatDoor
namespace Go.Proofs.YtindfaehjoileaaGreatDoor
open Go.RowKit
set_option maxRecDepth 100000
theorem bag_Len (g:Nat) (sv:Value) (svs:List Value) (w:World) (c1:w.cell? ⟨g,1,none⟩=some sv) (h:ValsAt w sv svs) :
 Calls Tryz.prog 261 #[.pointer (some ⟨g,0,none⟩)] w fun e w'=>e=.returned (.int .i64 (svs.length:Nat))∧w=w':=by
 have l1:=h.len oneSets
 obtain ⟨va,vn,vc,rfl⟩:∃ a n c,sv=.slice a n c:=(by obtain ⟨a,c,e,_⟩:=h; exact ⟨a,_,c,e⟩)
 replace h:=Hd h
 go_enter Tryz.func261,Tryz.ntmps261
 go_wp2
 go_ret
 exact ⟨rfl,rfl⟩
def NewPost (B:Nat) (f:Names) (n:Nat) (w:World) (e:Ending) (w':World):Prop :=
 ∃ g,e=.returned (.tuple #[.pointer (some ⟨g,0,none⟩),.nilIface])∧Below w.heap.size w w'∧w.heap.size≤g∧∃ b f',Rows B w' f'∧BagAt B w' f' g b n [] (.slice none 0 0) []∧∀ j:Nat×Nat,j.1≠20→j.1≠21→f' j=f j
theorem bag_New (B:Nat) (f:Names) (n:Nat) (w:World) (hR:Rows B w f) (hB:B≤w.heap.size) (hn:n≤8192) :
 Calls Tryz.prog 259 #[.int .i64 n] w (NewPost B f n w):=by
 have d1:decide ((n:Int)<0)=false:=decide_eq_false (by omega)
 have d2:decide ((n:Int)>8192)=false:=decide_eq_false (by omega)
 have hR1:=hR.below (belowAlloc w (.map #[] 0))
 have hR2:=hR1.add (i:=(20,0)) (r':=box3 398 (w.heap.size+1) [.int .i64 n,.slice none 0 0,.map (some w.heap.size)]) (belowAlloc _ (.cells #[.int .i64 n,.slice none 0 0,.map (some w.heap.size)] 398))
  (by
    have:=World.ownsRow_lit (base:=B) (e:=398) (size:=3) (w.alloc (.map #[] 0)) #[.int .i64 n,.slice none 0 0,.map (some w.heap.size)] 1 (by simp; omega) (by decide) rfl
    unfold Row.own
    simpa using this) (fun k hk=>by cases hk; simp)
 have hR3:=hR2.add (i:=(21,0)) (r':=rowV 306 (.slice none 0 0) []) (Below.refl _ _) (OwnV.nil _ _ _) (fun k hk=>by cases hk)
 have hm:=(BagMap.made w n).below (belowAlloc _ (.cells #[.int .i64 n,.slice none 0 0,.map (some w.heap.size)] 398))
 have hfin:NewPost B f n w (.returned (.tuple #[.pointer (some ⟨w.heap.size+1,0,none⟩),.nilIface])) ((w.alloc (.map #[] 0)).alloc (.cells #[.int .i64 n,.slice none 0 0,.map (some w.heap.size)] 398)):=by
  refine ⟨_,rfl,Below.step (belowAlloc w _) (belowAlloc _ _),Nat.le_succ _,w.heap.size,_,hR3,⟨?_,upd_same _ _ _,rfl,fun i hi=>absurd hi (Nat.not_lt_zero _),fun x hx=>(by cases hx),hm,hB⟩,fun j h1 h2=>?_⟩
  ·rw [upd_ne _ _ (by intro e; cases e),upd_same]
  ·rw [upd_ne _ _ (by intro e; exact h2 (by rw [e])),upd_ne _ _ (by intro e; exact h1 (by rw [e]))]
 have mkm:(Instr.makeMap 265 none).run Tryz.prog w=.ok (.map (some w.heap.size)) (w.alloc (.map #[] 0)):=rfl
 replace hfin:=Hd hfin
 clear hR1 hR2 hR3 hm
 go_enter Tryz.func259,Tryz.ntmps259
 go_wp2
 go_ret2
 exact hfin.out
end Go.Proofs.YtindfaehjoileaaGreatDoor
namespace Go.Proofs.YtindfaehjoileaaGreatDoor
def behU (K N:Nat) (T:List Int) (u:Nat) (s:Int) (t:Nat):List Nat:=((List.range t).filter fun c=>decide (T.getD (u*K+c) 0=s)).map fun c=>(u*K+c)%N
theorem behU_zero (K N:Nat) (T:List Int) (u:Nat) (s:Int):behU K N T u s 0=[]:=rfl
theorem behU_succ (K N:Nat) (T:List Int) (u:Nat) (s:Int) (t:Nat):behU K N T u s (t+1)=behU K N T u s t++if T.getD (u*K+t) 0=s then [(u*K+t)%N] else []:=by
 unfold behU
 rw [List.range_succ,List.filter_append,List.map_append]
 congr 1
 by_cases h:T.getD (u*K+t) 0=s
 ·rw [if_pos h,List.filter_cons,if_pos (decide_eq_true h)]; rfl
 ·rw [if_neg h,List.filter_cons,if_neg (by rw [decide_eq_false h]; decide)]; rfl
def behM (K N:Nat) (T:List Int) (us:List Nat) (s:Int):List Nat:=us.flatMap fun u=>behU K N T u s K
theorem behM_snoc (K N:Nat) (T:List Int) (us:List Nat) (u:Nat) (s:Int):behM K N T (us++[u]) s=behM K N T us s++behU K N T u s K:=by simp [behM]
theorem mem_behM {K N:Nat} {T:List Int} {us:List Nat} {s:Int} {v:Nat}:v∈behM K N T us s↔∃ u∈us,∃ c,c<K∧(u*K+c)%N=v∧T.getD (u*K+c) 0=s:=by
 unfold behM behU
 simp only [List.mem_flatMap,List.mem_map,List.mem_filter,List.mem_range,decide_eq_true_eq]
 constructor
 ·rintro ⟨u,hu,c,⟨hc,h2⟩,h3⟩; exact ⟨u,hu,c,hc,h3,h2⟩
 ·rintro ⟨u,hu,c,hc,h3,h2⟩; exact ⟨u,hu,c,⟨hc,h2⟩,h3⟩
theorem mem_memB {l:List Bool} {n u:Nat}:u∈memB l n↔u<n∧l.getD u false=true:=by
 unfold memB
 rw [List.mem_filter,List.mem_range]
theorem behM_lt {K N:Nat} {T:List Int} {us:List Nat} {s:Int} (hN:0<N):∀ v∈behM K N T us s,v<N:=fun v hv=>by
 obtain ⟨u,_,c,_,e,_⟩:=mem_behM.1 hv
 rw [← e]; exact Nat.mod_lt _ hN
theorem setOf_beh {K N:Nat} {T:List Int} {l:List Bool} {s:Int}:setOf N (behM K N T (memB l N) s)=behB K N T l s:=by
 refine List.ext_getElem (by rw [setOf_len,behB_len]) fun v h1 h2=>?_
 have h3:v<N:=by rw [setOf_len] at h1; exact h1
 have e1:=setOf_get (n:=N) (xs:=behM K N T (memB l N) s) h3
 rw [List.getD_eq_getElem?_getD,List.getElem?_eq_getElem h1,Option.getD_some] at e1
 rw [e1]
 have hi:=behB_iff (K:=K) (T:=T) (l:=l) (s:=s) h3
 rw [List.getD_eq_getElem?_getD,List.getElem?_eq_getElem h2,Option.getD_some] at hi
 have hm:v∈behM K N T (memB l N) s↔(behB K N T l s)[v]=true:=by
  rw [hi,mem_behM]
  constructor
  ·rintro ⟨u,hu,c,hc,a,b⟩
   obtain ⟨p,q⟩:=mem_memB.1 hu
   exact ⟨u,p,q,c,hc,a,b⟩
  ·rintro ⟨u,p,q,c,hc,a,b⟩
   exact ⟨u,mem_memB.2 ⟨p,q⟩,c,hc,a,b⟩
 by_cases hv:v∈behM K N T (memB l N) s
 ·rw [decide_eq_true hv]; exact (hm.1 hv).symm
 ·rw [decide_eq_false hv]
  cases hb:(behB K N T l s)[v] with
  | false=>rfl
  | true=>exact absurd (hm.2 hb) hv
theorem beh_nil {K N:Nat} {T:List Int} {l:List Bool} {s:Int} (hN:0<N):behM K N T (memB l N) s=[]↔(behB K N T l s).any id=false:=by
 constructor
 ·intro h
  have e:=setOf_beh (K:=K) (N:=N) (T:=T) (l:=l) (s:=s)
  rw [h] at e
  rw [← e]
  show (List.replicate N false).any id=false
  rw [List.any_eq_false]
  intro x hx
  rw [List.eq_of_mem_replicate hx]; decide
 ·intro h
  apply List.eq_nil_iff_forall_not_mem.2
  intro v hv
  have hlt:=behM_lt hN v hv
  have e1:=setOf_get (n:=N) (xs:=behM K N T (memB l N) s) hlt
  rw [setOf_beh,decide_eq_true hv] at e1
  have:=(any_iff (behB_len K N T l s)).2 ⟨v,hlt,e1⟩
  rw [h] at this; cases this
open Go.RowKit
set_option maxRecDepth 100000
abbrev box7 (T:TypeId) (g:Nat) (cs:List Value):Row:=⟨T,7,.slice (some ⟨g,0,none⟩) 1 1,1,cs⟩
structure ListsIn (f:Names) (p:Nat) (v:Value) (vs:List Value) (xs:List (List Int)):Prop where
 out:f (p,0)=some (rowV 30 v vs)
 len:vs.length=xs.length
 each:∀ i,i<xs.length→f (p+1,i)=some (rowI (vs.getD i .nilIface) (xs.getD i []))
theorem ListsIn.congr {f f':Names} {p:Nat} {v:Value} {vs:List Value} {xs:List (List Int)} (h:ListsIn f p v vs xs) (e:∀ i:Nat×Nat,(i.1=p∨i.1=p+1)→f' i=f i):ListsIn f' p v vs xs :=
 ⟨(e _ (.inl rfl)).trans h.out,h.len,fun i hi=>(e _ (.inr rfl)).trans (h.each i hi)⟩
structure WalkAt (B:Nat) (w:World) (f:Names) (g gb b K R n:Nat) (tv:Value) (stop:Bool) (sets:List (List Bool)) (words next:List (List Int)) (sv:Value) (svs:List Value) (wv:Value) (wvs:List Value) (nv:Value) (nvs:List Value):Prop where
 box:f (30,0)=some (box7 219 g [.int .i64 K,.int .i64 R,tv,.pointer (some ⟨gb,0,none⟩),nv,wv,.bool stop])
 bag:BagAt B w f gb b n sets sv svs
 words:ListsIn f 31 wv wvs words
 next:ListsIn f 33 nv nvs next
section
variable {B:Nat} {w:World} {f:Names} {g gb b K R n:Nat} {tv:Value} {stop:Bool} {sets:List (List Bool)} {words next:List (List Int)} {sv:Value} {svs:List Value} {wv:Value} {wvs:List Value} {nv:Value} {nvs:List Value}
theorem WalkAt.cell (h:WalkAt B w f g gb b K R n tv stop sets words next sv svs wv wvs nv nvs) (hR:Rows B w f) (k:Nat) (hk:k<7):w.cell? ⟨g,k,none⟩=[Value.int .i64 K,.int .i64 R,tv,.pointer (some ⟨gb,0,none⟩),nv,wv,.bool stop][k]? :=
 hR.cell h.box (g:=g) (cap:=1) rfl k (show k<1*7 by omega)
theorem WalkAt.frz (h:WalkAt B w f g gb b K R n tv stop sets words next sv svs wv wvs nv nvs) (hR:Rows B w f) (k:Nat):w.frozen? ⟨g,k,none⟩=false:=hR.frozen h.box (g:=g) (cap:=1) rfl k
theorem WalkAt.low (h:WalkAt B w f g gb b K R n tv stop sets words next sv svs wv wvs nv nvs) (hR:Rows B w f):B≤g∧g<w.heap.size:=hR.lt h.box g rfl
theorem WalkAt.below {w':World} (h:WalkAt B w f g gb b K R n tv stop sets words next sv svs wv wvs nv nvs) (hb:Below w.heap.size w w'):WalkAt B w' f g gb b K R n tv stop sets words next sv svs wv wvs nv nvs :=
 ⟨h.box,h.bag.below hb,h.words,h.next⟩
end
set_option maxHeartbeats 8000000
theorem smallP_small {K R:Nat} {T:List Int} (h:RuleOk K R T) (hl:T.length≤256):smallP K R T=none:=by rw [smallP_ok h,if_neg (by omega)]
theorem over_Nodes (r:Nat→Addr) (K R:Nat) (va:Option Addr) (vn vc:Nat) (T:List Int) (w:World) (hg:Glob r w) (h:IntsAt w (.slice va vn vc) T) (hok:RuleOk K R T) (hl:T.length≤256) :
 Calls Tryz.prog 257 #[.agg #[.int .i64 K,.int .i64 R,.slice va vn vc]] w (Ret2 (fun x y _=>x=.int .i64 ((T.length/K:Nat):Int)∧y=.nilIface) w):=by
 have b0:=belowAlloc w (.cells #[.int .i64 K,.int .i64 R,.slice va vn vc] 124)
 have q:Box3 (w.alloc (.cells #[.int .i64 K,.int .i64 R,.slice va vn vc] 124)) w.heap.size (.int .i64 K) (.int .i64 R) (.slice va vn vc):=by simp [Box3,go_sem]
 have hs:=smallP_small hok hl
 have hk1:=hok.k1
 generalize hN:T.length/K=N
 replace hN:=Hd hN
 replace hs:=Hd hs
 replace hg:=Hd (hg.below b0)
 replace h:=Hd (h.below b0)
 go_enter Tryz.func257,Tryz.ntmps257
 go_wp2_with fail
 refine (over_small r K R va vn vc T _ hg.out h.out).mono ?_
 rintro e w1 ⟨x,rfl,b1,he⟩
 rw [hs.out] at he
 obtain rfl:=ErrIs.none_eq he
 obtain ⟨⟨z0,z1,z2⟩,-,-,-⟩:=q.below b1
 go_wp2_with fail
 refine (over_nodes K R va vn vc T _ (h.out.below b1) hk1 (by omega)).mono ?_
 rintro e w2 ⟨rfl,rfl⟩
 rw [hN.out]
 go_wp2
 go_ret2
 exact ⟨_,_,rfl,Below.step b0 (Below.step b1 (belowAlloc _ _)),rfl,rfl⟩
theorem over_Edge (r:Nat→Addr) (K R:Nat) (va:Option Addr) (vn vc:Nat) (T:List Int) (u s:Nat) (w:World) (hg:Glob r w) (h:IntsAt w (.slice va vn vc) T) (hok:RuleOk K R T) (hl:T.length≤256) (hu:u<T.length/K) (hs:s<K) :
 Calls Tryz.prog 282 #[.agg #[.int .i64 K,.int .i64 R,.slice va vn vc],.int .i64 u,.int .i64 s] w (Ret3 (fun x y z _=>x=.int .i64 (toN K (T.length/K) u s)∧y=.int .i64 (labN K T u s)∧z=.nilIface) w):=by
 have b0:=belowAlloc w (.cells #[.int .i64 K,.int .i64 R,.slice va vn vc] 124)
 have q:Box3 (w.alloc (.cells #[.int .i64 K,.int .i64 R,.slice va vn vc] 124)) w.heap.size (.int .i64 K) (.int .i64 R) (.slice va vn vc):=by simp [Box3,go_sem]
 have hsm:=smallP_small hok hl
 have hk1:=hok.k1
 have hk4:=hok.k4
 have hul:u*K+s<T.length:=by
  have:=Nat.div_mul_le_self T.length K
  have:=mul_add_lt (q:=u) (m:=T.length/K) hs hu
  omega
 have hN0:T.length/K≤256:=Nat.le_trans (Nat.div_le_self _ _) hl
 have huK:u*K≤256:=by omega
 obtain ⟨p,hp⟩:∃ n,u*K=n:=⟨_,rfl⟩
 have hM:(u:Int)*(K:Int)=(p:Int):=by rw [← hp]; simp
 obtain ⟨at_,hat⟩:∃ n,u*K+s=n:=⟨_,rfl⟩
 have hA:(p:Int)+(s:Int)=(at_:Int):=by rw [← hat,hp]; simp
 have i1:=fun w'=>h.idx at_ (by omega) w'
 have c1:=h.cellD at_ (by omega)
 generalize valAt (.slice va vn vc) at_=ta at *
 have hb1:=h.below b0
 have e1:labN K T u s=T.getD at_ 0:=by unfold labN; rw [hat]
 have e2:toN K (T.length/K) u s=at_%(T.length/K):=by unfold toN; rw [hat]
 rw [e1,e2]
 generalize T.getD at_ 0=y at *
 obtain ⟨N,hN⟩:∃ N,T.length/K=N:=⟨_,rfl⟩
 rw [hN] at hu hN0 ⊢
 have hN1:¬ (N:Int)=0:=by omega
 have hN2:((N:Int)==0)=false:=by rw [beq_eq_false_iff_ne]; omega
 have hN3:(0:Int)<N:=by omega
 have hN4:¬ N=0:=by omega
 have hrem:(at_:Int).tmod (N:Int)=((at_%N:Nat):Int):=by rw [Int.tmod_eq_emod_of_nonneg (by omega)]; simp
 have hat1:at_≤256:=by omega
 rw [hat] at hul
 rw [hp] at huK hat
 have hps:(p:Int)+(s:Int)≤256:=by omega
 clear hat hp
 have c1':=(b0.cell (World.block_lt_of_cell? _ _ c1)).trans c1
 replace hN:=Hd hN
 replace hsm:=Hd hsm
 replace hg:=Hd (hg.below b0)
 replace h:=Hd hb1
 clear c1 e1 e2 hb1
 go_enter Tryz.func282,Tryz.ntmps282
 go_wp2_with fail
 refine (over_small r K R va vn vc T _ hg.out h.out).mono ?_
 rintro e w1 ⟨x,rfl,b1,he⟩
 rw [hsm.out] at he
 obtain rfl:=ErrIs.none_eq he
 have q1:=q.below b1
 obtain ⟨⟨z0,z1,z2⟩,-,-,-⟩:=q1
 have q1:=Hd (q.below b1)
 go_wp2_with fail
 refine (over_nodes K R va vn vc T _ (h.out.below b1) hk1 (by omega)).mono ?_
 rintro e w2 ⟨rfl,rfl⟩
 rw [hN.out]
 have b2:=Below.step b1 (belowAlloc w1 (.cells #[.int .i64 K,.int .i64 R,.slice va vn vc] 124))
 obtain ⟨W2,hW2⟩:∃ W2:World,W2=w1.alloc (.cells #[.int .i64 K,.int .i64 R,.slice va vn vc] 124):=⟨_,rfl⟩
 rw [← hW2] at b2 ⊢
 have q2:=q.below b2
 have hT2:=h.out.below b2
 have cT2:=(b2.cell (World.block_lt_of_cell? _ _ c1')).trans c1'
 clear hW2 z0 z1 z2 c1'
 obtain ⟨⟨z0,z1,z2⟩,-,-,-⟩:=q2
 replace hT2:=Hd hT2
 go_upto_region 9 with fail
 refine wp_region_plan (fun w'=>w'.cell? ⟨w.heap.size,0,none⟩=some (.int .i64 K)∧w'.cell? ⟨w.heap.size,1,none⟩=some (.int .i64 R)∧w'.cell? ⟨w.heap.size,2,none⟩=some (.slice va vn vc)∧w'.cell? ta=some (.int .i64 y)) 11 [(0,true),(1,true),(4,true),(5,true),(6,true),(7,true),(8,true),(2,false),(3,true),(9,true),(10,true)] (by kernel_rfl) (by kernel_rfl) ?_
 have hS:W2.drew.cell? ⟨w.heap.size,0,none⟩=some (.int .i64 K)∧W2.drew.cell? ⟨w.heap.size,1,none⟩=some (.int .i64 R)∧W2.drew.cell? ⟨w.heap.size,2,none⟩=some (.slice va vn vc)∧W2.drew.cell? ta=some (.int .i64 y):=⟨z0,z1,z2,cT2⟩
 refine pqY 42 hS ?_
 refine pqY 43 hS ?_
 refine pqY 46 hS ?_
 refine pqY 47 hS ?_
 refine pqY 48 hS ?_
 refine pqY 49 hS ?_
 refine pqY 50 hS ?_
 refine headC rfl (fun KK hK=>?_)
 go_simp
 refine (over_nodes K R va vn vc T _ hT2.out.drew hk1 (by omega)).mono ?_
 rintro e W3 ⟨rfl,rfl⟩
 rw [hN.out]
 have b3:=belowAlloc W2.drew (.cells #[.int .i64 K,.int .i64 R,.slice va vn vc] 124)
 have hS3:=(⟨cell_keep b3 hS.1,cell_keep b3 hS.2.1,cell_keep b3 hS.2.2.1,(b3.cell (World.block_lt_of_cell? _ _ hS.2.2.2)).trans hS.2.2.2⟩:(W2.drew.alloc (.cells #[.int .i64 K,.int .i64 R,.slice va vn vc] 124)).cell? ⟨w.heap.size,0,none⟩=some (.int .i64 K)∧(W2.drew.alloc (.cells #[.int .i64 K,.int .i64 R,.slice va vn vc] 124)).cell? ⟨w.heap.size,1,none⟩=some (.int .i64 R)∧(W2.drew.alloc (.cells #[.int .i64 K,.int .i64 R,.slice va vn vc] 124)).cell? ⟨w.heap.size,2,none⟩=some (.slice va vn vc)∧(W2.drew.alloc (.cells #[.int .i64 K,.int .i64 R,.slice va vn vc] 124)).cell? ta=some (.int .i64 y))
 refine hK _ _ hS3 ?_
 clear hK KK
 refine pqY 45 hS3 ?_
 refine pqY 6 hS3 ?_
 refine pqY 7 hS3 ?_
 refine head0 ?_
 simp only [List.drop_succ_cons,List.drop_zero]
 clear hS hS3
 go_wp2
 refine NoPanic.normal ?_
 go_wp2
 go_ret3
 exact ⟨_,_,_,rfl,Below.step b0 (Below.step b2 ((Below.refl _ _).drew.alloc (Nat.le_refl _) _)),rfl,rfl,rfl⟩
end Go.Proofs.YtindfaehjoileaaGreatDoor
namespace Go.Proofs.YtindfaehjoileaaGreatDoor
inductive PT where
 | nil
 | take (k:Nat) (t:PT)
 | one (k:Nat) (t:PT)
 | two (k:Nat) (t:PT) (j:Nat) (s:PT)
def PT.takes:List Nat→PT→PT
 | [],t=>t
 | k::l,t=>.take k (PT.takes l t)
section
variable {P:Program} {ops:Array Oper} {Q:Exit→Act→World→Prop} {md:Region.Mode} {S:World→Prop}
def wpTree (P:Program) (ops:Array Oper) (Q:Exit→Act→World→Prop) (S:World→Prop) (K:Act→World→Prop):PT→Act→World→Prop
 | .nil,a,w=>K a w
 | .take k t,a,w=>∃ o v,ops[k]?=some o∧YieldsIf P ops S o v a∧S w∧wpTree P ops Q S K t (a.put o.dst v) w
 | .one k t,a,w=>wpOp P ops Q k (fun a' w'=>S w'∧wpTree P ops Q S K t a' w') a w
 | .two k t j s,a,w=>wpOp P ops Q k (fun a' w'=>S w'∧wpTree P ops Q S K t a' w') a w∧wpOp P ops Q j (fun a' w'=>S w'∧wpTree P ops Q S K s a' w') a w
def PT.okB (md:Region.Mode) (ops:Array Oper) (n:Nat):PT→Nat→Array Bool→Bool
 | .nil,m,listed=>decide (m=0)&&(List.range n).all (fun j=>listed.getD j true)&&Region.seqB md ops (ops.size-n) n listed
 | .take k t,m,listed=>decide (0<m)&&decide (k<n)&&(Region.ready md ops listed).contains k&&Region.free md ops listed k&&PT.okB md ops n t (m-1) (listed.setIfInBounds k true)
 | .one k t,m,listed=>decide (0<m)&&decide (k<n)&&decide (Region.ready md ops listed=[k])&&PT.okB md ops n t (m-1) (listed.setIfInBounds k true)
 | .two k t j s,m,listed=>decide (0<m)&&decide (k<n)&&decide (j<n)&&decide (Region.ready md ops listed=[k,j])&&PT.okB md ops n t (m-1) (listed.setIfInBounds k true)&&PT.okB md ops n s (m-1) (listed.setIfInBounds j true)
theorem wpAnyT_tree {n:Nat} {ol:List Oper} (hol:ops=ol.toArray) (hsel:Region.noSelect ops=true) (hs:Region.sinkB md ops n=true) (hc:Region.chainB md ops n=true) (hn:n<ops.size)
 (hQ:∀ c a w,Q (.panic c) a w→False) :
 ∀ (l:PT) (m:Nat) (listed:Array Bool) (a:Act) (w:World),HeadInv md ops n listed→l.okB md ops n m listed=true →
  wpTree P ops Q S (fun a' w'=>wpList P ops Q (ol.drop n) a' w') l a w→wpAnyT P md ops Q S n (m+(ops.size-n)) listed a w
 | .nil,m,listed,a,w,inv,hB,h=>by
  simp only [PT.okB,Bool.and_eq_true,decide_eq_true_eq] at hB
  obtain ⟨⟨rfl,hB1⟩,hB2⟩:=hB
  have hl:∀ j,j<n→listed.getD j true=true:=fun j hj=>List.all_eq_true.1 hB1 j (List.mem_range.2 hj)
  rw [Nat.zero_add]
  refine wpAnyT_of _ _ _ _ hl ?_
  have hdl:(ol.drop n).length=ops.size-n:=by subst hol; simp
  rw [← hdl]
  refine wpAny_of_seq (ol.drop n) n listed a w (fun j=>by subst hol; simp) ?_ h
  rw [hdl]; exact hB2
 | .take k t,m,listed,a,w,inv,hB,h=>by
  simp only [PT.okB,Bool.and_eq_true,decide_eq_true_eq] at hB
  obtain ⟨⟨⟨⟨hm,hkn⟩,hr⟩,hf⟩,hB'⟩:=hB
  obtain ⟨o,v,ho,hy,hS,h'⟩:=h
  have hr':k∈Region.ready md ops listed:=by simpa using hr
  rw [show m+(ops.size-n)=(m-1+(ops.size-n))+1 by omega]
  exact wpAnyT_first ho (Region.noSelect_spec hsel) hs hc hn hkn (fun c a w h=>(hQ c _ w h).elim) _ listed a w inv (Region.free_spec ho hf) hr' hy hS
   (wpAnyT_tree hol hsel hs hc hn hQ t (m-1) _ _ _ (inv.set hr' hkn) hB' h')
 | .one k t,m,listed,a,w,inv,hB,h=>by
  simp only [PT.okB,Bool.and_eq_true,decide_eq_true_eq] at hB
  obtain ⟨⟨⟨hm,hkn⟩,hr⟩,hB'⟩:=hB
  rw [show m+(ops.size-n)=(m-1+(ops.size-n))+1 by omega]
  refine ⟨fun h0=>(by rw [h0] at hr; cases hr),fun i hi=>?_⟩
  have hi':=hi
  rw [hr] at hi'
  obtain rfl:i=k:=by simpa using hi'
  exact wpOp_mono (fun a' w' h3=>⟨fun _=>h3.1,wpAnyT_tree hol hsel hs hc hn hQ t (m-1) _ a' w' (inv.set hi hkn) hB' h3.2⟩) h
 | .two k t j s,m,listed,a,w,inv,hB,h=>by
  simp only [PT.okB,Bool.and_eq_true,decide_eq_true_eq] at hB
  obtain ⟨⟨⟨⟨⟨hm,hkn⟩,hjn⟩,hr⟩,hB1⟩,hB2⟩:=hB
  rw [show m+(ops.size-n)=(m-1+(ops.size-n))+1 by omega]
  refine ⟨fun h0=>(by rw [h0] at hr; cases hr),fun i hi=>?_⟩
  have hi':=hi
  rw [hr] at hi'
  rcases (by simpa using hi':i=k∨i=j) with rfl | rfl
  ·exact wpOp_mono (fun a' w' h3=>⟨fun _=>h3.1,wpAnyT_tree hol hsel hs hc hn hQ t (m-1) _ a' w' (inv.set hi hkn) hB1 h3.2⟩) h.1
  ·exact wpOp_mono (fun a' w' h3=>⟨fun _=>h3.1,wpAnyT_tree hol hsel hs hc hn hQ s (m-1) _ a' w' (inv.set hi hjn) hB2 h3.2⟩) h.2
def treeB (md:Region.Mode) (ops:Array Oper) (n:Nat) (t:PT):Bool :=
 Region.noSelect ops&&decide (n<ops.size)&&Region.sinkB md ops n&&Region.chainB md ops n&&t.okB md ops n n (Array.replicate ops.size false)
theorem wp_region_tree {id:Nat} {a:Act} {w:World} {l:List Oper} (S:World→Prop) (n:Nat) (t:PT) (hm:P.follows .mixedOrders=true) (hB:treeB .any l.toArray n t=true)
 (h:wpTree P l.toArray (NoPanic Q) S (fun a' w'=>wpList P l.toArray (NoPanic Q) (l.drop n) a' w') t a w.drew):(Code.region id l.toArray true).wp P Q a w:=by
 simp only [treeB,Bool.and_eq_true,decide_eq_true_eq] at hB
 obtain ⟨⟨⟨⟨hsel,hn⟩,hs⟩,hc⟩,hp⟩:=hB
 refine wp_region_noPanic ?_
 refine wp_region_any hm ?_
 have inv0:HeadInv .any l.toArray n (Array.replicate l.toArray.size false) :=
  ⟨by simp,fun j oj _ hl=>(by rw [getD_replicate_false] at hl; cases hl),fun t _ ht=>getD_in (by simpa using ht) (getD_replicate_false _ _)⟩
 have:=wpAnyT_tree (md:=.any) (Q:=NoPanic Q) (S:=S) rfl hsel hs hc hn (fun _ _ _ h=>h) t n _ a _ inv0 hp h
 rw [show n+(l.toArray.size-n)=l.toArray.size by omega] at this
 exact wpAny_of_T _ _ _ _ this
end
section
variable {P:Program} {ops:Array Oper} {Q:Exit→Act→World→Prop} {S:World→Prop}
theorem trY {K:Act→World→Prop} {k:Nat} {o:Oper} {v:Value} {l:PT} {a a':Act} {w:World} (d:Tmp) (hS:S w) (h:wpTree P ops Q S K l a' w) (ho:ops[k]?=some o:=by exact rfl) (hd:o.dst=some d:=by exact rfl)
 (hw:Region.wanted o (yielded ops a.tmps)=true:=by rfl) (hy:∀ W,S W→(execOp a.eval o).run P W=.ok (.value v) W:=by intro W' hs; (try subst hs); go_simp; (try with_reducible rfl)) (ha:a.put (some d) v=a':=by simp only [pq]; exact rfl) :
 wpTree P ops Q S K (.take k l) a w:=by
 subst ha; refine ⟨o,v,ho,.inl ⟨hw,hy⟩,hS,?_⟩; rw [hd]; exact h
theorem trOp {K:Act→World→Prop} {k:Nat} {o:Oper} {l:PT} {a:Act} {w:World} (ho:ops[k]?=some o)
 (h:∀ K':Act→World→Prop,(∀ a w,S w→wpTree P ops Q S K l a w→K' a w)→if Region.wanted o (yielded ops a.tmps)=true then Oper.wp P o a w K' Q else K' (a.put o.dst undef) w) :
 wpOp P ops Q k (fun a' w'=>S w'∧wpTree P ops Q S K l a' w') a w:=by
 unfold wpOp
 simp only [ho]
 have:=h (fun a' w'=>S w'∧wpTree P ops Q S K l a' w') (fun a w h1 h2=>⟨h1,h2⟩)
 split
 ·rename_i hw; rw [if_pos hw] at this; exact .inl this
 ·rename_i hw; rw [if_neg hw] at this; exact this
theorem trC {K:Act→World→Prop} {k:Nat} {o:Oper} {l:PT} {a:Act} {w:World} (ho:ops[k]?=some o)
 (h:∀ K':Act→World→Prop,(∀ a w,S w→wpTree P ops Q S K l a w→K' a w)→if Region.wanted o (yielded ops a.tmps)=true then Oper.wp P o a w K' Q else K' (a.put o.dst undef) w) :
 wpTree P ops Q S K (.one k l) a w:=trOp ho h
theorem tr2 {K:Act→World→Prop} {k j:Nat} {l s:PT} {a:Act} {w:World} (h1:wpOp P ops Q k (fun a' w'=>S w'∧wpTree P ops Q S K l a' w') a w) (h2:wpOp P ops Q j (fun a' w'=>S w'∧wpTree P ops Q S K s a' w') a w) :
 wpTree P ops Q S K (.two k l j s) a w:=⟨h1,h2⟩
theorem tr0 {K:Act→World→Prop} {a:Act} {w:World} (h:K a w):wpTree P ops Q S K .nil a w:=h
end
def nextA (X:List (List Int)) (i s:Nat):Int:=(X.getD i []).getD s 0
def stepA (X:List (List Int)) (q s:Int):Int:=if q<0 then -1 else nextA X q.toNat s.toNat
def runA (X:List (List Int)) (w:List Int):Int:=w.foldl (stepA X) 0
theorem runA_nil (X:List (List Int)):runA X []=0:=rfl
theorem runA_snoc (X:List (List Int)) (w:List Int) (s:Int):runA X (w++[s])=stepA X (runA X w) s:=by simp [runA]
structure AutoOk (K N:Nat) (X:List (List Int)):Prop where
 n1:0<N
 len:X.length=N
 row:∀ i,i<N→(X.getD i []).length=K
 lo:∀ i s,i<N→s<K→-1≤nextA X i s
 hi:∀ i s,i<N→s<K→nextA X i s<N
theorem AutoOk.run {K N:Nat} {X:List (List Int)} (h:AutoOk K N X) (w:List Int):Syms K w→-1≤runA X w∧runA X w<N:=by
 have n1:=h.n1
 refine snoc_indI (P:=fun w=>Syms K w→-1≤runA X w∧runA X w<N) (fun _=>by rw [runA_nil]; omega) (fun y s ih sy=>?_) w
 obtain ⟨sy,s0,s1⟩:=syms_snocI.1 sy
 rw [runA_snoc]
 unfold stepA
 split
 ·omega
 ·have:=ih sy
  exact ⟨h.lo _ _ (by omega) (by omega),h.hi _ _ (by omega) (by omega)⟩
structure Groups (N:Nat) (g:List Int) (n:Nat):Prop where
 len:g.length=N
 bd:∀ i,i<N→0≤g.getD i 0∧g.getD i 0<n
 on:∀ v,v<n→∃ i,i<N∧g.getD i 0=(v:Nat)
structure Stable (K N:Nat) (X:List (List Int)) (g:List Int):Prop where
 len:g.length=N
 die:∀ i j s,i<N→j<N→s<K→g.getD i 0=g.getD j 0→nextA X i s<0→nextA X j s<0
 go:∀ i j s,i<N→j<N→s<K→g.getD i 0=g.getD j 0→0≤nextA X i s→0≤nextA X j s∧g.getD (nextA X i s).toNat 0=g.getD (nextA X j s).toNat 0
structure LeastOf (K N:Nat) (X:List (List Int)) (g:List Int) (st:List Nat) (Y:List (List Int)):Prop where
 z1:0<st.length
 z:st.getD 0 0=0
 len:Y.length=st.length
 row:∀ j,j<st.length→(Y.getD j []).length=K
 low:∀ j,j<st.length→st.getD j 0<N
 die:∀ j s,j<st.length→s<K→nextA X (st.getD j 0) s<0→nextA Y j s=-1
 go:∀ j s,j<st.length→s<K→0≤nextA X (st.getD j 0) s→∃ k,k<st.length∧nextA Y j s=(k:Nat)∧g.getD (st.getD k 0) 0=g.getD (nextA X (st.getD j 0) s).toNat 0
structure SubAuto (K N:Nat) (T:List Int) (sets:List (List Bool)) (X:List (List Int)):Prop where
 z1:0<sets.length
 z:sets.getD 0 []=List.replicate N true
 len:X.length=sets.length
 row:∀ j,j<sets.length→(X.getD j []).length=K
 die:∀ j s,j<sets.length→s<K→(behB K N T (sets.getD j []) (s:Nat)).any id=false→nextA X j s=-1
 go:∀ j s,j<sets.length→s<K→(behB K N T (sets.getD j []) (s:Nat)).any id=true→∃ k,k<sets.length∧nextA X j s=(k:Nat)∧sets.getD k []=behB K N T (sets.getD j []) (s:Nat)
theorem SubAuto.ok {K N:Nat} {T:List Int} {sets:List (List Bool)} {X:List (List Int)} (h:SubAuto K N T sets X):AutoOk K sets.length X:=by
 refine ⟨h.z1,h.len,h.row,fun j s hj hs=>?_,fun j s hj hs=>?_⟩
 all_goals
  cases hb:(behB K N T (sets.getD j []) (s:Nat)).any id with
  | false=>rw [h.die j s hj hs hb]; have:=h.z1; omega
  | true=>obtain ⟨k,hk,e,_⟩:=h.go j s hj hs hb; rw [e]; omega
inductive WkR (α:Type) where
 | on (sets:List (List Bool)) (words:List (List Int)) (a:α)
 | orphan (w:List Int)
 | big
def wkStep (stop:Bool) (K N:Nat) (T:List Int) (i t:Nat) (sets:List (List Bool)) (words:List (List Int)):WkR Int :=
 if (behB K N T (sets.getD i []) t).any id=false then (if stop=true then .orphan (words.getD i []++[(t:Int)]) else .on sets words (-1))
 else if behB K N T (sets.getD i []) t∈sets then .on sets words (sets.idxOf (behB K N T (sets.getD i []) t):Nat)
 else if sets.length=4096 then .big
 else .on (sets++[behB K N T (sets.getD i []) t]) (words++[words.getD i []++[(t:Int)]]) (sets.length:Nat)
def wkRow (stop:Bool) (K N:Nat) (T:List Int) (i:Nat):Nat→Nat→List (List Bool)→List (List Int)→List Int→WkR (List Int)
 | 0,_,sets,words,row=>.on sets words row
 | m+1,t,sets,words,row=>match wkStep stop K N T i t sets words with
  | .on a b id=>wkRow stop K N T i m (t+1) a b (row++[id])
  | .orphan w=>.orphan w
  | .big=>.big
def wkGo (stop:Bool) (K N:Nat) (T:List Int):Nat→Nat→List (List Bool)→List (List Int)→List (List Int)→WkR (List (List Int))
 | 0,_,sets,words,next=>.on sets words next
 | f+1,i,sets,words,next=>if i<sets.length then match wkRow stop K N T i K 0 sets words [] with
  | .on a b row=>wkGo stop K N T f (i+1) a b (next++[row])
  | .orphan w=>.orphan w
  | .big=>.big
  else .on sets words next
def wkAll (stop:Bool) (K N:Nat) (T:List Int):WkR (List (List Int)):=wkGo stop K N T 4097 0 [List.replicate N true] [[]] []
def WkR.sub {α:Type}:WkR α→SubR
 | .on a b _=>.on a b
 | .orphan w=>.orphan w
 | .big=>.big
theorem wkStep_sub (K N:Nat) (T:List Int) (i t:Nat) (sets:List (List Bool)) (words:List (List Int)):(wkStep true K N T i t sets words).sub=subStep K N T i t sets words:=by
 unfold wkStep subStep
 split
 ·rfl
 ·split
  ·rfl
  ·split<;>rfl
theorem wkRow_sub {K N:Nat} {T:List Int} {i:Nat}:∀ m t sets words row,(wkRow true K N T i m t sets words row).sub=subRow K N T i m t sets words
 | 0,_,_,_,_=>rfl
 | m+1,t,sets,words,row=>by
  have h:=wkStep_sub K N T i t sets words
  unfold wkRow subRow
  rw [← h]
  cases wkStep true K N T i t sets words with
  | on a b id=>exact wkRow_sub m (t+1) a b _
  | orphan w=>rfl
  | big=>rfl
theorem wkGo_sub {K N:Nat} {T:List Int}:∀ f i sets words next,(wkGo true K N T f i sets words next).sub=subGo K N T f i sets words
 | 0,_,_,_,_=>rfl
 | f+1,i,sets,words,next=>by
  have h:=wkRow_sub (K:=K) (N:=N) (T:=T) (i:=i) K 0 sets words []
  unfold wkGo subGo
  rw [← h]
  split
  ·cases wkRow true K N T i K 0 sets words [] with
   | on a b row=>exact wkGo_sub f (i+1) a b _
   | orphan w=>rfl
   | big=>rfl
  ·rfl
theorem wk_sub (K N:Nat) (T:List Int):(wkAll true K N T).sub=subR K N T:=wkGo_sub _ _ _ _ _
structure WkRow (K N:Nat) (T:List Int) (sets:List (List Bool)) (l:List Bool) (row:List Int) (t:Nat):Prop where
 len:row.length=t
 die:∀ s,s<t→(behB K N T l (s:Nat)).any id=false→row.getD s 0=-1
 go:∀ s,s<t→(behB K N T l (s:Nat)).any id=true→∃ k,k<sets.length∧row.getD s 0=(k:Nat)∧sets.getD k []=behB K N T l (s:Nat)
theorem WkRow.more {K N t:Nat} {T:List Int} {sets a:List (List Bool)} {l:List Bool} {row:List Int} (h:WkRow K N T sets l row t) (hl:sets.length≤a.length) (hg:∀ j,j<sets.length→a.getD j []=sets.getD j []):WkRow K N T a l row t :=
 ⟨h.len,h.die,fun s hs hb=>by
   obtain ⟨k,hk,e1,e2⟩:=h.go s hs hb
   exact ⟨k,by omega,e1,by rw [hg k hk]; exact e2⟩⟩
end Go.Proofs.YtindfaehjoileaaGreatDoor
