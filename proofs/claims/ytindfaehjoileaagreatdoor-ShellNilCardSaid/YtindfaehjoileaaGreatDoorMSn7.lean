/-
  Texts that the proof leans on.
-/
import Derived.Test.YtindfaehjoileaaGreatDoorMSn6
import Derived.Deep.DeepCutAuto
import Derived.Ground.NamesProg
import Derived.Shelf.Bits.Mul64
import Derived.Deep.LoopGhost
import Derived.Ground.SlgfProg
import Derived.Shelf.SlGeneric
import Derived.Shelf.SlicesE.DeleteFunc
import Derived.Lib.SliceRun
import Derived.Maps.OwnSet
namespace Go.Proofs.YtindfaehjoileaaGreatDoor
open Go.RowKit Go.Shelf
set_option maxRecDepth 100000
set_option maxHeartbeats 8000000
def Tryz.laysMul_ren:Go.Shelf.Ren:=⟨fun | 212=>344 | 263=>376 | 264=>377 | n=>n,fun | 46=>101 | 51=>203 | 146=>327 | 53=>97 | 148=>438 | n=>n,fun | n=>n⟩
theorem Tryz.laysMul:Go.Proofs.Lays.n212 Tryz.prog Tryz.laysMul_ren:={
 mixed:=by kernel_rfl
 f212:=Tryz.func344.trans (congrArg some (by kernel_rfl))
 f263:=Tryz.func376.trans (congrArg some (by kernel_rfl))
 f264:=Tryz.func377.trans (congrArg some (by kernel_rfl))
 t46:=Tryz.underlying101
 a46:=Tryz.isAgg101
 z46:=Tryz.sizeOf101
 v46:=Tryz.zeroValue101
 t51:=Tryz.underlying203
 a51:=Tryz.isAgg203
 z51:=Tryz.sizeOf203
 v51:=Tryz.zeroValue203
 t53:=Tryz.underlying97
 a53:=Tryz.isAgg97
 z53:=Tryz.sizeOf97
 v53:=Tryz.zeroValue97
 t146:=Tryz.underlying327
 a146:=Tryz.isAgg327
 z146:=Tryz.sizeOf327
 v146:=Tryz.zeroValue327
 t148:=Tryz.underlying438
 a148:=Tryz.isAgg438
 z148:=Tryz.sizeOf438
 v148:=Tryz.zeroValue438 }
theorem run_copyMin {w:World} {B:Nat} {v u d:Value} {xs ys:List Int} (off:Nat) (ty:TypeId) (dp:Option Addr) (dLen dCap:Nat) (hown:OwnI B w v xs) (hu:IntsAt w u ys) (hd:d=.slice dp dLen dCap)
 (hfit:off+dLen≤xs.length) (h0:0<dLen) (h1:0<ys.length) (hdp:dp=some (valAt v off)) :
 ∃ w',(Builtin.copy_ #[30,30] ty #[d,u]).run Tryz.prog w=.ok (.int .i64 ((ys.take dLen).length:Int)) w'∧OwnI B w' v (xs.take off++ys.take dLen++xs.drop (off+(ys.take dLen).length))∧Below B w w':=by
 subst hd
 obtain ⟨sp,sCap,rfl,hc1,h2,h3,h4⟩:=hu
 subst hdp
 cases sp with
 | none=>have:=h3 rfl; omega
 | some p =>
  rcases hown.2 with ⟨rfl,hn⟩ | ⟨g,cap,cur,rfl,hb,hg,hn,hm,hcs,ht⟩
  ·omega
  ·rw [valAt_row]
   obtain ⟨zs,hzs⟩:∃ zs,zs=ys.take dLen:=⟨_,rfl⟩
   have hzl:zs.length=Nat.min ys.length dLen:=by rw [hzs,List.length_take,Nat.min_comm]
   have hzd:zs.length≤dLen:=by rw [hzl]; exact Nat.min_le_right _ _
   rw [← hzs]
   have hsrc:∀ j u,(zs.map (Value.int .i64))[j]?=some u→w.cell? (p.add j)=some u:=by
    intro j u hj
    have hjl:j<zs.length:=by have:=(List.getElem?_eq_some_iff.1 hj).1; simpa using this
    have hjy:j<ys.length:=by rw [hzl] at hjl; exact Nat.lt_of_lt_of_le hjl (Nat.min_le_left _ _)
    have:=h4 j hjy
    simp only [valAt] at this
    rw [this,← hj,List.getElem?_map,List.getElem?_eq_getElem hjl]
    simp [hzs]
   have hcl:cur.toList.length=cap:=by rw [Array.length_toList,hcs]; omega
   have hr:=run_copy_row (P:=Tryz.prog) w 30 30 ty 3 g off dLen dCap p ys.length sCap cur 3 (zs.map (.int .i64)) uInts sizeInt1 hg (by rw [List.length_map]; exact hzl) hsrc (by rw [hcs,List.length_map]; omega) (ints_oneCell _ _)
   rw [show goInt (zs.map (Value.int .i64)).length=.int .i64 zs.length by rw [List.length_map]; rfl] at hr
   have hst:w.grownBy (w.setRow g (cur.toList.take off++zs.map (Value.int .i64)++cur.toList.drop (off+(zs.map (Value.int .i64)).length)).toArray) (some g) :=
    ⟨rfl,rfl,rfl,by simp,fun k _ hk=>setRow_other w g k _ (fun e=>hk (by simp [e]))⟩
   refine ⟨_,hr,?_,(Below.refl _ _).grown hst (by have:=(Array.getElem?_eq_some_iff.1 hg).1; omega) (by intro k hk; simp at hk; omega)⟩
   have hlen:(xs.take off++zs++xs.drop (off+zs.length)).length=xs.length:=by simp; omega
   refine ⟨by simp,.inr ⟨g,cap,_,by rw [hlen],hb,setRow_heap w g cur _ _ _ hg,by rw [hlen]; exact hn,hm,?_,?_⟩⟩
   ·simp only [List.size_toArray,List.length_append,List.length_take,List.length_drop,List.length_map,hcl]; omega
   ·rw [hlen]
    have e:=splice_take cur.toList (zs.map (Value.int .i64)) off xs.length (by rw [List.length_map]; omega) (by omega)
    rw [Nat.mul_one] at ht ⊢
    rw [e,ht]
    simp [List.map_take,List.map_drop]
def reps (x:Int) (m n:Nat):List Int:=List.replicate m x++List.replicate (n-m) 0
theorem reps_len (x:Int) {m n:Nat} (h:m≤n):(reps x m n).length=n:=by simp [reps]; omega
theorem reps_full (x:Int) (n:Nat):reps x n n=List.replicate n x:=by simp [reps]
theorem reps_splice (x:Int) {m n k:Nat} (hk:m+k≤n):(reps x m n).take m++List.replicate k x++(reps x m n).drop (m+k)=reps x (m+k) n:=by
 unfold reps
 rw [List.take_left' (by simp),List.drop_append,List.drop_eq_nil_of_le (by simp),List.nil_append,List.length_replicate,List.drop_replicate,List.replicate_append_replicate]
 congr 2
 omega
theorem mul_any (x y:Nat) (hx:x<100000) (hy:y<100000) (w:World) :
 Calls Tryz.prog 344 #[.int .u64 x,.int .u64 y] w fun e w'=>e=.returned (.tuple #[.int .u64 0,.int .u64 ((x*y:Nat):Int)])∧w=w':=by
 refine (Any.bits_Mul Tryz.laysMul x y (by omega) (by omega) w).mono ?_
 rintro e w' ⟨rfl,rfl⟩
 have h:x*y<10000000000:=by
  calc x*y≤99999*99999:=Nat.mul_le_mul (by omega) (by omega)
   _<_:=by decide
 rw [Nat.div_eq_of_lt (by omega),Nat.mod_eq_of_lt (by omega)]
 exact ⟨rfl,rfl⟩
theorem repeat_any (v:Value) (x:Int) (n:Nat) (w:World) (h:IntsAt w v [x]) (hn:n≤10000) :
 Calls Tryz.prog 277 #[v,.int .i64 n] w (Ret1 (fun u w'=>OwnI w.heap.size w' u (List.replicate n x)) w):=by
 have hl:=h.len
 obtain ⟨u,w1,hmk,hu,hb1⟩:=run_makeI (n:Int) n w rfl (by omega)
 have hM:=mul_any 1 n (by omega) (by omega) w
 rw [Nat.one_mul] at hM
 replace hM:=Hd hM
 obtain ⟨ua,un,uc,rfl⟩:=hu.at.shape
 go_enter Tryz.func277,Tryz.ntmps277
 have hcp:∃ w2,(Builtin.copy_ #[30,30] 3 #[.slice ua un uc,v]).run Tryz.prog w1=.ok (.int .i64 ((min 1 n:Nat):Int)) w2∧OwnI w.heap.size w2 (.slice ua un uc) (reps x (min 1 n) n)∧Below w.heap.size w1 w2:=by
  have hun:un=n:=by
   obtain ⟨a,c,e,_⟩:=hu.at
   injection e with _ e _
   rw [e]; simp
  have hv:=h.below hb1
  by_cases h0:n=0
  ·subst h0; subst hun
   obtain ⟨sp,sc,rfl,_⟩:=hv
   refine ⟨w1,run_copy_none (P:=Tryz.prog) w1 30 30 3 3 ua sp 0 uc 1 sc uInts sizeInt1 (by simp),?_,Below.refl _ _⟩
   simpa [reps] using hu
  ·subst hun
   have hva:ua=some (valAt (.slice ua un uc) 0):=by
    rcases hu.2 with ⟨e,hn0⟩ | ⟨g,cap,cur,e,_⟩
    ·rw [List.length_replicate] at hn0; exact absurd hn0 h0
    ·injection e with e1 e2 e3
     subst e1; rfl
   obtain ⟨w2,h1,h2,h3⟩:=run_copyMin (ys:=[x]) 0 3 ua un uc hu hv rfl (by rw [List.length_replicate]; omega) (by omega) (by simp) hva
   have ht:([x]:List Int).take un=[x]:=List.take_of_length_le (by show 1≤un; omega)
   rw [ht] at h1 h2
   refine ⟨w2,?_,?_,h3⟩
   ·rw [h1,Nat.min_eq_left (by omega)]; rfl
   ·rw [Nat.min_eq_left (by omega)]
    have e:=reps_splice x (m:=0) (n:=un) (k:=1) (by omega)
    have e2:reps x 0 un=List.replicate un 0:=by simp [reps]
    rw [e2] at e
    rw [← e]
    exact h2
 obtain ⟨w2,hcp,ho2,hb2⟩:=hcp
 replace hu:=Hd hu
 replace ho2:=Hd ho2
 have hb:=Hd (hb1.trans hb2)
 go_wp2_with fail
 refine hM.out.mono ?_
 rintro e w' ⟨rfl,rfl⟩
 go_wp2_with fail
 go_loopw [8] (fun mv wr=>∃ m:Nat,min 1 n≤m∧m≤n∧mv=.int .i64 m∧OwnI w.heap.size wr (.slice ua un uc) (reps x m n)∧Below w.heap.size w wr) (fun mv _=>n-(intOf mv).toNat)
 case atStart=>exact ⟨min 1 n,Nat.le_refl _,Nat.min_le_right _ _,rfl,ho2.out,hb.out⟩
 case round =>
  obtain ⟨m,hm1,hm2,rfl,ho,hbr⟩:=hrel
  obtain ⟨wo,rfl⟩:∃ wo:World,wo=wr:=⟨_,rfl⟩
  have hl2:=ho.at.len
  rw [reps_len x hm2] at hl2
  by_cases hlt:m<n
  ·have hm0:1≤m:=by omega
   obtain ⟨g,cap,cur,e,hgB,_,hnc,_⟩:∃ g cap cur,Value.slice ua un uc=.slice (some ⟨g,0,none⟩) (reps x m n).length cap∧w.heap.size≤g∧wo.heap[g]?=some (.cells cur 3 (0,0))∧(reps x m n).length≤cap∧True:=by
    rcases ho.2 with ⟨_,hn0⟩ | ⟨g,cap,cur,e,h1,h2,h3,_⟩
    ·rw [reps_len x hm2] at hn0; omega
    ·exact ⟨g,cap,cur,e,h1,h2,h3,trivial⟩
   rw [reps_len x hm2] at e hnc
   injection e with e1 e2 e3
   subst e1; subst e2; subst e3
   have hfull:=Hd hu
   clear hfull hu ho2 hcp hmk
   have hu2:=ho.at.pre m (by rw [reps_len x hm2]; exact hm2)
   have htk:(reps x m un).take m=List.replicate m x:=by unfold reps; exact List.take_left' (by simp)
   rw [htk] at hu2
   obtain ⟨k,hk⟩:∃ k,k=((List.replicate m x).take (un-m)).length:=⟨_,rfl⟩
   have hkk:k=min (un-m) m:=by rw [hk]; simp
   have hkr:(List.replicate m x).take (un-m)=List.replicate k x:=by rw [hkk,List.take_replicate]
   have hcp:∀ W:World,OwnI w.heap.size W (.slice (some ⟨g,0,none⟩) un uc) (reps x m un)→IntsAt W (.slice (some ⟨g,0,none⟩) m uc) (List.replicate m x)→∃ w2,(Builtin.copy_ #[30,30] 3 #[.slice (some ⟨g,m,none⟩) (un-m) (uc-m),.slice (some ⟨g,0,none⟩) m uc]).run Tryz.prog W=.ok (.int .i64 (k:Int)) w2∧OwnI w.heap.size w2 (.slice (some ⟨g,0,none⟩) un uc) (reps x (m+k) un)∧Below w.heap.size W w2:=by
    intro W hW hW2
    obtain ⟨w2,a,b,c⟩:=run_copyMin m 3 (some ⟨g,m,none⟩) (un-m) (uc-m) hW hW2 rfl (by rw [reps_len x hm2]; omega) (by omega) (by rw [List.length_replicate]; omega) (by rw [valAt_row])
    rw [← hk] at a b
    rw [hkr,reps_splice x (by omega)] at b
    exact ⟨w2,a,b,c⟩
   obtain ⟨w3,hc3,ho3,hb3⟩:=hcp wo.drew ho hu2
   have hwr:IntKind.i64.wrap ((m:Int)+(k:Int))=(m:Int)+k:=wrapK (by omega) (by omega)
   have hb4:Below w.heap.size w w3:=hbr.drew.trans hb3
   have hk1:1≤k:=by omega
   have hk2:m+k≤un:=by omega
   have hsl1:(0≤(m:Int)∧(m:Int)≤(un:Int)):=⟨by omega,by omega⟩
   have hsl2:(0≤(m:Int)∧(m:Int)≤(uc:Int)):=⟨by omega,by omega⟩
   have hmc:¬ uc=m:=by omega
   replace ho3:=Hd ho3
   replace ho:=Hd ho
   clear hcp hu2 htk hk hkr hkk
   go_upto_region 9 with fail
   refine wp_region_plan (fun _=>True) 9 [(0,true),(1,true),(2,true),(3,true),(4,true),(5,true),(6,true),(7,false),(8,true)] (by kernel_rfl) (by kernel_rfl) ?_
   have hS:=trivial
   refine pqY 38 hS ?_
   refine pqY 39 hS ?_
   refine pqY 40 hS ?_
   refine pqY 41 hS ?_
   refine pqY 42 hS ?_
   refine pqY 43 hS ?_
   refine pqY 44 hS ?_
   refine headC rfl (fun KK hK=>?_)
   -- CALL 7 slot (some 45)
   go_simp
   refine hK _ _ hS ?_
   clear hK KK
   refine pqY 46 hS ?_
   refine head0 ?_
   simp only [List.drop_succ_cons,List.drop_zero]
   go_wp2
   refine NoPanic.normal ?_
   go_wp2
   go_round
   case measure=>simp [intOf]; omega
   case rel=>exact ⟨m+k,by omega,hk2,by go_num,ho3.out,hb4⟩
  ·obtain rfl:m=n:=by omega
   rw [reps_full] at ho
   replace ho:=Hd ho
   go_wp2
   go_ret
   exact ⟨_,rfl,hbr,ho.out⟩
end Go.Proofs.YtindfaehjoileaaGreatDoor
namespace Go.Proofs.YtindfaehjoileaaGreatDoor
open Go.RowKit
set_option maxRecDepth 100000
set_option maxHeartbeats 8000000
def castI (l:List Nat):List Int:=l.map fun (x:Nat)=>(x:Int)
theorem castI_len (l:List Nat):(castI l).length=l.length:=by simp [castI]
theorem castI_snoc (l:List Nat) (x:Nat):castI (l++[x])=castI l++[(x:Int)]:=by simp [castI]
theorem castI_get {l:List Nat} {i x:Nat} (h:l[i]?=some x):(castI l).getD i 0=(x:Int):=by simp [castI,List.getD,h]
theorem castI_reverse (l:List Nat):castI l.reverse=(castI l).reverse:=by simp [castI]
theorem nodup_len:∀ (n:Nat) (l:List Nat),l.Nodup→(∀ x∈l,x<n)→l.length≤n
 | 0,l,_,h=>by
  cases l with
  | nil=>exact Nat.le_refl _
  | cons a l=>have:=h a List.mem_cons_self; omega
 | n+1,l,hn,h=>by
  have hsub:=nodup_len n (l.erase n) (hn.erase n) (fun x hx=>by
   have h1:=h x (List.mem_of_mem_erase hx)
   have h2:x≠n:=fun e=>by subst e; exact (List.Nodup.not_mem_erase hn) hx
   omega)
  have:l.length≤(l.erase n).length+1:=by
   by_cases hm:n∈l
   ·have:=List.length_erase_of_mem hm; omega
   ·rw [List.erase_of_not_mem hm]; omega
  omega
def srtN (l:List Int):List Nat:=(srt l).map Int.toNat
theorem srt_mem (l:List Int) (x:Int):x∈srt l↔x∈l:=by unfold srt; exact (List.mergeSort_perm l _).mem_iff
theorem srt_sorted (l:List Int):(srt l).Pairwise (·≤·):=by
 have:=List.pairwise_mergeSort (le:=fun (x y:Int)=>decide (x≤y)) (fun a b c h1 h2=>by simp at *; omega) (fun a b=>by simp; omega) l
 unfold srt
 exact this.imp (fun h=>by simpa using h)
theorem srtN_sorted (l:List Int) (hp:∀ x∈l,0≤x):(srtN l).Pairwise (·≤·):=by
 unfold srtN
 rw [List.pairwise_map]
 refine (srt_sorted l).imp_of_mem fun {a b} ha hb h=>?_
 have:=hp a ((srt_mem l a).1 ha)
 omega
theorem srtN_mem (l:List Int) (t:Nat):t∈srtN l↔t∈l.map Int.toNat:=by
 unfold srtN
 simp only [List.mem_map,srt_mem]
theorem srtN_len (l:List Int):(srtN l).length=l.length:=by simp [srtN,srt_length]
theorem srtN_get (l:List Int) (hp:∀ x∈l,0≤x) (j:Nat) (hj:j<l.length):(srt l).getD j 0=((srtN l).getD j 0:Int):=by
 have hj':j<(srt l).length:=by rw [srt_length]; exact hj
 have h0:=hp _ ((srt_mem l _).1 (List.getElem_mem hj'))
 simp only [srtN,List.getD_eq_getElem?_getD,List.getElem?_map,List.getElem?_eq_getElem hj',Option.map_some,Option.getD_some]
 omega
theorem tabI_neg1 (n:Nat):tabI n (fun _=>-1)=List.replicate n (-1):=by
 unfold tabI; apply List.ext_getElem<;>simp
theorem rowsE (B:Nat) (w:World):Rows B w (fun _=>none):=⟨fun _ _ h=>(by cases h),fun _ _ _ _ h=>(by cases h)⟩
def FirstPost (w:World) (adj:Nat→List Nat) (a b:Nat) (x:Value) (w':World):Prop :=
 (∃ u,IsFirst adj a b u∧OwnI w.heap.size w' x (castI u))∨(¬ Goes adj a b∧x=.slice none 0 0)
structure FN (f:Names) (cv qv:Value) (n:Nat) (came:Nat→Int) (q:List Nat):Prop where
 came:f (1,0)=some (rowI cv (tabI n came))
 queue:f (2,0)=some (rowI qv (castI q))
section
variable {B:Nat} {w:World} {f:Names} {cv qv:Value} {n:Nat} {came:Nat→Int} {q:List Nat}
theorem FN.congr {f':Names} (h:FN f cv qv n came q) (e1:f' (1,0)=f (1,0)) (e2:f' (2,0)=f (2,0)):FN f' cv qv n came q:=⟨e1.trans h.came,e2.trans h.queue⟩
theorem FN.set (h:FN f cv qv n came q) (hr:Rows B w f) (t:Nat) (ht:t<n) (v:Int):∃ f',Rows B (w.setCell (valAt cv t) (.int .i64 v)) f'∧FN f' cv qv n (updN came t v) q∧∀ i,i≠(1,0)→f' i=f i:=by
 have hs:=hr.setI h.came t (by rw [tabI_len]; exact ht) v
 rw [tabI_upd] at hs
 exact ⟨_,hs,⟨upd_same _ _ _,by rw [upd_ne _ _ (by simp)]; exact h.queue⟩,fun i hi=>upd_ne _ _ hi⟩
theorem FN.push (h:FN f cv qv n came q) (hr:Rows B w f) {w1:World} {qv':Value} (t:Nat) (ho:OwnI B w1 qv' (castI q++[(t:Int)]))
 (hal:(roomOf qv'=roomOf qv∧w.grownBy w1 qv.ownBlock)∨(∃ k,qv'.ownBlock=some k∧w.heap.size≤k∧w.grownBy w1 none)):∃ f',Rows B w1 f'∧FN f' cv qv' n came (q++[t])∧∀ i,i≠(2,0)→f' i=f i:=by
 have hO:=hr.ownI h.queue
 have hg:w.grownBy w1 qv.ownBlock:=grown_via (hal.imp (·.2) (fun ⟨_,_,_,q⟩=>q))
 have hob:qv'.ownBlock=qv.ownBlock∨∃ k,qv'.ownBlock=some k∧w.heap.size≤k:=by
  rcases hal with ⟨q,_⟩ | ⟨k,h1,h2,_⟩
  ·obtain ⟨a1,n1,c1,e1⟩:=hO.at.shape
   obtain ⟨a2,n2,c2,e2⟩:=ho.at.shape
   exact .inl (ownBlock_of_room e1 e2 q)
  ·exact .inr ⟨k,h1,h2⟩
 exact ⟨_,hr.grown (r':=rowI qv' (castI q++[(t:Int)])) h.queue hg ho hob,⟨by rw [upd_ne _ _ (by simp)]; exact h.came,by rw [upd_same,castI_snoc]⟩,fun i hi=>upd_ne _ _ hi⟩
end
theorem first_any (na:Option Addr) (nc:Nat) (G:List (List Int)) (a b:Nat) (w:World) (h:ListsAt w (.slice na G.length nc) G) (hok:GraphOk G) (hn:G.length≤8200) (ha:a<G.length) (hb:b<G.length) (hsz:∀ k,k<G.length→(G.getD k []).length≤17592186044416) :
 Calls Tryz.prog 343 #[.slice na G.length nc,.int .i64 a,.int .i64 b] w (Ret1 (FirstPost w (adjOf G) a b) w):=by
 have b0:=belowAlloc w (.cells #[.int .i64 (-1)] 3)
 have hI:=(OwnI.lit w.heap.size w (Nat.le_refl _) [-1] (by simp [maxLen]) #[.int .i64 (-1)] rfl 1 rfl).at
 have hRep:=repeat_any _ (-1) G.length _ hI (by omega)
 have hinit:=BBase.init (adjOf G) a
 replace hI:=Hd hI
 replace h:=Hd h
 replace hok:=Hd hok
 replace hsz:=Hd hsz
 replace hinit:=Hd hinit
 replace hRep:=Hd hRep
 go_enter Tryz.func343,Tryz.ntmps343
 go_wp2_with fail
 refine hRep.out.mono ?_
 rintro e w1 ⟨cv,rfl,b1,hcv⟩
 obtain ⟨w0,hw0⟩:∃ w0:World,w0=w.alloc (.cells #[.int .i64 (-1)] 3):=⟨_,rfl⟩
 rw [← hw0] at b0 b1 hcv
 rw [← tabI_neg1] at hcv
 clear hRep hI hw0
 have b01:=Below.step b0 b1
 have R1:=(rowsE w.heap.size w0).add (i:=(1,0)) (r':=rowI cv (tabI G.length fun _=>-1)) b1 (hcv.mono b0.size) (fun k hk=>(hcv.lt k hk).1)
 have iA:=fun w'=>hcv.at.idx a (by rw [tabI_len]; exact ha) w'
 have cA:=hcv.at.cellD a (by rw [tabI_len]; exact ha)
 have fA:=hcv.frz a (by rw [tabI_len]; exact ha)
 have kA:=(hcv.toV.blkB a (by rw [List.length_map,tabI_len]; exact ha)).2
 have R2:=R1.setI (upd_same _ _ _) a (by rw [tabI_len]; exact ha) (a:Int)
 rw [tabI_upd] at R2
 have b2:Below w.heap.size w (w1.setCell (valAt cv a) (.int .i64 (a:Int))):=b01.setCell (Nat.le_trans b0.size kA) _
 generalize valAt cv a=ca at *
 generalize (tabI G.length fun _=>-1).getD a 0=oa at cA
 obtain ⟨W2,hW2⟩:∃ W2:World,W2=w1.setCell ca (.int .i64 (a:Int)):=⟨_,rfl⟩
 rw [← hW2] at R2 b2
 replace R2:=Hd R2
 replace R1:=Hd R1
 replace hcv:=Hd hcv
 go_upto_region 3 with fail
 rw [← hW2]
 clear hW2 iA cA fA
 have hB2:=b2.size
 have hal2:=belowAlloc W2 (.cells #[.int .i64 (a:Int)] 3)
 have hq2:=OwnI.lit W2.heap.size W2 (Nat.le_refl _) [(a:Int)] (by simp [maxLen]) #[.int .i64 (a:Int)] rfl 1 rfl
 have R3:=R2.out.add (i:=(2,0)) (r':=rowI (.slice (some ⟨W2.heap.size,0,none⟩) 1 1) [(a:Int)]) hal2 (hq2.mono hB2) (fun k hk=>(hq2.lt k hk).1)
 have b3:=b2.trans (hal2.mono hB2)
 obtain ⟨W3,hW3⟩:∃ W3:World,W3=W2.alloc (.cells #[.int .i64 (a:Int)] 3):=⟨_,rfl⟩
 rw [← hW3] at R3 b3
 obtain ⟨q2,hq2e⟩:∃ q2,q2=W2.heap.size:=⟨_,rfl⟩
 rw [← hq2e] at R3
 have hF0:FN (upd (upd (upd (fun _=>none) (1,0) (some (rowI cv (tabI G.length fun _=>-1)))) (1,0) (some (rowI cv (tabI G.length (updN (fun _=>(-1:Int)) a (a:Int)))))) (2,0) (some (rowI (.slice (some ⟨q2,0,none⟩) 1 1) [(a:Int)]))) cv (.slice (some ⟨q2,0,none⟩) 1 1) G.length (updN (fun _=>(-1:Int)) a (a:Int)) [a] :=
  ⟨by rw [upd_ne _ _ (by simp),upd_same],by rw [upd_same]; rfl⟩
 replace R3:=Hd R3
 replace hq2:=Hd hq2
 go_wp2_with fail
 rw [← hW3,← hq2e]
 clear hW3 hq2e R2 R1 hal2 hq2
 go_loopw [8,9] (fun qv iv wr=>∃ (i:Nat) (came:Nat→Int) (q:List Nat) (par dist:Nat→Nat) (f':Names) (qw:Value),qw=qv∧iv=.int .i64 i∧i≤q.length∧Rows w.heap.size wr f'∧Below w.heap.size w wr∧FN f' cv qw G.length came q∧BOut (adjOf G) a came q par dist i∧∀ x∈q,x<G.length) (fun _ iv _=>G.length+1-(intOf iv).toNat)
 case atStart=>exact ⟨0,_,[a],_,_,_,_,rfl,rfl,by omega,R3.out,b3,hF0,hinit.out,fun x hx=>by cases List.mem_singleton.1 hx; exact ha⟩
 case round =>
  obtain ⟨i,came,q,par,dist,f1,qv,rfl,rfl,hi,hr1,b1',h1,hO,hqn⟩:=hrel
  obtain ⟨wo,rfl⟩:∃ wo:World,wo=wr:=⟨_,rfl⟩
  have hql:=nodup_len G.length q hO.nodup hqn
  have hOQ:=hr1.ownI h1.queue
  have lQ:=hOQ.at.len
  rw [castI_len] at lQ
  have hOC:=hr1.ownI h1.came
  have iB:=fun w'=>hOC.at.idx b (by rw [tabI_len]; exact hb) w'
  have cB:=hOC.at.cellD b (by rw [tabI_len]; exact hb)
  rw [tabI_get _ _ _ hb] at cB
  generalize valAt cv b=pb at *
  obtain ⟨cb,hcb⟩:∃ cb,came b=cb:=⟨_,rfl⟩
  rw [hcb] at cB
  by_cases hil:i<q.length
  ·by_cases hneg:cb<0
   ·obtain ⟨v,hv⟩:∃ v,q[i]?=some v:=⟨_,List.getElem?_eq_getElem hil⟩
    have hvn:=hqn v (List.mem_of_getElem? hv)
    have iV:=fun w'=>hOQ.at.idx i (by rw [castI_len]; exact hil) w'
    have cV:=hOQ.at.cellD i (by rw [castI_len]; exact hil)
    rw [castI_get hv] at cV
    obtain ⟨mv,iR,cR,hM⟩:=(h.out.below (b1':Below w.heap.size w wo)).row v hvn
    have hgx:=hsz.out v hvn
    have hgp:∀ x∈G.getD v [],0≤x∧x<G.length:=hok.out v hvn
    have hadj:adjOf G v=(G.getD v []).map Int.toNat:=rfl
    generalize G.getD v []=gx at *
    obtain ⟨ma,mn,mc,rfl⟩:=hM.shape
    generalize valAt qv i=qa at *
    generalize valAt (.slice na G.length nc) v=ra at *
    replace hcb:=Hd hcb
    replace hr1:=Hd hr1
    replace hOQ:=Hd hOQ
    replace hOC:=Hd hOC
    replace hM:=Hd hM
    replace hO:=Hd hO
    replace hqn:=Hd hqn
    replace hgp:=Hd hgp
    replace hadj:=Hd hadj
    replace hv:=Hd hv
    go_wp2_with fail
    refine (vals_any ma mn mc _).mono ?_
    rintro e w2 ⟨rfl,rfl⟩
    have hbv:=belowAlloc wo (.cells #[.slice ma mn mc] 30)
    clear iB cB iV cV iR cR
    go_wp2_with fail
    refine (sorted_any wo.heap.size (.slice ma mn mc) gx hgx _ (by simp) (by simp) (hM.out.below hbv)).mono ?_
    rintro e w3 ⟨lv,rfl,b3',hL⟩
    have b4:Below wo.heap.size wo w3:=hbv.trans (b3'.mono hbv.size)
    have hBo:w.heap.size≤wo.heap.size:=b1'.size
    have R4:=hr1.out.add (i:=(3,0)) (r':=rowI lv (srt gx)) b4 (hL.mono (Nat.le_trans hBo hbv.size)) (fun k hk=>Nat.le_trans hbv.size (hL.lt k hk).1)
    have h4:FN (upd f1 (3,0) (some (rowI lv (srt gx)))) cv qv G.length came q:=h1.congr (upd_ne _ _ (by simp)) (upd_ne _ _ (by simp))
    have e4:upd f1 (3,0) (some (rowI lv (srt gx))) (3,0)=some (rowI lv (srt gx)):=upd_same _ _ _
    have b5:=b1'.trans (b4.mono hBo)
    have hIn:=hO.out.enter hv.out (l:=(srtN gx).drop 0) (fun t=>by rw [List.drop_zero,hadj.out]; exact srtN_mem gx t) (by rw [List.drop_zero]; exact srtN_sorted gx fun x hx=>(hgp.out x hx).1)
    have lL:=hL.at.len
    have hsl:(srt gx).length=gx.length:=srt_length gx
    generalize upd f1 (3,0) (some (rowI lv (srt gx)))=f4 at *
    replace R4:=Hd R4
    replace hIn:=Hd hIn
    replace hL:=Hd hL
    replace e4:=Hd e4
    go_wp2_with fail
    clear lL lQ
    go_loopw [8,49] (fun qv jv wr=>∃ (j:Nat) (came:Nat→Int) (q:List Nat) (par dist:Nat→Nat) (f':Names) (qw:Value),qw=qv∧jv=.int .i64 j∧j≤gx.length∧Rows w.heap.size wr f'∧Below w.heap.size w wr∧FN f' cv qw G.length came q∧f' (3,0)=some (rowI lv (srt gx))∧BIn (adjOf G) a came q par dist i v ((srtN gx).drop j)∧∀ x∈q,x<G.length) (fun _ jv _=>gx.length-(intOf jv).toNat)
    case atStart=>exact ⟨0,came,q,par,dist,f4,qv,rfl,rfl,by omega,R4.out,b5,h4,e4.out,hIn.out,hqn.out⟩
    case round =>
     clear hIn R4 e4 h4 b5 h1 hi hil hO hqn hv hOQ hOC hneg hcb
     obtain ⟨j,came,q,par,dist,f4,qv,rfl,rfl,hj,hr4,b5,h4,e4,hIn,hqn⟩:=hrel
     obtain ⟨wo,rfl⟩:∃ wo:World,wo=wr:=⟨_,rfl⟩
     have hOL:=hr4.ownI e4
     have lL:=hOL.at.len
     rw [hsl] at lL
     by_cases hjl:j<gx.length
     ·have hjs:j<(srtN gx).length:=by rw [srtN_len]; exact hjl
      obtain ⟨t,ht⟩:∃ t,(srtN gx)[j]?=some t:=⟨_,List.getElem?_eq_getElem hjs⟩
      have htd:(srtN gx).getD j 0=t:=by simp [List.getD,ht]
      have hdr:(srtN gx).drop j=t::(srtN gx).drop (j+1):=by
       rw [List.drop_eq_getElem_cons hjs]
       rw [List.getElem?_eq_getElem hjs] at ht
       injection ht with ht
       rw [ht]
      have htn:t<G.length:=by
       have hm:=(srtN_mem gx t).1 (List.mem_of_getElem? ht)
       obtain ⟨x,hx,rfl⟩:=List.mem_map.1 hm
       have:=hgp.out x hx
       omega
      have iT:=fun w'=>hOL.at.idx j (by rw [hsl]; exact hjl) w'
      have cT:=hOL.at.cellD j (by rw [hsl]; exact hjl)
      rw [srtN_get gx (fun x hx=>(hgp.out x hx).1) j hjl,htd] at cT
      rw [hdr] at hIn
      have hOC:=hr4.ownI h4.came
      have iC:=fun w'=>hOC.at.idx t (by rw [tabI_len]; exact htn) w'
      have cC:=hOC.at.cellD t (by rw [tabI_len]; exact htn)
      rw [tabI_get _ _ _ htn] at cC
      have fC:=hOC.frz t (by rw [tabI_len]; exact htn)
      have kC:=(hOC.toV.blkB t (by rw [List.length_map,tabI_len]; exact htn)).2
      obtain ⟨f5,hr5,h5,k5⟩:=h4.set hr4 t htn (v:Int)
      have e5:f5 (3,0)=some (rowI lv (srt gx)):=(k5 _ (by simp)).trans e4
      have b6:Below w.heap.size w (wo.setCell (valAt cv t) (.int .i64 (v:Int))):=b5.setCell kC _
      generalize valAt lv j=la at *
      generalize valAt cv t=ta at *
      obtain ⟨ct,hct⟩:∃ ct,came t=ct:=⟨_,rfl⟩
      rw [hct] at cC
      by_cases htc:ct<0
      ·have hadd:=hIn.add (by rw [hct]; exact htc)
       have hqn2:∀ x∈q++[t],x<G.length:=fun x hx=>by
        rcases List.mem_append.1 hx with hx | hx
        ·exact hqn x hx
        ·cases List.mem_singleton.1 hx; exact htn
       have hql2:=nodup_len G.length q hIn.base.nodup hqn
       replace hadd:=Hd hadd
       replace hqn2:=Hd hqn2
       replace hIn:=Hd hIn
       replace hqn:=Hd hqn
       replace hr4:=Hd hr4
       replace hr5:=Hd hr5
       replace hOC:=Hd hOC
       replace hOL:=Hd hOL
       replace hct:=Hd hct
       replace hdr:=Hd hdr
       replace htd:=Hd htd
       replace ht:=Hd ht
       replace k5:=Hd k5
       replace e4:=Hd e4
       replace e5:=Hd e5
       go_upto_region 13 with fail
       obtain ⟨W5,hW5⟩:∃ W5:World,W5=wo.setCell ta (.int .i64 (v:Int)):=⟨_,rfl⟩
       rw [← hW5]
       rw [← hW5] at hr5 b6
       clear hW5 iT cT iC cC fC lL
       have hOQ5:=hr5.out.ownI h5.queue
       have hB5:w.heap.size≤W5.heap.size:=b6.size
       go_wp2_with (at_builtin; refine wpl_app1 rfl _ _ rfl w.heap.size qv (castI q) t hOQ5 rfl rfl (by rw [castI_len]; omega) hB5 ?_)
       intro qv' w7 ho7 b7 hal7
       obtain ⟨f7,hr7,h7,k7⟩:=h5.push hr5.out t ho7 hal7
       replace hr7:=Hd hr7
       replace ho7:=Hd ho7
       replace k7:=Hd k7
       clear hal7
       go_wp2
       go_roundw
       case measure=>simp [intOf]; omega
       case rel=>exact ⟨j+1,_,_,_,_,f7,qv',rfl,by go_num,by omega,hr7.out,b6.trans b7,h7,(k7.out _ (by simp)).trans e5.out,hadd.out,hqn2.out⟩
      ·have hold:=hIn.old (by rw [hct]; omega)
       replace hold:=Hd hold
       replace hIn:=Hd hIn
       replace hqn:=Hd hqn
       replace hr4:=Hd hr4
       replace hr5:=Hd hr5
       replace hOC:=Hd hOC
       replace hOL:=Hd hOL
       replace hct:=Hd hct
       replace hdr:=Hd hdr
       replace htd:=Hd htd
       replace ht:=Hd ht
       replace k5:=Hd k5
       replace e4:=Hd e4
       replace e5:=Hd e5
       go_wp2
       go_roundw
       case measure=>simp [intOf]; omega
       case rel=>exact ⟨j+1,came,q,par,dist,f4,qv,rfl,by go_num,by omega,hr4.out,b5,h4,e4.out,hold.out,hqn.out⟩
     ·obtain rfl:j=gx.length:=by omega
      rw [List.drop_eq_nil_of_le (by rw [srtN_len]; exact Nat.le_refl _)] at hIn
      have hOut:=hIn.leave
      have hil:=get_of hIn.cur
      have hql2:=nodup_len G.length q hIn.base.nodup hqn
      replace hOut:=Hd hOut
      replace hIn:=Hd hIn
      replace hqn:=Hd hqn
      replace hr4:=Hd hr4
      replace hOL:=Hd hOL
      replace e4:=Hd e4
      go_wp2
      go_roundw
      case measure=>simp [intOf]; omega
      case rel=>exact ⟨i+1,came,q,par,dist,f4,qv,rfl,by go_num,by omega,hr4.out,b5,h4,hOut.out,hqn.out⟩
   ·have hcb0:¬ came b<0:=by rw [hcb]; exact hneg
    have hbq:=(hO.cameIff b).1 (by omega)
    obtain ⟨k0,hk0⟩:=List.mem_iff_getElem?.1 hbq
    have hlit:=OwnI.lit wo.heap.size wo (Nat.le_refl _) [(b:Int)] (by simp [maxLen]) #[.int .i64 (b:Int)] rfl 1 rfl
    have halw:=belowAlloc wo (.cells #[.int .i64 (b:Int)] 3)
    have hBo:w.heap.size≤wo.heap.size:=b1'.size
    have R8:=hr1.add (i:=(4,0)) (r':=rowI (.slice (some ⟨wo.heap.size,0,none⟩) 1 1) (castI [b].reverse)) halw (hlit.mono hBo) (fun k hk=>(hlit.lt k hk).1)
    have b8:=b1'.trans (halw.mono hBo)
    have hcame8:(upd f1 (4,0) (some (rowI (.slice (some ⟨wo.heap.size,0,none⟩) 1 1) (castI [b].reverse)))) (1,0)=some (rowI cv (tabI G.length came)):=(upd_ne _ _ (by simp)).trans h1.came
    have hway8:=upd_same f1 (4,0) (some (rowI (.slice (some ⟨wo.heap.size,0,none⟩) 1 1) (castI [b].reverse)))
    generalize upd f1 (4,0) (some (rowI (.slice (some ⟨wo.heap.size,0,none⟩) 1 1) (castI [b].reverse)))=f8 at *
    obtain ⟨W8,hW8⟩:∃ W8:World,W8=wo.alloc (.cells #[.int .i64 (b:Int)] 3):=⟨_,rfl⟩
    obtain ⟨s8,hs8⟩:∃ s8,s8=wo.heap.size:=⟨_,rfl⟩
    rw [← hW8] at R8 b8
    rw [← hs8] at hway8
    have htree:Tree came q (adjOf G) b b [b]:=.one b hbq
    replace hcb:=Hd hcb
    replace hr1:=Hd hr1
    replace hOQ:=Hd hOQ
    replace hOC:=Hd hOC
    replace hO:=Hd hO
    replace hqn:=Hd hqn
    replace hlit:=Hd hlit
    replace R8:=Hd R8
    replace hk0:=Hd hk0
    replace hcame8:=Hd hcame8
    replace hway8:=Hd hway8
    replace htree:=Hd htree
    clear halw
    go_wp2_with fail
    rw [← hW8,← hs8]
    clear hW8 hs8 iB cB lQ
    go_loopg [13,14] k0 (fun k wv vv wr=>∃ (x:Nat) (u:List Nat) (f':Names) (ww:Value),ww=wv∧vv=.int .i64 x∧q[k]?=some x∧Tree came q (adjOf G) x b u∧Rows w.heap.size wr f'∧Below w.heap.size w wr∧f' (1,0)=some (rowI cv (tabI G.length came))∧f' (4,0)=some (rowI ww (castI u.reverse))∧u.length≤G.length+1-k)
    case atStart=>exact ⟨b,[b],f8,_,rfl,rfl,hk0.out,htree.out,R8.out,b8,hcame8.out,hway8.out,by have:=get_of hk0.out; simp only [List.length_cons,List.length_nil]; omega⟩
    case round =>
     clear R8 b8 hcame8 hway8 htree hk0
     obtain ⟨x,u,f9,wv,rfl,rfl,hk,hT,hr9,b9,hc9,hw9,hul⟩:=hrel
     obtain ⟨wo,rfl⟩:∃ wo:World,wo=wr:=⟨_,rfl⟩
     obtain ⟨k,rfl⟩:∃ k:Nat,k=gk:=⟨_,rfl⟩
     have hxn:=hqn.out x (List.mem_of_getElem? hk)
     have hkl:=get_of hk
     by_cases hxa:x=a
     ·subst hxa
      have hfirst:=hO.out.first hT
      have hOW:=hr9.ownI hw9
      have hrev:=reverse_own w.heap.size wv (castI u.reverse) wo hOW (by rw [castI_len,List.length_reverse]; omega)
      have hrr:(castI u.reverse).reverse=castI u:=by rw [castI_reverse,List.reverse_reverse]
      rw [hrr] at hrev
      replace hrev:=Hd hrev
      replace hfirst:=Hd hfirst
      replace hT:=Hd hT
      replace hr9:=Hd hr9
      replace hOW:=Hd hOW
      replace hc9:=Hd hc9
      replace hw9:=Hd hw9
      replace hk:=Hd hk
      replace hrr:=Hd hrr
      go_wp2_with fail
      refine hrev.out.mono ?_
      rintro e w10 ⟨rfl,ho10,b10⟩
      replace ho10:=Hd ho10
      go_wp2
      go_ret
      exact ⟨_,rfl,b9.trans b10,.inl ⟨u,hfirst.out,ho10.out⟩⟩
     ·have hk1:0<k:=by
       by_cases e:0<k
       ·exact e
       ·obtain rfl:k=0:=by omega
        have:=hO.out.hd
        rw [hk] at this
        injection this with this
        exact absurd this hxa
      obtain ⟨p1,p2,p,p3,p4,p5,p6⟩:=hO.out.parLt k x hk1 hk
      have hT2:=Tree.cons _ _ p3 hk hk1 p4 hT
      have hpn:=hqn.out p (List.mem_of_getElem? p3)
      have hne:((x:Int) != (a:Int))=true:=by rw [bne_iff_ne]; omega
      have hOC9:=hr9.ownI hc9
      have iX:=fun w'=>hOC9.at.idx x (by rw [tabI_len]; exact hxn) w'
      have cX:=hOC9.at.cellD x (by rw [tabI_len]; exact hxn)
      rw [tabI_get _ _ _ hxn,p4] at cX
      have hOW:=hr9.ownI hw9
      have hB9:w.heap.size≤wo.heap.size:=b9.size
      have hlu:(castI u.reverse).length<4398046511104:=by rw [castI_len,List.length_reverse]; omega
      have hgrow:=fun (w':World) (wv':Value) (ho:OwnI w.heap.size w' wv' (castI u.reverse++[(p:Int)])) (hal:(roomOf wv'=roomOf wv∧wo.grownBy w' wv.ownBlock)∨(∃ k,wv'.ownBlock=some k∧wo.heap.size≤k∧wo.grownBy w' none))=>show ∃ f',Rows w.heap.size w' f'∧f' (1,0)=some (rowI cv (tabI G.length came))∧f' (4,0)=some (rowI wv' (castI (p::u).reverse)) from by
       have hg:wo.grownBy w' wv.ownBlock:=grown_via (hal.imp (·.2) (fun ⟨_,_,_,q⟩=>q))
       have hob:wv'.ownBlock=wv.ownBlock∨∃ k,wv'.ownBlock=some k∧wo.heap.size≤k:=by
        rcases hal with ⟨q,_⟩ | ⟨k,h1,h2,_⟩
        ·obtain ⟨a1,n1,c1,e1⟩:=hOW.at.shape
         obtain ⟨a2,n2,c2,e2⟩:=ho.at.shape
         exact .inl (ownBlock_of_room e1 e2 q)
        ·exact .inr ⟨k,h1,h2⟩
       exact ⟨_,hr9.grown (r':=rowI wv' (castI u.reverse++[(p:Int)])) hw9 hg ho hob,by rw [upd_ne _ _ (by simp)]; exact hc9,by rw [upd_same,List.reverse_cons,castI_snoc]⟩
      generalize valAt cv x=xa at *
      replace hgrow:=Hd hgrow
      replace hT:=Hd hT
      replace hT2:=Hd hT2
      replace hr9:=Hd hr9
      replace hOC9:=Hd hOC9
      replace hc9:=Hd hc9
      replace hw9:=Hd hw9
      replace hk:=Hd hk
      replace p3:=Hd p3
      replace p4:=Hd p4
      replace p6:=Hd p6
      go_wp2_with (at_builtin; refine wpl_app1 rfl _ _ rfl w.heap.size wv (castI u.reverse) p hOW rfl rfl hlu hB9 ?_)
      intro wv' w11 ho11 b11 hal11
      obtain ⟨f11,hr11,hc11,hw11⟩:=hgrow.out w11 wv' ho11 hal11
      replace ho11:=Hd ho11
      replace hr11:=Hd hr11
      replace hc11:=Hd hc11
      replace hw11:=Hd hw11
      clear hal11
      go_wp2
      go_roundg (par k)
      case measure=>exact p2
      case rel=>exact ⟨p,p::u,f11,wv',rfl,rfl,p3.out,hT2.out,hr11.out,b9.trans b11,hc11.out,hw11.out,by simp only [List.length_cons]; omega⟩
  ·by_cases hneg:cb<0
   ·have hnone:=hO.none (by omega) (by rw [hcb]; exact hneg)
    replace hnone:=Hd hnone
    replace hcb:=Hd hcb
    replace hr1:=Hd hr1
    replace hOQ:=Hd hOQ
    replace hOC:=Hd hOC
    replace hO:=Hd hO
    replace hqn:=Hd hqn
    go_wp2
    go_ret
    exact ⟨_,rfl,b1',.inr ⟨hnone.out,rfl⟩⟩
   ·have hcb0:¬ came b<0:=by rw [hcb]; exact hneg
    have hbq:=(hO.cameIff b).1 (by omega)
    obtain ⟨k0,hk0⟩:=List.mem_iff_getElem?.1 hbq
    have hlit:=OwnI.lit wo.heap.size wo (Nat.le_refl _) [(b:Int)] (by simp [maxLen]) #[.int .i64 (b:Int)] rfl 1 rfl
    have halw:=belowAlloc wo (.cells #[.int .i64 (b:Int)] 3)
    have hBo:w.heap.size≤wo.heap.size:=b1'.size
    have R8:=hr1.add (i:=(4,0)) (r':=rowI (.slice (some ⟨wo.heap.size,0,none⟩) 1 1) (castI [b].reverse)) halw (hlit.mono hBo) (fun k hk=>(hlit.lt k hk).1)
    have b8:=b1'.trans (halw.mono hBo)
    have hcame8:(upd f1 (4,0) (some (rowI (.slice (some ⟨wo.heap.size,0,none⟩) 1 1) (castI [b].reverse)))) (1,0)=some (rowI cv (tabI G.length came)):=(upd_ne _ _ (by simp)).trans h1.came
    have hway8:=upd_same f1 (4,0) (some (rowI (.slice (some ⟨wo.heap.size,0,none⟩) 1 1) (castI [b].reverse)))
    generalize upd f1 (4,0) (some (rowI (.slice (some ⟨wo.heap.size,0,none⟩) 1 1) (castI [b].reverse)))=f8 at *
    obtain ⟨W8,hW8⟩:∃ W8:World,W8=wo.alloc (.cells #[.int .i64 (b:Int)] 3):=⟨_,rfl⟩
    obtain ⟨s8,hs8⟩:∃ s8,s8=wo.heap.size:=⟨_,rfl⟩
    rw [← hW8] at R8 b8
    rw [← hs8] at hway8
    have htree:Tree came q (adjOf G) b b [b]:=.one b hbq
    replace hcb:=Hd hcb
    replace hr1:=Hd hr1
    replace hOQ:=Hd hOQ
    replace hOC:=Hd hOC
    replace hO:=Hd hO
    replace hqn:=Hd hqn
    replace hlit:=Hd hlit
    replace R8:=Hd R8
    replace hk0:=Hd hk0
    replace hcame8:=Hd hcame8
    replace hway8:=Hd hway8
    replace htree:=Hd htree
    clear halw
    go_wp2_with fail
    rw [← hW8,← hs8]
    clear hW8 hs8 iB cB lQ
    go_loopg [13,14] k0 (fun k wv vv wr=>∃ (x:Nat) (u:List Nat) (f':Names) (ww:Value),ww=wv∧vv=.int .i64 x∧q[k]?=some x∧Tree came q (adjOf G) x b u∧Rows w.heap.size wr f'∧Below w.heap.size w wr∧f' (1,0)=some (rowI cv (tabI G.length came))∧f' (4,0)=some (rowI ww (castI u.reverse))∧u.length≤G.length+1-k)
    case atStart=>exact ⟨b,[b],f8,_,rfl,rfl,hk0.out,htree.out,R8.out,b8,hcame8.out,hway8.out,by have:=get_of hk0.out; simp only [List.length_cons,List.length_nil]; omega⟩
    case round =>
     clear R8 b8 hcame8 hway8 htree hk0
     obtain ⟨x,u,f9,wv,rfl,rfl,hk,hT,hr9,b9,hc9,hw9,hul⟩:=hrel
     obtain ⟨wo,rfl⟩:∃ wo:World,wo=wr:=⟨_,rfl⟩
     obtain ⟨k,rfl⟩:∃ k:Nat,k=gk:=⟨_,rfl⟩
     have hxn:=hqn.out x (List.mem_of_getElem? hk)
     have hkl:=get_of hk
     by_cases hxa:x=a
     ·subst hxa
      have hfirst:=hO.out.first hT
      have hOW:=hr9.ownI hw9
      have hrev:=reverse_own w.heap.size wv (castI u.reverse) wo hOW (by rw [castI_len,List.length_reverse]; omega)
      have hrr:(castI u.reverse).reverse=castI u:=by rw [castI_reverse,List.reverse_reverse]
      rw [hrr] at hrev
      replace hrev:=Hd hrev
      replace hfirst:=Hd hfirst
      replace hT:=Hd hT
      replace hr9:=Hd hr9
      replace hOW:=Hd hOW
      replace hc9:=Hd hc9
      replace hw9:=Hd hw9
      replace hk:=Hd hk
      replace hrr:=Hd hrr
      go_wp2_with fail
      refine hrev.out.mono ?_
      rintro e w10 ⟨rfl,ho10,b10⟩
      replace ho10:=Hd ho10
      go_wp2
      go_ret
      exact ⟨_,rfl,b9.trans b10,.inl ⟨u,hfirst.out,ho10.out⟩⟩
     ·have hk1:0<k:=by
       by_cases e:0<k
       ·exact e
       ·obtain rfl:k=0:=by omega
        have:=hO.out.hd
        rw [hk] at this
        injection this with this
        exact absurd this hxa
      obtain ⟨p1,p2,p,p3,p4,p5,p6⟩:=hO.out.parLt k x hk1 hk
      have hT2:=Tree.cons _ _ p3 hk hk1 p4 hT
      have hpn:=hqn.out p (List.mem_of_getElem? p3)
      have hne:((x:Int) != (a:Int))=true:=by rw [bne_iff_ne]; omega
      have hOC9:=hr9.ownI hc9
      have iX:=fun w'=>hOC9.at.idx x (by rw [tabI_len]; exact hxn) w'
      have cX:=hOC9.at.cellD x (by rw [tabI_len]; exact hxn)
      rw [tabI_get _ _ _ hxn,p4] at cX
      have hOW:=hr9.ownI hw9
      have hB9:w.heap.size≤wo.heap.size:=b9.size
      have hlu:(castI u.reverse).length<4398046511104:=by rw [castI_len,List.length_reverse]; omega
      have hgrow:=fun (w':World) (wv':Value) (ho:OwnI w.heap.size w' wv' (castI u.reverse++[(p:Int)])) (hal:(roomOf wv'=roomOf wv∧wo.grownBy w' wv.ownBlock)∨(∃ k,wv'.ownBlock=some k∧wo.heap.size≤k∧wo.grownBy w' none))=>show ∃ f',Rows w.heap.size w' f'∧f' (1,0)=some (rowI cv (tabI G.length came))∧f' (4,0)=some (rowI wv' (castI (p::u).reverse)) from by
       have hg:wo.grownBy w' wv.ownBlock:=grown_via (hal.imp (·.2) (fun ⟨_,_,_,q⟩=>q))
       have hob:wv'.ownBlock=wv.ownBlock∨∃ k,wv'.ownBlock=some k∧wo.heap.size≤k:=by
        rcases hal with ⟨q,_⟩ | ⟨k,h1,h2,_⟩
        ·obtain ⟨a1,n1,c1,e1⟩:=hOW.at.shape
         obtain ⟨a2,n2,c2,e2⟩:=ho.at.shape
         exact .inl (ownBlock_of_room e1 e2 q)
        ·exact .inr ⟨k,h1,h2⟩
       exact ⟨_,hr9.grown (r':=rowI wv' (castI u.reverse++[(p:Int)])) hw9 hg ho hob,by rw [upd_ne _ _ (by simp)]; exact hc9,by rw [upd_same,List.reverse_cons,castI_snoc]⟩
      generalize valAt cv x=xa at *
      replace hgrow:=Hd hgrow
      replace hT:=Hd hT
      replace hT2:=Hd hT2
      replace hr9:=Hd hr9
      replace hOC9:=Hd hOC9
      replace hc9:=Hd hc9
      replace hw9:=Hd hw9
      replace hk:=Hd hk
      replace p3:=Hd p3
      replace p4:=Hd p4
      replace p6:=Hd p6
      go_wp2_with (at_builtin; refine wpl_app1 rfl _ _ rfl w.heap.size wv (castI u.reverse) p hOW rfl rfl hlu hB9 ?_)
      intro wv' w11 ho11 b11 hal11
      obtain ⟨f11,hr11,hc11,hw11⟩:=hgrow.out w11 wv' ho11 hal11
      replace ho11:=Hd ho11
      replace hr11:=Hd hr11
      replace hc11:=Hd hc11
      replace hw11:=Hd hw11
      clear hal11
      go_wp2
      go_roundg (par k)
      case measure=>exact p2
      case rel=>exact ⟨p,p::u,f11,wv',rfl,rfl,p3.out,hT2.out,hr11.out,b9.trans b11,hc11.out,hw11.out,by simp only [List.length_cons]; omega⟩
theorem lenArr (g K c:Nat) (w:World):(Builtin.len_ #[340] 3 #[.slice (some ⟨g,0,none⟩) K c]).run Tryz.prog w=.ok (.int .i64 K) w:=by
 rw [run_len_slice _ _ _ _ _ _ (by kernel_rfl)]; rfl
theorem idxArr (g K c s:Nat) (hs:s<K) (w:World):(Instr.indexAt 340 (.slice (some ⟨g,0,none⟩) K c) (.int .i64 s)).run Tryz.prog w=.ok (.pointer (some ⟨g,s*2,none⟩)) w:=by
 have e:Tryz.prog.elem 340=342:=by kernel_rfl
 have hz:∀ w:World,(sizeOf 342).run Tryz.prog w=.ok 2 w:=fun w=>by kernel_rfl
 rw [run_indexAt_slice _ _ _ _ _ _ _ (by rw [e]; kernel_rfl),if_pos (by omega),e,hz]
 simp only [Result.andThen,Addr.add,Int.toNat_natCast]
 by_cases e:s*2=0
 ·rw [if_pos e]
  simp only [e]
 ·rw [if_neg e]
  simp
def pairTo (K N:Nat) (T:List Int) (k p:Nat):List Int:=if p<k then castI (pairL K N T p) else []
theorem pairTo_zero (K N:Nat) (T:List Int):pairTo K N T 0=fun _=>[]:=by funext p; unfold pairTo; rw [if_neg (by omega)]
theorem pairTo_step (K N:Nat) (T:List Int) (k:Nat):updN (pairTo K N T k) k (castI (pairL K N T k))=pairTo K N T (k+1):=by
 funext p
 unfold pairTo
 by_cases e:p=k
 ·subst e; rw [updN_same,if_pos (by omega)]
 ·rw [updN_other _ _ _ e]
  by_cases h:p<k
  ·rw [if_pos h,if_pos (by omega)]
  ·rw [if_neg h,if_neg (by omega)]
def pairG (K N:Nat) (T:List Int):List (List Int):=rowsOf (N*N) fun p=>castI (pairL K N T p)
theorem cell_grown {w w':World} {row:Option Nat} {p:Addr} {v:Value} (hg:w.grownBy w' row) (h:w.cell? p=some v) (hne:row≠some p.block):w'.cell? p=some v :=
 (World.cell?_of_block (hg.block _ (World.block_lt_of_cell? _ _ h) (fun e=>hne e.symm))).trans h
theorem Rows.monoB {B B':Nat} {w:World} {f:Names} (h:Rows B w f) (hB:B'≤B):Rows B' w f :=
 ⟨fun i r hi=>by
   have ho:=h.1 i r hi
   refine ⟨ho.1,?_⟩
   rcases ho.2 with h2 | ⟨g,cap,cur,e,hb,r⟩
   ·exact .inl h2
   ·exact .inr ⟨g,cap,cur,e,Nat.le_trans hB hb,r⟩,h.2⟩
theorem pgraph_ok (r:Nat→Addr) (K R:Nat) (va:Option Addr) (vn vc:Nat) (T:List Int) (w:World) (hg:Glob r w) (h:IntsAt w (.slice va vn vc) T) (hr:RuleOk K R T) (hl:T.length≤256) :
 Calls Tryz.prog 159 #[.agg #[.int .i64 K,.int .i64 R,.slice va vn vc]] w (Ret2 (fun x y w'=>y=.nilIface∧∃ f vals,Rows w.heap.size w' f∧WN f x vals (pw K (2*wkR R)*pw K (2*wkR R)) (fun p=>castI (pairL K (pw K (2*wkR R)) (wkT K R T) p))) w):=by
 have b0:=belowAlloc w (.cells #[.int .i64 K,.int .i64 R,.slice va vn vc] 124)
 have q:Box3 (w.alloc (.cells #[.int .i64 K,.int .i64 R,.slice va vn vc] 124)) w.heap.size (.int .i64 K) (.int .i64 R) (.slice va vn vc):=by simp [Box3,go_sem]
 have hk1:=hr.k1
 have hk4:=hr.k4
 have hokW:=wk_ok hr
 have hlW:=wk_small hr hl
 have hRW:=wk_pos R
 have hN81:=nodes_le hokW hRW hlW
 obtain ⟨hdiv,hlen⟩:=hokW.half
 have hN1:=pw_pos (K:=K) (2*wkR R) hk1
 have hwork:=fun (w':World) (hgl:Glob r w') (hT:IntsAt w' (.slice va vn vc) T)=>working_ok r K R va vn vc T w' hgl hT hr hl
 have harr:=fun (a:Option Addr) (n c:Nat) (w':World) (hgl:Glob r w') (hT:IntsAt w' (.slice a n c) (wkT K R T))=>arrows_any r K (wkR R) a n c (wkT K R T) w' hgl hT hokW hlW
 rw [hdiv] at harr
 generalize pw K (2*wkR R)=N at *
 generalize wkT K R T=T' at *
 generalize wkR R=R' at *
 replace hwork:=Hd hwork
 replace harr:=Hd harr
 replace hg:=Hd (hg.below b0)
 replace h:=Hd (h.below b0)
 replace hokW:=Hd hokW
 replace hr:=Hd hr
 replace hdiv:=Hd hdiv
 replace hlen:=Hd hlen
 go_enter Tryz.func159,Tryz.ntmps159
 go_wp2_with fail
 refine (hwork.out _ hg.out h.out).mono ?_
 rintro e w1 ⟨x,y,rfl,b1,rfl,a,n,c,rfl,hT1⟩
 have b01:=Below.step b0 b1
 have ba:=belowAlloc w1 (.cells #[.int .i64 K,.int .i64 R',.slice a n c] 124)
 have q1:Box3 (w1.alloc (.cells #[.int .i64 K,.int .i64 R',.slice a n c] 124)) w1.heap.size (.int .i64 K) (.int .i64 R') (.slice a n c):=by simp [Box3,go_sem]
 have b02:=Below.step b01 ba
 have b12:=Below.step b1 ba
 have hT2:=hT1.below ba
 clear q
 replace hT1:=Hd hT1
 replace hT2:=Hd hT2
 go_wp2_with fail
 refine (harr.out a n c _ (hg.out.below b12) hT2.out).mono ?_
 rintro e w3 ⟨lv,rfl,b3,hA⟩
 have b03:=Below.step b02 b3
 clear q1
 obtain ⟨vs,hvs,hvl,hrows⟩:=hA
 obtain ⟨la,ln,lc,rfl⟩:=hvs.shape
 have ll:=fun w'=>hvs.len oneArrows 3 w'
 rw [hvl] at ll
 have hNN:(N:Int)*(N:Int)=((N*N:Nat):Int):=by simp
 have hM6:N*N≤6561:=Nat.mul_le_mul hN81 hN81
 have hNz1:¬ (N:Int)=0:=by omega
 have hNz2:((N:Int)==0)=false:=by rw [beq_eq_false_iff_ne]; omega
 have hNz3:(0:Int)<N:=by omega
 have hNz4:¬ N=0:=by omega
 obtain ⟨M,hM⟩:∃ M,N*N=M:=⟨_,rfl⟩
 rw [hM] at hNN hM6
 have hwM:IntKind.i64.wrap (M:Int)=M:=wrapK (by omega) (by omega)
 obtain ⟨ov,w4,mk,ho,hb4⟩:=run_makeW oneLists (M:Int) M w3 rfl (by omega)
 obtain ⟨f1,hr1,h1⟩:=WN.made M hb4 (Nat.le_refl _) ho
 obtain ⟨oa,on,oc,rfl⟩:=ho.shape
 have lo:=fun w'=>(ho.at).len oneLists 3 w'
 rw [List.length_replicate] at lo
 rw [← pairTo_zero K N T'] at h1
 replace hvs:=Hd hvs
 replace hrows:=Hd hrows
 replace hr1:=Hd hr1
 replace ho:=Hd ho
 replace hM:=Hd hM
 go_wp2_with fail
 clear mk lo ll
 go_loopw [33] (fun kv wr=>∃ (k:Nat) (f:Names) (vals:List Value),k≤M∧kv=.int .i64 k∧Rows w3.heap.size wr f∧Below w3.heap.size w3 wr∧WN f (.slice oa on oc) vals M (pairTo K N T' k)) (fun kv _=>M-(intOf kv).toNat)
 case atStart=>exact ⟨0,f1,_,by omega,rfl,hr1.out,hb4,h1⟩
 case round =>
  clear h1 ho hr1 hb4
  obtain ⟨k,f2,vals,hk,rfl,hr2,b2,h2⟩:=hrel
  obtain ⟨wo,rfl⟩:∃ wo:World,wo=wr:=⟨_,rfl⟩
  by_cases hlt:k<M
  ·obtain ⟨u,hu⟩:∃ u,k/N=u:=⟨_,rfl⟩
   obtain ⟨v,hv⟩:∃ v,k%N=v:=⟨_,rfl⟩
   have hun:u<N:=by rw [← hu]; exact div_lt_of (by rw [hM.out]; exact hlt)
   have hvn:v<N:=by rw [← hv]; exact Nat.mod_lt _ (by omega)
   have hqu:(k:Int)/(N:Int)=(u:Int):=by rw [← hu]; simp
   have hqv:(k:Int)%(N:Int)=(v:Int):=by rw [← hv]; simp
   have hqu2:(k:Int).tdiv (N:Int)=(u:Int):=by rw [Int.tdiv_eq_ediv_of_nonneg (by omega)]; exact hqu
   have hqv2:(k:Int).tmod (N:Int)=(v:Int):=by rw [Int.tmod_eq_emod_of_nonneg (by omega)]; exact hqv
   have hwu:IntKind.i64.wrap (u:Int)=u:=wrapK (by omega) (by omega)
   have hwv:IntKind.i64.wrap (v:Int)=v:=wrapK (by omega) (by omega)
   obtain ⟨gu,cu,eu,hcu,hcellU⟩:=hrows.out u hun
   obtain ⟨gv,cv,ev,hcv,hcellV⟩:=hrows.out v hvn
   have iU:=fun w'=>hvs.out.idx oneArrows u (by omega) w'
   have iV:=fun w'=>hvs.out.idx oneArrows v (by omega) w'
   have cU3:=hvs.out.cellV u (by omega)
   have cV3:=hvs.out.cellV v (by omega)
   rw [eu] at cU3
   rw [ev] at cV3
   have cU:=(b2.cell (World.block_lt_of_cell? _ _ cU3)).trans cU3
   generalize valAt (.slice la ln lc) u=ua at *
   have lenU:=lenArr gu K cu
   have lenV:=lenArr gv K cv
   have idxU:=fun s (hs:s<K) w'=>idxArr gu K cu s hs w'
   have idxV:=fun s (hs:s<K) w'=>idxArr gv K cv s hs w'
   have hcU:=fun (w':World) (hb:Below w3.heap.size w3 w') s (hs:s<K)=>(⟨cell_keep hb (hcellU s hs).1,cell_keep hb (hcellU s hs).2⟩:w'.cell? ⟨gu,s*2,none⟩=some (.int .i64 (toN K N u s))∧w'.cell? ⟨gu,s*2+1,none⟩=some (.int .i64 (labN K T' u s)))
   have hcV:=fun (w':World) (hb:Below w3.heap.size w3 w') s (hs:s<K)=>(⟨cell_keep hb (hcellV s hs).1,cell_keep hb (hcellV s hs).2⟩:w'.cell? ⟨gv,s*2,none⟩=some (.int .i64 (toN K N v s))∧w'.cell? ⟨gv,s*2+1,none⟩=some (.int .i64 (labN K T' v s)))
   have cVk:=fun (w':World) (hb:Below w3.heap.size w3 w')=>(hb.cell (World.block_lt_of_cell? _ _ cV3)).trans cV3
   generalize valAt (.slice la ln lc) v=va' at *
   replace hcU:=Hd hcU
   replace hcV:=Hd hcV
   replace cVk:=Hd cVk
   replace idxU:=Hd idxU
   replace idxV:=Hd idxV
   replace hcellU:=Hd hcellU
   replace hcellV:=Hd hcellV
   replace hr2:=Hd hr2
   replace hu:=Hd hu
   replace hv:=Hd hv
   replace eu:=Hd eu
   replace ev:=Hd ev
   clear cU3 cV3
   go_wp2_with fail
   clear cU iU
   go_loopw [10,43] (fun tv sv wr=>∃ (s:Nat) (tw:Value),s≤K∧sv=.int .i64 s∧tw=tv∧OwnI wo.heap.size wr tw (castI (rawP K N T' u v s))∧Below wo.heap.size wo wr) (fun _ sv _=>K-(intOf sv).toNat)
   case atStart=>exact ⟨0,_,by omega,rfl,rfl,OwnI.nil _ _,Below.refl _ _⟩
   case round =>
    obtain ⟨s,tv,hs,rfl,rfl,hoT,bT⟩:=hrel
    obtain ⟨wt,rfl⟩:∃ wt:World,wt=wr:=⟨_,rfl⟩
    by_cases hsl:s<K
    ·have b3t:=b2.trans (bT.mono b2.size)
     have iS:=fun w'=>idxU.out s hsl w'
     obtain ⟨cS0,cS1⟩:=hcU.out wt b3t s hsl
     obtain ⟨X,hX⟩:∃ X,toN K N u s=X:=⟨_,rfl⟩
     obtain ⟨Y,hY⟩:∃ Y,labN K T' u s=Y:=⟨_,rfl⟩
     rw [hX] at cS0
     rw [hY] at cS1
     have hXN:X<N:=by rw [← hX]; exact toN_lt (by omega)
     have bA:=belowAlloc wt (.cells #[.int .i64 X,.int .i64 Y] 342)
     have bTA:=bT.trans (bA.mono bT.size)
     have b3A:=b3t.trans (bA.mono b3t.size)
     have cA0:(wt.alloc (.cells #[.int .i64 X,.int .i64 Y] 342)).cell? ⟨wt.heap.size,0,none⟩=some (.int .i64 X):=by simp [go_sem]
     have cA1:(wt.alloc (.cells #[.int .i64 X,.int .i64 Y] 342)).cell? ⟨wt.heap.size,1,none⟩=some (.int .i64 Y):=by simp [go_sem]
     have cV:=cVk.out _ b3A
     have hoA:=hoT.below bA
     have hneT:tv.ownBlock≠some wt.heap.size:=fun e=>by have:=(hoT.lt _ e).2; omega
     replace hoT:=Hd hoT
     replace hoA:=Hd hoA
     replace hX:=Hd hX
     replace hY:=Hd hY
     replace cA0:=Hd cA0
     replace cA1:=Hd cA1
     go_wp2_with fail
     obtain ⟨wa,hwa⟩:∃ wa:World,wa=wt.alloc (.cells #[.int .i64 X,.int .i64 Y] 342):=⟨_,rfl⟩
     rw [← hwa] at bA bTA b3A cA0 cA1 cV hoA ⊢
     replace hwa:=Hd hwa
     go_loopw [10,54] (fun tv' jv wr=>∃ (j:Nat) (tw:Value),j≤K∧jv=.int .i64 j∧tw=tv'∧OwnI wo.heap.size wr tw (castI (rawP K N T' u v s++rawS K N T' u v s j))∧Below wo.heap.size wo wr∧tw.ownBlock≠some wt.heap.size∧wr.cell? ⟨wt.heap.size,0,none⟩=some (.int .i64 X)∧wr.cell? ⟨wt.heap.size,1,none⟩=some (.int .i64 Y)) (fun _ jv _=>K-(intOf jv).toNat)
     case atStart=>exact ⟨0,_,by omega,rfl,rfl,by simpa [rawS] using hoA.out,bTA,hneT,cA0.out,cA1.out⟩
     case round =>
      obtain ⟨j,tj,hj,rfl,rfl,hoJ,bJ,hne,y0,y1⟩:=hrel
      obtain ⟨wj,rfl⟩:∃ wj:World,wj=wr:=⟨_,rfl⟩
      by_cases hjl:j<K
      ·have b3j:=b2.trans (bJ.mono b2.size)
       have iJ:=fun w'=>idxV.out j hjl w'
       obtain ⟨cJ0,cJ1⟩:=hcV.out wj b3j j hjl
       obtain ⟨X2,hX2⟩:∃ X,toN K N v j=X:=⟨_,rfl⟩
       obtain ⟨Y2,hY2⟩:∃ Y,labN K T' v j=Y:=⟨_,rfl⟩
       rw [hX2] at cJ0
       rw [hY2] at cJ1
       have hXN2:X2<N:=by rw [← hX2]; exact toN_lt (by omega)
       have bA2:=belowAlloc wj (.cells #[.int .i64 X2,.int .i64 Y2] 342)
       have y0':=cell_keep bA2 y0
       have y1':=cell_keep bA2 y1
       have bJA:=bJ.trans (bA2.mono bJ.size)
       have hoJA:=hoJ.below bA2
       have hsz:=bJA.size
       have hwt:wt.heap.size<wj.heap.size:=World.block_lt_of_cell? _ _ y0
       have hlenJ:(castI (rawP K N T' u v s++rawS K N T' u v s j)).length≤100:=by
        rw [castI_len,List.length_append]
        have e1:=rawP_len K N T' u v s
        have e2:=rawS_len K N T' u v s j
        have e3:=Nat.mul_le_mul hs hk4
        omega
       replace hoJ:=Hd hoJ
       replace hX2:=Hd hX2
       replace hY2:=Hd hY2
       have cB0:(wj.alloc (.cells #[.int .i64 X2,.int .i64 Y2] 342)).cell? ⟨wj.heap.size,0,none⟩=some (.int .i64 X2):=by simp [go_sem]
       have cB1:(wj.alloc (.cells #[.int .i64 X2,.int .i64 Y2] 342)).cell? ⟨wj.heap.size,1,none⟩=some (.int .i64 Y2):=by simp [go_sem]
       go_upto_region 17 with fail
       obtain ⟨wb,hwb⟩:∃ wb:World,wb=wj.alloc (.cells #[.int .i64 X2,.int .i64 Y2] 342):=⟨_,rfl⟩
       rw [← hwb] at bA2 y0' y1' bJA hoJA hsz cB0 cB1 ⊢
       have hszb:wj.heap.size<wb.heap.size:=World.block_lt_of_cell? _ _ cB0
       replace hszb:=Hd hszb
       replace hwb:=Hd hwb
       by_cases hYY:Y=Y2
       ·have hYq:(Y==Y2)=true:=by rw [beq_iff_eq]; exact hYY
        have hraw:rawS K N T' u v s (j+1)=rawS K N T' u v s j++[X*N+X2]:=by
         rw [rawS_succ]; unfold rawT
         rw [hY.out,hY2.out,hX.out,hX2.out,if_pos hYY]
        obtain ⟨m,hm⟩:∃ m,X*N=m:=⟨_,rfl⟩
        have hm1:(X:Int)*(N:Int)=(m:Int):=by rw [← hm]; simp
        have hml:m≤6561:=by rw [← hm]; exact Nat.le_trans (Nat.mul_le_mul (show X≤81 by omega) hN81) (by decide)
        have hwm:IntKind.i64.wrap (m:Int)=m:=wrapK (by omega) (by omega)
        have hsum:(m:Int)+(X2:Int)=((m+X2:Nat):Int):=by simp
        rw [hm] at hraw
        obtain ⟨z,hz⟩:∃ z,m+X2=z:=⟨_,rfl⟩
        rw [hz] at hsum hraw
        have hzl:z≤7000:=by omega
        have hwz:IntKind.i64.wrap (z:Int)=z:=wrapK (by omega) (by omega)
        replace hraw:=Hd hraw
        replace hm:=Hd hm
        replace hz:=Hd hz
        replace hYY:=Hd hYY
        go_wp2_with (at_builtin; go_loud (refine wpl_app1 rfl _ _ rfl wo.heap.size tj _ z hoJA rfl rfl (by omega) hsz ?_))
        intro v' w7 ho7 b7 hal
        have hne':v'.ownBlock≠some wt.heap.size:=by
         rcases hal with ⟨q1,_⟩ | ⟨m,q1,q2,_⟩
         ·rw [ownBlock_eq hoJA ho7 q1]; exact hne
         ·rw [q1]; intro e; injection e with e; have:=hszb.out; omega
        have y07:w7.cell? ⟨wt.heap.size,0,none⟩=some (.int .i64 X)∧w7.cell? ⟨wt.heap.size,1,none⟩=some (.int .i64 Y):=by
         rcases hal with ⟨_,q2⟩ | ⟨_,_,_,q2⟩
         ·exact ⟨cell_grown q2 y0' hne,cell_grown q2 y1' hne⟩
         ·exact ⟨cell_grown q2 y0' (by simp),cell_grown q2 y1' (by simp)⟩
        obtain ⟨ta,tn,tc,rfl⟩:=ho7.at.shape
        replace ho7:=Hd ho7
        replace y07:=Hd y07
        clear hal
        go_wp2
        go_roundw
        case measure=>simp [intOf]; omega
        case rel=>exact ⟨j+1,_,by omega,by go_num,rfl,by rw [hraw.out,← List.append_assoc,castI_snoc]; exact ho7.out,bJA.trans b7,hne',y07.out.1,y07.out.2⟩
       ·have hYq:(Y==Y2)=false:=by rw [beq_eq_false_iff_ne]; exact hYY
        have hraw:rawS K N T' u v s (j+1)=rawS K N T' u v s j:=by
         rw [rawS_succ]; unfold rawT
         rw [hY.out,hY2.out,if_neg hYY,List.append_nil]
        replace hraw:=Hd hraw
        replace hoJA:=Hd hoJA
        replace hYY:=Hd hYY
        go_wp2
        go_roundw
        case measure=>simp [intOf]; omega
        case rel=>exact ⟨j+1,_,by omega,by go_num,rfl,by rw [hraw.out]; exact hoJA.out,bJA,hne,y0',y1'⟩
      ·obtain rfl:j=K:=by omega
       rw [← rawP_succ] at hoJ
       replace hoJ:=Hd hoJ
       go_wp2
       go_roundw
       case measure=>simp [intOf]; omega
       case rel=>exact ⟨s+1,_,by omega,by go_num,rfl,hoJ.out,bJ⟩
    ·obtain rfl:s=K:=by omega
     have hlT:(castI (rawP s N T' u v s)).length≤17592186044416:=by
      rw [castI_len]
      have e1:=rawP_len s N T' u v s
      have e3:=Nat.mul_le_mul hk4 hk4
      omega
     have hsz:=bT.size
     replace hoT:=Hd hoT
     go_wp2_with fail
     refine (sort_own wo.heap.size tv _ wt hoT.out hlT hsz).mono ?_
     rintro e w8 ⟨rfl,ho8,b8⟩
     have bT8:=bT.trans b8
     replace ho8:=Hd ho8
     go_wp2_with fail
     refine (compact_own wo.heap.size tv _ w8 ho8.out (by rw [srt_length]; omega)).mono ?_
     rintro e w9 ⟨x,rfl,_,ho9,b9⟩
     have bT9:=bT8.trans b9
     have hded:ded (srt (castI (rawP s N T' u v s))) (srt (castI (rawP s N T' u v s))).length=castI (pairL s N T' k):=by
      refine ded_pair (by omega) (srt_sorted _) (fun x=>?_)
      rw [srt_mem,hu.out,hv.out]; rfl
     rw [hded] at ho9
     have hnew:=h2.new hr2.out k bT9 b2.size ho9
     obtain ⟨y1,y2,y3,f8,hr8,h8,_⟩:=h2.put hlt hnew
     rw [pairTo_step] at h8
     have iO:=fun w'=>((hr2.out.ownV h2.outer).at).idx oneLists k (by rw [h2.len]; exact hlt) w'
     generalize valAt (.slice oa on oc) k=ka at *
     obtain ⟨xa,xn,xc,rfl⟩:=ho9.at.shape
     have b39:=b2.trans (bT9.mono b2.size)
     replace hr8:=Hd hr8
     replace ho9:=Hd ho9
     replace hded:=Hd hded
     replace hnew:=Hd hnew
     go_wp2
     go_roundw
     case measure=>simp [intOf]; omega
     case rel=>exact ⟨k+1,f8,_,by omega,by go_num,hr8.out,b39.setCell y3 _,h8⟩
  ·obtain rfl:k=M:=by omega
   have hR:=hr2.monoB (Nat.le_trans b03.size (Nat.le_refl _))
   have hW:WN f2 (.slice oa on oc) vals (N*N) (fun p=>castI (pairL K N T' p)):=by
    rw [hM.out]
    exact ⟨h2.outer,h2.len,fun u hu=>by rw [h2.rows u hu]; unfold pairTo; rw [if_pos hu]⟩
   have bE:=Below.step b03 b2
   replace hR:=Hd hR
   replace hr2:=Hd hr2
   go_wp2
   go_ret2
   exact ⟨_,_,rfl,bE,rfl,_,_,hR.out,hW⟩
end Go.Proofs.YtindfaehjoileaaGreatDoor
namespace Go.Proofs.YtindfaehjoileaaGreatDoor
open Go.RowKit Go.Shelf Go.Sort
set_option maxRecDepth 100000
def Tryz.laysDel_ren:Go.Shelf.Ren:=⟨fun | 10=>268 | 6=>293 | n=>n,fun | 22=>30 | 23=>3 | 25=>345 | 3=>3 | 4=>4 | 0=>0 | n=>n,fun | n=>n⟩
theorem Tryz.laysDel:Go.Proofs.SlLaysH.n10 Tryz.prog Tryz.laysDel_ren:={
 mixed:=by kernel_rfl
 f6:=⟨Tryz.f293.name,by decide,Tryz.func293.trans (congrArg some (by kernel_rfl))⟩
 f10:=⟨Tryz.f268.name,by decide,Tryz.func268.trans (congrArg some (by kernel_rfl))⟩
 t0:=Tryz.underlying0
 a0:=Tryz.isAgg0
 z0:=Tryz.sizeOf0
 v0:=Tryz.zeroValue0
 t3:=Tryz.underlying3
 a3:=Tryz.isAgg3
 z3:=Tryz.sizeOf3
 v3:=Tryz.zeroValue3
 t4:=Tryz.underlying4
 a4:=Tryz.isAgg4
 z4:=Tryz.sizeOf4
 v4:=Tryz.zeroValue4
 t22:=Tryz.underlying30
 a22:=Tryz.isAgg30
 z22:=Tryz.sizeOf30
 v22:=Tryz.zeroValue30
 a23:=Tryz.isAgg3
 z23:=Tryz.sizeOf3
 t25:=Tryz.underlying345
 a25:=Tryz.isAgg345
 z25:=Tryz.sizeOf345
 v25:=Tryz.zeroValue345 }
def dgI (N:Nat) (x:Int):Bool:=IntKind.i64.wrap (x.tdiv N)==x.tmod N
theorem dgI_aux (a c:Nat) (ha:a≤100000):(IntKind.i64.wrap (a:Int)==(c:Int))=decide (a=c):=by
 rw [wrapK (x:=(a:Int)) (by omega) (by omega)]
 by_cases e:a=c
 ·simp [e]
 ·rw [decide_eq_false e,beq_eq_false_iff_ne]; omega
theorem dgI_nat {N p:Nat} (hp:p≤100000):dgI N p=decide (Diag N p):=by
 unfold dgI
 have h1:p/N≤100000:=Nat.le_trans (Nat.div_le_self _ _) hp
 have e1:(p:Int).tdiv (N:Int)=((p/N:Nat):Int):=by rw [Int.tdiv_eq_ediv_of_nonneg (by omega)]; simp
 have e2:(p:Int).tmod (N:Int)=((p%N:Nat):Int):=by rw [Int.tmod_eq_emod_of_nonneg (by omega)]; simp
 rw [e1,e2,dgI_aux _ _ h1,decide_eq_decide]
 exact Iff.rfl
theorem apart1_any (x:Int) (b N:Nat) (w:World) (hN:1≤N) (hb:w.cell? ⟨b,0,none⟩=some (.int .i64 N)) :
 Calls Tryz.prog 269 #[.int .i64 x,.pointer (some ⟨b,0,none⟩)] w (RetB (dgI N x) w):=by
 have h1:¬ (N:Int)=0:=by omega
 have h2:((N:Int)==0)=false:=by rw [beq_eq_false_iff_ne]; omega
 have h3:¬ N=0:=by omega
 go_enter Tryz.func269,Tryz.ntmps269
 go_upto_region 1 with fail
 refine wp_region_plan (fun w'=>w'.cell? ⟨b,0,none⟩=some (.int .i64 N)) 7 [(0,true),(1,true),(2,true),(3,true),(4,true),(5,true),(6,true)] (by kernel_rfl) (by kernel_rfl) ?_
 have hS:w.drew.cell? ⟨b,0,none⟩=some (.int .i64 N):=hb
 refine pqY 4 hS ?_
 refine pqY 5 hS ?_
 refine pqY 6 hS ?_
 refine pqY 7 hS ?_
 refine pqY 8 hS ?_
 refine pqY 9 hS ?_
 refine pqY 10 hS ?_
 refine head0 ?_
 simp only [List.drop_succ_cons,List.drop_zero]
 clear hS
 go_wp2
 refine NoPanic.normal ?_
 go_wp2
 go_ret
 exact ⟨1,rfl,rfl⟩
theorem eg_apart1 (args:Array Value) (w:World):(callFunc 269 args).run Tryz.prog w=.ok (.enter 269 args) w:=by kernel_rfl
theorem gives1 (x:Int) (b N:Nat) (w:World) (hN:1≤N) (hb:w.cell? ⟨b,0,none⟩=some (.int .i64 N)):FnGives Tryz.prog 269 #[.pointer (some ⟨b,0,none⟩)] #[.int .i64 x] (.bool (dgI N x)) w:=by
 refine (apart1_any x b N w hN hb).mono ?_
 rintro e w' ⟨n,rfl,rfl⟩
 exact ⟨rfl,n,rfl⟩
theorem delete_own (B:Nat) (v:Value) (xs:List Int) (b N:Nat) (w:World) (h:OwnI B w v xs) (hx:xs≠[]) (hN:1≤N) (hb:w.cell? ⟨b,0,none⟩=some (.int .i64 N)) (hne:v.ownBlock≠some b) :
 Calls Tryz.prog 268 #[v,.func (.func 269) #[] #[.pointer (some ⟨b,0,none⟩)]] w fun e w'=>∃ x,e=.returned x∧x.ownBlock=v.ownBlock∧OwnI B w' x (xs.filter fun x=>!dgI N x)∧Below B w w':=by
 have hbl:=World.block_lt_of_cell? _ _ hb
 rcases h.2 with ⟨rfl,hn⟩ | ⟨g,cap,cur,rfl,hB,hg,hn,hm,hs,ht⟩
 ·exact absurd (List.length_eq_zero_iff.1 hn) hx
 ·have hne':b≠g:=fun e=>hne (by rw [e]; rfl)
  have hcon:=AnyE.slices_DeleteFunc Tryz.laysDel (Value.int .i64) (fun _=>rfl) (dgI N) 269 #[.pointer (some ⟨b,0,none⟩)] (fun args w'=>eg_apart1 args w') 0 (fun w=>by kernel_rfl) g 0 cap xs.toArray w
   (fun W x hb'=>gives1 x b N W hN ((hb'.cell (p:=⟨b,0,none⟩) hbl).trans hb))
   (fun n os dk x _=>gives1 x b N _ hN (by
     unfold sortWorld
     rw [cell?_grow _ _ _ (by show b<(putRow _ _ _ _ _).heap.size; rw [size_putRow]; exact hbl),cell?_putRow_other _ _ g 0 _ _ (Or.inl hne')]
     exact hb))
   (holds_of_block_i hg (by simpa using ht)) (by have:=h.at.len_le; simpa using this) (by simpa using hn)
  refine Calls.mono hcon ?_
  rintro e w' ⟨rfl,q,rfl⟩
  have hfl:(xs.toArray.toList.filter fun x=>!dgI N x)=xs.filter fun x=>!dgI N x:=rfl
  rw [hfl]
  have hle:=List.length_filter_le (fun x=>!dgI N x) xs
  generalize hF:(xs.filter fun x=>!dgI N x)=F at *
  have hL:(F++List.replicate (xs.toArray.size-F.length) 0).length=xs.length:=by simp; omega
  have ho:=ownsRow_sorted_i (w:=w) (n:=q) (os:=#[]) (ss:=xs) (ts:=F++List.replicate (xs.toArray.size-F.length) 0) hL hB hg hn hm hs
  have hgr:=grownBy_sorted_i (w:=w) (g:=g) (n:=q) (os:=#[]) (F++List.replicate (xs.toArray.size-F.length) 0).toArray
  rw [grow_empty] at ho hgr
  have hO:OwnI B (putRow (Value.int .i64) (Sort.ahead w q) g 0 (F++List.replicate (xs.toArray.size-F.length) 0).toArray) (.slice (some ⟨g,0,none⟩) xs.length cap) (F++List.replicate (xs.toArray.size-F.length) 0):=by
   unfold OwnI; rw [hL]; exact ho
  have ho2:=hO.cutTo F.length (by rw [hL]; exact hle)
  rw [List.take_left' rfl] at ho2
  exact ⟨_,rfl,rfl,ho2,(Below.refl _ _).grown hgr (by have:=(Array.getElem?_eq_some_iff.1 hg).1; omega) (fun k hk=>by cases hk; exact hB)⟩
end Go.Proofs.YtindfaehjoileaaGreatDoor
namespace Go.Proofs.YtindfaehjoileaaGreatDoor
theorem diag_arr {K N:Nat} {T:List Int} {u s:Nat} (hu:u<N) (hs:s<K):toN K N u s*N+toN K N u s∈pairL K N T (u*N+u):=by
 rw [mem_pairL (by omega),pair_div hu,pair_mod hu]
 exact ⟨s,s,hs,hs,rfl,rfl⟩
theorem diag_word {K N:Nat} {T:List Int} {u:Nat} (hu:u<N):∀ (n:Nat) (xs:List Int),xs.length=n→Syms K xs→Goes (pairL K N T) (u*N+u) ((u*pw K xs.length+numW K xs)%N*N+(u*pw K xs.length+numW K xs)%N)
 | 0,xs,hn,_=>by
  obtain rfl:=List.length_eq_zero_iff.1 hn
  rw [show u*pw K ([]:List Int).length+numW K []=u by simp [pw,numW],Nat.mod_eq_of_lt hu]
  exact .refl _
 | n+1,xs,hn,hx=>by
  have hne:xs≠[]:=by intro e; subst e; simp at hn
  obtain ⟨b,x,rfl⟩:∃ b x,xs=b++[x]:=⟨xs.dropLast,xs.getLast hne,(List.dropLast_concat_getLast hne).symm⟩
  have hb:b.length=n:=by simpa using hn
  have ih:=diag_word (T:=T) hu n b hb (fun y hy=>hx y (List.mem_append_left _ hy))
  have hxs:=hx x (by simp)
  refine .step ih ?_
  have:=diag_arr (T:=T) (u:=(u*pw K b.length+numW K b)%N) (s:=x.toNat) (Nat.mod_lt _ (by omega)) (show x.toNat<K by omega)
  have e:toN K N ((u*pw K b.length+numW K b)%N) x.toNat=(u*pw K (b++[x]).length+numW K (b++[x]))%N:=by
   unfold toN
   rw [numW_snoc,List.length_append,List.length_singleton,pw_succ,← Nat.mul_assoc,show u*pw K b.length*K+(numW K b*K+x.toNat)=(u*pw K b.length+numW K b)*K+x.toNat by rw [Nat.add_mul]; omega]
   rw [Nat.add_mod,Nat.mul_mod,Nat.mod_mod,← Nat.mul_mod,← Nat.add_mod]
  rw [e] at this
  exact this
theorem diag_goes {K R:Nat} {T:List Int} {u v:Nat} (hK:1≤K) (hu:u<pw K (2*R)) (hv:v<pw K (2*R)):Goes (pairL K (pw K (2*R)) T) (u*pw K (2*R)+u) (v*pw K (2*R)+v):=by
 have:=diag_word (T:=T) hu (2*R) (digs K (2*R) v) (digs_length ..) (digs_syms hK _ _)
 rw [digs_length,numW_digs hK _ _ hv,show u*pw K (2*R)+v=pw K (2*R)*u+v by rw [Nat.mul_comm],Nat.mul_add_mod,Nat.mod_eq_of_lt hv] at this
 exact this
open Go.RowKit
set_option maxRecDepth 100000
set_option maxHeartbeats 8000000
def SPost (B:Nat) (w:World) (d:Nat) (nv lv fv pv:Value) (n:Nat) (S:TS) (e:Ending) (w':World):Prop :=
 e=.returned (.tuple #[])∧Below B w w'∧∃ f' ov' cv',Rows B w' f'∧SN f' d nv lv fv pv ov' cv' n S
theorem enter_any (B:Nat) (w:World) (f:Names) (d:Nat) (nv lv fv pv ov cv:Value) (n:Nat) (S:TS) (v:Nat) (hr:Rows B w f) (h:SN f d nv lv fv pv ov cv n S) (hB:B≤w.heap.size)
 (hv:v<n) (hnc:v∉S.calls) (ho:S.opn.length<10000) (hcl:S.calls.length<10000) (ht:S.time<100000) :
 Calls Tryz.prog 393 #[.pointer (some ⟨d,0,none⟩),.int .i64 v] w (SPost B w d nv lv fv pv n (enterS S v)):=by
 have e1:((S.time+1:Nat):Int)=(S.time:Int)+1:=by omega
 have z6:=h.cell hr 6 (by decide)
 have f6:=h.frz hr 6
 obtain ⟨f1,hr1,h1⟩:=h.setTime hr (S.time+1)
 have b1:Below B w (w.setCell ⟨d,6,none⟩ (.int .i64 ((S.time+1:Nat):Int))):=(Below.refl B w).setCell (h.base hr) _
 rw [e1] at hr1 b1
 simp only [List.getElem?_cons_succ,List.getElem?_cons_zero] at z6
 replace hr1:=Hd hr1
 replace hr:=Hd hr
 replace e1:=Hd e1
 go_enter Tryz.func393,Tryz.ntmps393
 go_wp2
 clear z6 f6
 refine wp_region_plan (fun w'=>w'.cell? ⟨d,1,none⟩=some lv∧w'.cell? ⟨d,2,none⟩=some fv∧w'.cell? ⟨d,6,none⟩=some (.int .i64 ((S.time:Int)+1))) 21 [(0,true),(1,true),(2,true),(3,true),(4,true),(5,true),(6,true),(7,true),(8,true),(9,true),(10,true),(11,true),(12,true),(13,true),(14,true),(15,true),(16,true),(17,true),(18,true),(19,false),(20,true)] (by kernel_rfl) (by kernel_rfl) ?_
 obtain ⟨W,hW⟩:∃ W:World,W=(w.setCell ⟨d,6,none⟩ (.int .i64 ((S.time:Int)+1))).drew:=⟨_,rfl⟩
 rw [← hW]
 have hrW:Rows B W f1:=by rw [hW]; exact hr1.out.drew
 have bW:Below B w W:=by rw [hW]; exact b1.drew
 clear hW
 have hS:W.cell? ⟨d,1,none⟩=some lv∧W.cell? ⟨d,2,none⟩=some fv∧W.cell? ⟨d,6,none⟩=some (.int .i64 ((S.time:Int)+1)):=⟨h1.cell hrW 1 (by decide),h1.cell hrW 2 (by decide),by rw [← e1.out]; exact h1.cell hrW 6 (by decide)⟩
 have oL:=hrW.ownI h1.low
 have oF:=hrW.ownI h1.fnd
 have iL:=fun w'=>oL.at.idx v (by rw [tab_len]; exact hv) w'
 have iF:=fun w'=>oF.at.idx v (by rw [tab_len]; exact hv) w'
 have cL:=oL.at.cellD v (by rw [tab_len]; exact hv)
 have fL:=oL.frz v (by rw [tab_len]; exact hv)
 have kL:=(oL.toV.blkB v (by rw [List.length_map,tab_len]; exact hv)).2
 obtain ⟨f2,hr2,h2⟩:=h1.setLow hrW v hv (S.time+1)
 rw [e1.out] at hr2
 have oF2:=hr2.ownI h2.fnd
 have cF:=oF2.at.cellD v (by rw [tab_len]; exact hv)
 have fF:=oF2.frz v (by rw [tab_len]; exact hv)
 have kF:=(oF2.toV.blkB v (by rw [List.length_map,tab_len]; exact hv)).2
 have hS2:(W.setCell (valAt lv v) (.int .i64 ((S.time:Int)+1))).cell? ⟨d,1,none⟩=some lv∧(W.setCell (valAt lv v) (.int .i64 ((S.time:Int)+1))).cell? ⟨d,2,none⟩=some fv∧(W.setCell (valAt lv v) (.int .i64 ((S.time:Int)+1))).cell? ⟨d,6,none⟩=some (.int .i64 ((S.time:Int)+1)):=⟨h2.cell hr2 1 (by decide),h2.cell hr2 2 (by decide),by rw [← e1.out]; exact h2.cell hr2 6 (by decide)⟩
 obtain ⟨f3,hr3,h3⟩:=h2.setFound hr2 v hv (S.time+1)
 rw [e1.out] at hr3
 have b3:Below B w ((W.setCell (valAt lv v) (.int .i64 ((S.time:Int)+1))).setCell (valAt fv v) (.int .i64 ((S.time:Int)+1))):=(bW.setCell kL _).setCell kF _
 replace hr3:=Hd hr3
 replace hr2:=Hd hr2
 replace hrW:=Hd hrW
 clear oL oF oF2
 generalize valAt lv v=la at *
 generalize valAt fv v=fa at *
 refine pqY 11 hS ?_
 refine pqY 12 hS ?_
 refine pqY 13 hS ?_
 refine pqY 14 hS ?_
 refine pqY 15 hS ?_
 refine pqY 16 hS ?_
 refine pqY 17 hS ?_
 refine pqY 18 hS ?_
 refine pqY 19 hS ?_
 refine pqY 20 hS ?_
 refine pqY 21 hS ?_
 refine pqY 22 hS ?_
 refine pqY 23 hS ?_
 refine pqY 24 hS ?_
 refine pqY 25 hS ?_
 refine pqY 26 hS ?_
 refine pqY 27 hS ?_
 refine pqY 28 hS ?_
 refine pqY 29 hS ?_
 refine headC rfl (fun KK hK=>?_)
 -- CALL 19 slot none
 go_simp
 refine hK _ _ hS2 ?_
 clear hK KK
 refine pqY 30 hS2 ?_
 refine head0 ?_
 simp only [List.drop_succ_cons,List.drop_zero]
 clear hS hS2 cL fL
 go_wp2
 refine NoPanic.normal ?_
 obtain ⟨W3,hW3⟩:∃ W3:World,W3=(W.setCell la (.int .i64 ((S.time:Int)+1))).setCell fa (.int .i64 ((S.time:Int)+1)):=⟨_,rfl⟩
 rw [← hW3]
 rw [← hW3] at hr3 b3
 clear hW3 iL iF cF fF
 have z3:=h3.cell hr3.out 3 (by decide)
 simp only [List.getElem?_cons_succ,List.getElem?_cons_zero] at z3
 have oO:=hr3.out.ownI h3.opn
 have hB3:B≤W3.heap.size:=Nat.le_trans hB b3.size
 go_wp2_with (at_builtin; refine wpl_app1 rfl _ _ rfl B ov (upI S.opn) v oO rfl rfl (by rw [upI_len]; omega) hB3 ?_)
 intro ov' w4 ho4 b4 hal
 obtain ⟨y3,g3,b5,f5,hr5,h5⟩:=h3.pushOpen hr3.out hB3 v ho4 hal
 obtain ⟨oa,on,oc,rfl⟩:=ho4.at.shape
 have z5:=y3 5 (by decide)
 simp only [List.getElem?_cons_succ,List.getElem?_cons_zero] at z5
 have z33:=y3 3 (by decide)
 simp only [List.getElem?_cons_succ,List.getElem?_cons_zero] at z33
 have g33:=g3 3
 replace y3:=Hd y3
 replace g3:=Hd g3
 replace hr5:=Hd hr5
 clear ho4 hal z3 oO
 have oC:=hr5.out.1 _ _ h5.calls
 go_wp2_with (at_builtin; go_loud (refine wpl_appF rfl _ _ rfl B cv S.calls.length _ v 0 _ oC rfl rfl (by simp) (by omega) (Nat.le_trans hB3 b5.size) ?_))
 intro g c w6 ho6 hal6
 obtain ⟨y5,g5,b7,f7,hr7,h7⟩:=h5.pushCalls hr5.out (Nat.le_trans hB3 b5.size) v hnc ho6 (hal6.imp id (fun ⟨a,b⟩=>⟨by simpa using a,b⟩))
 have z5:=y5 5 (by decide)
 simp only [List.getElem?_cons_succ,List.getElem?_cons_zero] at z5
 have g55:=g5 5
 replace y5:=Hd y5
 replace g5:=Hd g5
 replace hr7:=Hd hr7
 clear ho6 hal6 oC
 go_wp2
 go_end0
 exact ⟨rfl,(b3.trans b5).trans b7,f7,_,_,hr7.out,h7⟩
theorem upI_top (t:Nat) (o:List Nat):(upI (t::o)).getD o.length 0=(t:Int):=by
 rw [upI_cons,List.getD_eq_getElem?_getD,List.getElem?_append_right (by rw [upI_len]; exact Nat.le_refl _),upI_len,Nat.sub_self]; rfl
theorem leave_any (B:Nat) (w:World) (f:Names) (d:Nat) (nv lv fv pv ov cv:Value) (n:Nat) (adj:Nat→List Nat) (S:TS) (v:Nat) (r:List Nat) (hr:Rows B w f) (h:SN f d nv lv fv pv ov cv n S)
 (hI:TInv n adj S) (hc:S.calls=v::r) (hn:n≤8192) :
 Calls Tryz.prog 394 #[.pointer (some ⟨d,0,none⟩),.int .i64 v] w (SPost B w d nv lv fv pv n (leaveS S v r)):=by
 have hvc:v∈S.calls:=by rw [hc]; exact List.mem_cons_self
 have hvn:=hI.seenLt v (hI.callsSeen hvc).1
 have hvo:=hI.callsOpen v hvc
 have hol:∀ x∈S.opn,x<n:=fun x hx=>hI.seenLt x ((hI.opnIff x).1 hx).1
 have hlq:=hI.low_eq hc
 obtain ⟨g,c,rfl,hcap⟩:=h.callsShape hr (by rw [hc]; simp)
 rw [hc,List.length_cons] at h hcap
 have hrl:=hI.calls_len
 rw [hc,List.length_cons] at hrl
 have hwr:IntKind.i64.wrap (r.length:Int)=r.length:=wrapK (by omega) (by omega)
 obtain ⟨W,hW⟩:∃ W:World,W=w.drew:=⟨_,rfl⟩
 have hr0:Rows B W f:=by rw [hW]; exact hr.drew
 obtain ⟨f1,hr1,h1⟩:=h.popCalls hc hr0
 have z5:=h.cell hr0 5 (by decide)
 have g5:=h.frz hr0 5
 simp only [List.getElem?_cons_succ,List.getElem?_cons_zero] at z5
 have b1:Below B w (W.setCell ⟨d,5,none⟩ (.slice (some ⟨g,0,none⟩) r.length c)):=by rw [hW]; exact (Below.refl B w).drew.setCell (h.base hr) _
 have hsl:(0≤(r.length:Int)∧(r.length:Int)≤(c:Int)):=⟨by omega,by omega⟩
 replace hr1:=Hd hr1
 replace hr:=Hd hr
 replace hr0:=Hd hr0
 replace hol:=Hd hol
 replace hI:=Hd hI
 replace hvo:=Hd hvo
 replace hvc:=Hd hvc
 replace hc:=Hd hc
 replace hlq:=Hd hlq
 go_enter Tryz.func394,Tryz.ntmps394
 go_wp2
 refine wp_region_plan (fun w'=>w'.cell? ⟨d,5,none⟩=some (.slice (some ⟨g,0,none⟩) (r.length+1) c)) 14 [(0,true),(1,true),(2,true),(3,true),(4,true),(5,true),(6,true),(7,true),(8,true),(9,true),(10,true),(11,true),(12,true),(13,true)] (by kernel_rfl) (by kernel_rfl) ?_
 rw [← hW]
 clear hW
 have hS:W.cell? ⟨d,5,none⟩=some (.slice (some ⟨g,0,none⟩) (r.length+1) c):=z5
 refine pqY 7 hS ?_
 refine pqY 8 hS ?_
 refine pqY 9 hS ?_
 refine pqY 10 hS ?_
 refine pqY 11 hS ?_
 refine pqY 12 hS ?_
 refine pqY 13 hS ?_
 refine pqY 14 hS ?_
 refine pqY 15 hS ?_
 refine pqY 16 hS ?_
 refine pqY 17 hS ?_
 refine pqY 18 hS ?_
 refine pqY 19 hS ?_
 refine pqY 20 hS ?_
 refine head0 ?_
 simp only [List.drop_succ_cons,List.drop_zero]
 clear hS
 go_wp2
 refine NoPanic.normal ?_
 obtain ⟨W1,hW1⟩:∃ W1:World,W1=W.setCell ⟨d,5,none⟩ (.slice (some ⟨g,0,none⟩) r.length c):=⟨_,rfl⟩
 rw [← hW1]
 rw [← hW1] at hr1 b1
 clear hW1 z5 g5
 have x5:=h1.cell hr1.out 5 (by decide)
 simp only [List.getElem?_cons_succ,List.getElem?_cons_zero] at x5
 go_upto_if 27 with fail
 go_cut [] from 4 (fun wx=>Below B w wx∧∃ f2,Rows B wx f2∧SN f2 d nv lv fv pv ov (.slice (some ⟨g,0,none⟩) r.length c) n { S with low:=lowS S.low v r,calls:=r })
 case first =>
  cases r with
  | nil =>
   go_wp2
   go_meet
   case rel=>exact ⟨b1,f1,hr1.out,h1⟩
  | cons u r' =>
   have huc:=hI.out.callsSeen (c:=u) (by rw [hc.out]; simp)
   have hun:=hI.out.seenLt u huc.1
   simp only [List.length_cons] at h1 hrl x5 hcap hwr b1 hr1
   obtain ⟨t0,t1,_⟩:=h1.callTop rfl hr1.out
   have hwr2:IntKind.i64.wrap (r'.length:Int)=r'.length:=wrapK (by omega) (by omega)
   have hp0:0<(u::r').length:=by simp
   have hne:u≠v:=fun e=>by
    have:=hI.out.callsSorted
    rw [hc.out,e] at this
    exact absurd ((List.pairwise_cons.1 this).1 v List.mem_cons_self) (Nat.lt_irrefl _)
   go_upto_region 4 with fail
   refine wp_region_plan (fun w'=>w'.cell? ⟨d,1,none⟩=some lv∧w'.cell? (valAt lv u)=some (.int .i64 (S.low u))∧w'.cell? (valAt lv v)=some (.int .i64 (S.low v))) 21 [(0,true),(1,true),(2,true),(3,true),(4,true),(5,true),(6,true),(7,true),(8,true),(9,true),(10,true),(11,true),(12,true),(13,true),(14,true),(15,true),(16,true),(17,true),(18,true),(19,false),(20,true)] (by kernel_rfl) (by kernel_rfl) ?_
   obtain ⟨W2,hW2⟩:∃ W2:World,W2=W1.drew:=⟨_,rfl⟩
   rw [← hW2]
   have hr2:Rows B W2 f1:=by rw [hW2]; exact hr1.out.drew
   have b2:Below B w W2:=by rw [hW2]; exact b1.drew
   clear hW2 t0 t1 x5
   have oL:=hr2.ownI h1.low
   have cU:=oL.at.cellD u (by rw [tab_len]; exact hun)
   have cV:=oL.at.cellD v (by rw [tab_len]; exact hvn)
   rw [tab_get _ _ _ hun] at cU
   rw [tab_get _ _ _ hvn] at cV
   have hS:W2.cell? ⟨d,1,none⟩=some lv∧W2.cell? (valAt lv u)=some (.int .i64 (S.low u))∧W2.cell? (valAt lv v)=some (.int .i64 (S.low v)):=⟨h1.cell hr2 1 (by decide),cU,cV⟩
   have iU:=fun w'=>oL.at.idx u (by rw [tab_len]; exact hun) w'
   have iV:=fun w'=>oL.at.idx v (by rw [tab_len]; exact hvn) w'
   have fU:=oL.frz u (by rw [tab_len]; exact hun)
   have kU:=(oL.toV.blkB u (by rw [List.length_map,tab_len]; exact hun)).2
   obtain ⟨f3,hr3,h3⟩:=h1.setLow hr2 u hun (min (S.low u) (S.low v))
   have b3:Below B w (W2.setCell (valAt lv u) (.int .i64 ((min (S.low u) (S.low v):Nat):Int))):=b2.setCell kU _
   replace hr3:=Hd hr3
   replace hr2:=Hd hr2
   clear oL
   generalize valAt lv u=ua at *
   generalize valAt lv v=va at *
   refine pqY 37 hS ?_
   refine pqY 38 hS ?_
   refine pqY 39 hS ?_
   refine pqY 40 hS ?_
   refine pqY 41 hS ?_
   refine pqY 42 hS ?_
   refine pqY 43 hS ?_
   refine pqY 44 hS ?_
   refine pqY 45 hS ?_
   refine pqY 46 hS ?_
   refine pqY 47 hS ?_
   refine pqY 48 hS ?_
   refine pqY 49 hS ?_
   refine pqY 50 hS ?_
   refine pqY 51 hS ?_
   refine pqY 52 hS ?_
   refine pqY 53 hS ?_
   refine pqY 54 hS ?_
   refine pqY 55 hS ?_
   refine headC rfl (fun KK hK=>?_)
   -- CALL 19 slot (some 56)
   go_simp
   refine hK _ _ hS ?_
   clear hK KK
   refine pqY 57 hS ?_
   refine head0 ?_
   simp only [List.drop_succ_cons,List.drop_zero]
   clear hS
   go_wp2
   all_goals
    first
    | rw [show min (S.low u) (S.low v)=S.low v by omega] at b3 hr3
    | rw [show min (S.low u) (S.low v)=S.low u by omega] at b3 hr3
    | rw [show ((min (S.low u) (S.low v):Nat):Int)=min (S.low u:Int) (S.low v:Int) by omega] at b3 hr3
    refine NoPanic.normal ?_
    go_wp2
    go_meet
    case rel=>exact ⟨b3,f3,hr3.out,h3⟩
 case rest =>
  obtain ⟨bc,f4,hr4,h4⟩:=hcut
  have oL:=hr4.ownI h4.low
  have oF:=hr4.ownI h4.fnd
  have cV:=oL.at.cellD v (by rw [tab_len]; exact hvn)
  have dV:=oF.at.cellD v (by rw [tab_len]; exact hvn)
  rw [tab_get _ _ _ hvn] at cV dV
  have hlv:({ S with low:=lowS S.low v r,calls:=r }:TS).low v=S.low v:=hlq.out
  rw [hlv] at cV
  have iL:=fun w'=>oL.at.idx v (by rw [tab_len]; exact hvn) w'
  have iF:=fun w'=>oF.at.idx v (by rw [tab_len]; exact hvn) w'
  have x1:=h4.cell hr4 1 (by decide)
  have x2:=h4.cell hr4 2 (by decide)
  simp only [List.getElem?_cons_succ,List.getElem?_cons_zero] at x1 x2
  replace hr4:=Hd hr4
  clear oL oF
  generalize valAt lv v=la at *
  generalize valAt fv v=fa at *
  by_cases hlf:S.low v=S.found v
  ·have hne:((S.low v:Int) != (S.found v:Int))=false:=by rw [hlf]; simp
   go_upto_region 5 with fail
   go_quiet (fail)
   go_wp2_with fail
   clear cV dV iL iF x1 x2 hne
   go_loopg [] S.opn.length (fun k wr=>∃ o p f' ov',o.length=k∧k≤n∧v∈o∧(∀ x∈o,x<n)∧closeS v o p=closeS v S.opn S.part∧Rows B wr f'∧Below B w wr∧SN f' d nv lv fv pv ov' (.slice (some ⟨g,0,none⟩) r.length c) n { S with low:=lowS S.low v r,calls:=r,opn:=o,part:=p })
   case atStart=>exact ⟨S.opn,S.part,f4,ov,rfl,hI.out.opn_len,hvo.out,hol.out,rfl,hr4.out.drewN nq,bc.trans ⟨rfl,rfl,rfl,Nat.le_refl _,fun _ _=>rfl⟩,h4⟩
   case round =>
    obtain ⟨o,p,f5,ov',rfl,hol5,hvo5,hon,hcl,hr5,b5,h5⟩:=hrel
    obtain ⟨t,o',rfl⟩:∃ t o',o=t::o':=by cases o with
     | nil=>cases hvo5
     | cons t o'=>exact ⟨t,o',rfl⟩
    have htn:t<n:=hon t List.mem_cons_self
    obtain ⟨go,co,rfl,hco⟩:=h5.opnShape hr5 (by simp)
    simp only [List.length_cons] at h5 hco hol5
    obtain ⟨wo,rfl⟩:∃ wo:World,wo=wr:=⟨_,rfl⟩
    have x3:=h5.cell hr5 3 (by decide)
    simp only [List.getElem?_cons_succ,List.getElem?_cons_zero] at x3
    have oO:=(hr5.ownI h5.opn).at
    have cT:=oO.cellD o'.length (by rw [upI_len]; simp)
    rw [upI_top] at cT
    have iT:=fun w'=>oO.idx o'.length (by rw [upI_len]; simp) w'
    have hwr':IntKind.i64.wrap (o'.length:Int)=o'.length:=wrapK (by omega) (by omega)
    generalize valAt (.slice (some ⟨go,0,none⟩) (o'.length+1) co) o'.length=ta at *
    replace hcl:=Hd hcl
    replace hon:=Hd hon
    replace hr5:=Hd hr5
    clear oO
    go_upto_region 6 with fail
    go_quiet (fail)
    go_upto_region 7 with fail
    refine wp_region_plan (fun w'=>w'.cell? ⟨d,3,none⟩=some (.slice (some ⟨go,0,none⟩) (o'.length+1) co)) 14 [(0,true),(1,true),(2,true),(3,true),(4,true),(5,true),(6,true),(7,true),(8,true),(9,true),(10,true),(11,true),(12,true),(13,true)] (by kernel_rfl) (by kernel_rfl) ?_
    obtain ⟨W6,hW6⟩:∃ W6:World,W6=(wo.drewN nq).drew:=⟨_,rfl⟩
    rw [← hW6]
    have hr6:Rows B W6 f5:=by rw [hW6]; exact (hr5.out.drewN nq).drew
    have b6:Below B w W6:=by rw [hW6]; exact b5.trans ⟨rfl,rfl,rfl,Nat.le_refl _,fun _ _=>rfl⟩
    have hsl':(0≤(o'.length:Int)∧(o'.length:Int)≤(co:Int)):=⟨by omega,by omega⟩
    have hS:W6.cell? ⟨d,3,none⟩=some (.slice (some ⟨go,0,none⟩) (o'.length+1) co):=by rw [hW6]; exact x3
    have g3:=h5.frz hr6 3
    clear hW6 x3 cT iT
    obtain ⟨f7,hr7,h7⟩:=h5.popOpen rfl hr6
    have b7:Below B w (W6.setCell ⟨d,3,none⟩ (.slice (some ⟨go,0,none⟩) o'.length co)):=b6.setCell (h5.base hr6) _
    replace hr7:=Hd hr7
    replace hr6:=Hd hr6
    refine pqY 85 hS ?_
    refine pqY 86 hS ?_
    refine pqY 87 hS ?_
    refine pqY 88 hS ?_
    refine pqY 89 hS ?_
    refine pqY 90 hS ?_
    refine pqY 91 hS ?_
    refine pqY 92 hS ?_
    refine pqY 93 hS ?_
    refine pqY 94 hS ?_
    refine pqY 95 hS ?_
    refine pqY 96 hS ?_
    refine pqY 97 hS ?_
    refine pqY 98 hS ?_
    refine head0 ?_
    simp only [List.drop_succ_cons,List.drop_zero]
    go_wp2
    clear hS g3
    refine NoPanic.normal ?_
    obtain ⟨W7,hW7⟩:∃ W7:World,W7=W6.setCell ⟨d,3,none⟩ (.slice (some ⟨go,0,none⟩) o'.length co):=⟨_,rfl⟩
    rw [← hW7]
    rw [← hW7] at hr7 b7
    clear hW7
    have x4:=h7.cell hr7.out 4 (by decide)
    simp only [List.getElem?_cons_succ,List.getElem?_cons_zero] at x4
    have oP:=hr7.out.ownI h7.part
    have iP:=fun w'=>oP.at.idx t (by rw [tabI_len]; exact htn) w'
    have cP:=oP.at.cellD t (by rw [tabI_len]; exact htn)
    have fP:=oP.frz t (by rw [tabI_len]; exact htn)
    have kP:=(oP.toV.blkB t (by rw [List.length_map,tabI_len]; exact htn)).2
    obtain ⟨f8,hr8,h8⟩:=h7.setPart hr7.out t htn (v:Int)
    have b8:Below B w (W7.setCell (valAt pv t) (.int .i64 (v:Int))):=b7.setCell kP _
    replace hr8:=Hd hr8
    clear oP
    generalize valAt pv t=pa at *
    by_cases htv:t=v
    ·subst htv
     rw [show closeS t (t::o') p=(o',updN p t t) by simp [closeS]] at hcl
     have hfin:leaveS S t r={ S with low:=lowS S.low t r,calls:=r,opn:=o',part:=updN p t t }:=by
      unfold leaveS
      rw [hlq.out,if_pos hlf,← hcl.out]
     replace hfin:=Hd hfin
     replace hlf:=Hd hlf
     go_wp2
     (try simp only [Exit.inBlock,Exit.then]); refine bodyPost_ret (results_none rfl _ _ _) rfl ?_
     exact ⟨rfl,b8,f8,_,_,hr8.out,by rw [hfin.out]; exact h8⟩
    ·have hne:((t:Int)==(v:Int))=false:=by rw [beq_eq_false_iff_ne]; omega
     have hvo6:v∈o':=(List.mem_cons.1 hvo5).resolve_left (fun e=>htv e.symm)
     rw [show closeS v (t::o') p=closeS v o' (updN p t v) by simp [closeS,htv]] at hcl
     replace hlf:=Hd hlf
     go_wp2
     go_roundg o'.length
     case measure=>simp
     case rel=>exact ⟨o',updN p t v,f8,_,rfl,by omega,hvo6,fun x hx=>hon.out x (List.mem_cons_of_mem _ hx),hcl.out,hr8.out,b8,h8⟩
  ·have hne:((S.low v:Int) != (S.found v:Int))=true:=by rw [bne_iff_ne]; omega
   have hfin:leaveS S v r={ S with low:=lowS S.low v r,calls:=r }:=by
    unfold leaveS
    rw [hlq.out,if_neg hlf]
   replace hfin:=Hd hfin
   replace hlf:=Hd hlf
   go_upto_region 5 with fail
   go_quiet (fail)
   go_wp2
   (try simp only [Exit.inBlock,Exit.then]); refine bodyPost_ret (results_none rfl _ _ _) rfl ?_
   exact ⟨rfl,bc.trans ⟨rfl,rfl,rfl,Nat.le_refl _,fun _ _=>rfl⟩,f4,_,_,hr4.out.drewN nq,by rw [hfin.out]; exact h4⟩
def FromPost (B:Nat) (w:World) (d:Nat) (nv lv fv pv:Value) (n:Nat) (adj:Nat→List Nat) (S:TS) (v:Nat) (e:Ending) (w':World):Prop :=
 e=.returned (.tuple #[])∧Below B w w'∧∃ f' ov' cv' T,Rows B w' f'∧SN f' d nv lv fv pv ov' cv' n T∧TInv n adj T∧T.calls=[]∧∀ x,S.found x≠0∨x=v→T.found x≠0
theorem enter_keeps (S:TS) (v x:Nat) (h:S.found x≠0∨x=v):(enterS S v).found x≠0:=by
 show updN S.found v (S.time+1) x≠0
 by_cases e:x=v
 ·subst e; rw [updN_same]; omega
 ·rw [updN_other _ _ _ e]; exact h.resolve_right e
theorem from_any (w0:World) (w:World) (f:Names) (d:Nat) (na:Option Addr) (nc:Nat) (lv fv pv ov cv:Value) (G:List (List Int)) (S:TS) (v:Nat) (hG:ListsAt w0 (.slice na G.length nc) G) (hok:GraphOk G) (hn:G.length≤8192)
 (hb:Below w0.heap.size w0 w) (hr:Rows w0.heap.size w f) (h:SN f d (.slice na G.length nc) lv fv pv ov cv G.length S) (hI:TInv G.length (adjOf G) S) (hc:S.calls=[]) (hv:v<G.length) (hf:S.found v=0) :
 Calls Tryz.prog 373 #[.pointer (some ⟨d,0,none⟩),.int .i64 v] w (FromPost w0.heap.size w d (.slice na G.length nc) lv fv pv G.length (adjOf G) S v):=by
 have hlen:∀ x,x<G.length→(G.getD x []).length≤9223372036854775807:=by
  intro x hx
  obtain ⟨_,_,_,hm⟩:=hG.row x hx
  exact hm.len_le
 have hE:=enter_any w0.heap.size w f d (.slice na G.length nc) lv fv pv ov cv G.length S v hr h hb.size hv (by rw [hc]; simp) (by rw [h.opnNil hI hc]; simp) (by rw [hc]; simp) (by have:=hI.time_le; omega)
 have hI1:=hI.enterRoot hc hv hf
 have hkeep:=enter_keeps S v
 replace hG:=Hd hG
 replace hok:=Hd hok
 replace hI:=Hd hI
 replace hlen:=Hd hlen
 replace hr:=Hd hr
 go_enter Tryz.func373,Tryz.ntmps373
 go_wp2_with fail
 refine hE.mono ?_
 rintro e w1 ⟨rfl,b1,f1,ov1,cv1,hr1,h1⟩
 generalize enterS S v=S1 at *
 replace hE:=()
 clear hE
 replace hkeep:=Hd hkeep
 replace hI1:=Hd hI1
 replace hr1:=Hd hr1
 go_wp2_with fail
 go_loopg [] (phi G.length (adjOf G) S1) (fun k wr=>∃ Sx f' ov' cv',k=phi G.length (adjOf G) Sx∧TInv G.length (adjOf G) Sx∧(∀ x,S1.found x≠0→Sx.found x≠0)∧Rows w0.heap.size wr f'∧Below w0.heap.size w wr∧SN f' d (.slice na G.length nc) lv fv pv ov' cv' G.length Sx)
 case atStart=>exact ⟨S1,f1,ov1,cv1,rfl,hI1.out,fun _ h=>h,hr1.out,b1,h1⟩
 case round =>
  obtain ⟨Sx,f2,ov2,cv2,rfl,hI2,hk2,hr2,b2,h2⟩:=hrel
  obtain ⟨wo,rfl⟩:∃ wo:World,wo=wr:=⟨_,rfl⟩
  have x5:=h2.cell hr2 5 (by decide)
  simp only [List.getElem?_cons_succ,List.getElem?_cons_zero] at x5
  cases hc2:Sx.calls with
  | nil =>
   obtain ⟨ca,cc,rfl⟩:=h2.callsLen hr2
   rw [hc2,List.length_nil] at h2 x5
   have hfin:=Hd (show ∀ x,S.found x≠0∨x=v→Sx.found x≠0 from fun x hx=>hk2 x (hkeep.out x hx))
   replace hI2:=Hd hI2
   replace hc2:=Hd hc2
   replace hr2:=Hd hr2
   clear hk2
   go_wp2
   go_end0
   exact ⟨rfl,b2,f2,ov2,_,Sx,hr2.out,h2,hI2.out,hc2.out,hfin.out⟩
  | cons x r =>
   obtain ⟨g,c,rfl,hcap⟩:=h2.callsShape hr2 (by rw [hc2]; simp)
   rw [hc2,List.length_cons] at h2 x5 hcap
   have hxc:x∈Sx.calls:=by rw [hc2]; exact List.mem_cons_self
   have hxn:=hI2.seenLt x (hI2.callsSeen hxc).1
   have hrl:=hI2.calls_len
   rw [hc2,List.length_cons] at hrl
   have hxr:x∉r:=fun hm=>by
    have:=hI2.callsSorted
    rw [hc2] at this
    exact absurd ((List.pairwise_cons.1 this).1 x hm) (Nat.lt_irrefl _)
   have hil:=hI2.idxLe x (hI2.callsOpen x hxc)
   have hal:=adjOf_len G x
   have hll:=hlen.out x hxn
   have hphi:=hI2.phi_step hc2
   have hI3:=hI2.step
   have hk3:=fun y (hy:S1.found y≠0)=>(keepsS (adjOf G) Sx (hk2 y hy)).symm▸hk2 y hy
   obtain ⟨t0,t1,t1f⟩:=h2.callTop hc2 hr2
   have x0:=h2.cell hr2 0 (by decide)
   simp only [List.getElem?_cons_zero] at x0
   have hb2:=hb.trans b2
   obtain ⟨mv,iR,cR,hM⟩:=(hG.out.below hb2).row x hxn
   have hget:=fun (i:Nat) (hi:i<(G.getD x []).length)=>hok.out.get hxn hi
   obtain ⟨gx,hgx⟩:∃ gx,G.getD x []=gx:=⟨_,rfl⟩
   rw [hgx] at hM hal hll hget
   replace hgx:=Hd hgx
   replace hget:=Hd hget
   have lenM:=hM.len
   have hwr:IntKind.i64.wrap (r.length:Int)=r.length:=wrapK (by omega) (by omega)
   obtain ⟨ra,hra⟩:∃ ra,valAt (.slice na G.length nc) x=ra:=⟨_,rfl⟩
   rw [hra] at iR cR
   replace hra:=Hd hra
   replace hphi:=Hd hphi
   replace hI3:=Hd hI3
   replace hk3:=Hd hk3
   replace hM:=Hd hM
   replace hI2:=Hd hI2
   replace hr2:=Hd hr2
   replace hk2:=Hd hk2
   replace hxr:=Hd hxr
   have hstep:=Hd (stepS_cons (adj:=adjOf G) hc2)
   by_cases hi:Sx.idx x=(adjOf G x).length
   ·have hieq:((Sx.idx x:Int)==(gx.length:Int))=true:=by rw [beq_iff_eq]; omega
    rw [if_pos hi] at hstep
    have hL:=fun (w':World) (hr':Rows w0.heap.size w' f2)=>leave_any w0.heap.size w' f2 d (.slice na G.length nc) lv fv pv ov2 _ G.length (adjOf G) Sx x r hr' h2 hI2.out hc2 hn
    replace hL:=Hd hL
    replace hc2:=Hd hc2
    replace hi:=Hd hi
    go_upto_region 2 with fail
    go_quiet (fail)
    go_upto_region 3 with fail
    go_quiet (fail)
    go_wp2_with fail
    clear t0 t1 t1f x0 x5 iR cR lenM
    refine (hL.out _ (hr2.out.drewN _)).mono ?_
    rintro e w3 ⟨rfl,b3,f3,ov3,cv3,hr3,h3⟩
    replace hr3:=Hd hr3
    go_wp2
    go_roundg (phi G.length (adjOf G) (stepS (adjOf G) Sx))
    case measure=>exact hphi.out
    case rel=>exact ⟨stepS (adjOf G) Sx,f3,ov3,cv3,rfl,hI3.out,hk3.out,hr3.out,b2.trans (Below.trans (below_drewN (Below.refl _ _) _) b3),by rw [hstep.out]; exact h3⟩
   ·have hine:((Sx.idx x:Int)==(gx.length:Int))=false:=by rw [beq_eq_false_iff_ne]; omega
    have hilt:Sx.idx x<gx.length:=by omega
    rw [if_neg hi] at hstep
    have hg1:=hget.out _ hilt
    obtain ⟨t,ht⟩:∃ t,(adjOf G x).getD (Sx.idx x) 0=t:=⟨_,rfl⟩
    rw [ht] at hg1 hstep
    have htn:=(hI2.out.idx_get hc2 hi).2.2
    rw [ht] at htn
    have iT:=hM.out.idx _ hilt
    have cT:=hM.out.cellD _ hilt
    rw [hg1] at cT
    generalize valAt mv (Sx.idx x)=ta at *
    replace hg1:=Hd hg1
    replace ht:=Hd ht
    replace hi:=Hd hi
    have e1:((Sx.idx x+1:Nat):Int)=(Sx.idx x:Int)+1:=by omega
    have hbump:=fun (w':World) (hr':Rows w0.heap.size w' f2)=>h2.bump hc2 hxr.out hr' (Sx.idx x+1)
    rw [e1] at hbump
    replace e1:=Hd e1
    replace hbump:=Hd hbump
    have hgB:=((hr2.out.lt h2.calls) g rfl).1
    have hcb:=Hd (show t∉Sx.calls∨Sx.found t≠0 from by
     by_cases q:Sx.found t=0
     ·exact .inl fun hm=>(hI2.out.callsSeen hm).1 q
     ·exact .inr q)
    have hlens:=Hd (show Sx.opn.length<10000∧Sx.calls.length<10000∧Sx.time<100000 from ⟨by have:=hI2.out.opn_len; omega,by have:=hI2.out.calls_len; omega,by have:=hI2.out.time_le; omega⟩)
    replace hc2:=Hd hc2
    go_upto_region 2 with fail
    go_quiet (fail)
    revert nq
    intro q1
    go_upto_region 3 with fail
    go_quiet (fail)
    revert nq
    intro q2
    go_upto_region 5 with fail
    go_quiet (fail)
    go_upto_region 7 with fail
    obtain ⟨WN,hWN⟩:∃ WN:World,WN=wo.drewN (q1+q2+nq):=⟨_,rfl⟩
    rw [← hWN]
    have hrN:Rows w0.heap.size WN f2:=by rw [hWN]; exact hr2.out.drewN _
    have bN:Below w0.heap.size w WN:=by rw [hWN]; exact b2.trans (below_drewN (Below.refl _ _) _)
    clear hWN t0 t1 t1f x0 x5 iR cR lenM iT cT
    obtain ⟨f3,hr3,h3⟩:=hbump.out _ hrN
    have b3:Below w0.heap.size w (WN.setCell ⟨g,r.length*2+1,none⟩ (.int .i64 ((Sx.idx x:Int)+1))):=bN.setCell hgB _
    obtain ⟨W3,hW3⟩:∃ W3:World,W3=WN.setCell ⟨g,r.length*2+1,none⟩ (.int .i64 ((Sx.idx x:Int)+1)):=⟨_,rfl⟩
    rw [← hW3]
    rw [← hW3] at hr3 b3
    clear hW3 hrN bN
    have x2:=h3.cell hr3 2 (by decide)
    simp only [List.getElem?_cons_succ,List.getElem?_cons_zero] at x2
    have oF:=(hr3.ownI h3.fnd).at
    have iF:=fun w'=>oF.idx t (by rw [tab_len]; exact htn) w'
    have cF:=oF.cellD t (by rw [tab_len]; exact htn)
    rw [tab_get _ _ _ htn] at cF
    dsimp only at cF
    replace hr3:=Hd hr3
    clear oF
    obtain ⟨fa,hfa⟩:∃ fa,valAt fv t=fa:=⟨_,rfl⟩
    rw [hfa] at iF cF
    replace hfa:=Hd hfa
    by_cases hft:Sx.found t=0
    ·rw [if_pos hft] at hstep
     have hE3:=enter_any w0.heap.size W3 f3 d (.slice na G.length nc) lv fv pv ov2 _ G.length _ t hr3.out h3 (Nat.le_trans hb.size (Nat.le_trans b3.size (Nat.le_refl _))) htn (by show t∉Sx.calls; exact hcb.out.resolve_right (fun q=>q hft)) hlens.out.1 hlens.out.2.1 hlens.out.2.2
     replace hE3:=Hd hE3
     rw [hft] at cF
     replace hft:=Hd hft
     go_wp2_with fail
     clear x2 iF cF
     refine hE3.out.mono ?_
     rintro e w4 ⟨rfl,b4,f4,ov4,cv4,hr4,h4⟩
     replace hr4:=Hd hr4
     go_wp2
     go_roundg (phi G.length (adjOf G) (stepS (adjOf G) Sx))
     case measure=>exact hphi.out
     case rel=>exact ⟨stepS (adjOf G) Sx,f4,ov4,cv4,rfl,hI3.out,hk3.out,hr4.out,b3.trans b4,by rw [hstep.out]; exact h4⟩
    ·have hne:((Sx.found t:Int)==0)=false:=by rw [beq_eq_false_iff_ne]; omega
     rw [if_neg hft] at hstep
     replace hft:=Hd hft
     have x4:=h3.cell hr3.out 4 (by decide)
     simp only [List.getElem?_cons_succ,List.getElem?_cons_zero] at x4
     have oP:=(hr3.out.ownI h3.part).at
     have iP:=fun w'=>oP.idx t (by rw [tabI_len]; exact htn) w'
     have cP:=oP.cellD t (by rw [tabI_len]; exact htn)
     rw [tabI_get _ _ _ htn] at cP
     dsimp only at cP
     clear oP
     generalize valAt pv t=pa at *
     by_cases hpt:Sx.part t<0
     ·rw [if_pos hpt] at hstep
      have hcx:Sx.calls=x::r:=hc2.out
      have hT0:=fun (w':World) (hr':Rows w0.heap.size w' f3)=>(h3.callTop hcx hr').1
      replace hcx:=Hd hcx
      replace hT0:=Hd hT0
      go_upto_region 10 with fail
      clear x4 iP cP x2
      refine wp_region_plan (fun w'=>w'.cell? ⟨d,1,none⟩=some lv∧w'.cell? ⟨d,2,none⟩=some fv∧w'.cell? ⟨g,r.length*2,none⟩=some (.int .i64 (x:Int))∧w'.cell? (valAt lv x)=some (.int .i64 (Sx.low x:Int))∧w'.cell? fa=some (.int .i64 (Sx.found t:Int))) 27 [(0,true),(1,true),(2,true),(3,true),(4,true),(5,true),(6,true),(7,true),(8,true),(9,true),(10,true),(11,true),(12,true),(13,true),(14,true),(15,true),(16,true),(17,true),(18,true),(19,true),(20,true),(21,true),(22,true),(23,true),(24,true),(25,false),(26,true)] (by kernel_rfl) (by kernel_rfl) ?_
      obtain ⟨W5,hW5⟩:∃ W5:World,W5=W3.drew:=⟨_,rfl⟩
      rw [← hW5]
      have hr5:Rows w0.heap.size W5 f3:=by rw [hW5]; exact hr3.out.drew
      have b5:Below w0.heap.size w W5:=by rw [hW5]; exact b3.drew
      have cF5:W5.cell? fa=some (.int .i64 (Sx.found t:Int)):=by rw [hW5]; exact cF
      clear hW5 cF
      have oL:=hr5.ownI h3.low
      have iX:=fun w'=>oL.at.idx x (by rw [tab_len]; exact hxn) w'
      have cX:=oL.at.cellD x (by rw [tab_len]; exact hxn)
      rw [tab_get _ _ _ hxn] at cX
      dsimp only at cX
      have fX:=oL.frz x (by rw [tab_len]; exact hxn)
      have kX:=(oL.toV.blkB x (by rw [List.length_map,tab_len]; exact hxn)).2
      have hS:W5.cell? ⟨d,1,none⟩=some lv∧W5.cell? ⟨d,2,none⟩=some fv∧W5.cell? ⟨g,r.length*2,none⟩=some (.int .i64 (x:Int))∧W5.cell? (valAt lv x)=some (.int .i64 (Sx.low x:Int))∧W5.cell? fa=some (.int .i64 (Sx.found t:Int)):=⟨h3.cell hr5 1 (by decide),h3.cell hr5 2 (by decide),hT0.out _ hr5,cX,cF5⟩
      obtain ⟨f6,hr6,h6⟩:=h3.setLow hr5 x hxn (min (Sx.low x) (Sx.found t))
      have b6:Below w0.heap.size w (W5.setCell (valAt lv x) (.int .i64 ((min (Sx.low x) (Sx.found t):Nat):Int))):=b5.setCell kX _
      replace hr6:=Hd hr6
      replace hr5:=Hd hr5
      clear oL cF5
      generalize valAt lv x=la at *
      refine pqY 92 hS ?_
      refine pqY 93 hS ?_
      refine pqY 94 hS ?_
      refine pqY 95 hS ?_
      refine pqY 96 hS ?_
      refine pqY 97 hS ?_
      refine pqY 98 hS ?_
      refine pqY 99 hS ?_
      refine pqY 100 hS ?_
      refine pqY 101 hS ?_
      refine pqY 102 hS ?_
      refine pqY 103 hS ?_
      refine pqY 104 hS ?_
      refine pqY 105 hS ?_
      refine pqY 106 hS ?_
      refine pqY 107 hS ?_
      refine pqY 108 hS ?_
      refine pqY 109 hS ?_
      refine pqY 110 hS ?_
      refine pqY 111 hS ?_
      refine pqY 112 hS ?_
      refine pqY 113 hS ?_
      refine pqY 114 hS ?_
      refine pqY 115 hS ?_
      refine pqY 116 hS ?_
      refine headC rfl (fun KK hK=>?_)
      -- CALL 25 slot (some 117)
      go_simp
      refine hK _ _ hS ?_
      clear hK KK
      refine pqY 118 hS ?_
      refine head0 ?_
      simp only [List.drop_succ_cons,List.drop_zero]
      clear hS iX iF
      go_wp2
      all_goals
       first
       | rw [show min (Sx.low x) (Sx.found t)=Sx.found t by omega] at b6 hr6
       | rw [show min (Sx.low x) (Sx.found t)=Sx.low x by omega] at b6 hr6
       | rw [show ((min (Sx.low x) (Sx.found t):Nat):Int)=min (Sx.low x:Int) (Sx.found t:Int) by omega] at b6 hr6
       refine NoPanic.normal ?_
       go_wp2
       go_roundg (phi G.length (adjOf G) (stepS (adjOf G) Sx))
       case measure=>exact hphi.out
       case rel=>exact ⟨stepS (adjOf G) Sx,f6,ov2,_,rfl,hI3.out,hk3.out,hr6.out,b6,by rw [hstep.out]; exact h6⟩
     ·rw [if_neg hpt] at hstep
      go_wp2
      go_roundg (phi G.length (adjOf G) (stepS (adjOf G) Sx))
      case measure=>exact hphi.out
      case rel=>exact ⟨stepS (adjOf G) Sx,f3,ov2,_,rfl,hI3.out,hk3.out,hr3.out,b3,by rw [hstep.out]; exact h3⟩
end Go.Proofs.YtindfaehjoileaaGreatDoor
namespace Go.Proofs.YtindfaehjoileaaGreatDoor
open Go.RowKit Go.Maps
set_option maxRecDepth 100000
theorem uIntN:Tryz.prog.underlying 3=some (.int .i64):=by kernel_rfl
theorem uMapN:Tryz.prog.underlying 412=some (.map 3 3):=by kernel_rfl
theorem keyedN:Keyed Tryz.prog 3:=int_keyed uIntN
theorem zeroN (w:World):(zeroValue 3).run Tryz.prog w=.ok (.int .i64 0) w:=by kernel_rfl
def NumMap (w:World) (b n:Nat) (M:Int→Option Int) (s:Nat):Prop :=
 ∃ D:DataW Unit,w.ownsMap Tryz.prog 3 (plainElem Tryz.prog 3) b n D∧Maps.size D=s ∧
  ∀ k,(Lit.int .i64 k).wf=true→Maps.has D (.int .i64 k)=(M k).isSome∧∀ x,M k=some x→D.atKey (.int .i64 k) (.lit (.int .i64 0))=.lit (.int .i64 x)
theorem NumMap.made (w:World):NumMap (w.alloc (.map #[] 0)) w.heap.size 0 (fun _=>none) 0 :=
 ⟨_,World.ownsMap_made w Tryz.prog 3 _,rfl,fun k _=>⟨rfl,fun x h=>by cases h⟩⟩
theorem NumMap.blk {w:World} {b n s:Nat} {M:Int→Option Int} (h:NumMap w b n M s):∃ es c,w.heap[b]?=some (.map es c):=by
 obtain ⟨D,⟨es,c,hb,_⟩,_⟩:=h
 exact ⟨es,c,hb⟩
theorem NumMap.kept {w w':World} {b n s:Nat} {M:Int→Option Int} {row:Option Nat} (h:NumMap w b n M s) (hg:w.grownBy w' row) (hne:some b≠row):NumMap w' b n M s:=by
 obtain ⟨D,h1,h2⟩:=h
 exact ⟨D,h1.kept hg hne,h2⟩
theorem NumMap.drew {w:World} {b n s:Nat} {M:Int→Option Int} (h:NumMap w b n M s):NumMap w.drew b n M s:=h
theorem NumMap.drewN {w:World} {b n s:Nat} {M:Int→Option Int} (h:NumMap w b n M s) (q:Nat):NumMap (w.drewN q) b n M s:=h
theorem NumMap.len {w:World} {b n s:Nat} {M:Int→Option Int} (h:NumMap w b n M s) (ty:TypeId):(Builtin.len_ #[412] ty #[.map (some b)]).run Tryz.prog w=.ok (.int .i64 s) w:=by
 obtain ⟨D,h1,rfl,_⟩:=h
 exact h1.len uMapN ty
theorem NumMap.lookOk {w:World} {b n s:Nat} {M:Int→Option Int} (h:NumMap w b n M s) (k:Int) (hk:(Lit.int .i64 k).wf=true) :
 ∃ c:Int,(Instr.lookup 412 (.map (some b)) (.int .i64 k) true).run Tryz.prog w=.ok (.tuple #[.int .i64 c,.bool (M k).isSome]) w:=by
 obtain ⟨D,h1,_,h3⟩:=h
 obtain ⟨v,ps,hr,hv⟩:=h1.look_ok keyedN uMapN (zeroN w) (plainElem_int uIntN (by decide)) (keyOf_int_mk uIntN hk)
 obtain ⟨c,rfl,_,_⟩:=plainElem_int_inv uIntN hv
 exact ⟨c,by rw [hr,(h3 k hk).1]⟩
theorem NumMap.look {w:World} {b n s:Nat} {M:Int→Option Int} (h:NumMap w b n M s) (k x:Int) (hk:(Lit.int .i64 k).wf=true) (hx:M k=some x) :
 (Instr.lookup 412 (.map (some b)) (.int .i64 k) false).run Tryz.prog w=.ok (.int .i64 x) w:=by
 obtain ⟨D,h1,_,h3⟩:=h
 obtain ⟨c,hr,hc,_⟩:=h1.lookup_int keyedN uMapN uIntN (zeroN w) (keyOf_int_mk uIntN hk)
 rw [(h3 k hk).2 x hx] at hc
 injection hc with hc
 injection hc with _ hc
 rw [hr,hc]
theorem NumMap.store {w:World} {b n s:Nat} {M:Int→Option Int} (h:NumMap w b n M s) (k x:Int) (hk:(Lit.int .i64 k).wf=true) (hx:(Lit.int .i64 x).wf=true) (hM:M k=none) (hn:n<1000000) :
 ∃ w',(Instr.mapUpdate 412 (.map (some b)) (.int .i64 k) (.int .i64 x)).run Tryz.prog w=.ok () w'∧NumMap w' b (n+1) (updM M k x) (s+1)∧w.grownBy w' (some b):=by
 obtain ⟨D,h1,h2,h3⟩:=h
 have hT:=h1.tidy keyedN
 have hI:=h1.isMap
 obtain ⟨w',hr,ho,hg⟩:=h1.update keyedN uMapN (by unfold maxLen; omega) (keyOf_int_mk uIntN hk) (plainElem_int uIntN hx)
 have hkl:WideAt.IsKeyLit (Lit.int .i64 k):=keyedN.key (keyOf_int_mk uIntN hk)
 refine ⟨w',hr,⟨_,ho,?_,fun q hq=>?_⟩,hg⟩
 ·rw [Maps.size_put hT,(h3 k hk).1,hM,h2]; rfl
 ·by_cases e:q=k
  ·subst e
   refine ⟨by rw [Maps.has_put_same hI hkl]; simp [updM],fun y hy=>?_⟩
   simp [updM] at hy
   subst hy
   exact Maps.atKey_put_same hI hkl _ _
  ·have hne:(Lit.int .i64 q)≠(Lit.int .i64 k):=fun h=>e (by injection h)
   refine ⟨by rw [Maps.has_put_other hne,(h3 q hq).1]; simp [updM,e],fun y hy=>?_⟩
   rw [Maps.atKey_put_other hne]
   exact (h3 q hq).2 y (by simpa [updM,e] using hy)
theorem ownI_map {B:Nat} {w w':World} {b:Nat} {es:Array MapEntry} {c:Nat} {v:Value} {xs:List Int} (h:OwnI B w v xs) (hb:w.heap[b]?=some (.map es c)) (hg:w.grownBy w' (some b)):OwnI B w' v xs:=by
 refine World.ownsRow.kept h hg ?_
 rcases h.2 with ⟨e,_⟩ | ⟨g,cap,cur,e,_,hh,_⟩
 ·left; rw [e]; rfl
 ·right; rw [e]; intro q
  have:g=b:=by injection q
  subst this; rw [hh] at hb; cases hb
end Go.Proofs.YtindfaehjoileaaGreatDoor
