/-
  Texts that the proof leans on.
-/
import Derived.Test.YtindfaehjoileaaGreatDoorMSn4
import Derived.LaidEql
import Derived.Stop.Asserts
import Derived.RowKitTokens
import Derived.Deep.LoopGhost
import Derived.Ground.NamesProg
import Derived.Shelf.Slices.Cells
import Derived.RangeFuncBox
import Derived.RangeFuncLeaves
import Derived.Shelf.Abstract
import Derived.OwnWalkIn
import Derived.TacticsInMore
import Derived.LoopNIn
import Derived.LoopIn
import Derived.Maps.AppendAt
namespace Go.Proofs.YtindfaehjoileaaGreatDoor
open Go.RowKit
set_option maxRecDepth 100000
set_option maxHeartbeats 8000000
theorem behU_le (K N:Nat) (T:List Int) (u:Nat) (s:Int) (t:Nat):(behU K N T u s t).length≤t:=by
 unfold behU
 rw [List.length_map]
 exact Nat.le_trans (List.length_filter_le _ _) (by rw [List.length_range]; exact Nat.le_refl _)
theorem behM_le (K N:Nat) (T:List Int) (s:Int):∀ us:List Nat,(behM K N T us s).length≤us.length*K
 | []=>by simp [behM]
 | u::us=>by
  have:=behM_le K N T s us
  have h2:=behU_le K N T u s K
  have e:behM K N T (u::us) s=behU K N T u s K++behM K N T us s:=rfl
  rw [e,List.length_append,List.length_cons,Nat.succ_mul]
  omega
def FoundAt (B:Nat) (w:World) (wd:List Int) (y:Value):Prop:=∃ p a n c,y=.iface 220 (.pointer (some ⟨p,0,none⟩))∧w.cell? ⟨p,0,none⟩=some (.slice a n c)∧OwnI B w (.slice a n c) wd∧B≤p
theorem step_appV {T E:TypeId} {z:Value} {b:Nat} (oc:OneCell T E z b) {ops:Array Oper} {o:Oper} {a:Act} {w:World} {K:Act→World→Prop} {Q:Exit→Act→World→Prop} {Ep:Prop} (hgd:o.guard=none) (s x:Operand)
 (ho:o.op=.call { callee:=.builtin .append,args:=#[s,x],argTypes:=#[T,T] })
 {B:Nat} {f:Names} (hR:Rows B w f) (i:Nat×Nat) (v:Value) (xs:List Value) (hi:f i=some (rowV E v xs)) (y:Value) (hy:y.oneCell'=true) (hs:a.eval s=v) (hx:a.eval x=.slice (some ⟨w.heap.size,0,none⟩) 1 1)
 (hlen:xs.length<4398046511104) (hB:B≤w.heap.size)
 (h:∀ v' w' f',Rows B w' f'→f' i=some (rowV E v' (xs++[y]))→ElseSame f f' i→Below B w w'→GrewIn v w w'→ValsAt w' v xs→K (a.put o.dst v') w') :
 if Region.wanted o (yielded ops a.tmps)=true then Oper.wp Tryz.prog o a (w.alloc (.cells #[y] E)) K Q else Ep:=by
 have hw:Region.wanted o (yielded ops a.tmps)=true:=by simp [Region.wanted,hgd]
 rw [if_pos hw]
 have hown:=hR.ownV hi
 have hA:Rows B (w.alloc (.cells #[y] E)) f:=hR.below (belowAlloc w _)
 obtain ⟨v',w',hr,h2,h3⟩:=run_app oc (w.alloc (.cells #[y] E)) B o.type v _ (hown.alloc _) ⟨w.heap.size,0,none⟩ 1 [y] (by simp) (cell_one_new _ _ _) (by simp [hy]) (by simp; omega) (by simp; omega)
 unfold Oper.wp execOp
 simp only [ho,resolve,invoke,builtin,Sem.run_bind,Sem.run_pure,Result.andThen_ok,List.map_toArray,List.map_cons,List.map_nil,hs,hx]
 rw [show ([y]:List Value).length=1 from rfl] at hr
 rw [hr]
 have hal:∀ row,w.grownBy (w.alloc (.cells #[y] E)) row:=fun row=>World.grownBy_alloc w _ row
 obtain ⟨a1,n1,q1,e1⟩:=h2.shape
 obtain ⟨a2,n2,q2,e2⟩:=hown.shape
 rcases h3 with ⟨hroom,hg⟩ | ⟨hk,hg⟩
 ·have hob:=ownBlock_of_room e2 e1 hroom
  have hR':=hA.grown (r':=rowV E v' (xs++[y])) hi hg h2 (.inl hob)
  exact h v' w' _ hR' (upd_same _ _ _) (fun j e=>upd_ne _ _ e) ((Below.refl _ _).grown ((hal v.ownBlock).trans hg) hB (fun k hk=>(hown.lt k hk).1)) ⟨v.ownBlock,(hal _).trans hg,fun _ hk=>hk⟩ (hown.front h2 hroom).at
 ·have hR':=hA.grown (r':=rowV E v' (xs++[y])) hi (grown_any hg _) h2 (.inr ⟨_,hk,Nat.le_refl _⟩)
  exact h v' w' _ hR' (upd_same _ _ _) (fun j e=>upd_ne _ _ e) ((Below.refl _ _).grown ((hal none).trans hg) hB (by intro k hk; cases hk)) ⟨none,(hal none).trans hg,fun k hk=>by cases hk⟩ ((hown.alloc (.cells #[y] E)).kept hg (by
   cases hv:v.ownBlock with
   | none=>exact .inl rfl
   | some k=>exact .inr (by intro e; cases e))).at
theorem ListsIn.more {f f':Names} {p:Nat} {v v' u:Value} {vs:List Value} {xs:List (List Int)} {ys:List Int} (h:ListsIn f p v vs xs) (e0:f' (p,0)=some (rowV 30 v' (vs++[u]))) (e1:f' (p+1,xs.length)=some (rowI u ys)) (e:∀ i,i<xs.length→f' (p+1,i)=f (p+1,i)):ListsIn f' p v' (vs++[u]) (xs++[ys]):=by
 refine ⟨e0,by simp [h.len],fun i hi=>?_⟩
 rw [List.length_append,List.length_singleton] at hi
 by_cases c:i=xs.length
 ·subst c
  have a1:(vs++[u]).getD xs.length .nilIface=u:=by rw [← h.len]; simp [List.getD]
  have a2:(xs++[ys]).getD xs.length []=ys:=by simp [List.getD]
  rw [a1,a2]; exact e1
 ·have hi2:i<xs.length:=by omega
  have a1:(vs++[u]).getD i .nilIface=vs.getD i .nilIface:=by simp [List.getD,List.getElem?_append_left (show i<vs.length by rw [h.len]; omega)]
  have a2:(xs++[ys]).getD i []=xs.getD i []:=by simp [List.getD,List.getElem?_append_left hi2]
  rw [a1,a2,e i hi2]; exact h.each i hi2
theorem WalkAt.more {B:Nat} {w w':World} {f f2 f4:Names} {g gb b K R n:Nat} {tv:Value} {stop:Bool} {sets:List (List Bool)} {words next:List (List Int)} {sv:Value} {svs:List Value} {wv:Value} {wvs:List Value} {nv:Value} {nvs:List Value} (h:WalkAt B w f g gb b K R n tv stop sets words next sv svs wv wvs nv nvs)
 {w2:World} {y:List Bool} {sv2:Value} {svs2:List Value} (hb2:BagAt B w2 f2 gb b n (sets++[y]) sv2 svs2) (o2:∀ j:Nat×Nat,j.1≠20→j.1≠21→j.1≠22→j.1≠23→f2 j=f j)
 {v' u:Value} {wd:List Int} (hm:BagMap w' b n (sets++[y])) (o4:∀ j:Nat×Nat,j≠(30,0)→j≠(31,0)→j≠(32,words.length)→f4 j=f2 j)
 (e30:f4 (30,0)=some (box7 219 g [.int .i64 K,.int .i64 R,tv,.pointer (some ⟨gb,0,none⟩),nv,v',.bool stop])) (e31:f4 (31,0)=some (rowV 30 v' (wvs++[u]))) (e32:f4 (32,words.length)=some (rowI u wd)) :
 WalkAt B w' f4 g gb b K R n tv stop (sets++[y]) (words++[wd]) next sv2 svs2 v' (wvs++[u]) nv nvs:=by
 have k2:∀ j:Nat×Nat,j.1≠20→j.1≠21→j.1≠22→j.1≠23→j≠(30,0)→j≠(31,0)→j≠(32,words.length)→f4 j=f j:=fun j a1 a2 a3 a4 a5 a6 a7=>(o4 j a5 a6 a7).trans (o2 j a1 a2 a3 a4)
 refine ⟨e30,?_,?_,?_⟩
 ·have hc:=hb2.congr (f':=f4) (fun i hi=>o4 i (by intro e; subst e; rcases hi with q | q | q<;>cases q) (by intro e; subst e; rcases hi with q | q | q<;>cases q) (by intro e; subst e; rcases hi with q | q | q<;>cases q))
  exact ⟨hc.box,hc.out,hc.len,hc.each,hc.all,hm,hc.blk⟩
 ·exact h.words.more e31 e32 (fun i hi=>k2 _ (by simp) (by simp) (by simp) (by simp) (by simp) (by simp) (by intro e; injection e with _ e; omega))
 ·exact h.next.congr fun j hj=>k2 j (by rcases hj with q | q<;>rw [q]<;>decide) (by rcases hj with q | q<;>rw [q]<;>decide) (by rcases hj with q | q<;>rw [q]<;>decide) (by rcases hj with q | q<;>rw [q]<;>decide) (by intro e; subst e; rcases hj with q | q<;>cases q) (by intro e; subst e; rcases hj with q | q<;>cases q) (by intro e; subst e; rcases hj with q | q<;>cases q)
structure WkOk (sets:List (List Bool)) (words:List (List Int)):Prop where
 ll:words.length=sets.length
 short:∀ j,(words.getD j []).length≤j
 small:sets.length≤4096
theorem WkOk.init (n:Nat):WkOk [List.replicate n true] [[]]:=⟨rfl,fun j=>(by cases j<;>simp),by simp⟩
theorem wkStep_ok {stop:Bool} {K N i t:Nat} {T:List Int} {sets a:List (List Bool)} {words b:List (List Int)} {id:Int} (h:WkOk sets words) (hi:i<sets.length) (e:wkStep stop K N T i t sets words=.on a b id):WkOk a b∧sets.length≤a.length:=by
 unfold wkStep at e
 split at e
 ·split at e
  ·cases e
  ·injection e with e1 e2; subst e1; subst e2; exact ⟨h,Nat.le_refl _⟩
 ·split at e
  ·injection e with e1 e2; subst e1; subst e2; exact ⟨h,Nat.le_refl _⟩
  ·split at e
   ·cases e
   ·rename_i h4
    injection e with e1 e2; subst e1; subst e2
    have hsm:=h.small
    refine ⟨⟨by simp [h.ll],fun j=>?_,by rw [List.length_append,List.length_singleton]; omega⟩,by simp⟩
    by_cases c:j<words.length
    ·rw [getD_leftS c]; exact h.short j
    ·by_cases c2:j=words.length
     ·subst c2
      rw [getD_end,List.length_append,List.length_singleton]
      have:=h.short i
      have hll:=h.ll
      omega
     ·have:(words++[words.getD i []++[(t:Int)]]).getD j []=[]:=by
       rw [List.getD_eq_getElem?_getD,List.getElem?_eq_none (by rw [List.length_append,List.length_singleton]; omega)]; rfl
      rw [this]; exact Nat.zero_le _
def NotWk (j:Nat×Nat):Prop:=j.1≠20∧j.1≠21∧j.1≠22∧j.1≠23∧j.1≠30∧j.1≠31∧j.1≠32
def StepPost (r:Nat→Addr) (B:Nat) (f:Names) (g gb b K R n:Nat) (tv:Value) (stop:Bool) (next:List (List Int)) (nv:Value) (nvs:List Value) (w:World):WkR Int→Ending→World→Prop
 | .on a ws id,e,w'=>e=.returned (.tuple #[.int .i64 id,.nilIface])∧Below B w w'∧∃ f' sv svs wv wvs,Rows B w' f'∧WalkAt B w' f' g gb b K R n tv stop a ws next sv svs wv wvs nv nvs∧∀ j:Nat×Nat,NotWk j→f' j=f j
 | .orphan wd,e,w'=>∃ p,e=.returned (.tuple #[.int .i64 0,.iface 220 (.pointer (some p))])∧Below w.heap.size w w'∧FoundAt w.heap.size w' wd (.iface 220 (.pointer (some p)))
 | .big,e,w'=>∃ p,e=.returned (.tuple #[.int .i64 0,.iface 47 (.pointer (some p))])∧Below w.heap.size w w'∧ErrIs r w' (fresh sBag 0 4) (.iface 47 (.pointer (some p)))
section
variable {stop:Bool} {K n i t:Nat} {T:List Int} {sets:List (List Bool)} {words:List (List Int)} {L:List Nat}
theorem wkStep_nil (h1:1≤n) (he:behM K n T (memB (sets.getD i []) n) (t:Nat)=L) (hL:L=[]):wkStep stop K n T i t sets words=if stop=true then .orphan (words.getD i []++[(t:Int)]) else .on sets words (-1):=by
 unfold wkStep; rw [if_pos ((beh_nil h1).1 (he.trans hL))]
theorem wkStep_old (h1:1≤n) (he:behM K n T (memB (sets.getD i []) n) (t:Nat)=L) (hL:L≠[]) (hm:setOf n L∈sets):wkStep stop K n T i t sets words=.on sets words (sets.idxOf (setOf n L):Nat):=by
 unfold wkStep; rw [if_neg (fun q=>hL (he.symm.trans ((beh_nil h1).2 q))),← setOf_beh,he,if_pos hm]
theorem wkStep_big (h1:1≤n) (he:behM K n T (memB (sets.getD i []) n) (t:Nat)=L) (hL:L≠[]) (hm:setOf n L∉sets) (h4:sets.length=4096):wkStep stop K n T i t sets words=.big:=by
 unfold wkStep; rw [if_neg (fun q=>hL (he.symm.trans ((beh_nil h1).2 q))),← setOf_beh,he,if_neg hm,if_pos h4]
theorem wkStep_new (h1:1≤n) (he:behM K n T (memB (sets.getD i []) n) (t:Nat)=L) (hL:L≠[]) (hm:setOf n L∉sets) (h4:sets.length≠4096):wkStep stop K n T i t sets words=.on (sets++[setOf n L]) (words++[words.getD i []++[(t:Int)]]) (sets.length:Nat):=by
 unfold wkStep; rw [if_neg (fun q=>hL (he.symm.trans ((beh_nil h1).2 q))),← setOf_beh,he,if_neg hm,if_neg h4]
end
theorem step_any (r:Nat→Addr) {B:Nat} {f:Names} {g gb b K R n:Nat} {va:Option Addr} {vn vc:Nat} {T:List Int} {sets:List (List Bool)} {words next:List (List Int)} {sv:Value} {svs:List Value} {wv:Value} {wvs:List Value} {nv:Value} {nvs:List Value} {stop:Bool} {w:World} (hg:Glob r w) (hR:Rows B w f)
 (hW:WalkAt B w f g gb b K R n (.slice va vn vc) stop sets words next sv svs wv wvs nv nvs) (hT:IntsAt w (.slice va vn vc) T) (hok:RuleOk K R T) (hl:T.length≤256) (hn:T.length/K=n) (h1:1≤n) (hn4:n≤256) (i t:Nat) (hi:i<sets.length) (hk:WkOk sets words) :
 Calls Tryz.prog 262 #[.pointer (some ⟨g,0,none⟩),.int .i64 i,.int .i64 t] w (StepPost r B f g gb b K R n (.slice va vn vc) stop next nv nvs w (wkStep stop K n T i t sets words)):=by
 obtain ⟨L,he⟩:∃ L,behM K n T (memB (sets.getD i []) n) (t:Nat)=L:=⟨_,rfl⟩
 have hws:=hk.ll
 have hsm:=hk.small
 have hwi:i<words.length:=by omega
 have hwl:(words.getD i []).length≤4096:=by have:=hk.short i; omega
 have kN:=fun q:L=[]=>wkStep_nil (stop:=stop) (words:=words) h1 he q
 have kO:=fun (q:L≠[]) m=>wkStep_old (stop:=stop) (words:=words) h1 he q m
 have kB:=fun (q:L≠[]) m z=>wkStep_big (stop:=stop) (words:=words) h1 he q m z
 have kW:=fun (q:L≠[]) m z=>wkStep_new (stop:=stop) (words:=words) h1 he q m z
 obtain ⟨ws,hwe⟩:∃ ws,words.getD i []=ws:=⟨_,rfl⟩
 rw [hwe] at hwl kN kW
 obtain ⟨RES,hRES⟩:∃ X,wkStep stop K n T i t sets words=X:=⟨_,rfl⟩
 rw [hRES] at kN kO kB kW ⊢
 clear hRES
 replace hwe:=Hd hwe
 replace kN:=Hd kN
 replace kO:=Hd kO
 replace kB:=Hd kB
 replace kW:=Hd kW
 have x0:w.cell? ⟨g,0,none⟩=some (.int .i64 K):=hW.cell hR 0 (by decide)
 have x1:w.cell? ⟨g,1,none⟩=some (.int .i64 R):=hW.cell hR 1 (by decide)
 have x2:w.cell? ⟨g,2,none⟩=some (.slice va vn vc):=hW.cell hR 2 (by decide)
 have x3:w.cell? ⟨g,3,none⟩=some (.pointer (some ⟨gb,0,none⟩)):=hW.cell hR 3 (by decide)
 have hgB:=(hW.low hR).1
 have x5:w.cell? ⟨g,5,none⟩=some wv:=hW.cell hR 5 (by decide)
 have x6:w.cell? ⟨g,6,none⟩=some (.bool stop):=hW.cell hR 6 (by decide)
 have hgl:=(hW.low hR).2
 obtain ⟨z0,z1,z2⟩:=hW.bag.cells hR
 have hset:=hW.bag.set hR hi
 have hin:svs.getD i .nilIface=svs[i]'(by rw [hW.bag.len]; exact hi):=by
  have:i<svs.length:=by rw [hW.bag.len]; exact hi
  simp [List.getD,this]
 rw [hin] at hset
 have hlen:(sets.getD i []).length=n:=hW.bag.all _ (by
  have:sets.getD i []=sets[i]:=by simp [List.getD,hi]
  rw [this]; exact List.getElem_mem hi)
 have hget:=bag_Get n gb i sv svs (sets.getD i []) w z0 z1 (hW.bag.outer hR) (by rw [hW.bag.len]; exact hi) hset hlen (by omega)
 have hk1:=hok.k1
 have hk4:=hok.k4
 obtain ⟨M,hM⟩:∃ M,memB (sets.getD i []) n=M:=⟨_,rfl⟩
 rw [hM] at hget he
 have hlow:∀ u∈M,u<n:=fun u hu=>by rw [← hM] at hu; exact (mem_memB.1 hu).1
 have hml:M.length≤n:=by
  rw [← hM]; exact Nat.le_trans (List.length_filter_le _ _) (by rw [List.length_range]; exact Nat.le_refl _)
 have hLl:L.length≤100000:=by
  rw [← he]
  refine Nat.le_trans (behM_le K n T (t:Nat) M) ?_
  exact Nat.le_trans (Nat.mul_le_mul (show M.length≤256 by omega) hk4) (by decide)
 have hLn:∀ x∈L,x<n:=by rw [← he]; exact behM_lt h1
 replace hLn:=Hd hLn
 replace hM:=Hd hM
 replace hlow:=Hd hlow
 replace hg:=Hd hg
 replace hT:=Hd hT
 replace hR:=Hd hR
 replace hW:=Hd hW
 replace hset:=Hd hset
 replace hin:=Hd hin
 replace he:=Hd he
 replace hn:=Hd hn
 replace hok:=Hd hok
 go_enter Tryz.func262,Tryz.ntmps262
 go_wp2_with fail
 refine hget.mono ?_
 rintro e w1 ⟨mv,_,rfl,b1,rfl,hMo⟩
 have l1:=hMo.at.len
 rw [natI_len] at l1
 obtain ⟨ma,mn,mc,rfl⟩:=hMo.at.shape
 replace hMo:=Hd hMo
 go_wp2
 go_loopw [10,33] (fun ov iv wr=>∃ (k:Nat) (ow:Value),ow=ov∧iv=.int .i64 k∧k≤M.length∧OwnI w1.heap.size wr ow (natI (behM K n T (M.take k) (t:Nat)))∧Below w1.heap.size w1 wr) (fun _ iv _=>M.length-(intOf iv).toNat)
 case atStart=>exact ⟨0,_,rfl,rfl,Nat.zero_le _,OwnI.nil _ _,Below.refl _ _⟩
 case round =>
  obtain ⟨k,ow,rfl,rfl,hk,hO,hB⟩:=hrel
  obtain ⟨wo,rfl⟩:∃ wo:World,wo=wr:=⟨_,rfl⟩
  by_cases hkl:k<M.length
  ·have dk:decide ((k:Int)<(M.length:Int))=true:=decide_eq_true (by omega)
   have hB1:=hB.size
   have hMk:=hMo.out.at.below hB
   have iX:=fun w'=>hMk.idx k (by rw [natI_len]; exact hkl) w'
   have cX:=hMk.cellD k (by rw [natI_len]; exact hkl)
   rw [natI_at hkl] at cX
   have hun:=hlow.out M[k] (List.getElem_mem hkl)
   have hsn:=behM_snoc K n T (M.take k) M[k] (t:Nat)
   rw [← take_snocN M k hkl] at hsn
   obtain ⟨u,hu⟩:∃ u,M[k]=u:=⟨_,rfl⟩
   rw [hu] at cX hun hsn
   obtain ⟨P,hP⟩:∃ P,behM K n T (M.take k) (t:Nat)=P:=⟨_,rfl⟩
   have hPl:Hid (P.length≤1024):=by
    show P.length≤1024
    rw [← hP]
    refine Nat.le_trans (behM_le K n T (t:Nat) (M.take k)) ?_
    rw [List.length_take]
    exact Nat.le_trans (Nat.mul_le_mul (show min k M.length≤256 by omega) hk4) (by decide)
   rw [hP] at hsn hO
   obtain ⟨xa,hxa⟩:∃ xa,valAt (.slice ma mn mc) k=xa:=⟨_,rfl⟩
   rw [hxa] at iX cX
   have b2:=Below.step b1 hB
   have y0:wo.cell? ⟨g,0,none⟩=some (.int .i64 K):=by rw [b2.cell hgl]; exact x0
   replace hMk:=Hd hMk
   replace hsn:=Hd hsn
   replace hP:=Hd hP
   replace hu:=Hd hu
   replace hxa:=Hd hxa
   replace hO:=Hd hO
   go_wp2
   go_loopw [10,42] (fun ov jv wr=>∃ (j:Nat) (ow:Value),ow=ov∧jv=.int .i64 j∧j≤K∧OwnI w1.heap.size wr ow (natI (P++behU K n T u (t:Nat) j))∧Below w1.heap.size w1 wr) (fun _ jv _=>K-(intOf jv).toNat)
   case atStart=>exact ⟨0,_,rfl,rfl,Nat.zero_le _,by rw [behU_zero,List.append_nil]; exact hO.out,hB⟩
   case round =>
    obtain ⟨j,pw,rfl,rfl,hj,hQ,hBj⟩:=hrel
    obtain ⟨wj,rfl⟩:∃ wj:World,wj=wr:=⟨_,rfl⟩
    by_cases hjl:j<K
    ·have dj:decide ((j:Int)<(K:Int))=true:=decide_eq_true (by omega)
     have b3:=Below.step b1 hBj
     have q0:wj.cell? ⟨g,0,none⟩=some (.int .i64 K):=by rw [b3.cell hgl]; exact x0
     have q1:wj.cell? ⟨g,1,none⟩=some (.int .i64 R):=by rw [b3.cell hgl]; exact x1
     have q2:wj.cell? ⟨g,2,none⟩=some (.slice va vn vc):=by rw [b3.cell hgl]; exact x2
     have edge:=over_Edge r K R va vn vc T u j wj (hg.out.below b3) (hT.out.below b3) hok.out hl (by rw [hn.out]; exact hun) hjl
     rw [hn.out] at edge
     have hbs:=behU_succ K n T u (t:Nat) j
     have hql:(P++behU K n T u (t:Nat) j).length≤100000:=by
      have a1:=behU_le K n T u (t:Nat) j
      have a2:=hPl.out
      rw [List.length_append]; omega
     obtain ⟨lb,hlb⟩:∃ lb,labN K T u j=lb:=⟨_,rfl⟩
     obtain ⟨tv,hto⟩:∃ tv,toN K n u j=tv:=⟨_,rfl⟩
     rw [hlb,hto] at edge
     have hlb2:T.getD (u*K+j) 0=lb:=hlb
     have hto2:(u*K+j)%n=tv:=hto
     rw [hlb2,hto2] at hbs
     replace hlb:=Hd hlb
     replace hto:=Hd hto
     replace hlb2:=Hd hlb2
     replace hto2:=Hd hto2
     have hBs:=hBj.size
     by_cases hc:lb=(t:Int)
     ·subst hc
      rw [if_pos rfl] at hbs
      have hn2:natI (P++behU K n T u (t:Nat) (j+1))=natI (P++behU K n T u (t:Nat) j)++[(tv:Int)]:=by rw [hbs,← List.append_assoc,natI_snoc]
      obtain ⟨Q,hQn⟩:∃ Q,natI (P++behU K n T u (t:Nat) j)=Q:=⟨_,rfl⟩
      have hQl:Q.length≤100000:=by rw [← hQn,natI_len]; exact hql
      rw [hQn] at hn2 hQ
      clear hbs hql
      replace hn2:=Hd hn2
      replace hQn:=Hd hQn
      replace hQ:=Hd hQ
      go_wp2_with fail
      refine edge.mono ?_
      rintro e w2 ⟨_,_,_,rfl,b4,rfl,rfl,rfl⟩
      have hQ2:=hQ.out.below b4
      have hB2:=hBj.trans (b4.mono hBs)
      have hB2s:=hB2.size
      go_wp2_with (at_builtin; refine wpl_append1 rfl _ _ rfl w1.heap.size _ Q (tv:Int) hQ2 rfl rfl (by omega) hB2s ?_)
      intro v' w3 hO3 b5 _ _
      rw [← hn2.out] at hO3
      replace hO3:=Hd hO3
      clear hQ2
      go_wp2
      go_roundw
      case measure=>simp [intOf]; omega
      case rel=>exact ⟨j+1,_,rfl,by go_num,by omega,hO3.out,hB2.trans b5⟩
     ·rw [if_neg hc,List.append_nil] at hbs
      have dc:decide (lb=(t:Int))=false:=decide_eq_false hc
      rw [← hbs] at hQ
      clear hbs hql
      replace hQ:=Hd hQ
      go_wp2_with fail
      refine edge.mono ?_
      rintro e w2 ⟨_,_,_,rfl,b4,rfl,rfl,rfl⟩
      have hB2:=hBj.trans (b4.mono hBs)
      have hQ2:=Hd (hQ.out.below b4)
      go_wp2
      go_roundw
      case measure=>simp [intOf]; omega
      case rel=>exact ⟨j+1,_,rfl,by go_num,by omega,hQ2.out,hB2⟩
    ·obtain rfl:K=j:=by omega
     have dj:decide ((K:Int)<(K:Int))=false:=decide_eq_false (by omega)
     have e2:behM K n T (M.take (k+1)) (t:Nat)=P++behU K n T u (t:Nat) K:=hsn.out
     rw [← e2] at hQ
     replace hQ:=Hd hQ
     clear e2
     go_wp2
     go_roundw
     case measure=>simp [intOf]; omega
     case rel=>exact ⟨k+1,_,rfl,by go_num,by omega,hQ.out,hBj⟩
  ·have dk:decide ((k:Int)<(M.length:Int))=false:=decide_eq_false (by omega)
   obtain rfl:k=M.length:=by omega
   rw [List.take_length,he.out] at hO
   have l2:=hO.at.len
   rw [natI_len] at l2
   have b2:=Below.step b1 hB
   have hBw:B≤w.heap.size:=Nat.le_trans hgB (Nat.le_of_lt hgl)
   by_cases c1:L=[]
   ·have hL0:L.length=0:=by rw [c1]; rfl
    rw [hL0] at l2
    obtain ⟨oa,on,oc,rfl⟩:=hO.at.shape
    have kN2:=kN.out c1
    have y6:wo.cell? ⟨g,6,none⟩=some (.bool stop):=by rw [b2.cell hgl]; exact x6
    replace hO:=Hd hO
    replace c1:=Hd c1
    cases stop with
    | false =>
     obtain rfl:RES=.on sets words (-1):=kN2
     have hfin:StepPost r B f g gb b K R n (.slice va vn vc) false next nv nvs w (.on sets words (-1)) (.returned (.tuple #[.int .i64 (-1),.nilIface])) wo:=⟨rfl,b2.mono hBw,f,_,_,_,_,hR.out.below b2,hW.out.below b2,fun _ _=>rfl⟩
     replace hfin:=Hd hfin
     go_wp2
     go_ret2
     exact hfin.out
    | true =>
     obtain rfl:RES=.orphan (ws++[(t:Int)]):=kN2
     have hRo:=hR.out.below b2
     obtain ⟨wa,wn,wc,hwv⟩:=(hRo.ownV hW.out.words.out).shape
     have y5:wo.cell? ⟨g,5,none⟩=some (.slice wa wn wc):=by rw [b2.cell hgl,← hwv]; exact x5
     have hov:=(hRo.ownV hW.out.words.out).at
     have hwi2:i<wvs.length:=by rw [hW.out.words.len]; exact hwi
     have hxo:=hRo.ownI (hW.out.words.each i hwi)
     obtain ⟨ea,en,ec,hee⟩:=hxo.at.shape
     have hee2:wvs[i]=.slice ea en ec:=by rw [← hee]; simp [List.getD,hwi2]
     rw [hee] at hxo
     have iW:=fun w'=>hov.idx oneLists i hwi2 w'
     have cW:=hov.cell i hwi2
     rw [hee2] at cW
     rw [hwv] at iW cW
     rw [hwe.out] at hxo
     obtain ⟨xa,hxa⟩:∃ xa,valAt (.slice wa wn wc) i=xa:=⟨_,rfl⟩
     rw [hxa] at iW cW
     have clone:=clone_any _ _ wo hxo.at (by omega)
     replace hRo:=Hd hRo
     replace hxo:=Hd hxo
     replace hee:=Hd hee
     replace hee2:=Hd hee2
     replace hwv:=Hd hwv
     replace hxa:=Hd hxa
     replace hov:=Hd hov
     go_wp2_with fail
     refine clone.mono ?_
     rintro e w2 ⟨cv,rfl,b3,hC⟩
     have b3s:=b3.size
     go_wp2_with (at_builtin; refine wpl_append1 rfl _ _ rfl wo.heap.size _ ws (t:Int) hC rfl rfl (by omega) b3s ?_)
     intro v' w3 hO3 b5 _ _
     obtain ⟨qa,qn,qc,rfl⟩:=hO3.at.shape
     have b4:=b3.trans b5
     have b24:=Below.step b2 (b4.trans ((belowAlloc w3 (.cells #[.slice qa qn qc] 223)).mono b4.size))
     have hfin:FoundAt w.heap.size (w3.alloc (.cells #[.slice qa qn qc] 223)) (ws++[(t:Int)]) (.iface 220 (.pointer (some ⟨w3.heap.size,0,none⟩))) :=
      ⟨w3.heap.size,qa,qn,qc,rfl,by simp [go_sem],(hO3.mono b2.size).alloc _,Nat.le_trans b2.size b4.size⟩
     replace hO3:=Hd hO3
     replace hfin:=Hd hfin
     replace hC:=Hd hC
     go_wp2
     go_ret2
     exact ⟨_,rfl,b24,hfin.out⟩
   ·have hL:1≤L.length:=by
     cases hL':L with
     | nil=>exact absurd hL' c1
     | cons _ _=>simp
    have y3:wo.cell? ⟨g,3,none⟩=some (.pointer (some ⟨gb,0,none⟩)):=by rw [b2.cell hgl]; exact x3
    have dz:decide ((L.length:Int)=0)=false:=decide_eq_false (by omega)
    by_cases c2:setOf n L∈sets
    ·obtain rfl:=kO.out c1 c2
     have put:=bag_Put_old (hR.out.below b2) (hW.out.bag.below b2) ow L hO.at hLn.out hLl c2 h1 (by omega)
     obtain ⟨oa,on,oc,rfl⟩:=hO.at.shape
     replace hO:=Hd hO
     replace c1:=Hd c1
     replace c2:=Hd c2
     go_wp2_with fail
     refine put.mono ?_
     rintro e w2 ⟨_,_,_,rfl,b3,rfl,rfl,rfl⟩
     have b23:=Below.step b2 b3
     have hfin:StepPost r B f g gb b K R n (.slice va vn vc) stop next nv nvs w (.on sets words (sets.idxOf (setOf n L):Nat)) (.returned (.tuple #[.int .i64 (sets.idxOf (setOf n L):Nat),.nilIface])) w2:=⟨rfl,b23.mono hBw,f,_,_,_,_,hR.out.below b23,hW.out.below b23,fun _ _=>rfl⟩
     replace hfin:=Hd hfin
     go_wp2
     go_ret2
     exact hfin.out
    ·by_cases c3:sets.length=4096
     ·obtain rfl:=kB.out c1 c2 c3
      have put:=bag_Put_big r (hg.out.below b2) (hR.out.below b2) (hW.out.bag.below b2) ow L hO.at hLn.out hLl c2 h1 (by omega) c3
      obtain ⟨oa,on,oc,rfl⟩:=hO.at.shape
      replace hO:=Hd hO
      replace c1:=Hd c1
      replace c2:=Hd c2
      go_wp2_with fail
      refine put.mono ?_
      rintro e w2 ⟨_,_,_,rfl,b3,rfl,rfl,he2⟩
      have b23:=Below.step b2 b3
      have he3:=he2
      obtain ⟨pp,uu,rfl,-⟩:=he3
      replace he2:=Hd he2
      go_wp2
      go_ret2
      exact ⟨_,rfl,b23,he2.out⟩
     ·obtain rfl:=kW.out c1 c2 c3
      have h4096:sets.length<4096:=by omega
      have put:=bag_Put_new (hR.out.below b2) (hW.out.bag.below b2) ow L hO.at hLn.out hLl c2 h1 (by omega) h4096
      obtain ⟨oa,on,oc,rfl⟩:=hO.at.shape
      replace c1:=Hd c1
      replace c2:=Hd c2
      replace kN:=Hd kN
      replace hO:=Hd hO
      go_wp2_with fail
      refine put.mono ?_
      rintro e w2 ⟨u,rfl,b3,f2,sv2,hR2,hb2,o2⟩
      have b23:=(b2.mono hBw).trans b3
      have hs2:B≤w2.heap.size:=Nat.le_trans hBw b23.size
      have hW31:ListsIn f2 31 wv wvs words:=hW.out.words.congr fun j hj=>o2 j (by rcases hj with q | q<;>rw [q]<;>decide) (by rcases hj with q | q<;>rw [q]<;>decide) (by rcases hj with q | q<;>rw [q]<;>decide) (by rcases hj with q | q<;>rw [q]<;>decide)
      have e30:f2 (30,0)=some (box7 219 g [.int .i64 K,.int .i64 R,.slice va vn vc,.pointer (some ⟨gb,0,none⟩),nv,wv,.bool stop]):=(o2 _ (by decide) (by decide) (by decide) (by decide)).trans hW.out.box
      have hov:=(hR2.ownV hW31.out).at
      have hwi2:i<wvs.length:=by rw [hW31.len]; exact hwi
      have hwn:wvs.length<4398046511104:=by rw [hW31.len]; omega
      have hxo:=hR2.ownI (hW31.each i hwi)
      obtain ⟨ea,en,ec,hee⟩:=hxo.at.shape
      have hee2:wvs[i]=.slice ea en ec:=by rw [← hee]; simp [List.getD,hwi2]
      rw [hee] at hxo
      have iW:=fun w'=>hov.idx oneLists i hwi2 w'
      have cW:=hov.cell i hwi2
      rw [hee2] at cW
      have hgi:(wvs[i]?:Option Value)=some (.slice ea en ec):=by rw [List.getElem?_eq_getElem hwi2,hee2]
      obtain ⟨wa,wn,wc,hwv⟩:=(hR2.ownV hW31.out).shape
      subst hwv
      have c5:w2.cell? ⟨g,5,none⟩=some (.slice wa wn wc):=hR2.cell e30 (g:=g) (cap:=1) rfl 5 (show 5<1*7 by decide)
      rw [hwe.out] at hxo
      obtain ⟨xa,hxa⟩:∃ xa,valAt (.slice wa wn wc) i=xa:=⟨_,rfl⟩
      rw [hxa] at iW cW
      have hglt:g<w2.heap.size:=(hR2.lt e30 g rfl).2
      have hxl:xa.block<w2.heap.size:=World.block_lt_of_cell? _ _ cW
      obtain ⟨cl,hcl⟩:∃ n,ws.length=n:=⟨_,rfl⟩
      replace hee2:=Hd hee2
      replace hee:=Hd hee
      replace hov:=Hd hov
      replace hgi:=Hd hgi
      replace hR2:=Hd hR2
      replace hb2:=Hd hb2
      replace o2:=Hd o2
      replace hW31:=Hd hW31
      replace e30:=Hd e30
      replace hxa:=Hd hxa
      replace hxo:=Hd hxo
      replace b23:=Hd b23
      clear z0 z1 z2
      go_upto_region 24 with fail
      obtain ⟨W0,hW0⟩:∃ W:World,w2.drew=W:=⟨_,rfl⟩
      have hR0:=hR2.out.drew
      have hx0:=hxo.out.drew
      have hb0:Below w2.heap.size w2 W0:=by rw [← hW0]; exact (Below.refl _ _).drew
      rw [hW0] at hR0 hx0
      have hS0:W0.cell? ⟨g,5,none⟩=some (.slice wa wn wc)∧W0.cell? xa=some (.slice ea en ec):=by rw [← hW0]; exact ⟨c5,cW⟩
      have hs0:Hid (W0.heap.size=w2.heap.size):=by rw [← hW0]; rfl
      refine wp_region_tree (fun w'=>w'.cell? ⟨g,5,none⟩=some (.slice wa wn wc)∧w'.cell? xa=some (.slice ea en ec)) 18 (PT.takes [0,1,2,3,4,5,6,7,8,9,10,11,13] (.two 12 (.one 14 (.one 15 (.one 16 (.one 17 .nil)))) 14 (.one 12 (.one 15 (.one 16 (.one 17 .nil)))))) (by kernel_rfl) (by kernel_rfl) ?_
      rw [hW0]
      replace hW0:=Hd hW0
      simp only [PT.takes]
      refine trY 100 hS0 ?_
      refine trY 101 hS0 ?_
      refine trY 102 hS0 ?_
      refine trY 103 hS0 ?_
      refine trY 104 hS0 ?_
      refine trY 105 hS0 ?_
      refine trY 106 hS0 ?_
      refine trY 107 hS0 ?_
      refine trY 108 hS0 ?_
      refine trY 109 hS0 ?_
      refine trY 110 hS0 ?_
      refine trY 111 hS0 ?_
      refine trY 113 hS0 ?_
      refine tr2 (trOp rfl fun KK hK=>?_) (trOp rfl fun KK hK=>?_)
      ·go_simp
       refine (clone_any _ _ W0 hx0.at (by omega)).mono ?_
       rintro e W1 ⟨cv,rfl,bc,hC⟩
       have bW1:=Below.step hb0 bc
       replace hC:=hC.mono (Nat.le_of_eq hs0.out.symm)
       obtain ⟨ca,cn,cc,rfl⟩:=hC.at.shape
       have hS1:W1.cell? ⟨g,5,none⟩=some (.slice wa wn wc)∧W1.cell? xa=some (.slice ea en ec):=⟨by rw [bW1.cell hglt]; exact c5,by rw [bW1.cell hxl]; exact cW⟩
       refine hK _ _ hS1 ?_
       clear hK KK
       refine trC rfl fun KK hK=>?_
       go_simp
       have bl:=belowAlloc W1 (.cells #[.int .i64 t] 3)
       have hlit:=(OwnI.lit 0 W1 (Nat.zero_le _) [(t:Int)] (by simp [maxLen]) #[.int .i64 t] rfl 1 rfl).at
       have bW:=Below.step bW1 bl
       replace hC:=hC.below bl
       obtain ⟨lb,hlb⟩:∃ lb,W1.heap.size=lb:=⟨_,rfl⟩
       obtain ⟨W2,hW2⟩:∃ W2:World,W1.alloc (.cells #[.int .i64 t] 3)=W2:=⟨_,rfl⟩
       rw [hlb] at hlit
       rw [hW2] at hlit bW hC
       rw [hW2,hlb]
       have hS2:W2.cell? ⟨g,5,none⟩=some (.slice wa wn wc)∧W2.cell? xa=some (.slice ea en ec):=⟨by rw [bW.cell hglt]; exact c5,by rw [bW.cell hxl]; exact cW⟩
       refine hK _ _ hS2 ?_
       clear hK KK bl bW1 hS1
       replace hW2:=Hd hW2
       replace hlb:=Hd hlb
       refine trC rfl fun KK hK=>?_
       refine step_appI rfl _ _ rfl w2.heap.size (.slice ca cn cc) (.slice (some ⟨lb,0,none⟩) 1 1) ws [(t:Int)] rfl rfl hC hlit (by simp only [List.length_cons,List.length_nil]; omega) bW.size ?_
       intro v3 W3 hO3 bx
       have bW3:=bW.trans bx
       obtain ⟨qa,qn,qc,rfl⟩:=hO3.at.shape
       have hS3:W3.cell? ⟨g,5,none⟩=some (.slice wa wn wc)∧W3.cell? xa=some (.slice ea en ec):=⟨by rw [bW3.cell hglt]; exact c5,by rw [bW3.cell hxl]; exact cW⟩
       refine hK _ _ hS3 ?_
       clear hK KK bx hlit hC hS2 hS3
       have R3:=hR2.out.add (i:=(32,words.length)) (r':=rowI (.slice qa qn qc) (ws++[(t:Int)])) bW3 (hO3.mono hs2) (fun k hk=>(hO3.lt k hk).1)
       have hb3:=hb2.out.below bW3
       refine trC rfl fun KK hK=>?_
       go_simp
       have bl:=belowAlloc W3 (.cells #[.slice qa qn qc] 30)
       have bW4:=Below.step bW3 bl
       have hS4:(W3.alloc (.cells #[.slice qa qn qc] 30)).cell? ⟨g,5,none⟩=some (.slice wa wn wc)∧(W3.alloc (.cells #[.slice qa qn qc] 30)).cell? xa=some (.slice ea en ec):=⟨by rw [bW4.cell hglt]; exact c5,by rw [bW4.cell hxl]; exact cW⟩
       refine hK _ _ hS4 ?_
       clear hK KK hS4
       have h31:upd f2 (32,words.length) (some (rowI (.slice qa qn qc) (ws++[(t:Int)]))) (31,0)=some (rowV 30 (.slice wa wn wc) wvs):=(upd_ne _ _ (by intro e; cases e)).trans hW31.out.out
       refine trC rfl fun KK hK=>?_
       refine step_appV oneLists rfl _ _ rfl R3 (31,0) (.slice wa wn wc) wvs h31 (.slice qa qn qc) rfl rfl rfl hwn (Nat.le_trans hs2 bW3.size) ?_
       intro v5 W5 f5 R5 i5 o5 B5 hgr hold
       obtain ⟨row,g5,hrow⟩:=hgr
       obtain ⟨pa,pn,pc,rfl⟩:=(R5.ownV i5).shape
       have e30':f5 (30,0)=some (box7 219 g [.int .i64 K,.int .i64 R,.slice va vn vc,.pointer (some ⟨gb,0,none⟩),nv,.slice wa wn wc,.bool stop]):=(o5 _ (by intro e; cases e)).trans ((upd_ne _ _ (by intro e; cases e)).trans e30.out)
       have c5':W5.cell? ⟨g,5,none⟩=some (.slice wa wn wc):=R5.cell e30' (g:=g) (cap:=1) rfl 5 (show 5<1*7 by decide)
       have f5':=R5.frozen e30' (g:=g) (cap:=1) rfl 5
       have cW':=hold.cell i hwi2
       rw [hee2.out,hxa.out] at cW'
       refine hK _ _ ⟨c5',cW'⟩ ?_
       clear hK KK
       refine tr0 ?_
       simp only [List.drop_succ_cons,List.drop_zero]
       obtain ⟨es,cl2,hblk⟩:=hb3.map.blk
       have hm5:=hb3.map.kept g5 (fun e=>R3.not_map h31 hblk (hrow b e.symm))
       obtain ⟨es3,cl3,hblk3⟩:=hm5.blk
       have R6:=R5.set e30' (g:=g) (cap:=1) rfl 5 (.slice pa pn pc)
       have g6:W5.grownBy (W5.setCell ⟨g,5,none⟩ (.slice pa pn pc)) (some g):=(World.ownsRow.stored (R5.1 _ _ e30') 5 (.slice pa pn pc)).2
       have hm6:=hm5.kept g6 (fun e=>R5.not_map e30' hblk3 (by injection e with e; rw [e]; rfl))
       obtain ⟨F6,hF6⟩:∃ F6,upd f5 (30,0) (some { (box7 219 g [.int .i64 K,.int .i64 R,.slice va vn vc,.pointer (some ⟨gb,0,none⟩),nv,.slice wa wn wc,.bool stop]) with xs:=[Value.int .i64 K,.int .i64 R,.slice va vn vc,.pointer (some ⟨gb,0,none⟩),nv,.slice wa wn wc,.bool stop].set 5 (.slice pa pn pc) })=F6:=⟨_,rfl⟩
       rw [hF6] at R6
       have hfin:=hW.out.more hb2.out o2.out (f4:=F6) (v':=.slice pa pn pc) (u:=.slice qa qn qc) (wd:=ws++[(t:Int)]) hm6 (fun j a1 a2 a3=>by rw [← hF6,upd_ne _ _ a1,o5 j a2,upd_ne _ _ a3]) (by rw [← hF6,upd_same]; rfl) (by rw [← hF6,upd_ne _ _ (by intro e; cases e)]; exact i5) (by rw [← hF6,upd_ne _ _ (by intro e; cases e),o5 _ (by intro e; cases e),upd_same])
       have bfin:=b23.out.trans ((bW3.mono hs2).trans (B5.setCell (show B≤(⟨g,5,none⟩:Addr).block from hgB) (.slice pa pn pc)))
       have o6:∀ j:Nat×Nat,j.1≠20→j.1≠21→j.1≠22→j.1≠23→j.1≠30→j.1≠31→j.1≠32→F6 j=f j:=fun j a1 a2 a3 a4 a5 a6 a7=>by
        rw [← hF6,upd_ne _ _ (by intro e; exact a5 (by rw [e])),o5 j (by intro e; exact a6 (by rw [e])),upd_ne _ _ (by intro e; exact a7 (by rw [e]))]; exact o2.out j a1 a2 a3 a4
       replace hF6:=Hd hF6
       have hfin2:StepPost r B f g gb b K R n (.slice va vn vc) stop next nv nvs w (.on (sets++[setOf n L]) (words++[ws++[(t:Int)]]) (sets.length:Nat)) (.returned (.tuple #[.int .i64 (sets.length:Nat),.nilIface])) (W5.setCell ⟨g,5,none⟩ (.slice pa pn pc)):=⟨rfl,bfin,_,_,_,_,_,R6,hfin,fun j hj=>o6 j hj.1 hj.2.1 hj.2.2.1 hj.2.2.2.1 hj.2.2.2.2.1 hj.2.2.2.2.2.1 hj.2.2.2.2.2.2⟩
       replace hfin2:=Hd hfin2
       clear hfin bfin o6 R6 g6 hm6 hm5 hblk3 hblk i5 o5 B5 hold R3 hb3 g5 hrow h31 bl bW4 bW3 hO3
       go_wp2
       refine NoPanic.normal ?_
       go_wp2
       go_ret2
       exact hfin2.out
      ·go_simp
       have bl:=belowAlloc W0 (.cells #[.int .i64 t] 3)
       have hlit:=(OwnI.lit 0 W0 (Nat.zero_le _) [(t:Int)] (by simp [maxLen]) #[.int .i64 t] rfl 1 rfl).at
       have bW1:=Below.step hb0 bl
       have hx1:=hx0.below bl
       obtain ⟨lb,hlb⟩:∃ lb,W0.heap.size=lb:=⟨_,rfl⟩
       obtain ⟨W1,hW1⟩:∃ W2:World,W0.alloc (.cells #[.int .i64 t] 3)=W2:=⟨_,rfl⟩
       rw [hlb] at hlit
       rw [hW1] at hlit bW1 hx1
       rw [hW1,hlb]
       have hS1:W1.cell? ⟨g,5,none⟩=some (.slice wa wn wc)∧W1.cell? xa=some (.slice ea en ec):=⟨by rw [bW1.cell hglt]; exact c5,by rw [bW1.cell hxl]; exact cW⟩
       refine hK _ _ hS1 ?_
       clear hK KK bl
       replace hW1:=Hd hW1
       replace hlb:=Hd hlb
       refine trC rfl fun KK hK=>?_
       go_simp
       refine (clone_any _ _ W1 hx1.at (by omega)).mono ?_
       rintro e W2 ⟨cv,rfl,bc,hC⟩
       have bW:=Below.step bW1 bc
       replace hC:=hC.mono bW1.size
       replace hlit:=hlit.below bc
       obtain ⟨ca,cn,cc,rfl⟩:=hC.at.shape
       have hS2:W2.cell? ⟨g,5,none⟩=some (.slice wa wn wc)∧W2.cell? xa=some (.slice ea en ec):=⟨by rw [bW.cell hglt]; exact c5,by rw [bW.cell hxl]; exact cW⟩
       refine hK _ _ hS2 ?_
       clear hK KK bW1 hS1 hx1
       refine trC rfl fun KK hK=>?_
       refine step_appI rfl _ _ rfl w2.heap.size (.slice ca cn cc) (.slice (some ⟨lb,0,none⟩) 1 1) ws [(t:Int)] rfl rfl hC hlit (by simp only [List.length_cons,List.length_nil]; omega) bW.size ?_
       intro v3 W3 hO3 bx
       have bW3:=bW.trans bx
       obtain ⟨qa,qn,qc,rfl⟩:=hO3.at.shape
       have hS3:W3.cell? ⟨g,5,none⟩=some (.slice wa wn wc)∧W3.cell? xa=some (.slice ea en ec):=⟨by rw [bW3.cell hglt]; exact c5,by rw [bW3.cell hxl]; exact cW⟩
       refine hK _ _ hS3 ?_
       clear hK KK bx hlit hC hS2 hS3
       have R3:=hR2.out.add (i:=(32,words.length)) (r':=rowI (.slice qa qn qc) (ws++[(t:Int)])) bW3 (hO3.mono hs2) (fun k hk=>(hO3.lt k hk).1)
       have hb3:=hb2.out.below bW3
       refine trC rfl fun KK hK=>?_
       go_simp
       have bl:=belowAlloc W3 (.cells #[.slice qa qn qc] 30)
       have bW4:=Below.step bW3 bl
       have hS4:(W3.alloc (.cells #[.slice qa qn qc] 30)).cell? ⟨g,5,none⟩=some (.slice wa wn wc)∧(W3.alloc (.cells #[.slice qa qn qc] 30)).cell? xa=some (.slice ea en ec):=⟨by rw [bW4.cell hglt]; exact c5,by rw [bW4.cell hxl]; exact cW⟩
       refine hK _ _ hS4 ?_
       clear hK KK hS4
       have h31:upd f2 (32,words.length) (some (rowI (.slice qa qn qc) (ws++[(t:Int)]))) (31,0)=some (rowV 30 (.slice wa wn wc) wvs):=(upd_ne _ _ (by intro e; cases e)).trans hW31.out.out
       refine trC rfl fun KK hK=>?_
       refine step_appV oneLists rfl _ _ rfl R3 (31,0) (.slice wa wn wc) wvs h31 (.slice qa qn qc) rfl rfl rfl hwn (Nat.le_trans hs2 bW3.size) ?_
       intro v5 W5 f5 R5 i5 o5 B5 hgr hold
       obtain ⟨row,g5,hrow⟩:=hgr
       obtain ⟨pa,pn,pc,rfl⟩:=(R5.ownV i5).shape
       have e30':f5 (30,0)=some (box7 219 g [.int .i64 K,.int .i64 R,.slice va vn vc,.pointer (some ⟨gb,0,none⟩),nv,.slice wa wn wc,.bool stop]):=(o5 _ (by intro e; cases e)).trans ((upd_ne _ _ (by intro e; cases e)).trans e30.out)
       have c5':W5.cell? ⟨g,5,none⟩=some (.slice wa wn wc):=R5.cell e30' (g:=g) (cap:=1) rfl 5 (show 5<1*7 by decide)
       have f5':=R5.frozen e30' (g:=g) (cap:=1) rfl 5
       have cW':=hold.cell i hwi2
       rw [hee2.out,hxa.out] at cW'
       refine hK _ _ ⟨c5',cW'⟩ ?_
       clear hK KK
       refine tr0 ?_
       simp only [List.drop_succ_cons,List.drop_zero]
       obtain ⟨es,cl2,hblk⟩:=hb3.map.blk
       have hm5:=hb3.map.kept g5 (fun e=>R3.not_map h31 hblk (hrow b e.symm))
       obtain ⟨es3,cl3,hblk3⟩:=hm5.blk
       have R6:=R5.set e30' (g:=g) (cap:=1) rfl 5 (.slice pa pn pc)
       have g6:W5.grownBy (W5.setCell ⟨g,5,none⟩ (.slice pa pn pc)) (some g):=(World.ownsRow.stored (R5.1 _ _ e30') 5 (.slice pa pn pc)).2
       have hm6:=hm5.kept g6 (fun e=>R5.not_map e30' hblk3 (by injection e with e; rw [e]; rfl))
       obtain ⟨F6,hF6⟩:∃ F6,upd f5 (30,0) (some { (box7 219 g [.int .i64 K,.int .i64 R,.slice va vn vc,.pointer (some ⟨gb,0,none⟩),nv,.slice wa wn wc,.bool stop]) with xs:=[Value.int .i64 K,.int .i64 R,.slice va vn vc,.pointer (some ⟨gb,0,none⟩),nv,.slice wa wn wc,.bool stop].set 5 (.slice pa pn pc) })=F6:=⟨_,rfl⟩
       rw [hF6] at R6
       have hfin:=hW.out.more hb2.out o2.out (f4:=F6) (v':=.slice pa pn pc) (u:=.slice qa qn qc) (wd:=ws++[(t:Int)]) hm6 (fun j a1 a2 a3=>by rw [← hF6,upd_ne _ _ a1,o5 j a2,upd_ne _ _ a3]) (by rw [← hF6,upd_same]; rfl) (by rw [← hF6,upd_ne _ _ (by intro e; cases e)]; exact i5) (by rw [← hF6,upd_ne _ _ (by intro e; cases e),o5 _ (by intro e; cases e),upd_same])
       have bfin:=b23.out.trans ((bW3.mono hs2).trans (B5.setCell (show B≤(⟨g,5,none⟩:Addr).block from hgB) (.slice pa pn pc)))
       have o6:∀ j:Nat×Nat,j.1≠20→j.1≠21→j.1≠22→j.1≠23→j.1≠30→j.1≠31→j.1≠32→F6 j=f j:=fun j a1 a2 a3 a4 a5 a6 a7=>by
        rw [← hF6,upd_ne _ _ (by intro e; exact a5 (by rw [e])),o5 j (by intro e; exact a6 (by rw [e])),upd_ne _ _ (by intro e; exact a7 (by rw [e]))]; exact o2.out j a1 a2 a3 a4
       replace hF6:=Hd hF6
       have hfin2:StepPost r B f g gb b K R n (.slice va vn vc) stop next nv nvs w (.on (sets++[setOf n L]) (words++[ws++[(t:Int)]]) (sets.length:Nat)) (.returned (.tuple #[.int .i64 (sets.length:Nat),.nilIface])) (W5.setCell ⟨g,5,none⟩ (.slice pa pn pc)):=⟨rfl,bfin,_,_,_,_,_,R6,hfin,fun j hj=>o6 j hj.1 hj.2.1 hj.2.2.1 hj.2.2.2.1 hj.2.2.2.2.1 hj.2.2.2.2.2.1 hj.2.2.2.2.2.2⟩
       replace hfin2:=Hd hfin2
       clear hfin bfin o6 R6 g6 hm6 hm5 hblk3 hblk i5 o5 B5 hold R3 hb3 g5 hrow h31 bl bW4 bW3 hO3
       go_wp2
       refine NoPanic.normal ?_
       go_wp2
       go_ret2
       exact hfin2.out
end Go.Proofs.YtindfaehjoileaaGreatDoor
namespace Go.Proofs.YtindfaehjoileaaGreatDoor
open Go.RowKit
set_option maxRecDepth 100000
theorem BagAt.kept {B:Nat} {w w':World} {f f':Names} {gb b n:Nat} {sets:List (List Bool)} {sv:Value} {svs:List Value} {i:Nat×Nat} {r:Row} (h:BagAt B w f gb b n sets sv svs) (hR:Rows B w f) (hi:f i=some r) (hi1:i.1≠20∧i.1≠21∧i.1≠22) (he:ElseSame f f' i) {row:Option Nat} (hg:w.grownBy w' row) (hrow:∀ k,row=some k→r.v.ownBlock=some k):BagAt B w' f' gb b n sets sv svs:=by
 have hc:=h.congr (f':=f') (fun j hj=>he j (by intro e; subst e; rcases hj with q | q | q<;>omega))
 obtain ⟨es,cl,hblk⟩:=h.map.blk
 exact ⟨hc.box,hc.out,hc.len,hc.each,hc.all,h.map.kept hg (fun e=>hR.not_map hi hblk (hrow b e.symm)),hc.blk⟩
theorem WalkAt.kept {B:Nat} {w w':World} {f f':Names} {g gb b K R n:Nat} {tv:Value} {stop:Bool} {sets:List (List Bool)} {words next:List (List Int)} {sv:Value} {svs:List Value} {wv:Value} {wvs:List Value} {nv:Value} {nvs:List Value} {i:Nat×Nat} {r:Row} (h:WalkAt B w f g gb b K R n tv stop sets words next sv svs wv wvs nv nvs) (hR:Rows B w f) (hi:f i=some r) (hi1:i.1=35) (he:ElseSame f f' i) {row:Option Nat} (hg:w.grownBy w' row) (hrow:∀ k,row=some k→r.v.ownBlock=some k) :
 WalkAt B w' f' g gb b K R n tv stop sets words next sv svs wv wvs nv nvs :=
 ⟨(he _ (by intro e; rw [← e] at hi1; cases hi1)).trans h.box,h.bag.kept hR hi ⟨by omega,by omega,by omega⟩ he hg hrow,
   h.words.congr fun j hj=>he j (by intro e; subst e; rcases hj with q | q<;>omega),h.next.congr fun j hj=>he j (by intro e; subst e; rcases hj with q | q<;>omega)⟩
def idN (n i:Nat):List Int:=(List.range n).map fun j=>if j<i then (j:Int) else 0
theorem idN_len (n i:Nat):(idN n i).length=n:=by simp [idN]
theorem idN_zero (n:Nat):idN n 0=List.replicate n 0:=by
 refine List.ext_getElem (by simp [idN]) fun j h1 h2=>?_
 simp [idN]
theorem idN_set {n i:Nat}:(idN n i).set i (i:Int)=idN n (i+1):=by
 refine List.ext_getElem (by simp [idN]) fun j h1 h2=>?_
 have hj:j<n:=by simpa [idN] using h2
 rw [List.getElem_set]
 by_cases e:i=j
 ·subst e; simp [idN]
 ·rw [if_neg e]
  simp only [idN,List.getElem_map,List.getElem_range]
  by_cases c:j<i
  ·rw [if_pos c,if_pos (by omega)]
  ·rw [if_neg c,if_neg (by omega)]
theorem idN_full (n:Nat):idN n n=natI (List.range n):=by
 refine List.ext_getElem (by simp [idN,natI]) fun j h1 h2=>?_
 have hj:j<n:=by simpa [idN] using h1
 simp [idN,natI,hj]
set_option maxHeartbeats 8000000
def AllPost (r:Nat→Addr) (B g K R n:Nat) (tv:Value) (stop:Bool) (w:World):WkR (List (List Int))→Ending→World→Prop
 | .on a ws x,e,w'=>e=.returned .nilIface∧Below B w w'∧∃ f' gb b sv svs wv wvs nv nvs,Rows B w' f'∧WalkAt B w' f' g gb b K R n tv stop a ws x sv svs wv wvs nv nvs
 | .orphan wd,e,w'=>∃ p,e=.returned (.iface 220 (.pointer (some p)))∧Below B w w'∧FoundAt B w' wd (.iface 220 (.pointer (some p)))
 | .big,e,w'=>∃ p,e=.returned (.iface 47 (.pointer (some p)))∧Below B w w'∧ErrIs r w' (fresh sBag 0 4) (.iface 47 (.pointer (some p)))
theorem wkGo_round {stop:Bool} {K n:Nat} {T:List Int} {i:Nat} {sets:List (List Bool)} {words next:List (List Int)} (hi:i<sets.length) (h4:sets.length≤4096):wkGo stop K n T (4097-i) i sets words next=match wkRow stop K n T i K 0 sets words [] with
 | .on a b row=>wkGo stop K n T (4097-(i+1)) (i+1) a b (next++[row])
 | .orphan w=>.orphan w
 | .big=>.big:=by
 obtain ⟨m,hm⟩:∃ m,4097-i=m+1:=⟨4096-i,by omega⟩
 have hm2:4097-(i+1)=m:=by omega
 rw [hm,hm2]
 conv=>lhs; unfold wkGo
 (rw [if_pos hi])<;>(cases wkRow stop K n T i K 0 sets words []<;>rfl)
theorem wkGo_end {stop:Bool} {K n:Nat} {T:List Int} {i:Nat} {sets:List (List Bool)} {words next:List (List Int)} (hi:¬ i<sets.length) (h4:i≤4096):wkGo stop K n T (4097-i) i sets words next=.on sets words next:=by
 obtain ⟨m,hm⟩:∃ m,4097-i=m+1:=⟨4096-i,by omega⟩
 rw [hm]
 unfold wkGo
 rw [if_neg hi]
theorem wkRow_round {stop:Bool} {K n:Nat} {T:List Int} {i t:Nat} {sets:List (List Bool)} {words:List (List Int)} {row:List Int} (ht:t<K):wkRow stop K n T i (K-t) t sets words row=match wkStep stop K n T i t sets words with
 | .on a b id=>wkRow stop K n T i (K-(t+1)) (t+1) a b (row++[id])
 | .orphan w=>.orphan w
 | .big=>.big:=by
 obtain ⟨m,hm⟩:∃ m,K-t=m+1:=⟨K-t-1,by omega⟩
 have hm2:K-(t+1)=m:=by omega
 rw [hm,hm2]
 (conv=>lhs; unfold wkRow)<;>(cases wkStep stop K n T i t sets words<;>rfl)
theorem row_set {l:List Int} {K t:Nat} {x:Int} (h:l.length=t) (ht:t<K):(l++List.replicate (K-t) 0).set t x=(l++[x])++List.replicate (K-(t+1)) 0:=by
 obtain ⟨m,hm⟩:∃ m,K-t=m+1:=⟨K-t-1,by omega⟩
 have hm2:K-(t+1)=m:=by omega
 rw [hm,hm2,List.set_append,if_neg (by omega),h,Nat.sub_self,List.replicate_succ]
 simp
theorem WalkAt.congr {B:Nat} {w:World} {f f':Names} {g gb b K R n:Nat} {tv:Value} {stop:Bool} {sets:List (List Bool)} {words next:List (List Int)} {sv:Value} {svs:List Value} {wv:Value} {wvs:List Value} {nv:Value} {nvs:List Value} (h:WalkAt B w f g gb b K R n tv stop sets words next sv svs wv wvs nv nvs) (e:∀ j:Nat×Nat,j.1≠35→f' j=f j) :
 WalkAt B w f' g gb b K R n tv stop sets words next sv svs wv wvs nv nvs :=
 ⟨(e _ (by decide)).trans h.box,h.bag.congr fun j hj=>e j (by omega),h.words.congr fun j hj=>e j (by omega),h.next.congr fun j hj=>e j (by omega)⟩
def AllIn (B:Nat) (w:World) (g gb b K R n:Nat) (tv:Value) (stop:Bool) (T:List Int) (RES:WkR (List (List Int))) (p:Nat) (wr:World):Prop :=
 ∃ sets words next sv svs wv wvs nv nvs f',wkGo stop K n T (4097-p) p sets words next=RES∧WkOk sets words∧p≤sets.length∧next.length=p∧Rows B wr f'∧WalkAt B wr f' g gb b K R n tv stop sets words next sv svs wv wvs nv nvs∧Below B w wr
def RowIn (B:Nat) (w:World) (g gb b K R n:Nat) (tv:Value) (stop:Bool) (T:List Int) (next:List (List Int)) (nv:Value) (nvs:List Value) (rv:Value) (RR:WkR (List Int)) (p t:Nat) (wr:World):Prop :=
 ∃ sets words row sv svs wv wvs f',wkRow stop K n T p (K-t) t sets words row=RR∧WkOk sets words∧p<sets.length∧row.length=t∧Rows B wr f'∧WalkAt B wr f' g gb b K R n tv stop sets words next sv svs wv wvs nv nvs∧f' (35,0)=some (rowI rv (row++List.replicate (K-t) 0))∧Below B w wr
theorem all_any (r:Nat→Addr) {f:Names} {g K R n:Nat} {va:Option Addr} {vn vc:Nat} {T:List Int} {stop:Bool} {w0 w:World} (hg:Glob r w0) (hT:IntsAt w0 (.slice va vn vc) T) (b0:Below w0.heap.size w0 w) (hR:Rows w0.heap.size w f)
 (hbox:f (30,0)=some (box7 219 g [.int .i64 K,.int .i64 R,.slice va vn vc,.pointer none,.slice none 0 0,.slice none 0 0,.bool stop])) (hok:RuleOk K R T) (hl:T.length≤256) (hn:T.length/K=n) (h1:1≤n) (hn4:n≤256) :
 Calls Tryz.prog 157 #[.pointer (some ⟨g,0,none⟩)] w (AllPost r w0.heap.size g K R n (.slice va vn vc) stop w (wkAll stop K n T)):=by
 have x0:w.cell? ⟨g,0,none⟩=some (.int .i64 K):=hR.cell hbox (g:=g) (cap:=1) rfl 0 (show 0<1*7 by decide)
 have x1:w.cell? ⟨g,1,none⟩=some (.int .i64 R):=hR.cell hbox (g:=g) (cap:=1) rfl 1 (show 1<1*7 by decide)
 have x2:w.cell? ⟨g,2,none⟩=some (.slice va vn vc):=hR.cell hbox (g:=g) (cap:=1) rfl 2 (show 2<1*7 by decide)
 obtain ⟨hgB,hgl⟩:w0.heap.size≤g∧g<w.heap.size:=hR.lt hbox g rfl
 have hk1:=hok.k1
 have hk4:=hok.k4
 have hnodes:=over_Nodes r K R va vn vc T w (hg.below b0) (hT.below b0) hok hl
 rw [hn] at hnodes
 obtain ⟨RES,hRES⟩:∃ X,wkAll stop K n T=X:=⟨_,rfl⟩
 rw [hRES]
 have hb0s:=b0.size
 replace hg:=Hd hg
 replace hT:=Hd hT
 replace hok:=Hd hok
 replace hn:=Hd hn
 replace hRES:=Hd hRES
 replace hR:=Hd hR
 replace hbox:=Hd hbox
 obtain ⟨B,hB⟩:∃ B,w0.heap.size=B:=⟨_,rfl⟩
 rw [hB] at hgB hb0s hR b0 ⊢
 replace hB:=Hd hB
 go_enter Tryz.func157,Tryz.ntmps157
 go_wp2_with fail
 refine hnodes.mono ?_
 rintro e w1 ⟨_,_,rfl,b1,rfl,rfl⟩
 have hR1:=hR.out.below b1
 have hs1:=b1.size
 have hnew:=bag_New B f n w1 hR1 (by omega) (by omega)
 clear hnodes
 go_wp2_with fail
 refine hnew.mono ?_
 rintro e w2 ⟨gb,rfl,b2,hgb,b,f2,hR2,hb2,o2⟩
 have e30:f2 (30,0)=some (box7 219 g [.int .i64 K,.int .i64 R,.slice va vn vc,.pointer none,.slice none 0 0,.slice none 0 0,.bool stop]):=(o2 _ (by decide) (by decide)).trans hbox.out
 have c3:w2.cell? ⟨g,3,none⟩=some (.pointer none):=hR2.cell e30 (g:=g) (cap:=1) rfl 3 (show 3<1*7 by decide)
 have z3:=hR2.frozen e30 (g:=g) (cap:=1) rfl 3
 have hR3:=hR2.set e30 (g:=g) (cap:=1) rfl 3 (.pointer (some ⟨gb,0,none⟩))
 have g3:w2.grownBy (w2.setCell ⟨g,3,none⟩ (.pointer (some ⟨gb,0,none⟩))) (some g):=(World.ownsRow.stored (hR2.1 _ _ e30) 3 (.pointer (some ⟨gb,0,none⟩))).2
 have hb3:=hb2.kept hR2 e30 ⟨by decide,by decide,by decide⟩ (fun j e=>upd_ne _ _ e) g3 (f':=upd f2 (30,0) (some (box7 219 g [.int .i64 K,.int .i64 R,.slice va vn vc,.pointer (some ⟨gb,0,none⟩),.slice none 0 0,.slice none 0 0,.bool stop]))) (by intro k e; injection e with e; rw [← e]; rfl)
 have b12:=Below.step b1 b2
 have b3:=(b12.mono (by omega:B≤w.heap.size)).setCell (show B≤(⟨g,3,none⟩:Addr).block from hgB) (.pointer (some ⟨gb,0,none⟩))
 obtain ⟨w3,hw3⟩:∃ W:World,w2.setCell ⟨g,3,none⟩ (.pointer (some ⟨gb,0,none⟩))=W:=⟨_,rfl⟩
 obtain ⟨f3,hf3⟩:∃ F,upd f2 (30,0) (some (box7 219 g [.int .i64 K,.int .i64 R,.slice va vn vc,.pointer (some ⟨gb,0,none⟩),.slice none 0 0,.slice none 0 0,.bool stop]))=F:=⟨_,rfl⟩
 replace hR3:Rows B (w2.setCell ⟨g,3,none⟩ (.pointer (some ⟨gb,0,none⟩))) (upd f2 (30,0) (some (box7 219 g [.int .i64 K,.int .i64 R,.slice va vn vc,.pointer (some ⟨gb,0,none⟩),.slice none 0 0,.slice none 0 0,.bool stop]))):=hR3
 have n30:f3 (30,0)=some (box7 219 g [.int .i64 K,.int .i64 R,.slice va vn vc,.pointer (some ⟨gb,0,none⟩),.slice none 0 0,.slice none 0 0,.bool stop]):=by rw [← hf3,upd_same]
 rw [hf3] at hR3 hb3
 rw [hw3] at hR3 hb3 b3
 have hs3:=b3.size
 replace n30:=Hd n30
 replace hR3:=Hd hR3
 replace hb3:=Hd hb3
 replace hf3:=Hd hf3
 clear hR2 hb2 o2 e30 g3 hR1 hnew b12
 replace hw3:=Hd hw3
 go_upto_region 5 with fail
 rw [hw3.out]
 clear hw3 c3 z3
 go_wp2_with (at_make; refine wpl_make rfl _ _ rfl _ rfl rfl (by omega) (by omega) ?_)
 intro ev w4 ho4 b4
 rw [← idN_zero] at ho4
 have l4:=ho4.at.len
 rw [idN_len] at l4
 obtain ⟨ea,en,ec,rfl⟩:=ho4.at.shape
 replace ho4:=Hd ho4
 go_wp2
 go_loopw [41] (fun iv wr=>∃ i:Nat,iv=.int .i64 i∧i≤n∧OwnI w3.heap.size wr (.slice ea en ec) (idN n i)∧Below w3.heap.size w3 wr) (fun iv _=>n-(intOf iv).toNat)
 case atStart=>exact ⟨0,rfl,Nat.zero_le _,ho4.out,b4⟩
 case round =>
  obtain ⟨i,rfl,hi,hO,hB4⟩:=hrel
  by_cases hin:i<n
  ·have di:decide ((i:Int)<(n:Int))=true:=decide_eq_true (by omega)
   have iX:=fun w'=>hO.at.idx i (by rw [idN_len]; exact hin) w'
   have cX:=hO.at.cellD i (by rw [idN_len]; exact hin)
   have fX:=hO.frz i (by rw [idN_len]; exact hin)
   have hO2:=hO.set i (by rw [idN_len]; exact hin) (i:Int)
   have hB5:=hO.setBelow hB4 i (by rw [idN_len]; exact hin) (.int .i64 i)
   rw [idN_set] at hO2
   obtain ⟨xa,hxa⟩:∃ xa,valAt (.slice ea en ec) i=xa:=⟨_,rfl⟩
   rw [hxa] at iX cX fX hO2 hB5
   replace hxa:=Hd hxa
   replace hO:=Hd hO
   replace hO2:=Hd hO2
   go_wp2
   go_roundw
   case measure=>simp [intOf]; omega
   case rel=>exact ⟨i+1,by go_num,by omega,hO2.out,hB5⟩
  ·obtain rfl:i=n:=by omega
   have di:decide ((i:Int)<(i:Int))=false:=decide_eq_false (by omega)
   obtain ⟨wl,rfl⟩:∃ wl:World,wl=wr:=⟨_,rfl⟩
   rw [idN_full] at hO
   have hRl:=hR3.out.below hB4
   have hbl:=hb3.out.below hB4
   have put:=bag_Put_new hRl hbl _ (List.range i) hO.at (fun x hx=>List.mem_range.1 hx) (by rw [List.length_range]; omega) (by simp) h1 (by omega) (by simp)
   rw [setOf_all] at put
   have y3:wl.cell? ⟨g,3,none⟩=some (.pointer (some ⟨gb,0,none⟩)):=hRl.cell n30.out (g:=g) (cap:=1) rfl 3 (show 3<1*7 by decide)
   replace hO:=Hd hO
   replace hRl:=Hd hRl
   replace hbl:=Hd hbl
   go_wp2_with fail
   refine put.mono ?_
   rintro e w5 ⟨u,rfl,b5,f5,sv5,hR5,hb5,o5⟩
   have m30:=(o5 (30,0) (by decide) (by decide) (by decide) (by decide)).trans n30.out
   have hs4:=hB4.size
   have hs5:=b5.size
   have bl:=belowAlloc w5 (.cells #[.slice none 0 0] 30)
   have hR6:=hR5.add (i:=(31,0)) (r':=rowV 30 (.slice (some ⟨w5.heap.size,0,none⟩) 1 1) [.slice none 0 0]) bl
    (by
      have:=World.ownsRow_lit (base:=B) (e:=30) (size:=1) w5 #[.slice none 0 0] 1 (by omega) (by decide) rfl
      unfold Row.own
      simpa using this) (fun k hk=>by cases hk; exact Nat.le_refl _)
   have hR7:=hR6.add (i:=(32,0)) (r':=rowI (.slice none 0 0) []) (Below.refl _ _) (OwnI.nil _ _) (fun k hk=>by cases hk)
   have hR8:=hR7.add (i:=(33,0)) (r':=rowV 30 (.slice none 0 0) []) (Below.refl _ _) (OwnV.nil _ _ _) (fun k hk=>by cases hk)
   obtain ⟨f8,hf8⟩:∃ F,upd (upd (upd f5 (31,0) (some (rowV 30 (.slice (some ⟨w5.heap.size,0,none⟩) 1 1) [.slice none 0 0]))) (32,0) (some (rowI (.slice none 0 0) []))) (33,0) (some (rowV 30 (.slice none 0 0) []))=F:=⟨_,rfl⟩
   have k30:f8 (30,0)=some (box7 219 g [.int .i64 K,.int .i64 R,.slice va vn vc,.pointer (some ⟨gb,0,none⟩),.slice none 0 0,.slice none 0 0,.bool stop]):=by rw [← hf8,upd_ne _ _ (by decide),upd_ne _ _ (by decide),upd_ne _ _ (by decide)]; exact m30
   have k31:f8 (31,0)=some (rowV 30 (.slice (some ⟨w5.heap.size,0,none⟩) 1 1) [.slice none 0 0]):=by rw [← hf8,upd_ne _ _ (by decide),upd_ne _ _ (by decide),upd_same]
   have k32:f8 (32,0)=some (rowI (.slice none 0 0) []):=by rw [← hf8,upd_ne _ _ (by decide),upd_same]
   have k33:f8 (33,0)=some (rowV 30 (.slice none 0 0) []):=by rw [← hf8,upd_same]
   have hb8:BagAt B (w5.alloc (.cells #[.slice none 0 0] 30)) f8 gb b i [List.replicate i true] sv5 [u]:=(hb5.below bl).congr (fun j hj=>by
    have:j.1≠31∧j.1≠32∧j.1≠33:=by rcases hj with q | q | q<;>rw [q]<;>decide
    rw [← hf8,upd_ne _ _ (by intro e; exact this.2.2 (by rw [e])),upd_ne _ _ (by intro e; exact this.2.1 (by rw [e])),upd_ne _ _ (by intro e; exact this.1 (by rw [e]))])
   rw [hf8] at hR8
   have c5:(w5.alloc (.cells #[.slice none 0 0] 30)).cell? ⟨g,5,none⟩=some (.slice none 0 0):=hR8.cell k30 (g:=g) (cap:=1) rfl 5 (show 5<1*7 by decide)
   have z5:=hR8.frozen k30 (g:=g) (cap:=1) rfl 5
   have hR9:=hR8.set k30 (g:=g) (cap:=1) rfl 5 (.slice (some ⟨w5.heap.size,0,none⟩) 1 1)
   have g9:(w5.alloc (.cells #[.slice none 0 0] 30)).grownBy ((w5.alloc (.cells #[.slice none 0 0] 30)).setCell ⟨g,5,none⟩ (.slice (some ⟨w5.heap.size,0,none⟩) 1 1)) (some g):=(World.ownsRow.stored (hR8.1 _ _ k30) 5 (.slice (some ⟨w5.heap.size,0,none⟩) 1 1)).2
   obtain ⟨f9,hf9⟩:∃ F,upd f8 (30,0) (some (box7 219 g [.int .i64 K,.int .i64 R,.slice va vn vc,.pointer (some ⟨gb,0,none⟩),.slice none 0 0,.slice (some ⟨w5.heap.size,0,none⟩) 1 1,.bool stop]))=F:=⟨_,rfl⟩
   replace hR9:Rows B ((w5.alloc (.cells #[.slice none 0 0] 30)).setCell ⟨g,5,none⟩ (.slice (some ⟨w5.heap.size,0,none⟩) 1 1)) (upd f8 (30,0) (some (box7 219 g [.int .i64 K,.int .i64 R,.slice va vn vc,.pointer (some ⟨gb,0,none⟩),.slice none 0 0,.slice (some ⟨w5.heap.size,0,none⟩) 1 1,.bool stop]))):=hR9
   have hb9:=hb8.kept hR8 k30 ⟨by decide,by decide,by decide⟩ (fun j e=>by rw [← hf9]; exact upd_ne _ _ e) g9 (f':=f9) (by intro k e; injection e with e; rw [← e]; rfl)
   rw [hf9] at hR9
   have b9:=(((b3.trans (hB4.mono (by omega:B≤w3.heap.size))).trans b5).trans (bl.mono (by omega:B≤w5.heap.size))).setCell (show B≤(⟨g,5,none⟩:Addr).block from hgB) (.slice (some ⟨w5.heap.size,0,none⟩) 1 1)
   have hW9:WalkAt B ((w5.alloc (.cells #[.slice none 0 0] 30)).setCell ⟨g,5,none⟩ (.slice (some ⟨w5.heap.size,0,none⟩) 1 1)) f9 g gb b K R i (.slice va vn vc) stop [List.replicate i true] [[]] [] sv5 [u] (.slice (some ⟨w5.heap.size,0,none⟩) 1 1) [.slice none 0 0] (.slice none 0 0) []:=by
    refine ⟨by rw [← hf9,upd_same],hb9,⟨by rw [← hf9,upd_ne _ _ (by decide)]; exact k31,rfl,fun j hj=>?_⟩,⟨by rw [← hf9,upd_ne _ _ (by decide)]; exact k33,rfl,fun j hj=>absurd hj (Nat.not_lt_zero _)⟩⟩
    obtain rfl:j=0:=by simpa using hj
    rw [← hf9,upd_ne _ _ (by decide)]; exact k32
   obtain ⟨w9,hw9⟩:∃ W:World,(w5.alloc (.cells #[.slice none 0 0] 30)).setCell ⟨g,5,none⟩ (.slice (some ⟨w5.heap.size,0,none⟩) 1 1)=W:=⟨_,rfl⟩
   rw [hw9] at hR9 hW9 b9
   obtain ⟨qb,hqb⟩:∃ q,w5.heap.size=q:=⟨_,rfl⟩
   rw [hqb] at hW9
   replace hW9:=Hd hW9
   replace hR9:=Hd hR9
   replace hw9:=Hd hw9
   replace hqb:=Hd hqb
   clear hb9 g9 hR8 hb8 k30 k31 k32 k33 hf8 hf9 hR7 hR6 m30 hR5 hb5 o5 put bl b5 hRl hbl hO ho4 hB4 b4 b3 hR3 hb3 n30 y3
   go_upto_region 17 with fail
   rw [hw9.out]
   clear hw9 c5 z5
   have hs9:=b9.size
   have hgo0:wkGo stop K i T (4097-0) 0 [List.replicate i true] [[]] []=RES:=hRES.out
   replace hgo0:=Hd hgo0
   go_wp2
   go_loopw [10] (fun iv wr=>∃ p:Nat,iv=.int .i64 p∧AllIn B w g gb b K R i (.slice va vn vc) stop T RES p wr) (fun iv _=>4097-(intOf iv).toNat)
   case atStart=>exact ⟨0,rfl,_,_,_,_,_,_,_,_,_,_,hgo0.out,WkOk.init i,by simp,rfl,hR9.out,hW9.out,b9⟩
   case round =>
    obtain ⟨p,rfl,sets,words,next,sv,svs,wv,wvs,nv,nvs,f',hgo,hwk,hp,hnl,hR',hW',hB'⟩:=hrel
    obtain ⟨wo,rfl⟩:∃ wo:World,wo=wr:=⟨_,rfl⟩
    have y0:wo.cell? ⟨g,0,none⟩=some (.int .i64 K):=hW'.cell hR' 0 (by decide)
    have y3:wo.cell? ⟨g,3,none⟩=some (.pointer (some ⟨gb,0,none⟩)):=hW'.cell hR' 3 (by decide)
    obtain ⟨q0,q1,q2⟩:=hW'.bag.cells hR'
    have len:=bag_Len gb sv svs wo q1 (hW'.bag.outer hR')
    rw [hW'.bag.len] at len
    have hsm:=hwk.small
    have hso:=hB'.size
    clear q0 q1 q2
    by_cases hps:p<sets.length
    ·have dp:decide ((p:Int)<(sets.length:Int))=true:=decide_eq_true (by omega)
     rw [wkGo_round hps hsm] at hgo
     obtain ⟨RR,hRR⟩:∃ X,wkRow stop K i T p K 0 sets words []=X:=⟨_,rfl⟩
     rw [hRR] at hgo
     replace hRR:=Hd hRR
     replace hgo:=Hd hgo
     replace hR':=Hd hR'
     replace hW':=Hd hW'
     replace hwk:=Hd hwk
     replace hnl:=Hd hnl
     go_wp2_with fail
     refine len.mono ?_
     rintro e w' ⟨rfl,rfl⟩
     go_wp2_with (at_make; refine wpl_make rfl _ _ rfl _ rfl rfl (by omega) (by omega) ?_)
     intro rv w10 ho10 b10
     have hR10:=hR'.out.add (i:=(35,0)) (r':=rowI rv (List.replicate K 0)) b10 (ho10.mono (by omega:B≤wo.heap.size)) (fun k hk=>(ho10.lt k hk).1)
     have hW10:=(hW'.out.below b10).congr (f':=upd f' (35,0) (some (rowI rv (List.replicate K 0)))) (fun j hj=>upd_ne _ _ (by intro e; exact hj (by rw [e])))
     have l10:=ho10.at.len
     rw [List.length_replicate] at l10
     obtain ⟨ra,rn,rc,rfl⟩:=ho10.at.shape
     have bw10:=hB'.trans (b10.mono (by omega:B≤wo.heap.size))
     have hs10:=bw10.size
     replace ho10:=Hd ho10
     replace hR10:=Hd hR10
     replace hW10:=Hd hW10
     go_wp2
     go_loopw [83] (fun tv wr=>∃ t:Nat,tv=.int .i64 t∧t≤K∧RowIn B w g gb b K R i (.slice va vn vc) stop T next nv nvs (.slice ra rn rc) RR p t wr) (fun tv _=>K-(intOf tv).toNat)
     case atStart=>exact ⟨0,rfl,Nat.zero_le _,_,_,_,_,_,_,_,_,hRR.out,hwk.out,hps,rfl,hR10.out,hW10.out,upd_same _ _ _,bw10⟩
     case round =>
      obtain ⟨t,rfl,ht,sets',words',row,sv',svs',wv',wvs',f2,hrow,hwk2,hps2,hrl,hR2,hW2,n35,hB2⟩:=hrel
      obtain ⟨wi,rfl⟩:∃ wi:World,wi=wr:=⟨_,rfl⟩
      by_cases htK:t<K
      ·have dt:decide ((t:Int)<(K:Int))=true:=decide_eq_true (by omega)
       have b0i:Below w0.heap.size w0 wi:=by rw [hB.out]; exact b0.trans hB2
       have hst:=step_any r (hg.out.below b0i) hR2 hW2 (hT.out.below b0i) hok.out hl hn.out h1 hn4 p t hps2 hwk2
       rw [wkRow_round htK] at hrow
       have hrs:=row_set (x:=0) hrl htK
       cases hs:wkStep stop K i T p t sets' words' with
       | on a ws id =>
        rw [hs] at hst hrow
        obtain ⟨hwk3,hle3⟩:=wkStep_ok hwk2 hps2 hs
        replace hrow:=Hd hrow
        replace hs:=Hd hs
        replace hwk2:=Hd hwk2
        replace hwk3:=Hd hwk3
        replace hrl:=Hd hrl
        replace hR2:=Hd hR2
        replace hW2:=Hd hW2
        replace n35:=Hd n35
        clear hrs
        go_wp2_with fail
        refine hst.mono ?_
        rintro e w11 ⟨rfl,b11,f3,sv3,svs3,wv3,wvs3,hR3,hW3,o3⟩
        have m35:=(o3 (35,0) ⟨by decide,by decide,by decide,by decide,by decide,by decide,by decide⟩).trans n35.out
        have hown:=hR3.ownI m35
        have hlt:t<(row++List.replicate (K-t) (0:Int)).length:=by rw [List.length_append,hrl.out,List.length_replicate]; omega
        have iX:=fun w'=>hown.at.idx t hlt w'
        have cX:=hown.at.cellD t hlt
        have fX:=hown.frz t hlt
        have hR4:=hR3.setI m35 t hlt id
        have g4:wi.heap.size=wi.heap.size:=rfl
        have gr4:=(hown.toV.setGrown t (by simpa using hlt) (.int .i64 id))
        have hW4:=hW3.kept hR3 m35 rfl (fun j e=>upd_ne _ _ e) gr4 (f':=upd f3 (35,0) (some (rowI (.slice ra rn rc) ((row++List.replicate (K-t) (0:Int)).set t id)))) (fun k e=>e)
        have bb4:=hown.setBelow (b11) t hlt (.int .i64 id)
        rw [row_set hrl.out htK] at hR4 hW4
        obtain ⟨xa,hxa⟩:∃ xa,valAt (.slice ra rn rc) t=xa:=⟨_,rfl⟩
        rw [hxa] at iX cX fX hR4 hW4 bb4
        have bfin:=hB2.trans bb4
        replace hxa:=Hd hxa
        replace hR4:=Hd hR4
        replace hW4:=Hd hW4
        clear hown hlt g4 gr4 m35 hR3 hW3 o3 bb4
        go_wp2
        go_roundw
        case measure=>simp [intOf]; omega
        case rel=>exact ⟨t+1,by go_num,by omega,a,ws,row++[id],_,_,_,_,_,hrow.out,hwk3.out,by omega,by rw [List.length_append,hrl.out]; rfl,hR4.out,hW4.out,upd_same _ _ _,bfin⟩
       | orphan wd =>
        rw [hs] at hst hrow
        have hres:=hgo.out
        rw [← hrow] at hres
        replace hres:WkR.orphan wd=RES:=hres
        clear hs hrow
        replace hres:=Hd hres
        replace hwk2:=Hd hwk2
        replace hrl:=Hd hrl
        replace hR2:=Hd hR2
        replace hW2:=Hd hW2
        replace n35:=Hd n35
        clear hrs
        go_wp2_with fail
        refine hst.mono ?_
        rintro e w11 ⟨pe,rfl,b11,hfd⟩
        have hR3:=hR2.out.below b11
        have hown:=hR3.ownI n35.out
        have hown0:=hR2.out.ownI n35.out
        have hlt:t<(row++List.replicate (K-t) (0:Int)).length:=by rw [List.length_append,hrl.out,List.length_replicate]; omega
        have iX:=fun w'=>hown.at.idx t hlt w'
        have cX:=hown.at.cellD t hlt
        have fX:=hown.frz t hlt
        have bb4:=hown.setBelow (b11.mono (by have:=hB2.size; omega:B≤wi.heap.size)) t hlt (.int .i64 0)
        obtain ⟨pp,fa,fn,fc,e1,f2',f3',f4'⟩:=hfd
        injection e1 with _ e1
        injection e1 with e1
        injection e1 with e1
        subst e1
        have hne:(Value.slice fa fn fc).ownBlock≠(Value.slice ra rn rc).ownBlock:=fun e=>by
         cases hk:(Value.slice ra rn rc).ownBlock with
         | none =>
          have:=hown0.blkB t hlt
          have h0:=hown0.toV.blkB t (by simpa using hlt)
          rw [hk] at h0; cases h0.1
         | some k =>
          have a1:=(hown0.lt k hk).2
          have a2:=(f3'.lt k (by rw [e]; exact hk)).1
          omega
        have hf5:=f3'.setOther hown hne t hlt (.int .i64 0)
        have hx0:(valAt (.slice ra rn rc) t).block<wi.heap.size:=World.block_lt_of_cell? _ _ (hown0.at.cellD t hlt)
        have hf6:(w11.setCell (valAt (.slice ra rn rc) t) (.int .i64 0)).cell? ⟨pp,0,none⟩=some (.slice fa fn fc):=by rw [World.cell?_setCell_other _ _ _ _ (fun e=>by rw [e] at hx0; exact absurd f4' (Nat.not_le_of_lt hx0))]; exact f2'
        have hfin:AllPost r B g K R i (.slice va vn vc) stop w RES (.returned (.iface 220 (.pointer (some ⟨pp,0,none⟩)))) (w11.setCell (valAt (.slice ra rn rc) t) (.int .i64 0)):=by
         rw [← hres.out]
         exact ⟨_,rfl,hB2.trans bb4,pp,fa,fn,fc,rfl,hf6,hf5.mono (by have:=hB2.size; omega),by have:=hB2.size; omega⟩
        obtain ⟨xa,hxa⟩:∃ xa,valAt (.slice ra rn rc) t=xa:=⟨_,rfl⟩
        rw [hxa] at iX cX fX hfin
        replace hxa:=Hd hxa
        replace hfin:=Hd hfin
        clear hown hown0 hR3 bb4 hf5 hf6 hne f3' f2' hx0 hlt
        go_wp2
        go_ret
        exact hfin.out
       | big =>
        rw [hs] at hst hrow
        have hres:=hgo.out
        rw [← hrow] at hres
        replace hres:WkR.big=RES:=hres
        clear hs hrow
        replace hres:=Hd hres
        replace hwk2:=Hd hwk2
        replace hrl:=Hd hrl
        replace hR2:=Hd hR2
        replace hW2:=Hd hW2
        replace n35:=Hd n35
        clear hrs
        go_wp2_with fail
        refine hst.mono ?_
        rintro e w11 ⟨pe,rfl,b11,hfd⟩
        have hR3:=hR2.out.below b11
        have hown:=hR3.ownI n35.out
        have hlt:t<(row++List.replicate (K-t) (0:Int)).length:=by rw [List.length_append,hrl.out,List.length_replicate]; omega
        have iX:=fun w'=>hown.at.idx t hlt w'
        have cX:=hown.at.cellD t hlt
        have fX:=hown.frz t hlt
        have c0:=hown.at.cellD 0 (by omega)
        have bb4:=hown.setBelow (b11.mono (by have:=hB2.size; omega:B≤wi.heap.size)) t hlt (.int .i64 0)
        obtain ⟨gr,cap,hrv,-⟩:=Row.own.shape (hR3.1 _ _ n35.out) (show 0<(row++List.replicate (K-t) (0:Int)).length by omega)
        replace hrv:Value.slice ra rn rc=.slice (some ⟨gr,0,none⟩) (row++List.replicate (K-t) (0:Int)).length cap:=hrv
        have hx:valAt (.slice ra rn rc) t=⟨gr,t,none⟩:=by rw [hrv,valAt_row]
        have hx0:valAt (.slice ra rn rc) 0=⟨gr,0,none⟩:=by rw [hrv,valAt_row]
        rw [hx0] at c0
        have hfd2:=hfd.set (b:=gr) (i:=t) (fun s e=>by rw [c0] at e; cases e) (.int .i64 0)
        have hfin:AllPost r B g K R i (.slice va vn vc) stop w RES (.returned (.iface 47 (.pointer (some pe)))) (w11.setCell (valAt (.slice ra rn rc) t) (.int .i64 0)):=by
         rw [← hres.out]
         exact ⟨_,rfl,hB2.trans bb4,by rw [hx]; exact hfd2⟩
        obtain ⟨xa,hxa⟩:∃ xa,valAt (.slice ra rn rc) t=xa:=⟨_,rfl⟩
        rw [hxa] at iX cX fX hfin
        replace hxa:=Hd hxa
        replace hfin:=Hd hfin
        clear hown hR3 bb4 hfd hfd2 hx hx0 hrv c0 hlt
        go_wp2
        go_ret
        exact hfin.out
      ·obtain rfl:t=K:=by omega
       have dt:decide ((t:Int)<(t:Int))=false:=decide_eq_false (by omega)
       have hRRe:RR=.on sets' words' row:=by
        rw [← hrow,Nat.sub_self]; rfl
       rw [Nat.sub_self,List.replicate_zero,List.append_nil] at n35
       have hgo2:=hgo.out
       rw [hRRe] at hgo2
       replace hgo2:wkGo stop t i T (4097-(p+1)) (p+1) sets' words' (next++[row])=RES:=hgo2
       have e30:=hW2.box
       have c4:wi.cell? ⟨g,4,none⟩=some nv:=hR2.cell e30 (g:=g) (cap:=1) rfl 4 (show 4<1*7 by decide)
       obtain ⟨na,nn,nc,rfl⟩:=(hR2.ownV hW2.next.out).shape
       have hnl2:nvs.length<4398046511104:=by rw [hW2.next.len,hnl.out]; omega
       have hs12:=hB2.size
       clear hRRe hrow
       replace hgo2:=Hd hgo2
       replace hrl:=Hd hrl
       replace hwk2:=Hd hwk2
       replace hR2:=Hd hR2
       replace hW2:=Hd hW2
       replace n35:=Hd n35
       replace e30:=Hd e30
       go_wp2_with (at_builtin; go_loud (refine wpl_appR oneLists rfl _ _ rfl hR2.out (33,0) (.slice na nn nc) nvs hW2.out.next.out (.slice ra rn rc) rfl rfl rfl hnl2 (by omega) ?_))
       intro v5 w5' f5' R5 i5 o5 B5 hgr
       obtain ⟨row5,g5,hrow5⟩:=hgr
       obtain ⟨pa,pn,pc,rfl⟩:=(R5.ownV i5).shape
       have d30:=(o5 _ (by decide)).trans e30.out
       have d35:=(o5 _ (by decide)).trans n35.out
       have z4:=R5.cell d30 (g:=g) (cap:=1) rfl 4 (show 4<1*7 by decide)
       replace z4:w5'.cell? ⟨g,4,none⟩=some (.slice na nn nc):=z4
       have fz4:=R5.frozen d30 (g:=g) (cap:=1) rfl 4
       have R6:=R5.set d30 (g:=g) (cap:=1) rfl 4 (.slice pa pn pc)
       obtain ⟨F6,hF6⟩:∃ F,upd f5' (30,0) (some (box7 219 g [.int .i64 t,.int .i64 R,.slice va vn vc,.pointer (some ⟨gb,0,none⟩),.slice pa pn pc,wv',.bool stop]))=F:=⟨_,rfl⟩
       replace R6:Rows B (w5'.setCell ⟨g,4,none⟩ (.slice pa pn pc)) (upd f5' (30,0) (some (box7 219 g [.int .i64 t,.int .i64 R,.slice va vn vc,.pointer (some ⟨gb,0,none⟩),.slice pa pn pc,wv',.bool stop]))):=R6
       have g6:w5'.grownBy (w5'.setCell ⟨g,4,none⟩ (.slice pa pn pc)) (some g):=(World.ownsRow.stored (R5.1 _ _ d30) 4 (.slice pa pn pc)).2
       have hbag5:=hW2.out.bag.kept hR2.out hW2.out.next.out ⟨by decide,by decide,by decide⟩ o5 g5 hrow5
       have hbag6:=hbag5.kept R5 d30 ⟨by decide,by decide,by decide⟩ (f':=F6) (fun j e=>by rw [← hF6]; exact upd_ne _ _ e) g6 (by intro k e; injection e with e; rw [← e]; rfl)
       rw [hF6] at R6
       have m35:F6 (35,0)=some (rowI (.slice ra rn rc) row):=by rw [← hF6,upd_ne _ _ (by decide)]; exact d35
       have R7:=R6.move (j:=(34,next.length)) m35 (R6.1 _ _ m35) rfl
       have o7:∀ j:Nat×Nat,j≠(34,next.length)→j.1≠35→upd (upd F6 (35,0) none) (34,next.length) (some (rowI (.slice ra rn rc) row)) j=F6 j:=fun j a1 a2=>by rw [upd_ne _ _ a1,upd_ne _ _ (by intro e; exact a2 (by rw [e]))]
       have oF:∀ j:Nat×Nat,j≠(30,0)→j≠(33,0)→F6 j=f2 j:=fun j a1 a2=>by rw [← hF6,upd_ne _ _ a1]; exact o5 j a2
       have n34:∀ j:Nat×Nat,j.1≠34→j≠(34,next.length):=fun j a e=>a (by rw [e])
       have W7:WalkAt B (w5'.setCell ⟨g,4,none⟩ (.slice pa pn pc)) (upd (upd F6 (35,0) none) (34,next.length) (some (rowI (.slice ra rn rc) row))) g gb b t R i (.slice va vn vc) stop sets' words' (next++[row]) sv' svs' wv' wvs' (.slice pa pn pc) (nvs++[.slice ra rn rc]):=by
        refine ⟨?_,hbag6.congr fun j hj=>o7 j (n34 j (by omega)) (by omega),hW2.out.words.congr fun j hj=>?_,hW2.out.next.more ?_ (upd_same _ _ _) fun q hq=>?_⟩
        ·rw [o7 _ (by intro e; cases e) (by decide),← hF6,upd_same]
        ·rw [o7 j (n34 j (by omega)) (by omega),oF j (by intro e; subst e; omega) (by intro e; subst e; omega)]
        ·rw [o7 _ (by intro e; cases e) (by decide),← hF6,upd_ne _ _ (by decide)]; exact i5
        ·rw [o7 _ (by intro e; injection e with _ e; omega) (by show (34:Nat)≠35; decide),oF _ (by intro e; cases e) (by intro e; cases e)]
       have bfin:=hB2.trans (B5.setCell (show B≤(⟨g,4,none⟩:Addr).block from hgB) (.slice pa pn pc))
       have hfin:AllIn B w g gb b t R i (.slice va vn vc) stop T RES (p+1) (w5'.setCell ⟨g,4,none⟩ (.slice pa pn pc)):=⟨sets',words',next++[row],_,_,_,_,_,_,_,hgo2.out,hwk2.out,by omega,by rw [List.length_append,hnl.out]; rfl,R7,W7,bfin⟩
       replace hfin:=Hd hfin
       clear W7 n34 oF o7 R7 m35 hbag6 hbag5 g6 R6 hF6 d35 d30 i5 o5 B5 R5 g5 hrow5
       go_wp2
       go_roundw
       case measure=>simp [intOf]; omega
       case rel=>exact ⟨p+1,by go_num,hfin.out⟩
    ·have dp:decide ((p:Int)<(sets.length:Int))=false:=decide_eq_false (by omega)
     rw [wkGo_end hps (by omega)] at hgo
     have hfin:AllPost r B g K R i (.slice va vn vc) stop w RES (.returned .nilIface) wo:=by
      rw [← hgo]
      exact ⟨rfl,hB',_,_,_,_,_,_,_,_,_,hR',hW'⟩
     replace hfin:=Hd hfin
     replace hR':=Hd hR'
     replace hW':=Hd hW'
     replace hwk:=Hd hwk
     replace hnl:=Hd hnl
     clear hgo
     go_wp2_with fail
     refine len.mono ?_
     rintro e w' ⟨rfl,rfl⟩
     go_wp2
     go_ret
     exact hfin.out
end Go.Proofs.YtindfaehjoileaaGreatDoor
namespace Go.Proofs.YtindfaehjoileaaGreatDoor
open Go.RowKit Go.Extern.Stop Go.Stop Go.Extern
set_option maxRecDepth 100000
set_option maxHeartbeats 8000000
namespace Fnd
open Errs (methodKind methodElem methodImplements methodAssignableTo rlm rls)
theorem uF:Tryz.prog.underlying 220=some (.pointer 223):=by kernel_rfl
theorem valueOfFF (t:Addr) (w:World):(ReflectliteValue.unpack (.iface 221 (.pointer (some t)))).run Tryz.prog w
 = .ok (.agg #[.pointer (some ⟨22,221,none⟩),.pointer (some ⟨w.heap.size,0,none⟩),.int .u64 150]) (w.alloc (.cells #[.pointer (some t)] 221)):=by kernel_rfl
theorem typeFF (a : Addr) (w : World) : (ReflectliteValue.methodAny (ReflectliteValue.valueError "reflectlite.Value.Type" 0) (fun t _ _ _ => ReflectliteType.toType t) #[.agg #[.pointer (some ⟨22, 221, none⟩), .pointer (some a), .int .u64 150]]).run Tryz.prog w
 = .ok (.iface 105 (.agg #[.pointer (some ⟨22,221,none⟩)])) w:=by kernel_rfl
theorem kindFF (w:World):((ReflectliteType.abiMethod fun t=>(fun a:Nat=>Value.int IntKind.u8 (a:Int)) <$> Rtype.kind t) #[.pointer (some ⟨22,221,none⟩)]).run Tryz.prog w=.ok (.int .u8 22) w:=by kernel_rfl
theorem kindF (w:World):((ReflectliteType.abiMethod fun t=>(fun a:Nat=>Value.int IntKind.u8 (a:Int)) <$> Rtype.kind t) #[.pointer (some ⟨22,220,none⟩)]).run Tryz.prog w=.ok (.int .u8 22) w:=by kernel_rfl
theorem partsFF (a:Addr) (w:World):(ReflectliteValue.parts (.agg #[.pointer (some ⟨22,221,none⟩),.pointer (some a),.int .u64 150])).run Tryz.prog w=.ok (some (221,a,150)) w:=by kernel_rfl
theorem isNilFF (a p:Addr) (W:World) (ha:W.cell? a=some (.pointer (some p))) :
 (ReflectliteValue.method (ReflectliteValue.valueError "reflectlite.Value.IsNil" 0) ReflectliteValue.isNil #[.agg #[.pointer (some ⟨22, 221, none⟩), .pointer (some a), .int .u64 150]]).run Tryz.prog W = .ok (.bool false) W := by
 rw [rlm]
 simp only [Sem.run_bind,partsFF,Result.andThen]
 simp [ReflectliteValue.isNil,loadVar,isAgg,underlying,ha,Result.andThen]
theorem elemFF (w:World):(ReflectliteType.method ReflectliteType.elem #[.agg #[.pointer (some ⟨22,221,none⟩)]]).run Tryz.prog w=.ok (.iface 105 (.agg #[.pointer (some ⟨22,220,none⟩)])) w:=by kernel_rfl
theorem implementsF (w : World) : (ReflectliteType.relation "Implements" ReflectliteType.implements_ #[.agg #[.pointer (some ⟨22, 220, none⟩)], .iface 105 (.agg #[.pointer (some ⟨22, 25, none⟩)])]).run Tryz.prog w = .ok (.bool true) w := by kernel_rfl
theorem typeOfF (v:Value) (w:World):(ReflectliteType.typeOf #[.iface 220 v]).run Tryz.prog w=.ok (.iface 105 (.agg #[.pointer (some ⟨22,220,none⟩)])) w:=by kernel_rfl
theorem assignableF (w : World) : (ReflectliteType.relation "AssignableTo" ReflectliteType.assignableTo #[.agg #[.pointer (some ⟨22, 220, none⟩)], .iface 105 (.agg #[.pointer (some ⟨22, 220, none⟩)])]).run Tryz.prog w = .ok (.bool true) w := by kernel_rfl
theorem valueOfF (e:Addr) (w:World):(ReflectliteValue.unpack (.iface 220 (.pointer (some e)))).run Tryz.prog w
 = .ok (.agg #[.pointer (some ⟨22,220,none⟩),.pointer (some ⟨w.heap.size,0,none⟩),.int .u64 150]) (w.alloc (.cells #[.pointer (some e)] 220)):=by kernel_rfl
theorem elemOfFF (w:World):(Rtype.elem? 221).run Tryz.prog w=.ok (some 220) w:=by kernel_rfl
theorem mkF (p:Addr) (w:World):(ReflectliteValue.mk 220 p ReflectliteValue.flagAddr).run Tryz.prog w=.ok (.agg #[.pointer (some ⟨22,220,none⟩),.pointer (some p),.int .u64 406]) w:=by kernel_rfl
theorem elemVFF (a p:Addr) (W:World) (ha:W.cell? a=some (.pointer (some p))) :
 (ReflectliteValue.method (ReflectliteValue.valueError "reflectlite.Value.Elem" 0) ReflectliteValue.elem #[.agg #[.pointer (some ⟨22, 221, none⟩), .pointer (some a), .int .u64 150]]).run Tryz.prog W
   = .ok (.agg #[.pointer (some ⟨22,220,none⟩),.pointer (some p),.int .u64 406]) W:=by
 rw [rlm]
 simp only [Sem.run_bind,partsFF,Result.andThen]
 simp [ReflectliteValue.elem,loadVar,isAgg,underlying,ha,Result.andThen,elemOfFF,mkF]
theorem partsFa (a:Addr) (w:World):(ReflectliteValue.parts (.agg #[.pointer (some ⟨22,220,none⟩),.pointer (some a),.int .u64 406])).run Tryz.prog w=.ok (some (220,a,406)) w:=by kernel_rfl
theorem partsF (a:Addr) (w:World):(ReflectliteValue.parts (.agg #[.pointer (some ⟨22,220,none⟩),.pointer (some a),.int .u64 150])).run Tryz.prog w=.ok (some (220,a,150)) w:=by kernel_rfl
theorem directF (w:World):(Rtype.directlyAssignable 220 220).run Tryz.prog w=.ok true w:=by kernel_rfl
theorem setF (ta b e:Addr) (old:Value) (W:World) (hb:W.cell? b=some (.pointer (some e))) (ht:W.cell? ta=some old) (hf:W.frozen? ta=false) :
 (ReflectliteValue.set #[.agg #[.pointer (some ⟨22,220,none⟩),.pointer (some ta),.int .u64 406],.agg #[.pointer (some ⟨22,220,none⟩),.pointer (some b),.int .u64 150]]).run Tryz.prog W
   = .ok (.tuple #[]) (W.setCell ta (.pointer (some e))):=by
 rw [rls]
 simp only [Sem.run_bind,partsFa,partsF,Result.andThen]
 simp [ReflectliteValue.flagAddr,loadVar,isAgg,underlying,hb,Result.andThen,directF,storeVar,Value.cells,storeCells,Addr.add]
 rw [run_store Tryz.prog W ta _ _ (by rfl)]
 simp [ht,hf]
theorem as_hit (e t:Addr) (old:Value) (w:World) (hg:w.cell? ⟨12,0,none⟩=some (.iface 105 (.agg #[.pointer (some ⟨22,25,none⟩)]))) (ht0:w.cell? t=some old) (hf0:w.frozen? t=false) :
 Calls Tryz.prog 15 #[.iface 220 (.pointer (some e)),.iface 221 (.pointer (some t))] w fun ev w'=>ev=.returned (.bool true)∧w'=((((w.alloc (.cells #[.pointer (some t)] 221)).alloc (.cells #[.pointer (some ⟨22,221,none⟩),.pointer (some ⟨w.heap.size,0,none⟩),.int .u64 150] 81)).alloc (.cells #[.pointer (some ⟨22,221,none⟩),.pointer (some ⟨w.heap.size,0,none⟩),.int .u64 150] 81)).alloc (.cells #[.pointer (some e)] 220)).setCell t (.pointer (some e)):=by
 have h6:=@run_callFunc_extern Tryz.prog 28 _ (fun args=>ReflectliteValue.unpack (args.getD 0 (.tuple #[]))) Tryz.func28 (by kernel_rfl) (by kernel_rfl) (by kernel_rfl) (by kernel_rfl)
 have h7 := @run_callFunc_extern Tryz.prog 29 _ (ReflectliteValue.methodAny (ReflectliteValue.valueError "reflectlite.Value.Type" 0) (fun t _ _ _ => ReflectliteType.toType t)) Tryz.func29 (by kernel_rfl) (by kernel_rfl) (by kernel_rfl) (by kernel_rfl)
 have h8 := @run_callFunc_extern Tryz.prog 30 _ (ReflectliteValue.method (ReflectliteValue.valueError "reflectlite.Value.IsNil" 0) ReflectliteValue.isNil) Tryz.func30 (by kernel_rfl) (by kernel_rfl) (by kernel_rfl) (by kernel_rfl)
 have h27:=@run_callFunc_extern Tryz.prog 425 _ (ReflectliteType.abiMethod fun t=>do pure (.int .u8 (← Rtype.kind t))) Tryz.func425 (by kernel_rfl) (by kernel_rfl) (by kernel_rfl) (by kernel_rfl)
 have h37:=@run_callFunc_extern Tryz.prog 438 _ (ReflectliteType.method ReflectliteType.elem) Tryz.func438 (by kernel_rfl) (by kernel_rfl) (by kernel_rfl) (by kernel_rfl)
 have h38 := @run_callFunc_extern Tryz.prog 439 _ (ReflectliteType.relation "Implements" ReflectliteType.implements_) Tryz.func439 (by kernel_rfl) (by kernel_rfl) (by kernel_rfl) (by kernel_rfl)
 have h10:=@run_callFunc_extern Tryz.prog 26 _ ReflectliteType.typeOf Tryz.func26 (by kernel_rfl) (by kernel_rfl) (by kernel_rfl) (by kernel_rfl)
 have h35 := @run_callFunc_extern Tryz.prog 436 _ (ReflectliteType.relation "AssignableTo" ReflectliteType.assignableTo) Tryz.func436 (by kernel_rfl) (by kernel_rfl) (by kernel_rfl) (by kernel_rfl)
 have h11 := @run_callFunc_extern Tryz.prog 45 _ (ReflectliteValue.method (ReflectliteValue.valueError "reflectlite.Value.Elem" 0) ReflectliteValue.elem) Tryz.func45 (by kernel_rfl) (by kernel_rfl) (by kernel_rfl) (by kernel_rfl)
 have h12:=@run_callFunc_extern Tryz.prog 46 _ ReflectliteValue.set Tryz.func46 (by kernel_rfl) (by kernel_rfl) (by kernel_rfl) (by kernel_rfl)
 have tO:=typeOfF
 have mA:=methodAssignableTo
 have aF:=assignableF
 have vF:=valueOfF
 have f6:=valueOfFF
 have f7:=typeFF
 have mK:=methodKind
 have mE:=methodElem
 have mI:=methodImplements
 have kFF:=kindFF
 have kF:=kindF
 have eFF:=elemFF
 have iF:=implementsF
 have n8:=isNilFF ⟨w.heap.size,0,none⟩ t ((w.alloc (.cells #[.pointer (some t)] 221)).alloc (.cells #[.pointer (some ⟨22,221,none⟩),.pointer (some ⟨w.heap.size,0,none⟩),.int .u64 150] 81)) (by simp)
 have hlt:12<w.heap.size:=World.block_lt_of_cell? _ _ hg
 have hg2:((w.alloc (.cells #[.pointer (some t)] 221)).alloc (.cells #[.pointer (some ⟨22,221,none⟩),.pointer (some ⟨w.heap.size,0,none⟩),.int .u64 150] 81)).cell? ⟨12,0,none⟩=some (.iface 105 (.agg #[.pointer (some ⟨22,25,none⟩)])):=by
  rw [World.cell?_alloc_lt _ _ ⟨12,0,none⟩ (by simp; omega),World.cell?_alloc_lt _ _ ⟨12,0,none⟩ hlt]; exact hg
 have htl:t.block<w.heap.size:=World.block_lt_of_cell? _ _ ht0
 have el:=elemVFF ⟨w.heap.size,0,none⟩ t (((w.alloc (.cells #[.pointer (some t)] 221)).alloc (.cells #[.pointer (some ⟨22,221,none⟩),.pointer (some ⟨w.heap.size,0,none⟩),.int .u64 150] 81)).alloc (.cells #[.pointer (some ⟨22,221,none⟩),.pointer (some ⟨w.heap.size,0,none⟩),.int .u64 150] 81)) (by rw [World.cell?_alloc_lt _ _ ⟨w.heap.size,0,none⟩ (by simp; omega)]; simp)
 have st:=setF t ⟨w.heap.size+1+1+1,0,none⟩ e old ((((w.alloc (.cells #[.pointer (some t)] 221)).alloc (.cells #[.pointer (some ⟨22,221,none⟩),.pointer (some ⟨w.heap.size,0,none⟩),.int .u64 150] 81)).alloc (.cells #[.pointer (some ⟨22,221,none⟩),.pointer (some ⟨w.heap.size,0,none⟩),.int .u64 150] 81)).alloc (.cells #[.pointer (some e)] 220))
  (by rw [World.cell?_alloc_at _ _ _ _ (by simp)]; rfl)
  (by rw [World.cell?_alloc_lt _ _ t (by simp; omega),World.cell?_alloc_lt _ _ t (by simp; omega),World.cell?_alloc_lt _ _ t (by simp; omega),World.cell?_alloc_lt _ _ t htl]; exact ht0)
  (by rw [World.frozen?_alloc_old _ _ t (by simp; omega),World.frozen?_alloc_old _ _ t (by simp; omega),World.frozen?_alloc_old _ _ t (by simp; omega),World.frozen?_alloc_old _ _ t (Nat.ne_of_lt htl)]; exact hf0)
 go_enter Tryz.func15,Tryz.ntmps15
 go_wp2
 refine wp_loop_rounds 1 ?_
 rw [rounds_succ]
 go_wp2
 go_ret
 exact ⟨rfl,rfl⟩
theorem as_any (e t:Addr) (old:Value) (w:World) (hg:w.cell? ⟨12,0,none⟩=some (.iface 105 (.agg #[.pointer (some ⟨22,25,none⟩)]))) (ht0:w.cell? t=some old) (hf0:w.frozen? t=false) :
 Calls Tryz.prog 15 #[.iface 220 (.pointer (some e)),.iface 221 (.pointer (some t))] w fun ev w'=>ev=.returned (.bool true)∧∃ w1,Below w.heap.size w w1∧w'=w1.setCell t (.pointer (some e)) :=
 (as_hit e t old w hg ht0 hf0).mono fun _ _ ⟨h1,h2⟩=>⟨h1,_,((((Below.refl _ _).alloc (Nat.le_refl _) _).alloc (by simp) _).alloc (by simp; omega) _).alloc (by simp; omega) _,h2⟩
end Fnd
namespace Fnd
open Errs (methodKind methodElem methodImplements methodAssignableTo)
theorem assignF (w : World) : (ReflectliteType.relation "AssignableTo" ReflectliteType.assignableTo #[.agg #[.pointer (some ⟨22, 47, none⟩)], .iface 105 (.agg #[.pointer (some ⟨22, 220, none⟩)])]).run Tryz.prog w = .ok (.bool false) w := by kernel_rfl
theorem assignE (w : World) : (ReflectliteType.relation "AssignableTo" ReflectliteType.assignableTo #[.agg #[.pointer (some ⟨22, 417, none⟩)], .iface 105 (.agg #[.pointer (some ⟨22, 220, none⟩)])]).run Tryz.prog w = .ok (.bool false) w := by kernel_rfl
theorem uAs : Tryz.prog.underlying 117 = some (.interface #[("As", 119)]) := by kernel_rfl
theorem uUnws : Tryz.prog.underlying 112 = some (.interface #[("Unwrap", 114)]) := by kernel_rfl
theorem noAsF (v:Value) (xT:TypeId) (w:World):(Instr.typeAssert (.iface 47 v) xT 117 true).run Tryz.prog w=.ok (.tuple #[.nilIface,.bool false]) w:=run_typeAssert_lacksB uAs (by kernel_rfl) (by kernel_rfl) v xT w
theorem noAsE (v:Value) (xT:TypeId) (w:World):(Instr.typeAssert (.iface 417 v) xT 117 true).run Tryz.prog w=.ok (.tuple #[.nilIface,.bool false]) w:=run_typeAssert_lacksB uAs (by kernel_rfl) (by kernel_rfl) v xT w
theorem noUnwE (v:Value) (xT:TypeId) (w:World):(Instr.typeAssert (.iface 417 v) xT 110 true).run Tryz.prog w=.ok (.tuple #[.nilIface,.bool false]) w:=run_typeAssert_lacksB Errs.uUnw (by kernel_rfl) (by kernel_rfl) v xT w
theorem noUnwsE (v:Value) (xT:TypeId) (w:World):(Instr.typeAssert (.iface 417 v) xT 112 true).run Tryz.prog w=.ok (.tuple #[.nilIface,.bool false]) w:=run_typeAssert_lacksB uUnws (by kernel_rfl) (by kernel_rfl) v xT w
theorem as_loop (r:Nat→Addr) (n:Int) (l:List (ByteArray×Int)) (v tgt x0 x1 x2:Value) (w:World) (h:ErrAt r w n l v) :
 Calls Tryz.prog 31 #[v,tgt,.agg #[x0,x1,x2],.iface 105 (.agg #[.pointer (some ⟨22,220,none⟩)])] w fun e w'=>e=.returned (.bool false)∧Below w.heap.size w w':=by
 have h10:=@run_callFunc_extern Tryz.prog 26 _ ReflectliteType.typeOf Tryz.func26 (by kernel_rfl) (by kernel_rfl) (by kernel_rfl) (by kernel_rfl)
 have h35 := @run_callFunc_extern Tryz.prog 436 _ (ReflectliteType.relation "AssignableTo" ReflectliteType.assignableTo) Tryz.func436 (by kernel_rfl) (by kernel_rfl) (by kernel_rfl) (by kernel_rfl)
 have tF:=Errs.typeOfF
 have tE:=Errs.typeOfE
 have mA:=methodAssignableTo
 have aF:=assignF
 have aE:=assignE
 have nF:=noAsF
 have nE:=noAsE
 have uF:=Errs.hasUnwrapF
 have uE:=noUnwE
 have usE:=noUnwsE
 have mU:=Errs.methodUnwrap
 have bb:=belowAlloc w (.cells #[x0,x1,x2] 81)
 replace h:=Hd (h.below bb)
 obtain ⟨W,hW⟩:∃ W:World,w.alloc (.cells #[x0,x1,x2] 81)=W:=⟨_,rfl⟩
 rw [hW] at h bb
 replace hW:=Hd hW
 go_enter Tryz.func31,Tryz.ntmps31
 go_wp2
 rw [hW.out]
 go_loopg [0] l.length (fun k u wr=>wr=W∧∃ l',l'.length=k∧ErrAt r W n l' u)
 case atStart=>exact ⟨rfl,l,rfl,h.out⟩
 case round =>
  obtain ⟨rfl,l',hl',hu⟩:=hrel
  match l',hl',hu with
  | [],hl',hu =>
   obtain rfl:_=rootV r n:=hu
   clear hl'
   go_wp2
   go_ret
   exact ⟨rfl,bb⟩
  | (op,at_)::rest,hl',hu =>
   obtain ⟨p,u',rfl,c0,c1,c2,hrest⟩:=hu
   obtain ⟨T,a,rfl⟩:=hrest.shape
   replace hrest:=Hd hrest
   replace hl':=Hd hl'
   go_wp2_with (go_at_call 430; refine (Errs.unwrap_any p _ _ c2).mono ?_; rintro e w' ⟨rfl,rfl⟩)
   go_roundg rest.length
   case measure=>have:=hl'.out; simp at this; omega
   case rel=>exact ⟨rfl,rest,rfl,hrest.out⟩
theorem as_miss (r:Nat→Addr) (n:Int) (l:List (ByteArray×Int)) (v:Value) (t:Addr) (w:World) (h:ErrAt r w n l v) (hg:w.cell? ⟨12,0,none⟩=some (.iface 105 (.agg #[.pointer (some ⟨22,25,none⟩)]))) :
 Calls Tryz.prog 15 #[v,.iface 221 (.pointer (some t))] w fun ev w'=>ev=.returned (.bool false)∧Below w.heap.size w w':=by
 have h6:=@run_callFunc_extern Tryz.prog 28 _ (fun args=>ReflectliteValue.unpack (args.getD 0 (.tuple #[]))) Tryz.func28 (by kernel_rfl) (by kernel_rfl) (by kernel_rfl) (by kernel_rfl)
 have h7 := @run_callFunc_extern Tryz.prog 29 _ (ReflectliteValue.methodAny (ReflectliteValue.valueError "reflectlite.Value.Type" 0) (fun t _ _ _ => ReflectliteType.toType t)) Tryz.func29 (by kernel_rfl) (by kernel_rfl) (by kernel_rfl) (by kernel_rfl)
 have h8 := @run_callFunc_extern Tryz.prog 30 _ (ReflectliteValue.method (ReflectliteValue.valueError "reflectlite.Value.IsNil" 0) ReflectliteValue.isNil) Tryz.func30 (by kernel_rfl) (by kernel_rfl) (by kernel_rfl) (by kernel_rfl)
 have h27:=@run_callFunc_extern Tryz.prog 425 _ (ReflectliteType.abiMethod fun t=>do pure (.int .u8 (← Rtype.kind t))) Tryz.func425 (by kernel_rfl) (by kernel_rfl) (by kernel_rfl) (by kernel_rfl)
 have h37:=@run_callFunc_extern Tryz.prog 438 _ (ReflectliteType.method ReflectliteType.elem) Tryz.func438 (by kernel_rfl) (by kernel_rfl) (by kernel_rfl) (by kernel_rfl)
 have h38 := @run_callFunc_extern Tryz.prog 439 _ (ReflectliteType.relation "Implements" ReflectliteType.implements_) Tryz.func439 (by kernel_rfl) (by kernel_rfl) (by kernel_rfl) (by kernel_rfl)
 have f6:=valueOfFF
 have f7:=typeFF
 have mK:=methodKind
 have mE:=methodElem
 have mI:=methodImplements
 have kFF:=kindFF
 have kF:=kindF
 have eFF:=elemFF
 have iF:=implementsF
 have n8:=isNilFF ⟨w.heap.size,0,none⟩ t ((w.alloc (.cells #[.pointer (some t)] 221)).alloc (.cells #[.pointer (some ⟨22,221,none⟩),.pointer (some ⟨w.heap.size,0,none⟩),.int .u64 150] 81)) (by simp)
 have hlt:12<w.heap.size:=World.block_lt_of_cell? _ _ hg
 have hg2:((w.alloc (.cells #[.pointer (some t)] 221)).alloc (.cells #[.pointer (some ⟨22,221,none⟩),.pointer (some ⟨w.heap.size,0,none⟩),.int .u64 150] 81)).cell? ⟨12,0,none⟩=some (.iface 105 (.agg #[.pointer (some ⟨22,25,none⟩)])):=by
  rw [World.cell?_alloc_lt _ _ ⟨12,0,none⟩ (by simp; omega),World.cell?_alloc_lt _ _ ⟨12,0,none⟩ hlt]; exact hg
 have bb:=Below.step (belowAlloc w (.cells #[.pointer (some t)] 221)) (belowAlloc _ (.cells #[.pointer (some ⟨22,221,none⟩),.pointer (some ⟨w.heap.size,0,none⟩),.int .u64 150] 81))
 obtain ⟨T,a,rfl⟩:=h.shape
 replace h:=Hd (h.below bb)
 go_enter Tryz.func15,Tryz.ntmps15
 go_wp2_with (go_at_call 31; refine (as_loop r n l _ _ _ _ _ _ h.out).mono ?_; rintro e w' ⟨rfl,b2⟩)
 go_ret
 exact ⟨rfl,Below.step bb b2⟩
theorem as_nil (x:Value) (w:World):Calls Tryz.prog 15 #[.nilIface,x] w fun ev w'=>ev=.returned (.bool false)∧w=w':=by
 go_enter Tryz.func15,Tryz.ntmps15
 go_wp2
 go_ret
 exact ⟨rfl,rfl⟩
end Fnd
end Go.Proofs.YtindfaehjoileaaGreatDoor
namespace Go.Proofs.YtindfaehjoileaaGreatDoor
open Go.RowKit
set_option maxRecDepth 100000
set_option maxHeartbeats 8000000
def sSubset:ByteArray:=⟨#[115,117,98,115,101,116]⟩
theorem told_bag (r:Nat→Addr) (v:Value) (w:World) (hg:Glob r w) (hG:GlobE w) (h:ErrIs r w (fresh sBag 0 4) v) :
 Calls Tryz.prog 158 #[v] w (Ret1 (fun x w'=>ErrIs r w' (fresh sSubset 0 4) x) w):=by
 have z4:=hg.c4
 have his:=Errs.is_any r 4 _ v w h
 obtain ⟨p,u,rfl,c0,c1,c2,hu⟩:=h
 have bv:=belowAlloc' w (.cells #[.pointer none] 47)
 have zt:(w.alloc (.cells #[.pointer none] 47)).cell? ⟨w.heap.size,0,none⟩=some (.pointer none):=by simp
 have ft:(w.alloc (.cells #[.pointer none] 47)).frozen? ⟨w.heap.size,0,none⟩=false:=by simp
 have gv:=Hd (hG.below bv)
 replace hg:=Hd hg
 replace hG:=Hd hG
 replace hu:=Hd hu
 go_enter Tryz.func158,Tryz.ntmps158
 go_wp2_with fail
 refine his.mono ?_
 rintro e w1 ⟨rfl,rfl⟩
 clear his
 go_upto_region 3 with fail
 obtain ⟨wv,hwv⟩:∃ W:World,W=w.alloc (.cells #[.pointer none] 47):=⟨_,rfl⟩
 rw [← hwv] at bv zt ft gv ⊢
 clear hwv
 replace c0:=Hd c0
 replace c1:=Hd c1
 replace c2:=Hd c2
 have has:Calls Tryz.prog 15 #[.iface 47 (.pointer (some ⟨p,0,none⟩)),.iface 49 (.pointer (some ⟨w.heap.size,0,none⟩))] wv fun e w'=>e=.returned (.bool true)∧w'.cell? ⟨w.heap.size,0,none⟩=some (.pointer (some ⟨p,0,none⟩))∧Below w.heap.size w w':=by
  refine (Errs.as_any ⟨p,0,none⟩ ⟨w.heap.size,0,none⟩ (.pointer none) wv gv.out zt ft).mono ?_
  rintro e w6 ⟨rfl,w5,hb5,rfl⟩
  exact ⟨rfl,World.cell?_setCell_same _ _ _ (cell_keep hb5 zt),(Below.stepL bv hb5).setCell (p:=⟨w.heap.size,0,none⟩) (Nat.le_refl _) _⟩
 go_wp2_with fail
 refine has.mono ?_
 rintro e w6 ⟨rfl,p0,b6⟩
 have y0:w6.cell? ⟨p,0,none⟩=some (.string ⟨#[98,97,103]⟩):=cell_keep b6 c0.out
 have hg6:=Hd (hg.out.below b6)
 go_wp2_with fail
 refine (new_any r _ 0 4 w6 hg6.out (by decide) (by decide)).mono ?_
 rintro e w7 ⟨x,rfl,b7,he⟩
 have b67:=Below.step b6 b7
 go_wp2
 go_ret
 exact ⟨_,rfl,b67,he⟩
def OntoPost (r:Nat→Addr) (B:Nat):SubR→Value→Value→Value→World→Prop
 | .on _ _,x,y,z,_=>x=.bool true∧y=.slice none 0 0∧z=.nilIface
 | .orphan wd,x,y,z,w'=>x=.bool false∧z=.nilIface∧OwnI B w' y wd
 | .big,x,y,z,w'=>x=.bool false∧y=.slice none 0 0∧ErrIs r w' (fresh sSubset 0 4) z
theorem sub_onto (r:Nat→Addr) (K R:Nat) (va:Option Addr) (vn vc:Nat) (T:List Int) (w:World) (hg:Glob r w) (hG:GlobE w) (h:IntsAt w (.slice va vn vc) T) (hok:RuleOk K R T) (hl:T.length≤256) :
 Calls Tryz.prog 65 #[.agg #[.int .i64 K,.int .i64 R,.slice va vn vc]] w (Ret3 (fun x y z w'=>OntoPost r w.heap.size (subR K (pw K (2*R)) T) x y z w') w):=by
 have hk1:=hok.k1
 have hT:T.length=pw K (2*R)*K:=by rw [hok.len,pw_succ]
 have hn:T.length/K=pw K (2*R):=by rw [hT]; exact Nat.mul_div_cancel _ (by omega)
 have h1:=pw_pos (K:=K) (2*R) hk1
 have hn4:pw K (2*R)≤256:=by rw [← hn]; exact Nat.le_trans (Nat.div_le_self _ _) hl
 have hsub:=wk_sub K (pw K (2*R)) T
 obtain ⟨n,hne⟩:∃ n,pw K (2*R)=n:=⟨_,rfl⟩
 rw [hne] at hn h1 hn4 hsub ⊢
 rw [← hsub]
 have b0:=belowAlloc w (.cells #[.int .i64 K,.int .i64 R,.slice va vn vc] 124)
 have q:Box3 (w.alloc (.cells #[.int .i64 K,.int .i64 R,.slice va vn vc] 124)) w.heap.size (.int .i64 K) (.int .i64 R) (.slice va vn vc):=by simp [Box3,go_sem]
 have b1:=Below.step b0 (belowAlloc _ (.cells #[.int .i64 K,.int .i64 R,.slice va vn vc,.pointer none,.slice none 0 0,.slice none 0 0,.bool true] 219))
 have hR:=((Rows.void w.heap.size w).below b0).add (i:=(30,0)) (r':=box7 219 (w.heap.size+1) [.int .i64 K,.int .i64 R,.slice va vn vc,.pointer none,.slice none 0 0,.slice none 0 0,.bool true]) (belowAlloc _ (.cells #[.int .i64 K,.int .i64 R,.slice va vn vc,.pointer none,.slice none 0 0,.slice none 0 0,.bool true] 219))
  (by
    have:=World.ownsRow_lit (base:=w.heap.size) (e:=219) (size:=7) (w.alloc (.cells #[.int .i64 K,.int .i64 R,.slice va vn vc] 124)) #[.int .i64 K,.int .i64 R,.slice va vn vc,.pointer none,.slice none 0 0,.slice none 0 0,.bool true] 1 (by simp) (by decide) rfl
    unfold Row.own
    simpa using this) (fun k hk=>by cases hk; simp)
 obtain ⟨w1,hw1⟩:∃ W:World,((w.alloc (.cells #[.int .i64 K,.int .i64 R,.slice va vn vc] 124)).alloc (.cells #[.int .i64 K,.int .i64 R,.slice va vn vc,.pointer none,.slice none 0 0,.slice none 0 0,.bool true] 219))=W:=⟨_,rfl⟩
 rw [hw1] at hR b1
 have hall:=all_any (stop:=true) r hg h b1 hR (upd_same _ _ _) hok hl hn h1 hn4
 obtain ⟨RES,hRES⟩:∃ X,wkAll true K n T=X:=⟨_,rfl⟩
 rw [hRES] at hall ⊢
 obtain ⟨⟨z0,z1,z2⟩,-,-,-⟩:=q
 have hg0:=Hd hg
 have hG0:=Hd hG
 replace hRES:=Hd hRES
 replace hw1:=Hd hw1
 clear hR hok hl hn h1 hn4 hne hsub hT h hk1 hg hG b0
 go_enter Tryz.func65,Tryz.ntmps65
 go_wp2_with fail
 rw [hw1.out]
 refine hall.mono ?_
 clear hall z0 z1 z2
 cases RES with
 | on a ws x =>
  rintro e w2 ⟨rfl,b2,-⟩
  have b12:=b1.trans b2
  have b3:=Below.step b12 (belowAlloc w2 (.cells #[.pointer none] 220))
  go_wp2_with fail
  refine (Fnd.as_nil _ _).mono ?_
  rintro e w3 ⟨rfl,rfl⟩
  go_wp2
  go_ret3
  exact ⟨_,_,_,rfl,b3,rfl,rfl,rfl⟩
 | orphan wd =>
  rintro e w2 ⟨p,rfl,b2,hfd⟩
  obtain ⟨pp,fa,fn,fc,e1,f2,f3,f4⟩:=hfd
  injection e1 with _ e1
  injection e1 with e1
  injection e1 with e1
  subst e1
  have b12:=b1.trans b2
  have bl:=belowAlloc w2 (.cells #[.pointer none] 220)
  have b3:=Below.step b12 bl
  have hit:=Fnd.as_any ⟨pp,0,none⟩ ⟨w2.heap.size,0,none⟩ (.pointer none) (w2.alloc (.cells #[.pointer none] 220)) (hG0.out.below b3) (by simp [go_sem]) (by simp [go_sem])
  have ct:(w2.alloc (.cells #[.pointer none] 220)).cell? ⟨w2.heap.size,0,none⟩=some (.pointer none):=by simp [go_sem]
  replace f3:=Hd f3
  replace f2:=Hd f2
  go_wp2_with fail
  refine hit.mono ?_
  rintro e w4 ⟨rfl,w3,b4,rfl⟩
  have b14:=(Below.stepL bl b4).setCell (p:=⟨w2.heap.size,0,none⟩) (Nat.le_refl _) (.pointer (some ⟨pp,0,none⟩))
  have ct2:=World.cell?_setCell_same w3 ⟨w2.heap.size,0,none⟩ (.pointer (some ⟨pp,0,none⟩)) (cell_keep b4 ct)
  have cf:=cell_keep b14 f2.out
  have ho:=f3.out.below b14
  have bfin:=Below.step b12 b14
  obtain ⟨W,hW⟩:∃ W:World,w3.setCell ⟨w2.heap.size,0,none⟩ (.pointer (some ⟨pp,0,none⟩))=W:=⟨_,rfl⟩
  rw [hW] at ct2 cf ho bfin
  replace ho:=Hd ho
  replace hW:=Hd hW
  clear ct hit b14 b4
  go_upto_region 5 with fail
  rw [hW.out]
  refine wp_region_plan (fun w'=>w'.cell? ⟨w2.heap.size,0,none⟩=some (.pointer (some ⟨pp,0,none⟩))∧w'.cell? ⟨pp,0,none⟩=some (.slice fa fn fc)) 6 [(0,true),(1,true),(2,true),(3,true),(4,true),(5,true)] (by kernel_rfl) (by kernel_rfl) ?_
  have hS:(W.drew).cell? ⟨w2.heap.size,0,none⟩=some (.pointer (some ⟨pp,0,none⟩))∧(W.drew).cell? ⟨pp,0,none⟩=some (.slice fa fn fc):=⟨ct2,cf⟩
  refine pqY 16 hS ?_
  refine pqY 17 hS ?_
  refine pqY 18 hS ?_
  refine pqY 19 hS ?_
  refine pqY 2 hS ?_
  refine pqY 3 hS ?_
  refine head0 ?_
  simp only [List.drop_succ_cons,List.drop_zero]
  go_wp2
  refine NoPanic.normal ?_
  go_wp2
  go_ret3
  exact ⟨_,_,_,rfl,bfin.drew,rfl,rfl,ho.out.drew⟩
 | big =>
  rintro e w2 ⟨p,rfl,b2,he⟩
  have b12:=b1.trans b2
  have bl:=belowAlloc w2 (.cells #[.pointer none] 220)
  have b3:=Below.step b12 bl
  have miss:=Fnd.as_miss r 4 [(sBag,0)] (.iface 47 (.pointer (some p))) ⟨w2.heap.size,0,none⟩ (w2.alloc (.cells #[.pointer none] 220)) (he.below bl) (hG0.out.below b3)
  replace he:=Hd he
  go_wp2_with fail
  refine miss.mono ?_
  rintro e w4 ⟨rfl,b4⟩
  have b24:=Below.step bl b4
  have b14:=Below.step b12 b24
  have told:=told_bag r (.iface 47 (.pointer (some p))) w4 (hg0.out.below b14) (hG0.out.below b14) (he.out.below b24)
  clear miss
  go_wp2_with fail
  refine told.mono ?_
  rintro e w5 ⟨x,rfl,b5,he5⟩
  have bfin:=Below.step b14 b5
  obtain ⟨T5,p5,rfl⟩:=he5.some_shape
  replace he5:=Hd he5
  go_wp2
  go_ret3
  exact ⟨_,_,_,rfl,bfin,rfl,rfl,he5.out⟩
end Go.Proofs.YtindfaehjoileaaGreatDoor
namespace Go.Proofs.YtindfaehjoileaaGreatDoor
structure MIn (N:Nat) (adj:Nat→List Nat) (D:Nat→Nat) (q:List Nat) (i v:Nat) (pre:List Nat):Prop where
 at_:q[i]?=some v
 nodup:q.Nodup
 low:∀ x∈q,x<N*N
 diag:∀ x,x<N*N→Diag N x→x∈q∧D x=0
 old:∀ x,x<N*N→¬ Diag N x→(x∈q↔0<D x)
 mono:∀ (j k x y:Nat),j≤k→q[j]?=some x→q[k]?=some y→D x≤D y
 top:∀ x∈q,D x≤D v+1
 bnd:∀ x∈q,D x≤q.length
 done:∀ (k x:Nat),k<i→q[k]?=some x→∀ t∈adj x,(¬ Diag N t→t∈q∧D t≤D x+1)∧(Diag N t→Diag N x)
 now:∀ t∈pre,(¬ Diag N t→t∈q∧D t≤D v+1)∧(Diag N t→Diag N v)
structure MOut (N:Nat) (adj:Nat→List Nat) (D:Nat→Nat) (q:List Nat) (i:Nat):Prop where
 nodup:q.Nodup
 low:∀ x∈q,x<N*N
 diag:∀ x,x<N*N→Diag N x→x∈q∧D x=0
 old:∀ x,x<N*N→¬ Diag N x→(x∈q↔0<D x)
 mono:∀ (j k x y:Nat),j≤k→q[j]?=some x→q[k]?=some y→D x≤D y
 top:∀ v:Nat,q[i]?=some v→∀ x∈q,D x≤D v+1
 bnd:∀ x∈q,D x≤q.length
 done:∀ (k x:Nat),k<i→q[k]?=some x→∀ t∈adj x,(¬ Diag N t→t∈q∧D t≤D x+1)∧(Diag N t→Diag N x)
section
variable {N:Nat} {adj:Nat→List Nat} {D:Nat→Nat} {q:List Nat} {i v:Nat} {pre:List Nat}
def diags (N:Nat):List Nat:=(List.range N).map fun u=>u*N+u
theorem mem_diags {N x:Nat}:x∈diags N↔∃ u,u<N∧x=u*N+u:=by
 unfold diags; rw [List.mem_map]
 constructor
 ·rintro ⟨u,h,rfl⟩; exact ⟨u,List.mem_range.1 h,rfl⟩
 ·rintro ⟨u,h,rfl⟩; exact ⟨u,List.mem_range.2 h,rfl⟩
theorem MOut.init (N:Nat) (adj:Nat→List Nat):MOut N adj (fun _=>0) (diags N) 0:=by
 refine ⟨?_,fun x hx=>?_,fun x hx hd=>⟨mem_diags.2 ⟨x/N,div_lt_of hx,hd.eq⟩,rfl⟩,fun x hx hd=>⟨fun h=>?_,fun h=>absurd h (by simp)⟩,fun _ _ _ _ _ _ _=>Nat.le_refl _,fun _ _ _ _=>by simp,fun _ _=>Nat.zero_le _,fun k x hk=>by omega⟩
 ·unfold diags
  rw [List.nodup_iff_pairwise_ne,List.pairwise_map]
  refine List.pairwise_lt_range.imp_of_mem fun {a b} ha hb h e=>?_
  have hb:=List.mem_range.1 hb
  have:=Nat.mul_le_mul_right N (show a+1≤b by omega)
  rw [Nat.add_mul] at this
  omega
 ·obtain ⟨u,hu,rfl⟩:=mem_diags.1 hx
  exact pair_lt hu hu
 ·obtain ⟨u,hu,rfl⟩:=mem_diags.1 h
  exact absurd (diag_mk hu) hd
theorem MOut.enter (h:MOut N adj D q i) (hv:q[i]?=some v):MIn N adj D q i v [] :=
 ⟨hv,h.nodup,h.low,h.diag,h.old,h.mono,h.top v hv,h.bnd,h.done,fun _ ht=>by cases ht⟩
theorem MIn.leave (h:MIn N adj D q i v pre) (hp:pre=adj v):MOut N adj D q (i+1):=by
 subst hp
 refine ⟨h.nodup,h.low,h.diag,h.old,h.mono,fun y hy x hx=>?_,h.bnd,fun k x hk hx=>?_⟩
 ·have:=h.mono i (i+1) v y (by omega) h.at_ hy
  have:=h.top x hx
  omega
 ·by_cases e:k=i
  ·subst e
   rw [h.at_] at hx; cases hx
   exact h.now
  ·exact h.done k x (by omega) hx
theorem MIn.skip (h:MIn N adj D q i v pre) {t:Nat} (ht:(Diag N t∧Diag N v)∨(¬ Diag N t∧t∈q)):MIn N adj D q i v (pre++[t]):=by
 refine ⟨h.at_,h.nodup,h.low,h.diag,h.old,h.mono,h.top,h.bnd,h.done,fun s hs=>?_⟩
 rcases List.mem_append.1 hs with hs | hs
 ·exact h.now s hs
 ·cases List.mem_singleton.1 hs
  rcases ht with ⟨h1,h2⟩ | ⟨h1,h2⟩
  ·exact ⟨fun q=>absurd h1 q,fun _=>h2⟩
  ·exact ⟨fun _=>⟨h2,h.top _ h2⟩,fun q=>absurd q h1⟩
theorem MIn.add (h:MIn N adj D q i v pre) {t:Nat} (htl:t<N*N) (ht:¬ Diag N t) (hq:t∉q):MIn N adj (updN D t (D v+1)) (q++[t]) i v (pre++[t]):=by
 have hi:i<q.length:=(List.getElem?_eq_some_iff.1 h.at_).1
 have hvq:v∈q:=List.mem_of_getElem? h.at_
 have hvt:v≠t:=fun e=>hq (by rw [← e]; exact hvq)
 have hD:∀ x,x∈q→updN D t (D v+1) x=D x:=fun x hx=>updN_other _ _ _ (fun e=>hq (by rw [← e]; exact hx))
 have hget:∀ k x,(q++[t])[k]?=some x→(q[k]?=some x∧k<q.length)∨(k=q.length∧x=t):=fun k x hx=>by
  rw [List.getElem?_append] at hx
  split at hx
  ·exact .inl ⟨hx,by assumption⟩
  ·right
   cases hk:k-q.length with
   | zero=>rw [hk] at hx; simp at hx; exact ⟨by omega,hx.symm⟩
   | succ n=>rw [hk] at hx; simp at hx
 refine ⟨by rw [List.getElem?_append_left hi]; exact h.at_,List.nodup_append.2 ⟨h.nodup,by simp,fun a ha b hb e=>by cases List.mem_singleton.1 hb; subst e; exact hq ha⟩,fun x hx=>?_,fun x hx hd=>?_,fun x hx hd=>?_,fun j k x y hjk hx hy=>?_,fun x hx=>?_,fun x hx=>?_,fun k x hk hx s hs=>?_,fun s hs=>?_⟩
 ·rcases List.mem_append.1 hx with hx | hx
  ·exact h.low x hx
  ·cases List.mem_singleton.1 hx; exact htl
 ·obtain ⟨h1,h2⟩:=h.diag x hx hd
  exact ⟨List.mem_append_left _ h1,by rw [hD x h1]; exact h2⟩
 ·by_cases e:x=t
  ·subst e; rw [updN_same]; simp
  ·rw [updN_other _ _ _ e,← h.old x hx hd]; simp [e]
 ·rcases hget j x hx with ⟨a1,_⟩ | ⟨a1,rfl⟩
  ·rw [hD x (List.mem_of_getElem? a1)]
   rcases hget k y hy with ⟨b1,_⟩ | ⟨b1,rfl⟩
   ·rw [hD y (List.mem_of_getElem? b1)]; exact h.mono j k x y hjk a1 b1
   ·rw [updN_same]; exact h.top x (List.mem_of_getElem? a1)
  ·rcases hget k y hy with ⟨b1,b2⟩ | ⟨b1,rfl⟩
   ·omega
   ·exact Nat.le_refl _
 ·rw [updN_other D t (D v+1) hvt]
  rcases List.mem_append.1 hx with hx | hx
  ·rw [hD x hx]; exact h.top x hx
  ·cases List.mem_singleton.1 hx; rw [updN_same]; exact Nat.le_refl _
 ·rw [List.length_append,List.length_singleton]
  rcases List.mem_append.1 hx with hx | hx
  ·rw [hD x hx]; have:=h.bnd x hx; omega
  ·cases List.mem_singleton.1 hx; rw [updN_same]; have:=h.bnd v hvq; omega
 ·rcases hget k x hx with ⟨a1,_⟩ | ⟨a1,rfl⟩
  ·rw [hD x (List.mem_of_getElem? a1)]
   obtain ⟨c1,c2⟩:=h.done k x hk a1 s hs
   exact ⟨fun q'=>by
    obtain ⟨d1,d2⟩:=c1 q'
    exact ⟨List.mem_append_left _ d1,by rw [hD s d1]; exact d2⟩,c2⟩
  ·omega
 ·rw [updN_other D t (D v+1) hvt]
  rcases List.mem_append.1 hs with hs | hs
  ·obtain ⟨c1,c2⟩:=h.now s hs
   exact ⟨fun q'=>by
    obtain ⟨d1,d2⟩:=c1 q'
    exact ⟨List.mem_append_left _ d1,by rw [hD s d1]; exact d2⟩,c2⟩
  ·cases List.mem_singleton.1 hs
   exact ⟨fun _=>⟨List.mem_append_right _ (by simp),by rw [updN_same]; exact Nat.le_refl _⟩,fun q'=>absurd q' ht⟩
theorem MOut.along (h:MOut N adj D q i) {u:List Nat} (hu:ApartWay N adj u):∀ j,j+1<u.length →
 (∃ k,k≤j∧u.getD k 0∈q∧D (u.getD k 0)≤k∧∀ m,m<i→q[m]?≠some (u.getD k 0))∨(u.getD j 0∈q∧D (u.getD j 0)≤j∧∃ m,m<i∧q[m]?=some (u.getD j 0))
 | 0,h1=>by
  obtain ⟨a,b⟩:=h.diag _ (hu.low 0 (by omega)) hu.fst
  by_cases q':∃ m,m<i∧q[m]?=some (u.getD 0 0)
  ·exact .inr ⟨a,by omega,q'⟩
  ·exact .inl ⟨0,Nat.le_refl _,a,by omega,fun m hm e=>q' ⟨m,hm,e⟩⟩
 | j+1,h1=>by
  rcases h.along hu j (by omega) with ⟨k,k1,k2,k3,k4⟩ | ⟨_,a2,m,m1,m2⟩
  ·exact .inl ⟨k,by omega,k2,k3,k4⟩
  ·obtain ⟨c1,_⟩:=h.done m _ m1 m2 _ (hu.arr j (by omega))
   obtain ⟨d1,d2⟩:=c1 (hu.inn (j+1) (by omega) h1)
   by_cases q':∃ m,m<i∧q[m]?=some (u.getD (j+1) 0)
   ·exact .inr ⟨d1,by omega,q'⟩
   ·exact .inl ⟨j+1,Nat.le_refl _,d1,by omega,fun m hm e=>q' ⟨m,hm,e⟩⟩
theorem MOut.none (h:MOut N adj D q i) (hi:q.length≤i) (u:List Nat):¬ ApartWay N adj u:=fun hu=>by
 have h3:=hu.len
 rcases h.along hu (u.length-2) (by omega) with ⟨k,_,k2,_,k4⟩ | ⟨_,_,m,m1,m2⟩
 ·obtain ⟨m,hm⟩:=List.mem_iff_getElem?.1 k2
  have:=(List.getElem?_eq_some_iff.1 hm).1
  exact k4 m (by omega) hm
 ·obtain ⟨_,c2⟩:=h.done m _ m1 m2 _ (hu.arr (u.length-2) (by omega))
  refine hu.inn (u.length-2) (by omega) (by omega) (c2 ?_)
  rw [show u.length-2+1=u.length-1 by omega]
  exact hu.lst
theorem MIn.best (h:MIn N adj D q i v pre) {u:List Nat} (hu:ApartWay N adj u):D v+3≤u.length+1:=by
 have h3:=hu.len
 have ho:MOut N adj D q i:=⟨h.nodup,h.low,h.diag,h.old,h.mono,fun y hy=>by rw [h.at_] at hy; cases hy; exact h.top,h.bnd,h.done⟩
 rcases ho.along hu (u.length-2) (by omega) with ⟨k,k1,k2,k3,k4⟩ | ⟨_,_,m,m1,m2⟩
 ·obtain ⟨m,hm⟩:=List.mem_iff_getElem?.1 k2
  have hmi:i≤m:=Nat.le_of_not_lt fun q'=>k4 m q' hm
  have:=h.mono i m v _ hmi h.at_ hm
  omega
 ·obtain ⟨_,c2⟩:=h.done m _ m1 m2 _ (hu.arr (u.length-2) (by omega))
  refine absurd (c2 ?_) (hu.inn (u.length-2) (by omega) (by omega))
  rw [show u.length-2+1=u.length-1 by omega]
  exact hu.lst
def CameOf (N:Nat) (adj:Nat→List Nat) (D:Nat→Nat) (q:List Nat) (came:Nat→Int):Prop :=
 (∀ x,x<N*N→((came x<0↔Diag N x∨x∉q)∧(came x<0→came x=-1)))∧∀ x,x<N*N→0≤came x→∃ p:Nat,came x=p∧p∈q∧x∈adj p∧D x=D p+1
theorem CameOf.init (N:Nat) (adj:Nat→List Nat):CameOf N adj (fun _=>0) (diags N) (fun _=>-1):=by
 refine ⟨fun x hx=>⟨⟨fun _=>?_,fun _=>(by show (-1:Int)<0; decide)⟩,fun _=>rfl⟩,fun x _ h=>by simp at h⟩
 by_cases hd:Diag N x
 ·exact .inl hd
 ·right
  intro hm
  obtain ⟨u,hu,rfl⟩:=mem_diags.1 hm
  exact hd (diag_mk hu)
theorem CameOf.add (h:MIn N adj D q i v pre) {came:Nat→Int} (hc:CameOf N adj D q came) {t:Nat} (ht:¬ Diag N t) (hq:t∉q) (ha:t∈adj v):CameOf N adj (updN D t (D v+1)) (q++[t]) (updN came t (v:Int)):=by
 have hvq:v∈q:=List.mem_of_getElem? h.at_
 have hvt:v≠t:=fun e=>hq (by rw [← e]; exact hvq)
 refine ⟨fun x hx=>?_,fun x hx h0=>?_⟩
 ·by_cases e:x=t
  ·subst e; rw [updN_same]
   exact ⟨⟨fun q'=>by omega,fun q'=>by rcases q' with q' | q'; exact absurd q' ht; exact absurd (List.mem_append_right _ (by simp)) q'⟩,fun q'=>by omega⟩
  ·rw [updN_other _ _ _ e]
   obtain ⟨a,b⟩:=hc.1 x hx
   refine ⟨?_,b⟩
   rw [a]; simp [e]
 ·by_cases e:x=t
  ·subst e
   refine ⟨v,updN_same ..,List.mem_append_left _ hvq,ha,?_⟩
   rw [updN_same,updN_other _ _ _ hvt]
  ·rw [updN_other _ _ _ e] at h0 ⊢
   obtain ⟨p,p1,p2,p3,p4⟩:=hc.2 x hx h0
   refine ⟨p,p1,List.mem_append_left _ p2,p3,?_⟩
   rw [updN_other _ _ _ e,updN_other _ _ _ (fun e'=>hq (by rw [← e']; exact p2))]
   exact p4
inductive BackWay (N:Nat) (adj:Nat→List Nat) (came:Nat→Int):Nat→List Nat→Prop
 | stop (x:Nat) (h:came x=-1) (hd:Diag N x):BackWay N adj came x [x]
 | step (x p:Nat) (c:List Nat) (h:came x=p) (hd:¬ Diag N x) (ha:x∈adj p) (hp:p<N*N) (hc:BackWay N adj came p c):BackWay N adj came x (x::c)
theorem CameOf.back {came:Nat→Int} (hq:∀ x∈q,x<N*N) (h0:∀ x∈q,¬ Diag N x→0<D x) (hc:CameOf N adj D q came):∀ n x,D x=n→x∈q→∃ c,BackWay N adj came x c∧c.length≤n+1
 | n,x,hn,hx=>by
  obtain ⟨a,b⟩:=hc.1 x (hq x hx)
  by_cases hd:Diag N x
  ·exact ⟨[x],.stop x (b (a.2 (.inl hd))) hd,by simp⟩
  ·have h1:0≤came x:=by
    apply Classical.byContradiction
    intro q'
    rcases a.1 (by omega) with q' | q'
    ·exact hd q'
    ·exact q' hx
   obtain ⟨p,p1,p2,p3,p4⟩:=hc.2 x (hq x hx) h1
   obtain ⟨c,c1,c2⟩:=CameOf.back hq h0 hc (n-1) p (by omega) p2
   exact ⟨x::c,.step x p c p1 hd p3 (hq p p2) c1,by simp; omega⟩
termination_by n=>n
decreasing_by all_goals (have:=h0 x hx hd; omega)
theorem BackWay.ne {came:Nat→Int} {x:Nat} {c:List Nat} (h:BackWay N adj came x c):∃ c',c=x::c':=by cases h<;>exact ⟨_,rfl⟩
theorem BackWay.next {came:Nat→Int} {x:Nat} {c:List Nat} (h:BackWay N adj came x c) (hx:x<N*N):∀ k y,c[k]?=some y→y<N*N∧((k+1<c.length∧∃ z,c[k+1]?=some z∧came y=z)∨(k+1=c.length∧came y=-1)):=by
 induction h with
 | stop x h hd =>
  intro k y hy
  cases k with
  | zero=>simp at hy; subst hy; exact ⟨hx,.inr ⟨rfl,h⟩⟩
  | succ k=>simp at hy
 | step x p c hcm hnd ha hp hc ih =>
  intro k y hy
  obtain ⟨c',rfl⟩:=hc.ne
  cases k with
  | zero=>simp at hy; subst hy; exact ⟨hx,.inl ⟨by simp,p,rfl,hcm⟩⟩
  | succ k =>
   have hy:(p::c')[k]?=some y:=by simpa using hy
   obtain ⟨h1,h2⟩:=ih hp k y hy
   refine ⟨h1,h2.imp ?_ ?_⟩
   ·rintro ⟨a,z,b,d⟩; exact ⟨by simpa using a,z,by simpa using b,d⟩
   ·rintro ⟨a,b⟩; exact ⟨by simpa using a,b⟩
theorem BackWay.way {came:Nat→Int} {x:Nat} {c:List Nat} (h:BackWay N adj came x c) (hx:x<N*N) :
 (∀ i,i<c.length→c.reverse.getD i 0<N*N)∧(∀ i,i+1<c.length→c.reverse.getD (i+1) 0∈adj (c.reverse.getD i 0))∧Diag N (c.reverse.getD 0 0)∧(∀ i,0<i→i<c.length→¬ Diag N (c.reverse.getD i 0))∧c.reverse.getD (c.length-1) 0=x∧0<c.length:=by
 induction h with
 | stop x _ hd=>exact ⟨fun i hi=>by simp at hi; subst hi; simpa using hx,fun i hi=>by simp at hi,by simpa using hd,fun i h1 h2=>by simp at h2; omega,by simp,by simp⟩
 | step x p c hcm hnd ha hp hc ih =>
  obtain ⟨i1,i2,i3,i4,i5,i6⟩:=ih hp
  have g1:∀ i,i<c.length→(x::c).reverse.getD i 0=c.reverse.getD i 0:=fun i hi=>by
   rw [List.reverse_cons,List.getD_eq_getElem?_getD,List.getElem?_append_left (by simpa using hi)]; rfl
  have g2:(x::c).reverse.getD c.length 0=x:=by
   rw [List.reverse_cons,List.getD_eq_getElem?_getD,List.getElem?_append_right (by simp)]; simp
  refine ⟨fun i hi=>?_,fun i hi=>?_,?_,fun i h1 h2=>?_,?_,by simp⟩
  ·by_cases e:i<c.length
   ·rw [g1 i e]; exact i1 i e
   ·obtain rfl:i=c.length:=by simp at hi; omega
    rw [g2]; exact hx
  ·have hi:i+1<c.length+1:=by simpa using hi
   rw [g1 i (by omega)]
   by_cases e:i+1<c.length
   ·rw [g1 _ e]; exact i2 i e
   ·obtain rfl:i=c.length-1:=by omega
    rw [i5,show c.length-1+1=c.length by omega,g2]; exact ha
  ·rw [g1 0 i6]; exact i3
  ·by_cases e:i<c.length
   ·rw [g1 i e]; exact i4 i h1 e
   ·obtain rfl:i=c.length:=by simp at h2; omega
    rw [g2]; exact hnd
  ·rw [List.length_cons,Nat.add_sub_cancel,g2]
theorem MIn.met (h:MIn N adj D q i v pre) {came:Nat→Int} (hc:CameOf N adj D q came) {t:Nat} (hv:¬ Diag N v) (ht:Diag N t) (htl:t<N*N) (ha:t∈adj v) :
 ∃ c,BackWay N adj came v c∧ApartWay N adj (c.reverse++[t])∧(c.reverse++[t]).length=D v+2∧∀ u,ApartWay N adj u→(c.reverse++[t]).length≤u.length:=by
 have hvq:v∈q:=List.mem_of_getElem? h.at_
 obtain ⟨c,hb,hl⟩:=hc.back h.low (fun x hx hd=>(h.old x (h.low x hx) hd).1 hx) (D v) v rfl hvq
 obtain ⟨w1,w2,w3,w4,w5,w6⟩:=hb.way (h.low v hvq)
 have h2:2≤c.length:=by
  obtain ⟨c',rfl⟩:=hb.ne
  cases hb with
  | stop _ _ hd=>exact absurd hd hv
  | step _ p _ _ _ _ _ hc'=>obtain ⟨_,rfl⟩:=hc'.ne; simp
 have g1:∀ i,i<c.length→(c.reverse++[t]).getD i 0=c.reverse.getD i 0:=fun i hi=>by
  rw [List.getD_eq_getElem?_getD,List.getElem?_append_left (by simpa using hi)]; rfl
 have g2:(c.reverse++[t]).getD c.length 0=t:=by
  rw [List.getD_eq_getElem?_getD,List.getElem?_append_right (by simp)]; simp
 have hL:(c.reverse++[t]).length=c.length+1:=by simp
 have hw:ApartWay N adj (c.reverse++[t]):=by
  refine ⟨by omega,fun i hi=>?_,fun i hi=>?_,?_,?_,fun i h1 h2=>?_⟩
  ·by_cases e:i<c.length
   ·rw [g1 i e]; exact w1 i e
   ·obtain rfl:i=c.length:=by omega
    rw [g2]; exact htl
  ·rw [g1 i (by omega)]
   by_cases e:i+1<c.length
   ·rw [g1 _ e]; exact w2 i e
   ·obtain rfl:i=c.length-1:=by omega
    rw [w5,show c.length-1+1=c.length by omega,g2]; exact ha
  ·rw [g1 0 (by omega)]; exact w3
  ·rw [hL,Nat.add_sub_cancel,g2]; exact ht
  ·rw [g1 i (by omega)]; exact w4 i h1 (by omega)
 have hmin:∀ u,ApartWay N adj u→D v+2≤u.length:=fun u hu=>by have:=h.best hu; omega
 have:=hmin _ hw
 refine ⟨c,hb,hw,by omega,fun u hu=>?_⟩
 have:=hmin u hu
 omega
end
def stepM (N v:Nat) (s:(Nat→Int)×List Nat) (t:Nat):(Nat→Int)×List Nat:=if ¬ Diag N t∧s.1 t<0 then (updN s.1 t (v:Int),s.2++[t]) else s
def rowM (N:Nat) (adj:Nat→List Nat) (v:Nat) (s:(Nat→Int)×List Nat) (k:Nat):(Nat→Int)×List Nat:=((adj v).take k).foldl (stepM N v) s
def stM (N:Nat) (adj:Nat→List Nat):Nat→(Nat→Int)×List Nat
 | 0=>(fun _=>-1,diags N)
 | j+1=>match (stM N adj j).2[j]? with
  | some v=>rowM N adj v (stM N adj j) (adj v).length
  | none=>stM N adj j
theorem rowM_succ {N:Nat} {adj:Nat→List Nat} {v k t:Nat} {s:(Nat→Int)×List Nat} (h:(adj v)[k]?=some t):rowM N adj v s (k+1)=stepM N v (rowM N adj v s k) t:=by
 unfold rowM
 rw [List.take_add_one,h,List.foldl_append]; rfl
theorem stM_succ {N:Nat} {adj:Nat→List Nat} {j v:Nat} (h:(stM N adj j).2[j]?=some v):stM N adj (j+1)=rowM N adj v (stM N adj j) (adj v).length:=by
 rw [stM,h]
def NoHit (N:Nat) (adj:Nat→List Nat) (j:Nat):Prop:=∀ v,(stM N adj j).2[j]?=some v→∀ t∈adj v,Diag N t→Diag N v
def MeetIs (N:Nat) (adj:Nat→List Nat) (ws:List Nat):Prop :=
 ∃ j v k t c,(stM N adj j).2[j]?=some v∧(adj v)[k]?=some t∧Diag N t∧¬ Diag N v∧BackWay N adj (rowM N adj v (stM N adj j) k).1 v c∧ws=c.reverse++[t]∧(∀ i,i<j→NoHit N adj i)∧∀ i x,i<k→(adj v)[i]?=some x→Diag N x→Diag N v
theorem BackWay.unique {N:Nat} {adj:Nat→List Nat} {came:Nat→Int} {x:Nat} {c:List Nat} (h:BackWay N adj came x c):∀ {d:List Nat},BackWay N adj came x d→c=d:=by
 induction h with
 | stop x h hd =>
  intro d k
  cases k with
  | stop=>rfl
  | step _ p c' h' hd' _ _ _=>exact absurd hd hd'
 | step x p c hcm hnd ha hp hc ih =>
  intro d k
  cases k with
  | stop _ _ hd=>exact absurd hd hnd
  | step _ p' c' h' _ _ _ hc' =>
   rw [hcm] at h'
   obtain rfl:p=p':=by omega
   rw [ih hc']
theorem MeetIs.unique {N:Nat} {adj:Nat→List Nat} {ws us:List Nat} (h:MeetIs N adj ws) (k:MeetIs N adj us):ws=us:=by
 obtain ⟨j,v,m,t,c,a1,a2,a3,a4,a5,rfl,a7,a8⟩:=h
 obtain ⟨j',v',m',t',c',b1,b2,b3,b4,b5,rfl,b7,b8⟩:=k
 have ej:j=j':=by
  rcases Nat.lt_trichotomy j j' with e | e | e
  ·exact absurd (b7 j e v a1 t (List.mem_of_getElem? a2) a3) a4
  ·exact e
  ·exact absurd (a7 j' e v' b1 t' (List.mem_of_getElem? b2) b3) b4
 subst ej
 rw [a1] at b1
 obtain rfl:v=v':=Option.some.inj b1
 have em:m=m':=by
  rcases Nat.lt_trichotomy m m' with e | e | e
  ·exact absurd (b8 m t e a2 a3) a4
  ·exact e
  ·exact absurd (a8 m' t' e b2 b3) b4
 subst em
 rw [a2] at b2
 obtain rfl:t=t':=Option.some.inj b2
 rw [a5.unique b5]
open Go.RowKit
set_option maxRecDepth 100000
end Go.Proofs.YtindfaehjoileaaGreatDoor
namespace Go.Proofs.YtindfaehjoileaaGreatDoor
open Go.RowKit Go.Shelf
set_option maxRecDepth 100000
def Tryz.laysRev_ren:Go.Shelf.Ren:=⟨fun | 112=>181 | n=>n,fun | 28=>30 | 3=>3 | 4=>4 | 0=>0 | n=>n,fun | n=>n⟩
theorem Tryz.laysRev:Go.Proofs.Lays.n112 Tryz.prog Tryz.laysRev_ren:={
 mixed:=by kernel_rfl
 f112:=Tryz.func181.trans (congrArg some (by kernel_rfl))
 t0:=Tryz.underlying0
 a0:=Tryz.isAgg0
 z0:=Tryz.sizeOf0
 v0:=Tryz.zeroValue0
 t3:=Tryz.underlying3
 a3:=Tryz.isAgg3
 z3:=Tryz.sizeOf3
 v3:=Tryz.zeroValue3
 t4:=Tryz.underlying4
 a4:=Tryz.isAgg4
 z4:=Tryz.sizeOf4
 v4:=Tryz.zeroValue4
 t28:=Tryz.underlying30
 a28:=Tryz.isAgg30
 z28:=Tryz.sizeOf30
 v28:=Tryz.zeroValue30 }
theorem setCells_own {B g n cap:Nat} {w0:World}:∀ (zs:List Int) (o:Nat) (xs:List Int) (w:World),xs.length=n→o+zs.length≤n→OwnI B w (.slice (some ⟨g,0,none⟩) n cap) xs→Below B w0 w →
 OwnI B (w.setCells g o (zs.map (Value.int .i64))) (.slice (some ⟨g,0,none⟩) n cap) (xs.take o++zs++xs.drop (o+zs.length))∧Below B w0 (w.setCells g o (zs.map (Value.int .i64)))
 | [],o,xs,w,_,_,h,hb=>⟨by simpa [World.setCells] using h,hb⟩
 | z::r,o,xs,w,hn,ho,h,hb=>by
  have hol:o<xs.length:=by simp at ho; omega
  have h1:=h.set o hol z
  have h2:=h.setBelow hb o hol (.int .i64 z)
  rw [valAt_row] at h1 h2
  have ih:=setCells_own r (o+1) (xs.set o z) _ (by simpa using hn) (by simp at ho; omega) h1 h2
  have e:(xs.set o z).take (o+1)++r++(xs.set o z).drop (o+1+r.length)=xs.take o++(z::r)++xs.drop (o+(z::r).length):=by
   rw [List.take_set,List.drop_set_of_lt (by omega)]
   rw [show (xs.take (o+1)).set o z=xs.take o++[z] by rw [take_snoc xs o hol,List.set_append_right _ _ (by simp; omega)]; simp [show o-min o xs.length=0 by omega]]
   simp [show o+1+r.length=o+(r.length+1) by omega]
  rw [e] at ih
  exact ih
theorem reverse_own (B:Nat) (v:Value) (xs:List Int) (w:World) (h:OwnI B w v xs) (hl:xs.length≤9223372036854775807) :
 Calls Tryz.prog 181 #[v] w fun e w'=>e=.returned (.tuple #[])∧OwnI B w' v xs.reverse∧Below B w w':=by
 rcases h.2 with ⟨rfl,hn⟩ | ⟨g,cap,cur,rfl,hb,hg,hn,hm,hs,ht⟩
 ·obtain rfl:=List.length_eq_zero_iff.1 hn
  refine Calls.mono (Any.slices_Reverse_int_empty Tryz.laysRev none 0 w) ?_
  rintro e w' ⟨rfl,rfl⟩
  exact ⟨rfl,h,Below.refl _ _⟩
 ·refine Calls.mono (Any.slices_Reverse_int_cells Tryz.laysRev g 0 xs.length cap xs w (Nat.le_refl _) hl (fun j hj=>?_) (fun j hj=>?_)) ?_
  ·have:=h.at.cellD j hj
   rw [valAt_row] at this
   simpa using this
  ·have:=h.frz j hj
   rw [valAt_row] at this
   simpa using this
  ·rintro e w' ⟨rfl,q,rfl⟩
   rw [List.take_length]
   have:=setCells_own (w0:=w) xs.reverse 0 xs (w.drewN q) rfl (by simp) (h.drewN q) (below_drewN (Below.refl _ _) q)
   simp at this
   simpa using ⟨this.1,this.2⟩
end Go.Proofs.YtindfaehjoileaaGreatDoor
namespace Go.Proofs.YtindfaehjoileaaGreatDoor
open Go.RowKit
set_option maxRecDepth 100000
end Go.Proofs.YtindfaehjoileaaGreatDoor
namespace Go.Proofs.YtindfaehjoileaaGreatDoor
open Go.RowKit Go.Shelf
attribute [local go_sem] Oper.semAt_some
set_option maxRecDepth 100000
set_option maxHeartbeats 8000000
theorem vals1_in (F:Fence) (n:Nat) (hF:F.fn 292) (hro:F.round=none) (hn:1≤n) (l Bs n0:Nat) (v:Value) (zs:List Int) (J Jx:List Int→World→Prop)
 (hY:∀ pre x W,J pre W→pre.length<zs.length→YieldAt F (n-1) Tryz.prog l #[.int .i64 x] W fun e W' =>
   (e=.returned (.bool true)∧J (pre++[x]) W'∧Below n0 W W')∨(e=.returned (.bool false)∧Jx (pre++[x]) W'))
 (W:World) (hBs:W.cell? ⟨Bs,0,none⟩=some v) (hv:IntsAt W v zs) (hb:∀ i,i<zs.length→(valAt v i).block<n0) (h0:J [] W) :
 CallsIn F n Tryz.prog 292 #[.func (.yield l) #[] #[],.pointer (some ⟨Bs,0,none⟩)] W fun e W'=>(∃ u,e=.returned u) ∧
  ((∃ ys,ys=zs∧J ys W')∨(∃ pre,pre <+: zs∧Jx pre W')):=by
 have hlen:=hv.len
 have hmax:=hv.len_le
 replace hv:=Hd hv
 refine callsIn_of_wp Tryz.func292 rfl hF ?_ hro
 simp only [Tryz.ntmps292,List.size_toArray,List.length_cons,List.length_nil,Nat.reduceAdd,Nat.reduceSub,Array.replicate_succ,Array.replicate_zero,List.push_toArray,List.append_toArray,List.nil_append,List.cons_append]
 gi_wp2
 gi_loopw [7] (fun i wr=>∃ k:Nat,k≤zs.length∧i=.int .i64 k∧J (zs.take k) wr∧Below n0 W wr)
  (fun i _=>zs.length-(intOf i).toNat)
 case atStart=>exact ⟨0,Nat.zero_le _,rfl,h0,Below.refl _ _⟩
 case round =>
  obtain ⟨k,hk,rfl,hJs,hnx⟩:=hrel
  by_cases hlt:k<zs.length
  ·have i1:=hv.out.idx k hlt
   have c1:=(hnx.cell (hb k hlt)).trans (hv.out.cell k hlt)
   have ht:=Hd (take_snoc zs k hlt)
   obtain ⟨x,hx⟩:∃ x,x=zs[k]:=⟨_,rfl⟩
   rw [← hx] at c1 ht
   clear hx
   obtain ⟨fn,tmps,assign,body,hy,hR⟩:=hY _ x wr hJs (by simp; omega)
   replace hJs:=Hd hJs
   gi_wp2
   refine hR.mono ?_
   rintro e W3 (⟨rfl,hJ3,hk3⟩ | ⟨rfl,hJx3⟩)
   ·replace hJ3:=Hd hJ3
    gi_wp2
    go_roundw
    case rel=>exact ⟨k+1,by omega,by go_num,by rw [ht.out]; exact hJ3.out,hnx.trans hk3⟩
    case measure=>simp [intOf]; omega
   ·replace hJx3:=Hd hJx3
    gi_wp2
    refine bodyPost_ret (results_none rfl _ _ _) rfl ?_
    exact ⟨⟨_,rfl⟩,.inr ⟨_,by rw [← ht.out]; exact List.take_prefix _ _,hJx3.out⟩⟩
  ·obtain rfl:k=zs.length:=by omega
   rw [List.take_length] at hJs
   replace hJs:=Hd hJs
   gi_wp2
   go_end0
   exact ⟨⟨_,rfl⟩,.inl ⟨_,rfl,hJs.out⟩⟩
theorem vals_any (a:Option Addr) (n c:Nat) (w:World) :
 Calls Tryz.prog 191 #[.slice a n c] w fun e w'=>e=.returned (.func (.func 292) #[] #[.pointer (some ⟨w.heap.size,0,none⟩)])∧w.alloc (.cells #[.slice a n c] 30)=w':=by
 go_enter Tryz.func191,Tryz.ntmps191
 go_wp2
 go_ret
 exact ⟨rfl,rfl⟩
theorem vals_stops (F:Fence) (n:Nat) (hF:F.fn 292) (hro:F.round=none) (hn:1≤n) (Bs n0:Nat) (v:Value) (zs:List Int) (w:World) (hBs:Bs<w.heap.size)
 (hc:w.cell? ⟨Bs,0,none⟩=some v) (hv:IntsAt w v zs) (hb:∀ i,i<zs.length→(valAt v i).block<n0) :
 SeqStopsK F n Tryz.prog 292 #[.pointer (some ⟨Bs,0,none⟩)] (fun x:Int=>#[Value.int .i64 x]) (Below n0) (fun ys=>ys=zs) (fun pre=>pre <+: zs) zs.length w:=fun l J Jx W hW _ _ hY h0 =>
 vals1_in F n hF hro hn l Bs n0 v zs J Jx hY W ((hW.cell (p:=⟨Bs,0,none⟩) hBs).trans hc) (hv.below hW) hb h0
theorem appendSeq_in (F:Fence) (n:Nat) (hA:F.fn 345) (hV:F.fn 292) (hro:F.round=none) (hn:3≤n) (Bs:Nat) (v:Value) (zs:List Int) (hlen:zs.length≤17592186044416) (w:World)
 (hBs:Bs<w.heap.size) (hc:w.cell? ⟨Bs,0,none⟩=some v) (hv:IntsAt w v zs) :
 CallsIn F n Tryz.prog 345 #[.slice none 0 0,.func (.func 292) #[] #[.pointer (some ⟨Bs,0,none⟩)]] w fun e w'=>∃ x,e=.returned x∧OwnI w.heap.size w' x zs∧Below w.heap.size w w':=by
 have h1:1≤n:=by omega
 obtain ⟨i0,hi,hz0,hz1,hz2⟩:=info_parts iInt
 refine callsIn_of_wp_marks Tryz.func345 rfl hA ?_ hro
 simp only [Tryz.ntmps345,List.size_toArray,List.length_cons,List.length_nil,Nat.reduceAdd,Nat.reduceSub,Array.replicate_succ,Array.replicate_zero,List.push_toArray,List.append_toArray,List.nil_append,List.cons_append]
 replace hv:=Hd hv
 gi_wp2
 have bO:=Boxed.new w 30 (.slice none 0 0)
 have hB0:Below w.heap.size w (w.alloc (.cells #[.slice none 0 0] 30)):=(Below.refl _ w).alloc (Nat.le_refl _) _
 refine wpIn_rangeFunc_ownG hro h1 (gf:=292) (lb:=#[.pointer (some ⟨Bs,0,none⟩)]) rfl hV (enters_of Tryz.func292 (by kernel_rfl) rfl)
  (vals_stops F (n-1) hV hro (by omega) Bs w.heap.size v zs _ (by simp; omega) ((hB0.cell (p:=⟨Bs,0,none⟩) hBs).trans hc) (hv.out.below hB0) (fun i hi=>hv.out.blk i hi)) belowK_t (belowK_b (by simp)) (Below.refl _ _) (fun _=>rfl)
  (fun pre W=>(∃ v,Boxed W w.heap.size 30 v∧W.ownsRow w.heap.size 3 1 v pre.length (pre.map (Value.int .i64))∧(v=.slice none 0 0↔pre=[]))∧Below w.heap.size w W)
  (fun _ _ _=>False)
  (OwnFrom.and (Own.from (holdsRow_own w.heap.size w.heap.size 30 3 1 (fun pre=>pre.length) (fun pre=>pre.map (Value.int .i64)) (fun pre v=>v=.slice none 0 0↔pre=[])) _) (ownFrom_below (Nat.le_refl _) (by simp)))
  (fun _ _ _ _ _ hs _ _=>hs)
  ⟨⟨_,bO,World.ownsRow_nil _ _ _ _,by simp⟩,hB0⟩
  (fun x=>{ tmps:=#[.slice none 0 0,.func (.func 292) #[] #[.pointer (some ⟨Bs,0,none⟩)],.pointer (some ⟨w.heap.size,0,none⟩),undef,.slice none 0 0,.int .i64 x,.func (.func 292) #[] #[.pointer (some ⟨Bs,0,none⟩)],.int .i64 x,undef,undef,undef,undef,undef],defers:=[] }) ?assign ?body ?done ?stop
 case assign =>
  intro l x W K hK
  gi_wp2
  exact hK
 case body =>
  rintro l pre x W ⟨⟨v,hv,hrow,hnil⟩,hB⟩ hlt
  have hc:=hv.cell
  gi_wp2_with (gi_at_builtin; refine wpListIn_append_own _ rfl _ _ 30 rfl w.heap.size 3 i0 (.int .i64 0) 1 8 uInts hi hz0 hz1 hz2 rfl (by decide) _ _ _ rfl (hrow.alloc _) ⟨W.heap.size,0,none⟩ 1 1 [.int .i64 x] rfl rfl (cell_one_new _ _ _) (by simp [Value.oneCell']) (by unfold maxLen; omega) (by omega) (by have:=hB.size; simp; omega) ?_; intro v' w1 hown' hgrow _; obtain ⟨g',cap',rfl⟩:=ownsRow_succ hown'; obtain ⟨hv1,hv2,hr2,hk2,hb2⟩:=hv.appended (by decide) hrow hB.size (Nat.le_refl _) hown' hgrow; have hc1:=hv1.cell; have hf1:=hv1.frozen)
  exact ⟨hk2.from _,hb2,⟨_,hv2,by simpa using hr2,by simp⟩,hB.trans hb2⟩
 case done =>
  rintro D ys W hD rfl ⟨⟨v,hv,hrow,hnil⟩,hB⟩ hK
  have hc:=hv.cell
  gi_wp2
  refine ⟨by simp,.inl ⟨_,_,rfl,run_takeDeferred hK,?_⟩⟩
  exact ⟨_,results_tmp rfl _ _ _,v,rfl,ownsRow_putObj hrow _ hK rfl,hB.trans (belowK_b (w:=w) (Nat.le_refl _) W D _ _ (by simp at hD; omega) hK rfl rfl)⟩
 case stop =>
  rintro D c pre W _ _ h _
  exact h.elim
theorem collect_any (Bs:Nat) (v:Value) (zs:List Int) (hlen:zs.length≤17592186044416) (w:World) (hBs:Bs<w.heap.size) (hc:w.cell? ⟨Bs,0,none⟩=some v) (hv:IntsAt w v zs) :
 Calls Tryz.prog 291 #[.func (.func 292) #[] #[.pointer (some ⟨Bs,0,none⟩)]] w (Ret1 (fun x w'=>OwnI w.heap.size w' x zs) w):=by
 have hA:=(callsIn_wide (n:=6)).1 (appendSeq_in Fence.wide 6 trivial trivial rfl (by omega) Bs v zs hlen w hBs hc hv)
 go_enter Tryz.func291,Tryz.ntmps291
 go_wp2_with fail
 refine hA.mono ?_
 clear hA
 rintro e w1 ⟨x,rfl,ho,hb⟩
 replace ho:=Hd ho
 go_wp2
 go_ret
 exact ⟨_,rfl,hb,ho.out⟩
end Go.Proofs.YtindfaehjoileaaGreatDoor
