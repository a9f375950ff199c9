/-
  Texts that the proof leans on.
-/
import Derived.Test.YtgjfejfeoofkhaaGreatDoorMLr6
set_option maxHeartbeats 8000000
set_option maxRecDepth 100000
namespace Go.Proofs.YtgjfejfeoofkhaaGreatDoor
open Go.RowKit
abbrev ie(T:TypeId)(g:Nat)(cs:List Value):Row:=⟨T,7,.slice (some ⟨g,0,none⟩) 1 1,1,cs⟩
structure nY (f:Names) (p:Nat) (v:Value) (vs:List Value) (xs:List (List Int)):Prop where
 out:f (p,0)=some (bY 22 v vs)
 len:vs.length=xs.length
 each:∀i,i<xs.length->f (p+1,i)=some (aD (vs.getD i .nilIface) (xs.getD i []))
theorem nY.congr{f f':Names}{p:Nat}{v:Value}{vs:List Value}{xs:List (List Int)}(h:nY f p v vs xs)(e:∀i:Nat×Nat,(i.1=p\/i.1=p+1)->f' i=f i):nY f' p v vs xs :=
 ⟨(e _ (.inl rfl)).trans h.out,h.len,λi hi=>(e _ (.inr rfl)).trans (h.each i hi)⟩
structure gD (B:Nat) (w:World) (f:Names) (g gb b K R n:Nat) (tv:Value) (stop:Bool) (sets:List (List Bool)) (words next:List (List Int)) (sv:Value) (ed:List Value) (wv:Value) (sg:List Value) (nv:Value) (kD:List Value):Prop where
 box:f (30,0)=some (ie 88 g [.int .i64 K,.int .i64 R,tv,.pointer (some ⟨gb,0,none⟩),nv,wv,.bool stop])
 HE:gB B w f gb b n sets sv ed
 words:nY f 31 wv sg words
 next:nY f 33 nv kD next
section
variable {B:Nat} {w:World} {f:Names} {g gb b K R n:Nat} {tv:Value} {stop:Bool} {sets:List (List Bool)} {words next:List (List Int)} {sv:Value} {ed:List Value} {wv:Value} {sg:List Value} {nv:Value} {kD:List Value}
theorem gD.cell(h:gD B w f g gb b K R n tv stop sets words next sv ed wv sg nv kD)(hR:Rows B w f)(k:Nat)(hk:k<7):w.cell? ⟨g,k,none⟩=[Value.int .i64 K,.int .i64 R,tv,.pointer (some ⟨gb,0,none⟩),nv,wv,.bool stop][k]? :=
 hR.cell h.box (g:=g) (cap:=1) rfl k (show k<1*7 by omega)
theorem gD.low(h:gD B w f g gb b K R n tv stop sets words next sv ed wv sg nv kD)(hR:Rows B w f):B<=g/\g<w.heap.size:=hR.lt h.box g rfl
theorem gD.below{w':World}(h:gD B w f g gb b K R n tv stop sets words next sv ed wv sg nv kD)(hb:Below w.heap.size w w'):gD B w' f g gb b K R n tv stop sets words next sv ed wv sg nv kD :=
 ⟨h.box,h.HE.below hb,h.words,h.next⟩
end
inductive PT where
 | nil
 | take (k:Nat) (t:PT)
 | one (k:Nat) (t:PT)
 | two (k:Nat) (t:PT) (j:Nat) (s:PT)
def PT.takes:List Nat->PT->PT
 | [],t=>t
 | k::l,t=>.take k (PT.takes l t)
section
variable {P:Program} {ops:Array Oper} {Q:Exit->Act->World->Prop} {md:Region.Mode} {S:World->Prop}
def jV(P:Program)(ops:Array Oper)(Q:Exit->Act->World->Prop)(S:World->Prop)(K:Act->World->Prop):PT->Act->World->Prop
 | .nil,a,w=>K a w
 | .take k t,a,w=>∃o v,ops[k]?=some o/\YieldsIf P ops S o v a/\S w/\jV P ops Q S K t (a.put o.dst v) w
 | .one k t,a,w=>wpOp P ops Q k (λa' w'=>S w'/\jV P ops Q S K t a' w') a w
 | .two k t j s,a,w=>wpOp P ops Q k (λa' w'=>S w'/\jV P ops Q S K t a' w') a w/\wpOp P ops Q j (λa' w'=>S w'/\jV P ops Q S K s a' w') a w
def PT.okB(md:Region.Mode)(ops:Array Oper)(n:Nat):PT->Nat->Array Bool->Bool
 | .nil,m,listed=>decide (m=0)&&(List.range n).all (λj=>listed.getD j true)&&Region.seqB md ops (ops.size-n) n listed
 | .take k t,m,listed=>decide (0<m)&&decide (k<n)&&(Region.ready md ops listed).contains k&&Region.free md ops listed k&&PT.okB md ops n t (m-1) (listed.setIfInBounds k true)
 | .one k t,m,listed=>decide (0<m)&&decide (k<n)&&decide (Region.ready md ops listed=[k])&&PT.okB md ops n t (m-1) (listed.setIfInBounds k true)
 | .two k t j s,m,listed=>decide (0<m)&&decide (k<n)&&decide (j<n)&&decide (Region.ready md ops listed=[k,j])&&PT.okB md ops n t (m-1) (listed.setIfInBounds k true)&&PT.okB md ops n s (m-1) (listed.setIfInBounds j true)
theorem mZ{n:Nat}{ol:List Oper}(tR:ops=ol.toArray)(vk:Region.noSelect ops=true)(hs:Region.sinkB md ops n=true)(hc:Region.chainB md ops n=true)(hn:n<ops.size)(hQ:∀c a w,Q (.panic c) a w->False):
 ∀(l:PT) (m:Nat) (listed:Array Bool) (a:Act) (w:World),HeadInv md ops n listed->l.okB md ops n m listed=true ->
  jV P ops Q S (λa' w'=>wpList P ops Q (ol.drop n) a' w') l a w->wD P md ops Q S n (m+(ops.size-n)) listed a w
 | .nil,m,listed,a,w,inv,hB,h=>by
  simp only[PT.okB,Bool.and_eq_true,decide_eq_true_eq] at hB;obtain⟨⟨rfl,OI⟩,mo⟩:=hB;have hl:∀j,j<n->listed.getD j true=true:=λj hj=>List.all_eq_true.1 OI j (List.mem_range.2 hj);rw[Nat.zero_add];refine zf _ _ _ _ hl ?_;have oQ:(ol.drop n).length=ops.size-n:=by subst tR;simp
  rw[<-oQ];refine wpAny_of_seq (ol.drop n) n listed a w (λj=>by subst tR;simp) ?_ h;rw[oQ];exact mo
 | .take k t,m,listed,a,w,inv,hB,h=>by
  simp only[PT.okB,Bool.and_eq_true,decide_eq_true_eq] at hB;obtain⟨⟨⟨⟨hm,Vd⟩,hr⟩,hf⟩,A6⟩:=hB;obtain⟨o,v,ho,hy,hS,h'⟩:=h;have Vg:k∈Region.ready md ops listed:=by simpa using hr
  rw[show m+(ops.size-n)=(m-1+(ops.size-n))+1 by omega];exact wZ ho (Region.noSelect_spec vk) hs hc hn Vd (λc a w h=>(hQ c _ w h).elim) _ listed a w inv (Region.free_spec ho hf) Vg hy hS
   (mZ tR vk hs hc hn hQ t (m-1) _ _ _ (inv.set Vg Vd) A6 h')
 | .one k t,m,listed,a,w,inv,hB,h=>by
  simp only[PT.okB,Bool.and_eq_true,decide_eq_true_eq] at hB;obtain⟨⟨⟨hm,Vd⟩,hr⟩,A6⟩:=hB;rw[show m+(ops.size-n)=(m-1+(ops.size-n))+1 by omega];refine⟨λh0=>(by rw[h0] at hr;cases hr),λi hi=>?_⟩;have C5:=hi;rw[hr] at C5;obtain rfl:i=k:=by simpa using C5
  exact wpOp_mono (λa' w' h3=>⟨λ_=>h3.1,mZ tR vk hs hc hn hQ t (m-1) _ a' w' (inv.set hi Vd) A6 h3.2⟩) h
 | .two k t j s,m,listed,a,w,inv,hB,h=>by
  simp only[PT.okB,Bool.and_eq_true,decide_eq_true_eq] at hB;obtain⟨⟨⟨⟨⟨hm,Vd⟩,Hs⟩,hr⟩,OI⟩,mo⟩:=hB;rw[show m+(ops.size-n)=(m-1+(ops.size-n))+1 by omega];refine⟨λh0=>(by rw[h0] at hr;cases hr),λi hi=>?_⟩;have C5:=hi;rw[hr] at C5;rcases (by simpa using C5:i=k\/i=j) with rfl | rfl;.exact wpOp_mono (λa' w' h3=>⟨λ_=>h3.1,mZ tR vk hs hc hn hQ t (m-1) _ a' w' (inv.set hi Vd) OI h3.2⟩) h.1
  .exact wpOp_mono (λa' w' h3=>⟨λ_=>h3.1,mZ tR vk hs hc hn hQ s (m-1) _ a' w' (inv.set hi Hs) mo h3.2⟩) h.2
def ZD(md:Region.Mode)(ops:Array Oper)(n:Nat)(t:PT):Bool :=
 Region.noSelect ops&&decide (n<ops.size)&&Region.sinkB md ops n&&Region.chainB md ops n&&t.okB md ops n n (Array.replicate ops.size false)
theorem CB{id:Nat}{a:Act}{w:World}{l:List Oper}(S:World->Prop)(n:Nat)(t:PT)(hm:P.follows .mixedOrders=true)(hB:ZD .any l.toArray n t=true)(h:jV P l.toArray (NoPanic Q) S (λa' w'=>wpList P l.toArray (NoPanic Q) (l.drop n) a' w') t a w.drew):(Code.region id l.toArray true).wp P Q a w:=by
 simp only[ZD,Bool.and_eq_true,decide_eq_true_eq] at hB;obtain⟨⟨⟨⟨vk,hn⟩,hs⟩,hc⟩,hp⟩:=hB;refine wp_region_noPanic ?_;refine wp_region_any hm ?_;have inv0:HeadInv .any l.toArray n (Array.replicate l.toArray.size false) :=
  ⟨by simp,λj oj _ hl=>(by rw[getD_replicate_false] at hl;cases hl),λt _ ht=>getD_in (by simpa using ht) (getD_replicate_false _ _)⟩;have:=mZ (md:=.any) (Q:=NoPanic Q) (S:=S) rfl vk hs hc hn (λ_ _ _ h=>h) t n _ a _ inv0 hp h;rw[show n+(l.toArray.size-n)=l.toArray.size by omega] at this;exact vO _ _ _ _ this
end
section
variable {P:Program} {ops:Array Oper} {Q:Exit->Act->World->Prop} {S:World->Prop}
theorem Ou{K:Act->World->Prop}{k:Nat}{o:Oper}{v:Value}{l:PT}{a a':Act}{w:World}(d:Tmp)(hS:S w)(h:jV P ops Q S K l a' w)(ho:ops[k]?=some o:=by exact rfl)(hd:o.dst=some d:=by exact rfl)(hw:Region.wanted o (yielded ops a.tmps)=true:=by rfl)(hy:∀W,S W->(execOp a.eval o).run P W=.ok (.value v) W:=by intro W' hs;(try subst hs);go_simp;(try with_reducible rfl))(ha:a.put (some d) v=a':=by simp only[pq];exact rfl):
 jV P ops Q S K (.take k l) a w:=by
 subst ha;refine⟨o,v,ho,.inl ⟨hw,hy⟩,hS,?_⟩;rw[hd];exact h
theorem trOp{K:Act->World->Prop}{k:Nat}{o:Oper}{l:PT}{a:Act}{w:World}(ho:ops[k]?=some o)(h:∀K':Act->World->Prop,(∀a w,S w->jV P ops Q S K l a w->K' a w)->if Region.wanted o (yielded ops a.tmps)=true then Oper.wp P o a w K' Q else K' (a.put o.dst undef) w):
 wpOp P ops Q k (λa' w'=>S w'/\jV P ops Q S K l a' w') a w:=by
 unfold wpOp;simp only[ho];have:=h (λa' w'=>S w'/\jV P ops Q S K l a' w') (λa w h1 h2=>⟨h1,h2⟩);split;.rename_i hw;rw[if_pos hw] at this;exact .inl this
 .rename_i hw;rw[if_neg hw] at this;exact this
theorem Zy{K:Act->World->Prop}{k:Nat}{o:Oper}{l:PT}{a:Act}{w:World}(ho:ops[k]?=some o)(h:∀K':Act->World->Prop,(∀a w,S w->jV P ops Q S K l a w->K' a w)->if Region.wanted o (yielded ops a.tmps)=true then Oper.wp P o a w K' Q else K' (a.put o.dst undef) w):
 jV P ops Q S K (.one k l) a w:=trOp ho h
theorem tr2{K:Act->World->Prop}{k j:Nat}{l s:PT}{a:Act}{w:World}(h1:wpOp P ops Q k (λa' w'=>S w'/\jV P ops Q S K l a' w') a w)(h2:wpOp P ops Q j (λa' w'=>S w'/\jV P ops Q S K s a' w') a w):
 jV P ops Q S K (.two k l j s) a w:=⟨h1,h2⟩
theorem tr0{K:Act->World->Prop}{a:Act}{w:World}(h:K a w):jV P ops Q S K .nil a w:=h
end
def nP(X:List (List Int))(i s:Nat):Int:=(X.getD i []).getD s 0
def S6(X:List (List Int))(q s:Int):Int:=if q<0 then -1 else nP X q.toNat s.toNat
def Kl(X:List (List Int))(w:List Int):Int:=w.foldl (S6 X) 0
theorem U0(X:List (List Int)):Kl X []=0:=rfl
theorem O5(X:List (List Int))(w:List Int)(s:Int):Kl X (w++[s])=S6 X (Kl X w) s:=by simp[Kl]
structure K0 (K N:Nat) (X:List (List Int)):Prop where
 n1:0<N
 len:X.length=N
 row:∀i,i<N->(X.getD i []).length=K
 lo:∀i s,i<N->s<K->-1<=nP X i s
 hi:∀i s,i<N->s<K->nP X i s<N
theorem K0.run{K N:Nat}{X:List (List Int)}(h:K0 K N X)(w:List Int):bj K w->-1<=Kl X w/\Kl X w<N:=by
 have n1:=h.n1;refine Pm (P:=λw=>bj K w->-1<=Kl X w/\Kl X w<N) (λ_=>by rw[U0];omega) (λy s ih sy=>?_) w;obtain⟨sy,s0,s1⟩:=MA.1 sy;rw[O5];unfold S6;split;.omega
 .have:=ih sy;exact⟨h.lo _ _ (by omega) (by omega),h.hi _ _ (by omega) (by omega)⟩
structure Groups (N:Nat) (g:List Int) (n:Nat):Prop where
 len:g.length=N
 bd:∀i,i<N->0<=g.getD i 0/\g.getD i 0<n
 on:∀v,v<n->∃i,i<N/\g.getD i 0=(v:Nat)
structure Stable (K N:Nat) (X:List (List Int)) (g:List Int):Prop where
 len:g.length=N
 die:∀i j s,i<N->j<N->s<K->g.getD i 0=g.getD j 0->nP X i s<0->nP X j s<0
 go:∀i j s,i<N->j<N->s<K->g.getD i 0=g.getD j 0->0<=nP X i s->0<=nP X j s/\g.getD (nP X i s).toNat 0=g.getD (nP X j s).toNat 0
structure LeastOf (K N:Nat) (X:List (List Int)) (g:List Int) (st:List Nat) (Y:List (List Int)):Prop where
 z1:0<st.length
 z:st.getD 0 0=0
 len:Y.length=st.length
 row:∀j,j<st.length->(Y.getD j []).length=K
 low:∀j,j<st.length->st.getD j 0<N
 die:∀j s,j<st.length->s<K->nP X (st.getD j 0) s<0->nP Y j s=-1
 go:∀j s,j<st.length->s<K->0<=nP X (st.getD j 0) s->∃k,k<st.length/\nP Y j s=(k:Nat)/\g.getD (st.getD k 0) 0=g.getD (nP X (st.getD j 0) s).toNat 0
structure NH (K N:Nat) (T:List Int) (sets:List (List Bool)) (X:List (List Int)):Prop where
 z1:0<sets.length
 z:sets.getD 0 []=List.replicate N true
 len:X.length=sets.length
 row:∀j,j<sets.length->(X.getD j []).length=K
 die:∀j s,j<sets.length->s<K->(jj K N T (sets.getD j []) (s:Nat)).any id=false->nP X j s=-1
 go:∀j s,j<sets.length->s<K->(jj K N T (sets.getD j []) (s:Nat)).any id=true->∃k,k<sets.length/\nP X j s=(k:Nat)/\sets.getD k []=jj K N T (sets.getD j []) (s:Nat)
theorem NH.ok{K N:Nat}{T:List Int}{sets:List (List Bool)}{X:List (List Int)}(h:NH K N T sets X):K0 K sets.length X:=by
 refine⟨h.z1,h.len,h.row,λj s hj hs=>?_,λj s hj hs=>?_⟩;all_goals
  cases hb:(jj K N T (sets.getD j []) (s:Nat)).any id with
  | false=>rw[h.die j s hj hs hb];have:=h.z1;omega
  | true=>obtain⟨k,hk,e,_⟩:=h.go j s hj hs hb;rw[e];omega
inductive JW (α:Type) where
 | on (sets:List (List Bool)) (words:List (List Int)) (a:α)
 | dr (w:List Int)
 | nO
def eG(stop:Bool)(K N:Nat)(T:List Int)(i t:Nat)(sets:List (List Bool))(words:List (List Int)):JW Int :=
 if (jj K N T (sets.getD i []) t).any id=false then (if stop=true then .dr (words.getD i []++[(t:Int)]) else .on sets words (-1))
 else if jj K N T (sets.getD i []) t∈sets then .on sets words (sets.idxOf (jj K N T (sets.getD i []) t):Nat)
 else if sets.length=4096 then .nO
 else .on (sets++[jj K N T (sets.getD i []) t]) (words++[words.getD i []++[(t:Int)]]) (sets.length:Nat)
def nN(stop:Bool)(K N:Nat)(T:List Int)(i:Nat):Nat->Nat->List (List Bool)->List (List Int)->List Int->JW (List Int)
 | 0,_,sets,words,row=>.on sets words row
 | m+1,t,sets,words,row=>match eG stop K N T i t sets words with
  | .on a b id=>nN stop K N T i m (t+1) a b (row++[id])
  | .dr w=>.dr w
  | .nO=>.nO
def vU(stop:Bool)(K N:Nat)(T:List Int):Nat->Nat->List (List Bool)->List (List Int)->List (List Int)->JW (List (List Int))
 | 0,_,sets,words,next=>.on sets words next
 | f+1,i,sets,words,next=>if i<sets.length then match nN stop K N T i K 0 sets words [] with
  | .on a b row=>vU stop K N T f (i+1) a b (next++[row])
  | .dr w=>.dr w
  | .nO=>.nO
  else .on sets words next
def Bp(stop:Bool)(K N:Nat)(T:List Int):JW (List (List Int)):=vU stop K N T 4097 0 [List.replicate N true] [[]] []
def JW.sub{α:Type}:JW α->Cl
 | .on a b _=>.on a b
 | .dr w=>.dr w
 | .nO=>.nO
theorem K9(K N:Nat)(T:List Int)(i t:Nat)(sets:List (List Bool))(words:List (List Int)):(eG true K N T i t sets words).sub=Ge K N T i t sets words:=by
 unfold eG Ge;split;.rfl
 .split;.rfl
  .split<;>rfl
theorem Ea{K N:Nat}{T:List Int}{i:Nat}:∀m t sets words row,(nN true K N T i m t sets words row).sub=Gh K N T i m t sets words
 | 0,_,_,_,_=>rfl
 | m+1,t,sets,words,row=>by
  have h:=K9 K N T i t sets words;unfold nN Gh;rw[<-h];cases eG true K N T i t sets words with
  | on a b id=>exact Ea m (t+1) a b _
  | dr w=>rfl
  | nO=>rfl
theorem JN{K N:Nat}{T:List Int}:∀f i sets words next,(vU true K N T f i sets words next).sub=Na K N T f i sets words
 | 0,_,_,_,_=>rfl
 | f+1,i,sets,words,next=>by
  have h:=Ea (K:=K) (N:=N) (T:=T) (i:=i) K 0 sets words [];unfold vU Na;rw[<-h];split;.cases nN true K N T i K 0 sets words [] with
   | on a b row=>exact JN f (i+1) a b _
   | dr w=>rfl
   | nO=>rfl
  .rfl
theorem Vo(K N:Nat)(T:List Int):(Bp true K N T).sub=DK K N T:=JN _ _ _ _ _
structure WkRow (K N:Nat) (T:List Int) (sets:List (List Bool)) (l:List Bool) (row:List Int) (t:Nat):Prop where
 len:row.length=t
 die:∀s,s<t->(jj K N T l (s:Nat)).any id=false->row.getD s 0=-1
 go:∀s,s<t->(jj K N T l (s:Nat)).any id=true->∃k,k<sets.length/\row.getD s 0=(k:Nat)/\sets.getD k []=jj K N T l (s:Nat)
theorem Ol(K N:Nat)(T:List Int)(u:Nat)(s:Int)(t:Nat):(uY K N T u s t).length<=t:=by
 unfold uY;rw[List.length_map];exact Nat.le_trans (List.length_filter_le _ _) (by rw[List.length_range];exact Nat.le_refl _)
theorem GK(K N:Nat)(T:List Int)(s:Int):∀us:List Nat,(nX K N T us s).length<=us.length*K
 | []=>by simp[nX]
 | u::us=>by
  have:=GK K N T s us;have h2:=Ol K N T u s K;have e:nX K N T (u::us) s=uY K N T u s K++nX K N T us s:=rfl;rw[e,List.length_append,List.length_cons,Nat.succ_mul];omega
def E8(B:Nat)(w:World)(wd:List Int)(y:Value):Prop:=∃p a n c,y=.iface 90 (.pointer (some ⟨p,0,none⟩))/\w.cell? ⟨p,0,none⟩=some (.slice a n c)/\aj B w (.slice a n c) wd/\B<=p
theorem E4{T E:TypeId}{z:Value}{b:Nat}(oc:OneCell T E z b){ops:Array Oper}{o:Oper}{a:Act}{w:World}{K:Act->World->Prop}{Q:Exit->Act->World->Prop}{Ep:Prop}(jZ:o.guard=none)(s x:Operand)(ho:o.op=.call { callee:=.builtin .append,args:=#[s,x],argTypes:=#[T,T] }){B:Nat}{f:Names}(hR:Rows B w f)(i:Nat×Nat)(v:Value)(xs:List Value)(hi:f i=some (bY E v xs))(y:Value)(hy:y.oneCell'=true)(hs:a.eval s=v)(hx:a.eval x=.slice (some ⟨w.heap.size,0,none⟩) 1 1)(hlen:xs.length<4398046511104)(hB:B<=w.heap.size)(h:∀v' w' f',Rows B w' f'->f' i=some (bY E v' (xs++[y]))->x9 f f' i->Below B w w'->UM v w w'->aY w' v xs->K (a.put o.dst v') w'):
 if Region.wanted o (yielded ops a.tmps)=true then Oper.wp Tryz.prog o a (w.alloc (.cells #[y] E)) K Q else Ep:=by
 have hw:Region.wanted o (yielded ops a.tmps)=true:=by simp[Region.wanted,jZ]
 rw[if_pos hw];have aO:=hR.ff hi;have hA:Rows B (w.alloc (.cells #[y] E)) f:=hR.below (ab w _);obtain⟨v',w',hr,h2,h3⟩:=xQ oc (w.alloc (.cells #[y] E)) B o.type v _ (aO.alloc _) ⟨w.heap.size,0,none⟩ 1 [y] (by simp) (cell_one_new _ _ _) (by simp[hy]) (by simp;omega) (by simp;omega);unfold Oper.wp execOp;simp only[ho,resolve,invoke,builtin,Sem.run_bind,Sem.run_pure,Result.andThen_ok,List.map_toArray,List.map_cons,List.map_nil,hs,hx];rw[show([y]:List Value).length=1 from rfl] at hr;rw[hr];have hJ:∀row,w.grownBy (w.alloc (.cells #[y] E)) row:=λrow=>World.grownBy_alloc w _ row;obtain⟨a1,n1,q1,e1⟩:=h2.shape;obtain⟨a2,n2,q2,e2⟩:=aO.shape;rcases h3 with ⟨ni,hg⟩ | ⟨hk,hg⟩;.have uw:=cM e2 e1 ni;have np:=hA.grown (r':=bY E v' (xs++[y])) hi hg h2 (.inl uw);exact h v' w' _ np (ah _ _ _) (λj e=>ad _ _ e) ((Below.refl _ _).grown ((hJ v.ownBlock).trans hg) hB (λk hk=>(aO.lt k hk).1)) ⟨v.ownBlock,(hJ _).trans hg,λ_ hk=>hk⟩ (aO.front h2 ni).at
 .have np:=hA.grown (r':=bY E v' (xs++[y])) hi (EO hg _) h2 (.inr ⟨_,hk,Nat.le_refl _⟩);exact h v' w' _ np (ah _ _ _) (λj e=>ad _ _ e) ((Below.refl _ _).grown ((hJ none).trans hg) hB (by intro k hk;cases hk)) ⟨none,(hJ none).trans hg,λk hk=>by cases hk⟩ ((aO.alloc (.cells #[y] E)).kept hg (by
   cases hv:v.ownBlock with
   | none=>exact .inl rfl
   | some k=>exact .inr (by intro e;cases e))).at
theorem nY.more{f f':Names}{p:Nat}{v v' u:Value}{vs:List Value}{xs:List (List Int)}{ys:List Int}(h:nY f p v vs xs)(e0:f' (p,0)=some (bY 22 v' (vs++[u])))(e1:f' (p+1,xs.length)=some (aD u ys))(e:∀i,i<xs.length->f' (p+1,i)=f (p+1,i)):nY f' p v' (vs++[u]) (xs++[ys]):=by
 refine⟨e0,by simp[h.len],λi hi=>?_⟩;rw[List.length_append,List.length_singleton] at hi;by_cases c:i=xs.length
 .subst c;have a1:(vs++[u]).getD xs.length .nilIface=u:=by rw[<-h.len];simp[List.getD]
  have a2:(xs++[ys]).getD xs.length []=ys:=by simp[List.getD]
  rw[a1,a2];exact e1
 .have Au:i<xs.length:=by omega
  have a1:(vs++[u]).getD i .nilIface=vs.getD i .nilIface:=by simp[List.getD,List.getElem?_append_left (show i<vs.length by rw[h.len];omega)]
  have a2:(xs++[ys]).getD i []=xs.getD i []:=by simp[List.getD,List.getElem?_append_left Au]
  rw[a1,a2,e i Au];exact h.each i Au
theorem gD.more{B:Nat}{w w':World}{f f2 f4:Names}{g gb b K R n:Nat}{tv:Value}{stop:Bool}{sets:List (List Bool)}{words next:List (List Int)}{sv:Value}{ed:List Value}{wv:Value}{sg:List Value}{nv:Value}{kD:List Value}(h:gD B w f g gb b K R n tv stop sets words next sv ed wv sg nv kD){w2:World}{y:List Bool}{sv2:Value}{svs2:List Value}(ij:gB B w2 f2 gb b n (sets++[y]) sv2 svs2)(o2:∀j:Nat×Nat,j.1≠20->j.1≠21->j.1≠22->j.1≠23->f2 j=f j){v' u:Value}{wd:List Int}(hm:gy w' b n (sets++[y]))(o4:∀j:Nat×Nat,j≠(30,0)->j≠(31,0)->j≠(32,words.length)->f4 j=f2 j)(DX:f4 (30,0)=some (ie 88 g [.int .i64 K,.int .i64 R,tv,.pointer (some ⟨gb,0,none⟩),nv,v',.bool stop]))(e31:f4 (31,0)=some (bY 22 v' (sg++[u])))(e32:f4 (32,words.length)=some (aD u wd)):
 gD B w' f4 g gb b K R n tv stop (sets++[y]) (words++[wd]) next sv2 svs2 v' (sg++[u]) nv kD:=by
 have k2:∀j:Nat×Nat,j.1≠20->j.1≠21->j.1≠22->j.1≠23->j≠(30,0)->j≠(31,0)->j≠(32,words.length)->f4 j=f j:=λj a1 a2 a3 a4 a5 a6 a7=>(o4 j a5 a6 a7).trans (o2 j a1 a2 a3 a4);refine⟨DX,?_,?_,?_⟩;.have hc:=ij.congr (f':=f4) (λi hi=>o4 i (by intro e;subst e;rcases hi with q | q | q<;>cases q) (by intro e;subst e;rcases hi with q | q | q<;>cases q) (by intro e;subst e;rcases hi with q | q | q<;>cases q));exact⟨hc.box,hc.out,hc.len,hc.each,hc.all,hm,hc.vq⟩
 .exact h.words.more e31 e32 (λi hi=>k2 _ (by simp) (by simp) (by simp) (by simp) (by simp) (by simp) (by intro e;injection e with _ e;omega))
 .exact h.next.congr λj hj=>k2 j (by rcases hj with q | q<;>rw[q]<;>decide) (by rcases hj with q | q<;>rw[q]<;>decide) (by rcases hj with q | q<;>rw[q]<;>decide) (by rcases hj with q | q<;>rw[q]<;>decide) (by intro e;subst e;rcases hj with q | q<;>cases q) (by intro e;subst e;rcases hj with q | q<;>cases q) (by intro e;subst e;rcases hj with q | q<;>cases q)
structure Aj (sets:List (List Bool)) (words:List (List Int)):Prop where
 ll:words.length=sets.length
 short:∀j,(words.getD j []).length<=j
 small:sets.length<=4096
theorem Aj.init(n:Nat):Aj [List.replicate n true] [[]]:=⟨rfl,λj=>(by cases j<;>simp),by simp⟩
theorem Pw{stop:Bool}{K N i t:Nat}{T:List Int}{sets a:List (List Bool)}{words b:List (List Int)}{id:Int}(h:Aj sets words)(hi:i<sets.length)(e:eG stop K N T i t sets words=.on a b id):Aj a b/\sets.length<=a.length:=by
 unfold eG at e;split at e
 .split at e;.cases e
  .injection e with e1 e2;subst e1;subst e2;exact⟨h,Nat.le_refl _⟩
 .split at e;.injection e with e1 e2;subst e1;subst e2;exact⟨h,Nat.le_refl _⟩
  .split at e;.cases e
   .rename_i h4;injection e with e1 e2;subst e1;subst e2;have gq:=h.small;refine⟨⟨by simp[h.ll],λj=>?_,by rw[List.length_append,List.length_singleton];omega⟩,by simp⟩;by_cases c:j<words.length;.rw[Bq c];exact h.short j
    .by_cases c2:j=words.length;.subst c2;rw[Jd,List.length_append,List.length_singleton];have:=h.short i;have I7:=h.ll;omega
     .have:(words++[words.getD i []++[(t:Int)]]).getD j []=[]:=by
       rw[List.getD_eq_getElem?_getD,List.getElem?_eq_none (by rw[List.length_append,List.length_singleton];omega)];rfl
      rw[this];exact Nat.zero_le _
def NotWk(j:Nat×Nat):Prop:=j.1≠20/\j.1≠21/\j.1≠22/\j.1≠23/\j.1≠30/\j.1≠31/\j.1≠32
def sX(r:Nat->Addr)(B:Nat)(f:Names)(g gb b K R n:Nat)(tv:Value)(stop:Bool)(next:List (List Int))(nv:Value)(kD:List Value)(w:World):JW Int->Ending->World->Prop
 | .on a ws id,e,w'=>e=.returned (.tuple #[.int .i64 id,.nilIface])/\Below B w w'/\∃f' sv ed wv sg,Rows B w' f'/\gD B w' f' g gb b K R n tv stop a ws next sv ed wv sg nv kD/\∀j:Nat×Nat,NotWk j->f' j=f j
 | .dr wd,e,w'=>∃p,e=.returned (.tuple #[.int .i64 0,.iface 90 (.pointer (some p))])/\Below w.heap.size w w'/\E8 w.heap.size w' wd (.iface 90 (.pointer (some p)))
 | .nO,e,w'=>∃p,e=.returned (.tuple #[.int .i64 0,.iface 77 (.pointer (some p))])/\Below w.heap.size w w'/\bf r w' (fresh Mk 0 4) (.iface 77 (.pointer (some p)))
section
variable {stop:Bool} {K n i t:Nat} {T:List Int} {sets:List (List Bool)} {words:List (List Int)} {L:List Nat}
theorem MN(h1:1<=n)(he:nX K n T (nM (sets.getD i []) n) (t:Nat)=L)(hL:L=[]):eG stop K n T i t sets words=if stop=true then .dr (words.getD i []++[(t:Int)]) else .on sets words (-1):=by
 unfold eG;rw[if_pos ((Bb h1).1 (he.trans hL))]
theorem Ld(h1:1<=n)(he:nX K n T (nM (sets.getD i []) n) (t:Nat)=L)(hL:L≠[])(hm:setOf n L∈sets):eG stop K n T i t sets words=.on sets words (sets.idxOf (setOf n L):Nat):=by
 unfold eG;rw[if_neg (λq=>hL (he.symm.trans ((Bb h1).2 q))),<-qX,he,if_pos hm]
theorem LZ(h1:1<=n)(he:nX K n T (nM (sets.getD i []) n) (t:Nat)=L)(hL:L≠[])(hm:setOf n L∉sets)(h4:sets.length=4096):eG stop K n T i t sets words=.nO:=by
 unfold eG;rw[if_neg (λq=>hL (he.symm.trans ((Bb h1).2 q))),<-qX,he,if_neg hm,if_pos h4]
theorem MP(h1:1<=n)(he:nX K n T (nM (sets.getD i []) n) (t:Nat)=L)(hL:L≠[])(hm:setOf n L∉sets)(h4:sets.length≠4096):eG stop K n T i t sets words=.on (sets++[setOf n L]) (words++[words.getD i []++[(t:Int)]]) (sets.length:Nat):=by
 unfold eG;rw[if_neg (λq=>hL (he.symm.trans ((Bb h1).2 q))),<-qX,he,if_neg hm,if_neg h4]
end
theorem T8(r:Nat->Addr){B:Nat}{f:Names}{g gb b K R n:Nat}{va:Option Addr}{vn vc:Nat}{T:List Int}{sets:List (List Bool)}{words next:List (List Int)}{sv:Value}{ed:List Value}{wv:Value}{sg:List Value}{nv:Value}{kD:List Value}{stop:Bool}{w:World}(hg:ck r w)(hR:Rows B w f)(hW:gD B w f g gb b K R n (.slice va vn vc) stop sets words next sv ed wv sg nv kD)(hT:ae w (.slice va vn vc) T)(bK:aG K R T)(hl:T.length<=256)(hn:T.length/K=n)(h1:1<=n)(SC:n<=256)(i t:Nat)(hi:i<sets.length)(hk:Aj sets words):
 Calls Tryz.prog 77 #[.pointer (some ⟨g,0,none⟩),.int .i64 i,.int .i64 t] w (sX r B f g gb b K R n (.slice va vn vc) stop next nv kD w (eG stop K n T i t sets words)):=by
 obtain⟨L,he⟩:=Ex (nX K n T (nM (sets.getD i []) n) (t:Nat));have Ty:=hk.ll;have gq:=hk.small;have yr:i<words.length:=by omega
 have Ny:(words.getD i []).length<=4096:=by have:=hk.short i;omega
 have kN:=fun q:L=[]=>MN (stop:=stop) (words:=words) h1 he q;have kO:=λ(q:L≠[]) m=>Ld (stop:=stop) (words:=words) h1 he q m;have kB:=λ(q:L≠[]) m z=>LZ (stop:=stop) (words:=words) h1 he q m z;have kW:=λ(q:L≠[]) m z=>MP (stop:=stop) (words:=words) h1 he q m z;obtain⟨ws,X6⟩:=Ex (words.getD i []);rw[X6] at Ny kN kW;obtain⟨wT,qY⟩:=Ex (eG stop K n T i t sets words);rw[qY] at kN kO kB kW ⊢;clear qY;replace⟨X6,kN,kO,kB,kW⟩:=mV X6 kN kO kB kW;have x0:w.cell? ⟨g,0,none⟩=some (.int .i64 K):=hW.cell hR 0 (by decide);have x1:w.cell? ⟨g,1,none⟩=some (.int .i64 R):=hW.cell hR 1 (by decide);have x2:w.cell? ⟨g,2,none⟩=some (.slice va vn vc):=hW.cell hR 2 (by decide);have x3:w.cell? ⟨g,3,none⟩=some (.pointer (some ⟨gb,0,none⟩)):=hW.cell hR 3 (by decide);have Hy:=(hW.low hR).1;have x5:w.cell? ⟨g,5,none⟩=some wv:=hW.cell hR 5 (by decide);have x6:w.cell? ⟨g,6,none⟩=some (.bool stop):=hW.cell hR 6 (by decide);have jI:=(hW.low hR).2;obtain⟨z0,z1,z2⟩:=hW.HE.cells hR;have gI:=hW.HE.set hR hi;have ou:ed.getD i .nilIface=ed[i]'(by rw[hW.HE.len];exact hi):=by
  have:i<ed.length:=by rw[hW.HE.len];exact hi
  simp[List.getD,this]
 rw[ou] at gI;have hlen:(sets.getD i []).length=n:=hW.HE.all _ (by
  have:sets.getD i []=sets[i]:=by simp[List.getD,hi]
  rw[this];exact List.getElem_mem hi);have ph:=XS n gb i sv ed (sets.getD i []) w z0 z1 (hW.HE.outer hR) (by rw[hW.HE.len];exact hi) gI hlen (by omega);have dS:=bK.k1;have fs:=bK.k4;obtain⟨M,hM⟩:=Ex (nM (sets.getD i []) n);rw[hM] at ph he;have jA:∀u∈M,u<n:=λu hu=>by rw[<-hM] at hu;exact(Co.1 hu).1
 have AH:M.length<=n:=by
  rw[<-hM];exact Nat.le_trans (List.length_filter_le _ _) (by rw[List.length_range];exact Nat.le_refl _)
 have Z5:L.length<=100000:=by
  rw[<-he];refine Nat.le_trans (GK K n T (t:Nat) M) ?_;exact Nat.le_trans (Nat.mul_le_mul (show M.length<=256 by omega) fs) (by decide)
 have hLn:∀x∈L,x<n:=by rw[<-he];exact Nz h1
 replace⟨hLn,hM,jA,hg,hT,hR,hW,gI⟩:=gp hLn hM jA hg hT hR hW gI;replace⟨ou,he,hn,bK⟩:=gF ou he hn bK;go_enter Tryz.func77,Tryz.ntmps77;go_wp2_with fail;refine ph.mono ?_;rintro e w1 ⟨mv,_,rfl,b1,rfl,K8⟩;have l1:=K8.at.len;rw[mb] at l1;obtain⟨ma,mn,mc,rfl⟩:=K8.at.shape;replace K8:=Hd K8;go_wp2;go_loopw [10,33] (λov iv wr=>∃(k:Nat) (ow:Value),ow=ov/\iv=.int .i64 k/\k<=M.length/\aj w1.heap.size wr ow (nI (nX K n T (M.take k) (t:Nat)))/\Below w1.heap.size w1 wr) (λ_ iv _=>M.length-(intOf iv).toNat);case atStart=>exact⟨0,_,rfl,rfl,Nat.zero_le _,aj.nil _ _,Below.refl _ _⟩
 case round =>
  obtain⟨k,ow,rfl,rfl,hk,hO,hB⟩:=hrel;obtain⟨wo,rfl⟩:=Ey wr;by_cases sr:k<M.length
  .have dk:decide ((k:Int)<(M.length:Int))=true:=decide_eq_true (by omega);have OI:=hB.size;have Oz:=K8.out.at.below hB;have iX:=λw'=>Oz.idx k (by rw[mb];exact sr) w';have cX:=Oz.aH k (by rw[mb];exact sr);rw[NY sr] at cX;have nH:=jA.out M[k] (List.getElem_mem sr);have zg:=P9 K n T (M.take k) M[k] (t:Nat);rw[<-wh M k sr] at zg;obtain⟨u,hu⟩:=Ex (M[k]);rw[hu] at cX nH zg;obtain⟨P,hP⟩:=Ex (nX K n T (M.take k) (t:Nat));have hPl:Hid (P.length<=1024):=by
    show P.length<=1024;rw[<-hP];refine Nat.le_trans (GK K n T (t:Nat) (M.take k)) ?_;rw[List.length_take];exact Nat.le_trans (Nat.mul_le_mul (show min k M.length<=256 by omega) fs) (by decide)
   rw[hP] at zg hO;obtain⟨xa,lY⟩:=Ex (af (.slice ma mn mc) k);rw[lY] at iX cX;have b2:=Below.step b1 hB;have y0:wo.cell? ⟨g,0,none⟩=some (.int .i64 K):=by rw[b2.cell jI];exact x0
   replace⟨Oz,zg,hP,hu,lY,hO⟩:=rr Oz zg hP hu lY hO;go_wp2;go_loopw [10,42] (λov jv wr=>∃(j:Nat) (ow:Value),ow=ov/\jv=.int .i64 j/\j<=K/\aj w1.heap.size wr ow (nI (P++uY K n T u (t:Nat) j))/\Below w1.heap.size w1 wr) (λ_ jv _=>K-(intOf jv).toNat);case atStart=>exact⟨0,_,rfl,rfl,Nat.zero_le _,by rw[PF,List.append_nil];exact hO.out,hB⟩
   case round =>
    obtain⟨j,pw,rfl,rfl,hj,hQ,Ot⟩:=hrel;obtain⟨wj,rfl⟩:=Ey wr;by_cases dw:j<K
    .have dj:decide ((j:Int)<(K:Int))=true:=decide_eq_true (by omega);have b3:=Below.step b1 Ot;have q0:wj.cell? ⟨g,0,none⟩=some (.int .i64 K):=by rw[b3.cell jI];exact x0
     have q1:wj.cell? ⟨g,1,none⟩=some (.int .i64 R):=by rw[b3.cell jI];exact x1
     have q2:wj.cell? ⟨g,2,none⟩=some (.slice va vn vc):=by rw[b3.cell jI];exact x2
     have LN:=zh r K R va vn vc T u j wj (hg.out.below b3) (hT.out.below b3) bK.out hl (by rw[hn.out];exact nH) dw;rw[hn.out] at LN;have RI:=QU K n T u (t:Nat) j;have OQ:(P++uY K n T u (t:Nat) j).length<=100000:=by
      have a1:=Ol K n T u (t:Nat) j;have a2:=hPl.out;rw[List.length_append];omega
     obtain⟨lb,Hm⟩:=Ex (lf K T u j);obtain⟨tv,C3⟩:=Ex (rW K n u j);rw[Hm,C3] at LN;have hlb2:T.getD (u*K+j) 0=lb:=Hm;have hto2:(u*K+j)%n=tv:=C3;rw[hlb2,hto2] at RI;replace⟨Hm,C3,hlb2,hto2⟩:=gF Hm C3 hlb2 hto2;have DI:=Ot.size;by_cases hc:lb=(t:Int)
     .subst hc;rw[if_pos rfl] at RI;have vm:nI (P++uY K n T u (t:Nat) (j+1))=nI (P++uY K n T u (t:Nat) j)++[(tv:Int)]:=by rw[RI,<-List.append_assoc,Et]
      obtain⟨Q,hQn⟩:=Ex (nI (P++uY K n T u (t:Nat) j));have hQl:Q.length<=100000:=by rw[<-hQn,mb];exact OQ
      rw[hQn] at vm hQ;clear RI OQ;replace⟨vm,hQn,hQ⟩:=dO vm hQn hQ;go_wp2_with fail;refine LN.mono ?_;rintro e w2 ⟨_,_,_,rfl,b4,rfl,rfl,rfl⟩;have hQ2:=hQ.out.below b4;have mo:=Ot.trans (b4.mono DI);have hB2s:=mo.size;go_wp2_with (at_builtin;refine gi rfl _ _ rfl w1.heap.size _ Q (tv:Int) hQ2 rfl rfl (by omega) hB2s ?_);intro v' w3 sU b5 _ _;rw[<-vm.out] at sU;replace sU:=Hd sU;clear hQ2;go_wp2;go_roundw;case measure=>simp[intOf];omega
      case rel=>exact⟨j+1,_,rfl,by go_num,by omega,sU.out,mo.trans b5⟩
     .rw[if_neg hc,List.append_nil] at RI;have dc:decide (lb=(t:Int))=false:=decide_eq_false hc;rw[<-RI] at hQ;clear RI OQ;replace hQ:=Hd hQ;go_wp2_with fail;refine LN.mono ?_;rintro e w2 ⟨_,_,_,rfl,b4,rfl,rfl,rfl⟩;have mo:=Ot.trans (b4.mono DI);have hQ2:=Hd (hQ.out.below b4);go_wp2;go_roundw;case measure=>simp[intOf];omega
      case rel=>exact⟨j+1,_,rfl,by go_num,by omega,hQ2.out,mo⟩
    .obtain rfl:K=j:=by omega
     have dj:decide ((K:Int)<(K:Int))=false:=decide_eq_false (by omega);have e2:nX K n T (M.take (k+1)) (t:Nat)=P++uY K n T u (t:Nat) K:=zg.out;rw[<-e2] at hQ;replace hQ:=Hd hQ;clear e2;go_wp2;go_roundw;case measure=>simp[intOf];omega
     case rel=>exact⟨k+1,_,rfl,by go_num,by omega,hQ.out,Ot⟩
  .have dk:decide ((k:Int)<(M.length:Int))=false:=decide_eq_false (by omega);obtain rfl:k=M.length:=by omega
   rw[List.take_length,he.out] at hO;have l2:=hO.at.len;rw[mb] at l2;have b2:=Below.step b1 hB;have U8:B<=w.heap.size:=Nat.le_trans Hy (Nat.le_of_lt jI);by_cases c1:L=[]
   .have hL0:L.length=0:=by rw[c1];rfl
    rw[hL0] at l2;obtain⟨oa,on,oc,rfl⟩:=hO.at.shape;have kN2:=kN.out c1;have y6:wo.cell? ⟨g,6,none⟩=some (.bool stop):=by rw[b2.cell jI];exact x6
    replace⟨hO,c1⟩:=bD hO c1;cases stop with
    | false =>
     obtain rfl:wT=.on sets words (-1):=kN2;have aX:=@Hd (sX r B f g gb b K R n (.slice va vn vc) false next nv kD w (.on sets words (-1)) (.returned (.tuple #[.int .i64 (-1),.nilIface])) wo) (⟨rfl,b2.mono U8,f,_,_,_,_,hR.out.below b2,hW.out.below b2,λ_ _=>rfl⟩);go_wp2;go_ret2;exact aX.out
    | true =>
     obtain rfl:wT=.dr (ws++[(t:Int)]):=kN2;have hRo:=hR.out.below b2;obtain⟨wa,wn,wc,CR⟩:=(hRo.ff hW.out.words.out).shape;have y5:wo.cell? ⟨g,5,none⟩=some (.slice wa wn wc):=by rw[b2.cell jI,<-CR];exact x5
     have Hw:=(hRo.ff hW.out.words.out).at;have DC:i<sg.length:=by rw[hW.out.words.len];exact yr
     have AY:=hRo.aR (hW.out.words.each i yr);obtain⟨ea,en,ec,CY⟩:=AY.at.shape;have De:sg[i]=.slice ea en ec:=by rw[<-CY];simp[List.getD,DC]
     rw[CY] at AY;have iW:=λw'=>Hw.idx dL i DC w';have cW:=Hw.cell i DC;rw[De] at cW;rw[CR] at iW cW;rw[X6.out] at AY;obtain⟨xa,lY⟩:=Ex (af (.slice wa wn wc) i);rw[lY] at iW cW;have clone:=uI _ _ wo AY.at (by omega);replace⟨hRo,AY,CY,De,CR,lY,Hw⟩:=zb hRo AY CY De CR lY Hw;go_wp2_with fail;refine clone.mono ?_;rintro e w2 ⟨cv,rfl,b3,hC⟩;have b3s:=b3.size;go_wp2_with (at_builtin;refine gi rfl _ _ rfl wo.heap.size _ ws (t:Int) hC rfl rfl (by omega) b3s ?_);intro v' w3 sU b5 _ _;obtain⟨qa,qn,qc,rfl⟩:=sU.at.shape;have b4:=b3.trans b5;have Kr:=Below.step b2 (b4.trans ((ab w3 (.cells #[.slice qa qn qc] 93)).mono b4.size));have aX:E8 w.heap.size (w3.alloc (.cells #[.slice qa qn qc] 93)) (ws++[(t:Int)]) (.iface 90 (.pointer (some ⟨w3.heap.size,0,none⟩))) :=
      ⟨w3.heap.size,qa,qn,qc,rfl,by simp[go_sem],(sU.mono b2.size).alloc _,Nat.le_trans b2.size b4.size⟩;replace⟨sU,aX,hC⟩:=dO sU aX hC;go_wp2;go_ret2;exact⟨_,rfl,Kr,aX.out⟩
   .have hL:1<=L.length:=by
     cases hL':L with
     | nil=>exact absurd hL' c1
     | cons _ _=>simp
    have y3:wo.cell? ⟨g,3,none⟩=some (.pointer (some ⟨gb,0,none⟩)):=by rw[b2.cell jI];exact x3
    have dz:decide ((L.length:Int)=0)=false:=decide_eq_false (by omega);by_cases c2:setOf n L∈sets;.obtain rfl:=kO.out c1 c2;have put:=IQ (hR.out.below b2) (hW.out.HE.below b2) ow L hO.at hLn.out Z5 c2 h1 (by omega);obtain⟨oa,on,oc,rfl⟩:=hO.at.shape;replace⟨hO,c1,c2⟩:=dO hO c1 c2;go_wp2_with fail;refine put.mono ?_;rintro e w2 ⟨_,_,_,rfl,b3,rfl,rfl,rfl⟩;have MK:=Below.step b2 b3;have aX:=@Hd (sX r B f g gb b K R n (.slice va vn vc) stop next nv kD w (.on sets words (sets.idxOf (setOf n L):Nat)) (.returned (.tuple #[.int .i64 (sets.idxOf (setOf n L):Nat),.nilIface])) w2) (⟨rfl,MK.mono U8,f,_,_,_,_,hR.out.below MK,hW.out.below MK,λ_ _=>rfl⟩);go_wp2;go_ret2;exact aX.out
    .by_cases c3:sets.length=4096;.obtain rfl:=kB.out c1 c2 c3;have put:=HG r (hg.out.below b2) (hR.out.below b2) (hW.out.HE.below b2) ow L hO.at hLn.out Z5 c2 h1 (by omega) c3;obtain⟨oa,on,oc,rfl⟩:=hO.at.shape;replace⟨hO,c1,c2⟩:=dO hO c1 c2;go_wp2_with fail;refine put.mono ?_;rintro e w2 ⟨_,_,_,rfl,b3,rfl,rfl,GL⟩;have MK:=Below.step b2 b3;have Rs:=GL;obtain⟨pp,uu,rfl,-⟩:=Rs;replace GL:=Hd GL;go_wp2;go_ret2;exact⟨_,rfl,MK,GL.out⟩
     .obtain rfl:=kW.out c1 c2 c3;have h4096:sets.length<4096:=by omega
      have put:=zI (hR.out.below b2) (hW.out.HE.below b2) ow L hO.at hLn.out Z5 c2 h1 (by omega) h4096;obtain⟨oa,on,oc,rfl⟩:=hO.at.shape;replace⟨c1,c2,kN,hO⟩:=gF c1 c2 kN hO;go_wp2_with fail;refine put.mono ?_;rintro e w2 ⟨u,rfl,b3,f2,sv2,gX,ij,o2⟩;have MK:=(b2.mono U8).trans b3;have D2:B<=w2.heap.size:=Nat.le_trans U8 MK.size;have xP:nY f2 31 wv sg words:=hW.out.words.congr λj hj=>o2 j (by rcases hj with q | q<;>rw[q]<;>decide) (by rcases hj with q | q<;>rw[q]<;>decide) (by rcases hj with q | q<;>rw[q]<;>decide) (by rcases hj with q | q<;>rw[q]<;>decide);have DX:f2 (30,0)=some (ie 88 g [.int .i64 K,.int .i64 R,.slice va vn vc,.pointer (some ⟨gb,0,none⟩),nv,wv,.bool stop]):=(o2 _ (by decide) (by decide) (by decide) (by decide)).trans hW.out.box;have Hw:=(gX.ff xP.out).at;have DC:i<sg.length:=by rw[xP.len];exact yr
      have CO:sg.length<4398046511104:=by rw[xP.len];omega
      have AY:=gX.aR (xP.each i yr);obtain⟨ea,en,ec,CY⟩:=AY.at.shape;have De:sg[i]=.slice ea en ec:=by rw[<-CY];simp[List.getD,DC]
      rw[CY] at AY;have iW:=λw'=>Hw.idx dL i DC w';have cW:=Hw.cell i DC;rw[De] at cW;have hgi:(sg[i]?:Option Value)=some (.slice ea en ec):=by rw[List.getElem?_eq_getElem DC,De]
      obtain⟨wa,wn,wc,CR⟩:=(gX.ff xP.out).shape;subst CR;have c5:w2.cell? ⟨g,5,none⟩=some (.slice wa wn wc):=gX.cell DX (g:=g) (cap:=1) rfl 5 (show 5<1*7 by decide);rw[X6.out] at AY;obtain⟨xa,lY⟩:=Ex (af (.slice wa wn wc) i);rw[lY] at iW cW;have Ji:g<w2.heap.size:=(gX.lt DX g rfl).2;have rU:xa.block<w2.heap.size:=World.block_lt_of_cell? _ _ cW;obtain⟨cl,ur⟩:=Ex ws.length;replace⟨De,CY,Hw,hgi,gX,ij,o2,xP⟩:=gp De CY Hw hgi gX ij o2 xP;replace⟨DX,lY,AY,MK⟩:=gF DX lY AY MK;clear z0 z1 z2;go_upto_region 24 with fail;obtain⟨W0,mz⟩:=Ex w2.drew;have Rt:=gX.out.drew;have VO:=AY.out.drew;have sl:Below w2.heap.size w2 W0:=by rw[<-mz];exact(Below.refl _ _).drew
      rw[mz] at Rt VO;have hS0:W0.cell? ⟨g,5,none⟩=some (.slice wa wn wc)/\W0.cell? xa=some (.slice ea en ec):=by rw[<-mz];exact⟨c5,cW⟩
      have Ju:Hid (W0.heap.size=w2.heap.size):=by rw[<-mz];rfl
      refine CB (λw'=>w'.cell? ⟨g,5,none⟩=some (.slice wa wn wc)/\w'.cell? xa=some (.slice ea en ec)) 18 (PT.takes [0,1,2,3,4,5,6,7,8,9,10,11,13] (.two 12 (.one 14 (.one 15 (.one 16 (.one 17 .nil)))) 14 (.one 12 (.one 15 (.one 16 (.one 17 .nil)))))) (by kernel_rfl) (by kernel_rfl) ?_;rw[mz];replace mz:=Hd mz;simp only[PT.takes];refine Ou 100 hS0 ?_;refine Ou 101 hS0 ?_;refine Ou 102 hS0 ?_;refine Ou 103 hS0 ?_;refine Ou 104 hS0 ?_;refine Ou 105 hS0 ?_;refine Ou 106 hS0 ?_;refine Ou 107 hS0 ?_;refine Ou 108 hS0 ?_;refine Ou 109 hS0 ?_;refine Ou 110 hS0 ?_;refine Ou 111 hS0 ?_;refine Ou 113 hS0 ?_;refine tr2 (trOp rfl λKK hK=>?_) (trOp rfl λKK hK=>?_)
      .go_simp;refine(uI _ _ W0 VO.at (by omega)).mono ?_;rintro e W1 ⟨cv,rfl,bc,hC⟩;have Hi:=Below.step sl bc;replace hC:=hC.mono (Nat.le_of_eq Ju.out.symm);obtain⟨ca,cn,cc,rfl⟩:=hC.at.shape;have hS1:W1.cell? ⟨g,5,none⟩=some (.slice wa wn wc)/\W1.cell? xa=some (.slice ea en ec):=⟨by rw[Hi.cell Ji];exact c5,by rw[Hi.cell rU];exact cW⟩;refine hK _ _ hS1 ?_;clear hK KK;refine Zy rfl λKK hK=>?_;go_simp;have bl:=ab W1 (.cells #[.int .i64 t] 3);have gG:=(aj.lit 0 W1 (Nat.zero_le _) [(t:Int)] (by simp[maxLen]) #[.int .i64 t] rfl 1 rfl).at;have bW:=Below.step Hi bl;replace hC:=hC.below bl;obtain⟨lb,Hm⟩:=Ex W1.heap.size;obtain⟨W2,dZ⟩:=Ex (W1.alloc (.cells #[.int .i64 t] 3));rw[Hm] at gG;rw[dZ] at gG bW hC;rw[dZ,Hm];have hS2:W2.cell? ⟨g,5,none⟩=some (.slice wa wn wc)/\W2.cell? xa=some (.slice ea en ec):=⟨by rw[bW.cell Ji];exact c5,by rw[bW.cell rU];exact cW⟩;refine hK _ _ hS2 ?_;clear hK KK bl Hi hS1;replace⟨dZ,Hm⟩:=bD dZ Hm;refine Zy rfl λKK hK=>?_;refine uR rfl _ _ rfl w2.heap.size (.slice ca cn cc) (.slice (some ⟨lb,0,none⟩) 1 1) ws [(t:Int)] rfl rfl hC gG (by simp only[List.length_cons,List.length_nil];omega) bW.size ?_;intro v3 W3 sU bx;have yf:=bW.trans bx;obtain⟨qa,qn,qc,rfl⟩:=sU.at.shape;have hS3:W3.cell? ⟨g,5,none⟩=some (.slice wa wn wc)/\W3.cell? xa=some (.slice ea en ec):=⟨by rw[yf.cell Ji];exact c5,by rw[yf.cell rU];exact cW⟩;refine hK _ _ hS3 ?_;clear hK KK bx gG hC hS2 hS3;have R3:=gX.out.add (i:=(32,words.length)) (r':=aD (.slice qa qn qc) (ws++[(t:Int)])) yf (sU.mono D2) (λk hk=>(sU.lt k hk).1);have vh:=ij.out.below yf;refine Zy rfl λKK hK=>?_;go_simp;have bl:=ab W3 (.cells #[.slice qa qn qc] 22);have FC:=Below.step yf bl;have hS4:(W3.alloc (.cells #[.slice qa qn qc] 22)).cell? ⟨g,5,none⟩=some (.slice wa wn wc)/\(W3.alloc (.cells #[.slice qa qn qc] 22)).cell? xa=some (.slice ea en ec):=⟨by rw[FC.cell Ji];exact c5,by rw[FC.cell rU];exact cW⟩;refine hK _ _ hS4 ?_;clear hK KK hS4;have h31:ch f2 (32,words.length) (some (aD (.slice qa qn qc) (ws++[(t:Int)]))) (31,0)=some (bY 22 (.slice wa wn wc) sg):=(ad _ _ (by intro e;cases e)).trans xP.out.out;refine Zy rfl λKK hK=>?_;refine E4 dL rfl _ _ rfl R3 (31,0) (.slice wa wn wc) sg h31 (.slice qa qn qc) rfl rfl rfl CO (Nat.le_trans D2 yf.size) ?_;intro v5 W5 f5 R5 i5 o5 B5 qJ hold;obtain⟨row,g5,dK⟩:=qJ;obtain⟨pa,pn,pc,rfl⟩:=(R5.ff i5).shape;have CA:f5 (30,0)=some (ie 88 g [.int .i64 K,.int .i64 R,.slice va vn vc,.pointer (some ⟨gb,0,none⟩),nv,.slice wa wn wc,.bool stop]):=(o5 _ (by intro e;cases e)).trans ((ad _ _ (by intro e;cases e)).trans DX.out);have c5':W5.cell? ⟨g,5,none⟩=some (.slice wa wn wc):=R5.cell CA (g:=g) (cap:=1) rfl 5 (show 5<1*7 by decide);have f5':=R5.frozen CA (g:=g) (cap:=1) rfl 5;have cW':=hold.cell i DC;rw[De.out,lY.out] at cW';refine hK _ _ ⟨c5',cW'⟩ ?_;clear hK KK;refine tr0 ?_;simp only[List.drop_succ_cons,List.drop_zero];obtain⟨es,cl2,ve⟩:=vh.map.vq;have M0:=vh.map.kept g5 (λe=>R3.pO h31 ve (dK b e.symm));obtain⟨es3,cl3,Aa⟩:=M0.vq;have R6:=R5.set CA (g:=g) (cap:=1) rfl 5 (.slice pa pn pc);have g6:W5.grownBy (W5.setCell ⟨g,5,none⟩ (.slice pa pn pc)) (some g):=(World.ownsRow.stored (R5.1 _ _ CA) 5 (.slice pa pn pc)).2;have hm6:=M0.kept g6 (λe=>R5.pO CA Aa (by injection e with e;rw[e];rfl));obtain⟨F6,Ax⟩:=Ex (ch f5 (30,0) (some { (ie 88 g [.int .i64 K,.int .i64 R,.slice va vn vc,.pointer (some ⟨gb,0,none⟩),nv,.slice wa wn wc,.bool stop]) with xs:=[Value.int .i64 K,.int .i64 R,.slice va vn vc,.pointer (some ⟨gb,0,none⟩),nv,.slice wa wn wc,.bool stop].set 5 (.slice pa pn pc) }));rw[Ax] at R6;have aX:=hW.out.more ij.out o2.out (f4:=F6) (v':=.slice pa pn pc) (u:=.slice qa qn qc) (wd:=ws++[(t:Int)]) hm6 (λj a1 a2 a3=>by rw[<-Ax,ad _ _ a1,o5 j a2,ad _ _ a3]) (by rw[<-Ax,ah];rfl) (by rw[<-Ax,ad _ _ (by intro e;cases e)];exact i5) (by rw[<-Ax,ad _ _ (by intro e;cases e),o5 _ (by intro e;cases e),ah]);have sH:=MK.out.trans ((yf.mono D2).trans (B5.setCell (show B<=(⟨g,5,none⟩:Addr).block from Hy) (.slice pa pn pc)));have o6:∀j:Nat×Nat,j.1≠20->j.1≠21->j.1≠22->j.1≠23->j.1≠30->j.1≠31->j.1≠32->F6 j=f j:=λj a1 a2 a3 a4 a5 a6 a7=>by
        rw[<-Ax,ad _ _ (by intro e;exact a5 (by rw[e])),o5 j (by intro e;exact a6 (by rw[e])),ad _ _ (by intro e;exact a7 (by rw[e]))];exact o2.out j a1 a2 a3 a4
       replace Ax:=Hd Ax;have Vu:=@Hd (sX r B f g gb b K R n (.slice va vn vc) stop next nv kD w (.on (sets++[setOf n L]) (words++[ws++[(t:Int)]]) (sets.length:Nat)) (.returned (.tuple #[.int .i64 (sets.length:Nat),.nilIface])) (W5.setCell ⟨g,5,none⟩ (.slice pa pn pc))) (⟨rfl,sH,_,_,_,_,_,R6,aX,λj hj=>o6 j hj.1 hj.2.1 hj.2.2.1 hj.2.2.2.1 hj.2.2.2.2.1 hj.2.2.2.2.2.1 hj.2.2.2.2.2.2⟩);clear aX sH o6 R6 g6 hm6 M0 Aa ve i5 o5 B5 hold R3 vh g5 dK h31 bl FC yf sU;go_wp2;refine NoPanic.normal ?_;go_wp2;go_ret2;exact Vu.out
      .go_simp;have bl:=ab W0 (.cells #[.int .i64 t] 3);have gG:=(aj.lit 0 W0 (Nat.zero_le _) [(t:Int)] (by simp[maxLen]) #[.int .i64 t] rfl 1 rfl).at;have Hi:=Below.step sl bl;have YK:=VO.below bl;obtain⟨lb,Hm⟩:=Ex W0.heap.size;obtain⟨W1,mq⟩:=Ex (W0.alloc (.cells #[.int .i64 t] 3));rw[Hm] at gG;rw[mq] at gG Hi YK;rw[mq,Hm];have hS1:W1.cell? ⟨g,5,none⟩=some (.slice wa wn wc)/\W1.cell? xa=some (.slice ea en ec):=⟨by rw[Hi.cell Ji];exact c5,by rw[Hi.cell rU];exact cW⟩;refine hK _ _ hS1 ?_;clear hK KK bl;replace⟨mq,Hm⟩:=bD mq Hm;refine Zy rfl λKK hK=>?_;go_simp;refine(uI _ _ W1 YK.at (by omega)).mono ?_;rintro e W2 ⟨cv,rfl,bc,hC⟩;have bW:=Below.step Hi bc;replace hC:=hC.mono Hi.size;replace gG:=gG.below bc;obtain⟨ca,cn,cc,rfl⟩:=hC.at.shape;have hS2:W2.cell? ⟨g,5,none⟩=some (.slice wa wn wc)/\W2.cell? xa=some (.slice ea en ec):=⟨by rw[bW.cell Ji];exact c5,by rw[bW.cell rU];exact cW⟩;refine hK _ _ hS2 ?_;clear hK KK Hi hS1 YK;refine Zy rfl λKK hK=>?_;refine uR rfl _ _ rfl w2.heap.size (.slice ca cn cc) (.slice (some ⟨lb,0,none⟩) 1 1) ws [(t:Int)] rfl rfl hC gG (by simp only[List.length_cons,List.length_nil];omega) bW.size ?_;intro v3 W3 sU bx;have yf:=bW.trans bx;obtain⟨qa,qn,qc,rfl⟩:=sU.at.shape;have hS3:W3.cell? ⟨g,5,none⟩=some (.slice wa wn wc)/\W3.cell? xa=some (.slice ea en ec):=⟨by rw[yf.cell Ji];exact c5,by rw[yf.cell rU];exact cW⟩;refine hK _ _ hS3 ?_;clear hK KK bx gG hC hS2 hS3;have R3:=gX.out.add (i:=(32,words.length)) (r':=aD (.slice qa qn qc) (ws++[(t:Int)])) yf (sU.mono D2) (λk hk=>(sU.lt k hk).1);have vh:=ij.out.below yf;refine Zy rfl λKK hK=>?_;go_simp;have bl:=ab W3 (.cells #[.slice qa qn qc] 22);have FC:=Below.step yf bl;have hS4:(W3.alloc (.cells #[.slice qa qn qc] 22)).cell? ⟨g,5,none⟩=some (.slice wa wn wc)/\(W3.alloc (.cells #[.slice qa qn qc] 22)).cell? xa=some (.slice ea en ec):=⟨by rw[FC.cell Ji];exact c5,by rw[FC.cell rU];exact cW⟩;refine hK _ _ hS4 ?_;clear hK KK hS4;have h31:ch f2 (32,words.length) (some (aD (.slice qa qn qc) (ws++[(t:Int)]))) (31,0)=some (bY 22 (.slice wa wn wc) sg):=(ad _ _ (by intro e;cases e)).trans xP.out.out;refine Zy rfl λKK hK=>?_;refine E4 dL rfl _ _ rfl R3 (31,0) (.slice wa wn wc) sg h31 (.slice qa qn qc) rfl rfl rfl CO (Nat.le_trans D2 yf.size) ?_;intro v5 W5 f5 R5 i5 o5 B5 qJ hold;obtain⟨row,g5,dK⟩:=qJ;obtain⟨pa,pn,pc,rfl⟩:=(R5.ff i5).shape;have CA:f5 (30,0)=some (ie 88 g [.int .i64 K,.int .i64 R,.slice va vn vc,.pointer (some ⟨gb,0,none⟩),nv,.slice wa wn wc,.bool stop]):=(o5 _ (by intro e;cases e)).trans ((ad _ _ (by intro e;cases e)).trans DX.out);have c5':W5.cell? ⟨g,5,none⟩=some (.slice wa wn wc):=R5.cell CA (g:=g) (cap:=1) rfl 5 (show 5<1*7 by decide);have f5':=R5.frozen CA (g:=g) (cap:=1) rfl 5;have cW':=hold.cell i DC;rw[De.out,lY.out] at cW';refine hK _ _ ⟨c5',cW'⟩ ?_;clear hK KK;refine tr0 ?_;simp only[List.drop_succ_cons,List.drop_zero];obtain⟨es,cl2,ve⟩:=vh.map.vq;have M0:=vh.map.kept g5 (λe=>R3.pO h31 ve (dK b e.symm));obtain⟨es3,cl3,Aa⟩:=M0.vq;have R6:=R5.set CA (g:=g) (cap:=1) rfl 5 (.slice pa pn pc);have g6:W5.grownBy (W5.setCell ⟨g,5,none⟩ (.slice pa pn pc)) (some g):=(World.ownsRow.stored (R5.1 _ _ CA) 5 (.slice pa pn pc)).2;have hm6:=M0.kept g6 (λe=>R5.pO CA Aa (by injection e with e;rw[e];rfl));obtain⟨F6,Ax⟩:=Ex (ch f5 (30,0) (some { (ie 88 g [.int .i64 K,.int .i64 R,.slice va vn vc,.pointer (some ⟨gb,0,none⟩),nv,.slice wa wn wc,.bool stop]) with xs:=[Value.int .i64 K,.int .i64 R,.slice va vn vc,.pointer (some ⟨gb,0,none⟩),nv,.slice wa wn wc,.bool stop].set 5 (.slice pa pn pc) }));rw[Ax] at R6;have aX:=hW.out.more ij.out o2.out (f4:=F6) (v':=.slice pa pn pc) (u:=.slice qa qn qc) (wd:=ws++[(t:Int)]) hm6 (λj a1 a2 a3=>by rw[<-Ax,ad _ _ a1,o5 j a2,ad _ _ a3]) (by rw[<-Ax,ah];rfl) (by rw[<-Ax,ad _ _ (by intro e;cases e)];exact i5) (by rw[<-Ax,ad _ _ (by intro e;cases e),o5 _ (by intro e;cases e),ah]);have sH:=MK.out.trans ((yf.mono D2).trans (B5.setCell (show B<=(⟨g,5,none⟩:Addr).block from Hy) (.slice pa pn pc)));have o6:∀j:Nat×Nat,j.1≠20->j.1≠21->j.1≠22->j.1≠23->j.1≠30->j.1≠31->j.1≠32->F6 j=f j:=λj a1 a2 a3 a4 a5 a6 a7=>by
        rw[<-Ax,ad _ _ (by intro e;exact a5 (by rw[e])),o5 j (by intro e;exact a6 (by rw[e])),ad _ _ (by intro e;exact a7 (by rw[e]))];exact o2.out j a1 a2 a3 a4
       replace Ax:=Hd Ax;have Vu:=@Hd (sX r B f g gb b K R n (.slice va vn vc) stop next nv kD w (.on (sets++[setOf n L]) (words++[ws++[(t:Int)]]) (sets.length:Nat)) (.returned (.tuple #[.int .i64 (sets.length:Nat),.nilIface])) (W5.setCell ⟨g,5,none⟩ (.slice pa pn pc))) (⟨rfl,sH,_,_,_,_,_,R6,aX,λj hj=>o6 j hj.1 hj.2.1 hj.2.2.1 hj.2.2.2.1 hj.2.2.2.2.1 hj.2.2.2.2.2.1 hj.2.2.2.2.2.2⟩);clear aX sH o6 R6 g6 hm6 M0 Aa ve i5 o5 B5 hold R3 vh g5 dK h31 bl FC yf sU;go_wp2;refine NoPanic.normal ?_;go_wp2;go_ret2;exact Vu.out
theorem gB.kept{B:Nat}{w w':World}{f f':Names}{gb b n:Nat}{sets:List (List Bool)}{sv:Value}{ed:List Value}{i:Nat×Nat}{r:Row}(h:gB B w f gb b n sets sv ed)(hR:Rows B w f)(hi:f i=some r)(hi1:i.1≠20/\i.1≠21/\i.1≠22)(he:x9 f f' i){row:Option Nat}(hg:w.grownBy w' row)(dK:∀k,row=some k->r.v.ownBlock=some k):gB B w' f' gb b n sets sv ed:=by
 have hc:=h.congr (f':=f') (λj hj=>he j (by intro e;subst e;rcases hj with q | q | q<;>omega));obtain⟨es,cl,ve⟩:=h.map.vq;exact⟨hc.box,hc.out,hc.len,hc.each,hc.all,h.map.kept hg (λe=>hR.pO hi ve (dK b e.symm)),hc.vq⟩
theorem gD.kept{B:Nat}{w w':World}{f f':Names}{g gb b K R n:Nat}{tv:Value}{stop:Bool}{sets:List (List Bool)}{words next:List (List Int)}{sv:Value}{ed:List Value}{wv:Value}{sg:List Value}{nv:Value}{kD:List Value}{i:Nat×Nat}{r:Row}(h:gD B w f g gb b K R n tv stop sets words next sv ed wv sg nv kD)(hR:Rows B w f)(hi:f i=some r)(hi1:i.1=35)(he:x9 f f' i){row:Option Nat}(hg:w.grownBy w' row)(dK:∀k,row=some k->r.v.ownBlock=some k):
 gD B w' f' g gb b K R n tv stop sets words next sv ed wv sg nv kD :=
 ⟨(he _ (by intro e;rw[<-e] at hi1;cases hi1)).trans h.box,h.HE.kept hR hi ⟨by omega,by omega,by omega⟩ he hg dK,
   h.words.congr λj hj=>he j (by intro e;subst e;rcases hj with q | q<;>omega),h.next.congr λj hj=>he j (by intro e;subst e;rcases hj with q | q<;>omega)⟩
def Ko(n i:Nat):List Int:=(List.range n).map λj=>if j<i then (j:Int) else 0
theorem uO(n i:Nat):(Ko n i).length=n:=by simp[Ko]
theorem Un(n:Nat):Ko n 0=List.replicate n 0:=by
 refine List.ext_getElem (by simp[Ko]) λj h1 h2=>?_;simp[Ko]
theorem XK{n i:Nat}:(Ko n i).set i (i:Int)=Ko n (i+1):=by
 refine List.ext_getElem (by simp[Ko]) λj h1 h2=>?_;have hj:j<n:=by simpa [Ko] using h2
 rw[List.getElem_set];by_cases e:i=j;.subst e;simp[Ko]
 .rw[if_neg e];simp only[Ko,List.getElem_map,List.getElem_range];by_cases c:j<i;.rw[if_pos c,if_pos (by omega)]
  .rw[if_neg c,if_neg (by omega)]
theorem Sl(n:Nat):Ko n n=nI (List.range n):=by
 refine List.ext_getElem (by simp[Ko,nI]) λj h1 h2=>?_;have hj:j<n:=by simpa [Ko] using h1
 simp[Ko,nI,hj]
def Bc(r:Nat->Addr)(B g K R n:Nat)(tv:Value)(stop:Bool)(w:World):JW (List (List Int))->Ending->World->Prop
 | .on a ws x,e,w'=>e=.returned .nilIface/\Below B w w'/\∃f' gb b sv ed wv sg nv kD,Rows B w' f'/\gD B w' f' g gb b K R n tv stop a ws x sv ed wv sg nv kD
 | .dr wd,e,w'=>∃p,e=.returned (.iface 90 (.pointer (some p)))/\Below B w w'/\E8 B w' wd (.iface 90 (.pointer (some p)))
 | .nO,e,w'=>∃p,e=.returned (.iface 77 (.pointer (some p)))/\Below B w w'/\bf r w' (fresh Mk 0 4) (.iface 77 (.pointer (some p)))
theorem BV{stop:Bool}{K n:Nat}{T:List Int}{i:Nat}{sets:List (List Bool)}{words next:List (List Int)}(hi:i<sets.length)(h4:sets.length<=4096):vU stop K n T (4097-i) i sets words next=match nN stop K n T i K 0 sets words [] with
 | .on a b row=>vU stop K n T (4097-(i+1)) (i+1) a b (next++[row])
 | .dr w=>.dr w
 | .nO=>.nO:=by
 obtain⟨m,hm⟩:∃m,4097-i=m+1:=⟨4096-i,by omega⟩;have qD:4097-(i+1)=m:=by omega
 rw[hm,qD];conv=>lhs;unfold vU
 (rw[if_pos hi])<;>(cases nN stop K n T i K 0 sets words []<;>rfl)
theorem JI{stop:Bool}{K n:Nat}{T:List Int}{i:Nat}{sets:List (List Bool)}{words next:List (List Int)}(hi:¬ i<sets.length)(h4:i<=4096):vU stop K n T (4097-i) i sets words next=.on sets words next:=by
 obtain⟨m,hm⟩:∃m,4097-i=m+1:=⟨4096-i,by omega⟩;rw[hm];unfold vU;rw[if_neg hi]
theorem zM{stop:Bool}{K n:Nat}{T:List Int}{i t:Nat}{sets:List (List Bool)}{words:List (List Int)}{row:List Int}(ht:t<K):nN stop K n T i (K-t) t sets words row=match eG stop K n T i t sets words with
 | .on a b id=>nN stop K n T i (K-(t+1)) (t+1) a b (row++[id])
 | .dr w=>.dr w
 | .nO=>.nO:=by
 obtain⟨m,hm⟩:∃m,K-t=m+1:=⟨K-t-1,by omega⟩;have qD:K-(t+1)=m:=by omega
 rw[hm,qD];(conv=>lhs;unfold nN)<;>(cases eG stop K n T i t sets words<;>rfl)
theorem xL{l:List Int}{K t:Nat}{x:Int}(h:l.length=t)(ht:t<K):(l++List.replicate (K-t) 0).set t x=(l++[x])++List.replicate (K-(t+1)) 0:=by
 obtain⟨m,hm⟩:∃m,K-t=m+1:=⟨K-t-1,by omega⟩;have qD:K-(t+1)=m:=by omega
 rw[hm,qD,List.set_append,if_neg (by omega),h,Nat.sub_self,List.replicate_succ];simp
theorem gD.congr{B:Nat}{w:World}{f f':Names}{g gb b K R n:Nat}{tv:Value}{stop:Bool}{sets:List (List Bool)}{words next:List (List Int)}{sv:Value}{ed:List Value}{wv:Value}{sg:List Value}{nv:Value}{kD:List Value}(h:gD B w f g gb b K R n tv stop sets words next sv ed wv sg nv kD)(e:∀j:Nat×Nat,j.1≠35->f' j=f j):
 gD B w f' g gb b K R n tv stop sets words next sv ed wv sg nv kD :=
 ⟨(e _ (by decide)).trans h.box,h.HE.congr λj hj=>e j (by omega),h.words.congr λj hj=>e j (by omega),h.next.congr λj hj=>e j (by omega)⟩
def aao(B:Nat)(w:World)(g gb b K R n:Nat)(tv:Value)(stop:Bool)(T:List Int)(wT:JW (List (List Int)))(p:Nat)(wr:World):Prop :=
 ∃sets words next sv ed wv sg nv kD f',vU stop K n T (4097-p) p sets words next=wT/\Aj sets words/\p<=sets.length/\next.length=p/\Rows B wr f'/\gD B wr f' g gb b K R n tv stop sets words next sv ed wv sg nv kD/\Below B w wr
def RowIn(B:Nat)(w:World)(g gb b K R n:Nat)(tv:Value)(stop:Bool)(T:List Int)(next:List (List Int))(nv:Value)(kD:List Value)(rv:Value)(RR:JW (List Int))(p t:Nat)(wr:World):Prop :=
 ∃sets words row sv ed wv sg f',nN stop K n T p (K-t) t sets words row=RR/\Aj sets words/\p<sets.length/\row.length=t/\Rows B wr f'/\gD B wr f' g gb b K R n tv stop sets words next sv ed wv sg nv kD/\f' (35,0)=some (aD rv (row++List.replicate (K-t) 0))/\Below B w wr
theorem Xf(r:Nat->Addr){f:Names}{g K R n:Nat}{va:Option Addr}{vn vc:Nat}{T:List Int}{stop:Bool}{w0 w:World}(hg:ck r w0)(hT:ae w0 (.slice va vn vc) T)(b0:Below w0.heap.size w0 w)(hR:Rows w0.heap.size w f)(kq:f (30,0)=some (ie 88 g [.int .i64 K,.int .i64 R,.slice va vn vc,.pointer none,.slice none 0 0,.slice none 0 0,.bool stop]))(bK:aG K R T)(hl:T.length<=256)(hn:T.length/K=n)(h1:1<=n)(SC:n<=256):
 Calls Tryz.prog 37 #[.pointer (some ⟨g,0,none⟩)] w (Bc r w0.heap.size g K R n (.slice va vn vc) stop w (Bp stop K n T)):=by
 have x0:w.cell? ⟨g,0,none⟩=some (.int .i64 K):=hR.cell kq (g:=g) (cap:=1) rfl 0 (show 0<1*7 by decide);have x1:w.cell? ⟨g,1,none⟩=some (.int .i64 R):=hR.cell kq (g:=g) (cap:=1) rfl 1 (show 1<1*7 by decide);have x2:w.cell? ⟨g,2,none⟩=some (.slice va vn vc):=hR.cell kq (g:=g) (cap:=1) rfl 2 (show 2<1*7 by decide);obtain⟨Hy,jI⟩:w0.heap.size<=g/\g<w.heap.size:=hR.lt kq g rfl;have dS:=bK.k1;have fs:=bK.k4;have tG:=rS r K R va vn vc T w (hg.below b0) (hT.below b0) bK hl;rw[hn] at tG;obtain⟨wT,qY⟩:=Ex (Bp stop K n T);rw[qY];have hb0s:=b0.size;replace⟨hg,hT,bK,hn,qY,hR,kq⟩:=zb hg hT bK hn qY hR kq;obtain⟨B,hB⟩:=Ex w0.heap.size;rw[hB] at Hy hb0s hR b0 ⊢;replace hB:=Hd hB;go_enter Tryz.func37,Tryz.ntmps37;go_wp2_with fail;refine tG.mono ?_;rintro e w1 ⟨_,_,rfl,b1,rfl,rfl⟩;have sR:=hR.out.below b1;have Hv:=b1.size;have wC:=YG B f n w1 sR (by omega) (by omega);clear tG;go_wp2_with fail;refine wC.mono ?_;rintro e w2 ⟨gb,rfl,b2,DP,b,f2,gX,ij,o2⟩;have DX:f2 (30,0)=some (ie 88 g [.int .i64 K,.int .i64 R,.slice va vn vc,.pointer none,.slice none 0 0,.slice none 0 0,.bool stop]):=(o2 _ (by decide) (by decide)).trans kq.out;have c3:w2.cell? ⟨g,3,none⟩=some (.pointer none):=gX.cell DX (g:=g) (cap:=1) rfl 3 (show 3<1*7 by decide);have z3:=gX.frozen DX (g:=g) (cap:=1) rfl 3;have kK:=gX.set DX (g:=g) (cap:=1) rfl 3 (.pointer (some ⟨gb,0,none⟩));have g3:w2.grownBy (w2.setCell ⟨g,3,none⟩ (.pointer (some ⟨gb,0,none⟩))) (some g):=(World.ownsRow.stored (gX.1 _ _ DX) 3 (.pointer (some ⟨gb,0,none⟩))).2;have vh:=ij.kept gX DX ⟨by decide,by decide,by decide⟩ (λj e=>ad _ _ e) g3 (f':=ch f2 (30,0) (some (ie 88 g [.int .i64 K,.int .i64 R,.slice va vn vc,.pointer (some ⟨gb,0,none⟩),.slice none 0 0,.slice none 0 0,.bool stop]))) (by intro k e;injection e with e;rw[<-e];rfl);have mw:=Below.step b1 b2;have b3:=(mw.mono (by omega:B<=w.heap.size)).setCell (show B<=(⟨g,3,none⟩:Addr).block from Hy) (.pointer (some ⟨gb,0,none⟩));obtain⟨w3,hw3⟩:=Ex (w2.setCell ⟨g,3,none⟩ (.pointer (some ⟨gb,0,none⟩)));obtain⟨f3,CZ⟩:=Ex (ch f2 (30,0) (some (ie 88 g [.int .i64 K,.int .i64 R,.slice va vn vc,.pointer (some ⟨gb,0,none⟩),.slice none 0 0,.slice none 0 0,.bool stop])));replace kK:Rows B (w2.setCell ⟨g,3,none⟩ (.pointer (some ⟨gb,0,none⟩))) (ch f2 (30,0) (some (ie 88 g [.int .i64 K,.int .i64 R,.slice va vn vc,.pointer (some ⟨gb,0,none⟩),.slice none 0 0,.slice none 0 0,.bool stop]))):=kK;have n30:f3 (30,0)=some (ie 88 g [.int .i64 K,.int .i64 R,.slice va vn vc,.pointer (some ⟨gb,0,none⟩),.slice none 0 0,.slice none 0 0,.bool stop]):=by rw[<-CZ,ah]
 rw[CZ] at kK vh;rw[hw3] at kK vh b3;have SW:=b3.size;replace⟨n30,kK,vh,CZ⟩:=gF n30 kK vh CZ;clear gX ij o2 DX g3 sR wC mw;replace hw3:=Hd hw3;go_upto_region 5 with fail;rw[hw3.out];clear hw3 c3 z3;go_wp2_with (at_make;refine me rfl _ _ rfl _ rfl rfl (by omega) (by omega) ?_);intro ev w4 xE b4;rw[<-Un] at xE;have l4:=xE.at.len;rw[uO] at l4;obtain⟨ea,en,ec,rfl⟩:=xE.at.shape;replace xE:=Hd xE;go_wp2;go_loopw [41] (λiv wr=>∃i:Nat,iv=.int .i64 i/\i<=n/\aj w3.heap.size wr (.slice ea en ec) (Ko n i)/\Below w3.heap.size w3 wr) (λiv _=>n-(intOf iv).toNat);case atStart=>exact⟨0,rfl,Nat.zero_le _,xE.out,b4⟩
 case round =>
  obtain⟨i,rfl,hi,hO,DB⟩:=hrel;by_cases ou:i<n
  .have di:decide ((i:Int)<(n:Int))=true:=decide_eq_true (by omega);have iX:=λw'=>hO.at.idx i (by rw[uO];exact ou) w';have cX:=hO.at.aH i (by rw[uO];exact ou);have fX:=hO.mQ i (by rw[uO];exact ou);have jh:=hO.set i (by rw[uO];exact ou) (i:Int);have yD:=hO.dB DB i (by rw[uO];exact ou) (.int .i64 i);rw[XK] at jh;obtain⟨xa,lY⟩:=Ex (af (.slice ea en ec) i);rw[lY] at iX cX fX jh yD;replace⟨lY,hO,jh⟩:=dO lY hO jh;go_wp2;go_roundw;case measure=>simp[intOf];omega
   case rel=>exact⟨i+1,by go_num,by omega,jh.out,yD⟩
  .obtain rfl:i=n:=by omega
   have di:decide ((i:Int)<(i:Int))=false:=decide_eq_false (by omega);obtain⟨wl,rfl⟩:=Ey wr;rw[Sl] at hO;have hRl:=kK.out.below DB;have Kz:=vh.out.below DB;have put:=zI hRl Kz _ (List.range i) hO.at (λx hx=>List.mem_range.1 hx) (by rw[List.length_range];omega) (by simp) h1 (by omega) (by simp);rw[Ps] at put;have y3:wl.cell? ⟨g,3,none⟩=some (.pointer (some ⟨gb,0,none⟩)):=hRl.cell n30.out (g:=g) (cap:=1) rfl 3 (show 3<1*7 by decide);replace⟨hO,hRl,Kz⟩:=dO hO hRl Kz;go_wp2_with fail;refine put.mono ?_;rintro e w5 ⟨u,rfl,b5,f5,sv5,qj,Ai,o5⟩;have m30:=(o5 (30,0) (by decide) (by decide) (by decide) (by decide)).trans n30.out;have hs4:=DB.size;have hs5:=b5.size;have bl:=ab w5 (.cells #[.slice none 0 0] 22);have Vk:=qj.add (i:=(31,0)) (r':=bY 22 (.slice (some ⟨w5.heap.size,0,none⟩) 1 1) [.slice none 0 0]) bl
    (by
      have:=World.ownsRow_lit (base:=B) (e:=22) (size:=1) w5 #[.slice none 0 0] 1 (by omega) (by decide) rfl;unfold Row.own;simpa using this) (λk hk=>by cases hk;exact Nat.le_refl _);have zQ:=Vk.add (i:=(32,0)) (r':=aD (.slice none 0 0) []) (Below.refl _ _) (aj.nil _ _) (λk hk=>by cases hk);have HI:=zQ.add (i:=(33,0)) (r':=bY 22 (.slice none 0 0) []) (Below.refl _ _) (aZ.nil _ _ _) (λk hk=>by cases hk);obtain⟨f8,Yg⟩:=Ex (ch (ch (ch f5 (31,0) (some (bY 22 (.slice (some ⟨w5.heap.size,0,none⟩) 1 1) [.slice none 0 0]))) (32,0) (some (aD (.slice none 0 0) []))) (33,0) (some (bY 22 (.slice none 0 0) [])));have zL:f8 (30,0)=some (ie 88 g [.int .i64 K,.int .i64 R,.slice va vn vc,.pointer (some ⟨gb,0,none⟩),.slice none 0 0,.slice none 0 0,.bool stop]):=by rw[<-Yg,ad _ _ (by decide),ad _ _ (by decide),ad _ _ (by decide)];exact m30
   have CW:f8 (31,0)=some (bY 22 (.slice (some ⟨w5.heap.size,0,none⟩) 1 1) [.slice none 0 0]):=by rw[<-Yg,ad _ _ (by decide),ad _ _ (by decide),ah]
   have k32:f8 (32,0)=some (aD (.slice none 0 0) []):=by rw[<-Yg,ad _ _ (by decide),ah]
   have k33:f8 (33,0)=some (bY 22 (.slice none 0 0) []):=by rw[<-Yg,ah]
   have hb8:gB B (w5.alloc (.cells #[.slice none 0 0] 22)) f8 gb b i [List.replicate i true] sv5 [u]:=(Ai.below bl).congr (λj hj=>by
    have:j.1≠31/\j.1≠32/\j.1≠33:=by rcases hj with q | q | q<;>rw[q]<;>decide
    rw[<-Yg,ad _ _ (by intro e;exact this.2.2 (by rw[e])),ad _ _ (by intro e;exact this.2.1 (by rw[e])),ad _ _ (by intro e;exact this.1 (by rw[e]))]);rw[Yg] at HI;have c5:(w5.alloc (.cells #[.slice none 0 0] 22)).cell? ⟨g,5,none⟩=some (.slice none 0 0):=HI.cell zL (g:=g) (cap:=1) rfl 5 (show 5<1*7 by decide);have z5:=HI.frozen zL (g:=g) (cap:=1) rfl 5;have VY:=HI.set zL (g:=g) (cap:=1) rfl 5 (.slice (some ⟨w5.heap.size,0,none⟩) 1 1);have g9:(w5.alloc (.cells #[.slice none 0 0] 22)).grownBy ((w5.alloc (.cells #[.slice none 0 0] 22)).setCell ⟨g,5,none⟩ (.slice (some ⟨w5.heap.size,0,none⟩) 1 1)) (some g):=(World.ownsRow.stored (HI.1 _ _ zL) 5 (.slice (some ⟨w5.heap.size,0,none⟩) 1 1)).2;obtain⟨f9,V2⟩:=Ex (ch f8 (30,0) (some (ie 88 g [.int .i64 K,.int .i64 R,.slice va vn vc,.pointer (some ⟨gb,0,none⟩),.slice none 0 0,.slice (some ⟨w5.heap.size,0,none⟩) 1 1,.bool stop])));replace VY:Rows B ((w5.alloc (.cells #[.slice none 0 0] 22)).setCell ⟨g,5,none⟩ (.slice (some ⟨w5.heap.size,0,none⟩) 1 1)) (ch f8 (30,0) (some (ie 88 g [.int .i64 K,.int .i64 R,.slice va vn vc,.pointer (some ⟨gb,0,none⟩),.slice none 0 0,.slice (some ⟨w5.heap.size,0,none⟩) 1 1,.bool stop]))):=VY;have hb9:=hb8.kept HI zL ⟨by decide,by decide,by decide⟩ (λj e=>by rw[<-V2];exact ad _ _ e) g9 (f':=f9) (by intro k e;injection e with e;rw[<-e];rfl);rw[V2] at VY;have b9:=(((b3.trans (DB.mono (by omega:B<=w3.heap.size))).trans b5).trans (bl.mono (by omega:B<=w5.heap.size))).setCell (show B<=(⟨g,5,none⟩:Addr).block from Hy) (.slice (some ⟨w5.heap.size,0,none⟩) 1 1);have V3:gD B ((w5.alloc (.cells #[.slice none 0 0] 22)).setCell ⟨g,5,none⟩ (.slice (some ⟨w5.heap.size,0,none⟩) 1 1)) f9 g gb b K R i (.slice va vn vc) stop [List.replicate i true] [[]] [] sv5 [u] (.slice (some ⟨w5.heap.size,0,none⟩) 1 1) [.slice none 0 0] (.slice none 0 0) []:=by
    refine⟨by rw[<-V2,ah],hb9,⟨by rw[<-V2,ad _ _ (by decide)];exact CW,rfl,λj hj=>?_⟩,⟨by rw[<-V2,ad _ _ (by decide)];exact k33,rfl,λj hj=>absurd hj (Nat.not_lt_zero _)⟩⟩;obtain rfl:j=0:=by simpa using hj
    rw[<-V2,ad _ _ (by decide)];exact k32
   obtain⟨w9,Dx⟩:=Ex ((w5.alloc (.cells #[.slice none 0 0] 22)).setCell ⟨g,5,none⟩ (.slice (some ⟨w5.heap.size,0,none⟩) 1 1));rw[Dx] at VY V3 b9;obtain⟨qb,hqb⟩:=Ex w5.heap.size;rw[hqb] at V3;replace⟨V3,VY,Dx,hqb⟩:=gF V3 VY Dx hqb;clear hb9 g9 HI hb8 zL CW k32 k33 Yg V2 zQ Vk m30 qj Ai o5 put bl b5 hRl Kz hO xE DB b4 b3 kK vh n30 y3;go_upto_region 17 with fail;rw[Dx.out];clear Dx c5 z5;have VN:=b9.size;have hgo0:=@Hd (vU stop K i T (4097-0) 0 [List.replicate i true] [[]] []=wT) qY.out;go_wp2;go_loopw [10] (λiv wr=>∃p:Nat,iv=.int .i64 p/\aao B w g gb b K R i (.slice va vn vc) stop T wT p wr) (λiv _=>4097-(intOf iv).toNat);case atStart=>exact⟨0,rfl,_,_,_,_,_,_,_,_,_,_,hgo0.out,Aj.init i,by simp,rfl,VY.out,V3.out,b9⟩
   case round =>
    obtain⟨p,rfl,sets,words,next,sv,ed,wv,sg,nv,kD,f',qp,OR,hp,xK,np,xF,A6⟩:=hrel;obtain⟨wo,rfl⟩:=Ey wr;have y0:wo.cell? ⟨g,0,none⟩=some (.int .i64 K):=xF.cell np 0 (by decide);have y3:wo.cell? ⟨g,3,none⟩=some (.pointer (some ⟨gb,0,none⟩)):=xF.cell np 3 (by decide);obtain⟨q0,q1,q2⟩:=xF.HE.cells np;have len:=Ys gb sv ed wo q1 (xF.HE.outer np);rw[xF.HE.len] at len;have gq:=OR.small;have EL:=A6.size;clear q0 q1 q2;by_cases sI:p<sets.length
    .have dp:decide ((p:Int)<(sets.length:Int))=true:=decide_eq_true (by omega);rw[BV sI gq] at qp;obtain⟨RR,Kt⟩:=Ex (nN stop K i T p K 0 sets words []);rw[Kt] at qp;replace⟨Kt,qp,np,xF,OR,xK⟩:=rr Kt qp np xF OR xK;go_wp2_with fail;refine len.mono ?_;rintro e w' ⟨rfl,rfl⟩;go_wp2_with (at_make;refine me rfl _ _ rfl _ rfl rfl (by omega) (by omega) ?_);intro rv w10 sz HF;have Mr:=np.out.add (i:=(35,0)) (r':=aD rv (List.replicate K 0)) HF (sz.mono (by omega:B<=wo.heap.size)) (λk hk=>(sz.lt k hk).1);have hW10:=(xF.out.below HF).congr (f':=ch f' (35,0) (some (aD rv (List.replicate K 0)))) (λj hj=>ad _ _ (by intro e;exact hj (by rw[e])));have l10:=sz.at.len;rw[List.length_replicate] at l10;obtain⟨ra,rn,rc,rfl⟩:=sz.at.shape;have bw10:=A6.trans (HF.mono (by omega:B<=wo.heap.size));have hs10:=bw10.size;replace⟨sz,Mr,hW10⟩:=dO sz Mr hW10;go_wp2;go_loopw [83] (λtv wr=>∃t:Nat,tv=.int .i64 t/\t<=K/\RowIn B w g gb b K R i (.slice va vn vc) stop T next nv kD (.slice ra rn rc) RR p t wr) (λtv _=>K-(intOf tv).toNat);case atStart=>exact⟨0,rfl,Nat.zero_le _,_,_,_,_,_,_,_,_,Kt.out,OR.out,sI,rfl,Mr.out,hW10.out,ah _ _ _,bw10⟩
     case round =>
      obtain⟨t,rfl,ht,fN,dM,row,sv',jl,AB,wvs',f2,dK,lS,vV,pg,gX,dZ,n35,mo⟩:=hrel;obtain⟨wi,rfl⟩:=Ey wr;by_cases ZP:t<K
      .have dt:decide ((t:Int)<(K:Int))=true:=decide_eq_true (by omega);have b0i:Below w0.heap.size w0 wi:=by rw[hB.out];exact b0.trans mo
       have mT:=T8 r (hg.out.below b0i) gX dZ (hT.out.below b0i) bK.out hl hn.out h1 SC p t vV lS;rw[zM ZP] at dK;have JX:=xL (x:=0) pg ZP;cases hs:eG stop K i T p t fN dM with
       | on a ws id =>
        rw[hs] at mT dK;obtain⟨MM,hle3⟩:=Pw lS vV hs;replace⟨dK,hs,lS,MM,pg,gX,dZ,n35⟩:=gp dK hs lS MM pg gX dZ n35;clear JX;go_wp2_with fail;refine mT.mono ?_;rintro e w11 ⟨rfl,Du,f3,sv3,svs3,wv3,wvs3,kK,mr,o3⟩;have Zv:=(o3 (35,0) ⟨by decide,by decide,by decide,by decide,by decide,by decide,by decide⟩).trans n35.out;have aO:=kK.aR Zv;have aT:t<(row++List.replicate (K-t) (0:Int)).length:=by rw[List.length_append,pg.out,List.length_replicate];omega
        have iX:=λw'=>aO.at.idx t aT w';have cX:=aO.at.aH t aT;have fX:=aO.mQ t aT;have rq:=kK.Aw Zv t aT id;have g4:wi.heap.size=wi.heap.size:=rfl;have gr4:=(aO.yB.oE t (by simpa using aT) (.int .i64 id));have rT:=mr.kept kK Zv rfl (λj e=>ad _ _ e) gr4 (f':=ch f3 (35,0) (some (aD (.slice ra rn rc) ((row++List.replicate (K-t) (0:Int)).set t id)))) (λk e=>e);have X8:=aO.dB (Du) t aT (.int .i64 id);rw[xL pg.out ZP] at rq rT;obtain⟨xa,lY⟩:=Ex (af (.slice ra rn rc) t);rw[lY] at iX cX fX rq rT X8;have sH:=mo.trans X8;replace⟨lY,rq,rT⟩:=dO lY rq rT;clear aO aT g4 gr4 Zv kK mr o3 X8;go_wp2;go_roundw;case measure=>simp[intOf];omega
        case rel=>exact⟨t+1,by go_num,by omega,a,ws,row++[id],_,_,_,_,_,dK.out,MM.out,by omega,by rw[List.length_append,pg.out];rfl,rq.out,rT.out,ah _ _ _,sH⟩
       | dr wd =>
        rw[hs] at mT dK;have iM:=qp.out;rw[<-dK] at iM;replace iM:JW.dr wd=wT:=iM;clear hs dK;replace⟨iM,lS,pg,gX,dZ,n35⟩:=rr iM lS pg gX dZ n35;clear JX;go_wp2_with fail;refine mT.mono ?_;rintro e w11 ⟨pe,rfl,Du,hfd⟩;have kK:=gX.out.below Du;have aO:=kK.aR n35.out;have Jj:=gX.out.aR n35.out;have aT:t<(row++List.replicate (K-t) (0:Int)).length:=by rw[List.length_append,pg.out,List.length_replicate];omega
        have iX:=λw'=>aO.at.idx t aT w';have cX:=aO.at.aH t aT;have fX:=aO.mQ t aT;have X8:=aO.dB (Du.mono (by have:=mo.size;omega:B<=wi.heap.size)) t aT (.int .i64 0);obtain⟨pp,fa,fn,fc,e1,f2',f3',f4'⟩:=hfd;injection e1 with _ e1;injection e1 with e1;injection e1 with e1;subst e1;have bM:(Value.slice fa fn fc).ownBlock≠(Value.slice ra rn rc).ownBlock:=λe=>by
         cases hk:(Value.slice ra rn rc).ownBlock with
         | none =>
          have:=Jj.jP t aT;have h0:=Jj.yB.jP t (by simpa using aT);rw[hk] at h0;cases h0.1
         | some k =>
          have a1:=(Jj.lt k hk).2;have a2:=(f3'.lt k (by rw[e];exact hk)).1;omega
        have Kx:=f3'.x7 aO bM t aT (.int .i64 0);have VO:(af (.slice ra rn rc) t).block<wi.heap.size:=World.block_lt_of_cell? _ _ (Jj.at.aH t aT);have hf6:(w11.setCell (af (.slice ra rn rc) t) (.int .i64 0)).cell? ⟨pp,0,none⟩=some (.slice fa fn fc):=by rw[World.cell?_setCell_other _ _ _ _ (λe=>by rw[e] at VO;exact absurd f4' (Nat.not_le_of_lt VO))];exact f2'
        have aX:Bc r B g K R i (.slice va vn vc) stop w wT (.returned (.iface 90 (.pointer (some ⟨pp,0,none⟩)))) (w11.setCell (af (.slice ra rn rc) t) (.int .i64 0)):=by
         rw[<-iM.out];exact⟨_,rfl,mo.trans X8,pp,fa,fn,fc,rfl,hf6,Kx.mono (by have:=mo.size;omega),by have:=mo.size;omega⟩
        obtain⟨xa,lY⟩:=Ex (af (.slice ra rn rc) t);rw[lY] at iX cX fX aX;replace⟨lY,aX⟩:=bD lY aX;clear aO Jj kK X8 Kx hf6 bM f3' f2' VO aT;go_wp2;go_ret;exact aX.out
       | nO =>
        rw[hs] at mT dK;have iM:=qp.out;rw[<-dK] at iM;replace iM:JW.nO=wT:=iM;clear hs dK;replace⟨iM,lS,pg,gX,dZ,n35⟩:=rr iM lS pg gX dZ n35;clear JX;go_wp2_with fail;refine mT.mono ?_;rintro e w11 ⟨pe,rfl,Du,hfd⟩;have kK:=gX.out.below Du;have aO:=kK.aR n35.out;have aT:t<(row++List.replicate (K-t) (0:Int)).length:=by rw[List.length_append,pg.out,List.length_replicate];omega
        have iX:=λw'=>aO.at.idx t aT w';have cX:=aO.at.aH t aT;have fX:=aO.mQ t aT;have c0:=aO.at.aH 0 (by omega);have X8:=aO.dB (Du.mono (by have:=mo.size;omega:B<=wi.heap.size)) t aT (.int .i64 0);obtain⟨gr,cap,hrv,-⟩:=Row.own.shape (kK.1 _ _ n35.out) (show 0<(row++List.replicate (K-t) (0:Int)).length by omega);replace hrv:Value.slice ra rn rc=.slice (some ⟨gr,0,none⟩) (row++List.replicate (K-t) (0:Int)).length cap:=hrv;have hx:af (.slice ra rn rc) t=⟨gr,t,none⟩:=by rw[hrv,cj]
        have VO:af (.slice ra rn rc) 0=⟨gr,0,none⟩:=by rw[hrv,cj]
        rw[VO] at c0;have hfd2:=hfd.set (b:=gr) (i:=t) (λs e=>by rw[c0] at e;cases e) (.int .i64 0);have aX:Bc r B g K R i (.slice va vn vc) stop w wT (.returned (.iface 77 (.pointer (some pe)))) (w11.setCell (af (.slice ra rn rc) t) (.int .i64 0)):=by
         rw[<-iM.out];exact⟨_,rfl,mo.trans X8,by rw[hx];exact hfd2⟩
        obtain⟨xa,lY⟩:=Ex (af (.slice ra rn rc) t);rw[lY] at iX cX fX aX;replace⟨lY,aX⟩:=bD lY aX;clear aO kK X8 hfd hfd2 hx VO hrv c0 aT;go_wp2;go_ret;exact aX.out
      .obtain rfl:t=K:=by omega
       have dt:decide ((t:Int)<(t:Int))=false:=decide_eq_false (by omega);have Vj:RR=.on fN dM row:=by
        rw[<-dK,Nat.sub_self];rfl
       rw[Nat.sub_self,List.replicate_zero,List.append_nil] at n35;have zi:=qp.out;rw[Vj] at zi;replace zi:vU stop t i T (4097-(p+1)) (p+1) fN dM (next++[row])=wT:=zi;have DX:=dZ.box;have c4:wi.cell? ⟨g,4,none⟩=some nv:=gX.cell DX (g:=g) (cap:=1) rfl 4 (show 4<1*7 by decide);obtain⟨na,nn,nc,rfl⟩:=(gX.ff dZ.next.out).shape;have hnl2:kD.length<4398046511104:=by rw[dZ.next.len,xK.out];omega
       have hs12:=mo.size;clear Vj dK;replace⟨zi,pg,lS,gX,dZ,n35,DX⟩:=zb zi pg lS gX dZ n35 DX;go_wp2_with (at_builtin;go_loud (refine qS dL rfl _ _ rfl gX.out (33,0) (.slice na nn nc) kD dZ.out.next.out (.slice ra rn rc) rfl rfl rfl hnl2 (by omega) ?_));intro v5 w5' f5' R5 i5 o5 B5 qJ;obtain⟨row5,g5,Ib⟩:=qJ;obtain⟨pa,pn,pc,rfl⟩:=(R5.ff i5).shape;have d30:=(o5 _ (by decide)).trans DX.out;have d35:=(o5 _ (by decide)).trans n35.out;have z4:=R5.cell d30 (g:=g) (cap:=1) rfl 4 (show 4<1*7 by decide);replace z4:w5'.cell? ⟨g,4,none⟩=some (.slice na nn nc):=z4;have fz4:=R5.frozen d30 (g:=g) (cap:=1) rfl 4;have R6:=R5.set d30 (g:=g) (cap:=1) rfl 4 (.slice pa pn pc);obtain⟨F6,Ax⟩:=Ex (ch f5' (30,0) (some (ie 88 g [.int .i64 t,.int .i64 R,.slice va vn vc,.pointer (some ⟨gb,0,none⟩),.slice pa pn pc,AB,.bool stop])));replace R6:Rows B (w5'.setCell ⟨g,4,none⟩ (.slice pa pn pc)) (ch f5' (30,0) (some (ie 88 g [.int .i64 t,.int .i64 R,.slice va vn vc,.pointer (some ⟨gb,0,none⟩),.slice pa pn pc,AB,.bool stop]))):=R6;have g6:w5'.grownBy (w5'.setCell ⟨g,4,none⟩ (.slice pa pn pc)) (some g):=(World.ownsRow.stored (R5.1 _ _ d30) 4 (.slice pa pn pc)).2;have Ze:=dZ.out.HE.kept gX.out dZ.out.next.out ⟨by decide,by decide,by decide⟩ o5 g5 Ib;have ZI:=Ze.kept R5 d30 ⟨by decide,by decide,by decide⟩ (f':=F6) (λj e=>by rw[<-Ax];exact ad _ _ e) g6 (by intro k e;injection e with e;rw[<-e];rfl);rw[Ax] at R6;have Zv:F6 (35,0)=some (aD (.slice ra rn rc) row):=by rw[<-Ax,ad _ _ (by decide)];exact d35
       have R7:=R6.move (j:=(34,next.length)) Zv (R6.1 _ _ Zv) rfl;have o7:∀j:Nat×Nat,j≠(34,next.length)->j.1≠35->ch (ch F6 (35,0) none) (34,next.length) (some (aD (.slice ra rn rc) row)) j=F6 j:=λj a1 a2=>by rw[ad _ _ a1,ad _ _ (by intro e;exact a2 (by rw[e]))]
       have oF:∀j:Nat×Nat,j≠(30,0)->j≠(33,0)->F6 j=f2 j:=λj a1 a2=>by rw[<-Ax,ad _ _ a1];exact o5 j a2
       have n34:∀j:Nat×Nat,j.1≠34->j≠(34,next.length):=λj a e=>a (by rw[e]);have W7:gD B (w5'.setCell ⟨g,4,none⟩ (.slice pa pn pc)) (ch (ch F6 (35,0) none) (34,next.length) (some (aD (.slice ra rn rc) row))) g gb b t R i (.slice va vn vc) stop fN dM (next++[row]) sv' jl AB wvs' (.slice pa pn pc) (kD++[.slice ra rn rc]):=by
        refine⟨?_,ZI.congr λj hj=>o7 j (n34 j (by omega)) (by omega),dZ.out.words.congr λj hj=>?_,dZ.out.next.more ?_ (ah _ _ _) λq hq=>?_⟩;.rw[o7 _ (by intro e;cases e) (by decide),<-Ax,ah]
        .rw[o7 j (n34 j (by omega)) (by omega),oF j (by intro e;subst e;omega) (by intro e;subst e;omega)]
        .rw[o7 _ (by intro e;cases e) (by decide),<-Ax,ad _ _ (by decide)];exact i5
        .rw[o7 _ (by intro e;injection e with _ e;omega) (by show(34:Nat)≠35;decide),oF _ (by intro e;cases e) (by intro e;cases e)]
       have sH:=mo.trans (B5.setCell (show B<=(⟨g,4,none⟩:Addr).block from Hy) (.slice pa pn pc));have aX:=@Hd (aao B w g gb b t R i (.slice va vn vc) stop T wT (p+1) (w5'.setCell ⟨g,4,none⟩ (.slice pa pn pc))) (⟨fN,dM,next++[row],_,_,_,_,_,_,_,zi.out,lS.out,by omega,by rw[List.length_append,xK.out];rfl,R7,W7,sH⟩);clear W7 n34 oF o7 R7 Zv ZI Ze g6 R6 Ax d35 d30 i5 o5 B5 R5 g5 Ib;go_wp2;go_roundw;case measure=>simp[intOf];omega
       case rel=>exact⟨p+1,by go_num,aX.out⟩
    .have dp:decide ((p:Int)<(sets.length:Int))=false:=decide_eq_false (by omega);rw[JI sI (by omega)] at qp;have aX:Bc r B g K R i (.slice va vn vc) stop w wT (.returned .nilIface) wo:=by
      rw[<-qp];exact⟨rfl,A6,_,_,_,_,_,_,_,_,_,np,xF⟩
     replace⟨aX,np,xF,OR,xK⟩:=mV aX np xF OR xK;clear qp;go_wp2_with fail;refine len.mono ?_;rintro e w' ⟨rfl,rfl⟩;go_wp2;go_ret;exact aX.out
end Go.Proofs.YtgjfejfeoofkhaaGreatDoor
