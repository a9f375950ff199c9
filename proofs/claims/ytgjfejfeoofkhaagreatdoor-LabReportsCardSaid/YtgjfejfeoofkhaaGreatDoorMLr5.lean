/-
  Texts that the proof leans on.
-/
import Derived.Test.YtgjfejfeoofkhaaGreatDoorMLr4
import Derived.Deep.DeepCutAuto
import Derived.Ground.NamesProg
import Derived.Shelf.Slices.Cells
import Derived.RangeFuncBox
import Derived.RangeFuncLeaves
import Derived.Shelf.Abstract
import Derived.OwnWalkIn
import Derived.TacticsInMore
import Derived.LoopNIn
import Derived.LoopIn
import Derived.Maps.AppendAt
import Derived.Ground.SlgmProg
import Derived.Shelf.SlGeneric
import Derived.Shelf.SortM.Plain
import Derived.Shelf.SortM.SortNone
import Derived.Lib.SlKeysI
import Derived.Shelf.Bits.Mul64
import Derived.Deep.LoopGhost
set_option maxHeartbeats 8000000
set_option maxRecDepth 100000
namespace Go.Proofs.YtgjfejfeoofkhaaGreatDoor
open Go.RowKit
def jQ:ByteArray:=⟨#[103,114,97,112,104]⟩
def nA(n:Nat)(t:Int):Bool:=decide (t<0)||decide ((n:Int)<=t)
def aU(G:List (List Int)):Nat->Nat
 | 0=>0
 | k+1=>aU G k+(G.getD k []).length
def fp(G:List (List Int)):Nat->Int
 | 0=>-1
 | k+1=>if fp G k<0 then (if 0<=idxOf (nA G.length) (G.getD k []) then (k:Int) else fp G k) else fp G k
def cH(G:List (List Int)):ky :=
 if 8192<G.length then fresh jQ 0 4
 else if 262144<aU G G.length then fresh jQ 1 4
 else if 0<=fp G G.length then fresh jQ (fp G G.length) 1
 else none
theorem fi(G:List (List Int)){k l:Nat}(h:k<=l):aU G k<=aU G l:=by
 induction l with
 | zero=>obtain rfl:k=0:=by omega
         exact Nat.le_refl _
 | succ l ih =>
  by_cases e:k=l+1;.subst e;exact Nat.le_refl _
  .have:=ih (by omega);simp only[aU];omega
theorem DS(G:List (List Int)):∀k,fp G k<0->∀v,v<k->∀t∈G.getD v [],nA G.length t=false
 | 0,_,v,hv=>by omega
 | k+1,h,v,hv=>by
  simp only[fp] at h;by_cases hk:fp G k<0
  .rw[if_pos hk] at h;by_cases hj:0<=idxOf (nA G.length) (G.getD k []);.rw[if_pos hj] at h;omega
   .by_cases e:v=k
    .subst e;intro t ht;rcases lH (nA G.length) (G.getD v []) with ⟨_,q⟩ | ⟨i,q,_⟩;.exact q t ht
     .omega
    .exact DS G k hk v (by omega)
  .rw[if_neg hk] at h;exact absurd h hk
theorem lr{G:List (List Int)}(h:cH G=none):G.length<=8192/\aU G G.length<=262144/\bR G:=by
 unfold cH at h;by_cases h1:8192<G.length;.rw[if_pos h1] at h;cases h
 rw[if_neg h1] at h;by_cases h2:262144<aU G G.length;.rw[if_pos h2] at h;cases h
 rw[if_neg h2] at h;by_cases h3:0<=fp G G.length;.rw[if_pos h3] at h;cases h
 refine⟨by omega,by omega,λv hv t ht=>?_⟩;have:=DS G G.length (by omega) v hv t ht;simp[nA] at this;omega
theorem gW(r:Nat->Addr)(at_ n:Int)(w:World)(hg:ck r w)(h1:1<=n)(h2:n<=11):
 Calls Tryz.prog 133 #[.int .i64 at_,.int .i64 n] w (cz (λv w'=>bf r w' (fresh jQ at_ n) v) w):=by
 go_enter Tryz.func133,Tryz.ntmps133;go_wp2_with fail;refine(uy r _ at_ n w hg h1 h2).mono ?_;rintro e w' ⟨v,rfl,hb,he⟩;go_wp2;go_ret;exact⟨_,rfl,hb,he⟩
theorem Mc(x:Int)(na:Option Addr)(n nc:Nat)(b:Addr)(w:World)(hb:w.cell? b=some (.slice na n nc)):
 Calls Tryz.prog 160 #[.int .i64 x,.pointer (some b)] w λe w'=>e=.returned (.bool (nA n x))/\w=w':=by
 by_cases h:x<0
 .have e:nA n x=true:=by simp[nA,h]
  rw[e];go_enter Tryz.func160,Tryz.ntmps160;go_wp2;go_ret;exact⟨rfl,rfl⟩
 .have e:nA n x=decide ((n:Int)<=x):=by simp[nA,h]
  rw[e];go_enter Tryz.func160,Tryz.ntmps160;go_wp2;go_ret;exact⟨kr (by simp),rfl⟩
theorem QY(args:Array Value)(w:World):(callFunc 160 args).run Tryz.prog w=.ok (.enter 160 args) w:=by kernel_rfl
theorem q8(v b:Value)(F:Nat)(xs:List Int)(p:Int->Bool)(w:World)(h:ae w v xs)(eg:∀args w,(callFunc F args).run Tryz.prog w=.ok (.enter F args) w)(hF:∀x:Int,x∈xs->Calls Tryz.prog F #[.int .i64 x,b] w λe w'=>e=.returned (.bool (p x))/\w=w'):
 Calls Tryz.prog 95 #[v,.func (.func F) #[] #[b]] w λe w'=>e=.returned (.bool (decide (0<=idxOf p xs)))/\w=w':=by
 have hI:=vr v b F xs p w h eg hF;clear hF eg;go_enter Tryz.func95,Tryz.ntmps95;go_wp2_with fail;refine hI.mono ?_;rintro e w' ⟨rfl,rfl⟩;go_wp2;go_ret;exact⟨kr (by simp),rfl⟩
theorem tJ(r:Nat->Addr)(na:Option Addr)(nc:Nat)(G:List (List Int))(w:World)(hg:ck r w)(h:bh w (.slice na G.length nc) G)(gQ:∀k,k<G.length->(G.getD k []).length<=17592186044416):
 Calls Tryz.prog 132 #[.slice na G.length nc] w (cz (λv w'=>bf r w' (cH G) v) w):=by
 have b0:Below w.heap.size w (w.alloc (.cells #[.slice na G.length nc] 86)):=(Below.refl _ _).alloc (Nat.le_refl _) _;obtain⟨w0,rJ⟩:=Ey (w.alloc (.cells #[.slice na G.length nc] 86));have c0:w0.cell? ⟨w.heap.size,0,none⟩=some (.slice na G.length nc):=by simp[rJ,go_sem]
 rw[<-rJ] at b0;replace gQ:=Hd gQ;replace hg:=Hd (hg.below b0);replace h:=Hd (h.below b0);have hn63:G.length<=9223372036854775807:=by
  obtain⟨vs,h1,h2,_⟩:=h.out;have:=h1.gN;omega
 by_cases Qu:8192<G.length
 .have hp:cH G=fresh jQ 0 4:=by unfold cH;rw[if_pos Qu]
  rw[hp];replace hp:=Hd hp;go_enter Tryz.func132,Tryz.ntmps132;go_wp2_with fail;rw[<-rJ];clear rJ;refine(gW r _ _ _ hg.out (by decide) (by decide)).mono ?_;rintro e w' ⟨v,rfl,hb,he⟩;replace he:=Hd he;go_wp2;go_ret;exact⟨_,rfl,Below.step b0 hb,he.out⟩
 .have Ux:∀k,k<=G.length->262144<aU G k->cH G=fresh jQ 1 4:=λk hk hq=>by
   unfold cH;rw[if_neg Qu,if_pos (by have:=fi G hk;omega)]
  have KZ:aU G G.length<=262144->cH G=if 0<=fp G G.length then fresh jQ (fp G G.length) 1 else none:=λhq=>by
   unfold cH;rw[if_neg Qu,if_neg (by omega)]
  replace⟨Ux,KZ⟩:=bD Ux KZ;have tU:decide ((G.length:Int)>8192)=false:=by simp;omega
  go_enter Tryz.func132,Tryz.ntmps132;go_upto_if 9 with fail;rw[<-rJ];clear rJ;go_wp2_with fail;go_loopw [3,4,13] (λa o i wr=>∃k n:Nat,k<=G.length/\i=.int .i64 k/\a=.int .i64 (aU G k)/\o=.int .i64 (fp G k)/\aU G k<=262144/\wr=w0.drewN n) (λ_ _ i _=>G.length-(intOf i).toNat);case atStart=>exact⟨0,0,by omega,rfl,rfl,rfl,by simp[aU],rfl⟩
  case round =>
   obtain⟨k,q,hk,rfl,rfl,rfl,hle,rfl⟩:=hrel;by_cases aT:k<G.length
   .obtain⟨mv,iR,cR,hM⟩:=h.out.row k aT;have I7:=gQ.out k aT;have qU:aU G (k+1)=aU G k+(G.getD k []).length:=rfl;have nT:fp G (k+1)=if fp G k<0 then (if 0<=idxOf (nA G.length) (G.getD k []) then (k:Int) else fp G k) else fp G k:=rfl;generalize G.getD k []=gk at *;have IG:=hM.len;replace hM:=Hd hM;by_cases Hw:262144<aU G k+gk.length;.have hp:=Ux.out (k+1) (by omega) (by omega);replace⟨hp,nT,qU⟩:=dO hp nT qU;go_wp2_with fail;refine(gW r _ _ _ (hg.out.below (below_drewN (Below.refl _ _) q)) (by decide) (by decide)).mono ?_;rintro e w' ⟨v,rfl,hb,he⟩;replace he:=Hd he;go_wp2;go_ret;exact⟨_,rfl,Below.step b0 (Below.step (below_drewN (Below.refl _ _) q) hb),by rw[hp.out];exact he.out⟩
    .by_cases Nj:fp G k<0
     .rw[if_pos Nj] at nT;have RH:=Hd (q8 mv (.pointer (some ⟨w.heap.size,0,none⟩)) 160 gk (nA G.length) (w0.drewN q) (hM.out.drewN q) QY (λx _=>Mc x na G.length nc _ _ c0));by_cases hx:0<=idxOf (nA G.length) gk
      .rw[if_pos hx] at nT;replace⟨nT,qU⟩:=bD nT qU;go_wp2_with fail;refine RH.out.mono ?_;rintro e w' ⟨rfl,rfl⟩;rw[show decide (0<=idxOf (nA G.length) gk)=true by simpa using hx];replace hx:=Hd hx;go_wp2;go_round;case measure=>simp[intOf];omega
       case rel=>exact⟨k+1,_,by omega,by go_num,by rw[qU.out];go_num,by rw[nT.out],by rw[qU.out];omega,rfl⟩
      .rw[if_neg hx] at nT;replace⟨nT,qU⟩:=bD nT qU;go_wp2_with fail;refine RH.out.mono ?_;rintro e w' ⟨rfl,rfl⟩;rw[show decide (0<=idxOf (nA G.length) gk)=false by simpa using hx];replace hx:=Hd hx;go_wp2;go_round;case measure=>simp[intOf];omega
       case rel=>exact⟨k+1,_,by omega,by go_num,by rw[qU.out];go_num,by rw[nT.out],by rw[qU.out];omega,rfl⟩
     .rw[if_neg Nj] at nT;replace⟨nT,qU⟩:=bD nT qU;go_wp2;go_round;case measure=>simp[intOf];omega
      case rel=>exact⟨k+1,_,by omega,by go_num,by rw[qU.out];go_num,by rw[nT.out],by rw[qU.out];omega,rfl⟩
   .obtain rfl:k=G.length:=by omega
    have hp:=KZ.out hle;by_cases Nj:0<=fp G G.length;.rw[if_pos Nj] at hp;replace hp:=Hd hp;go_wp2_with fail;refine(gW r _ _ _ (hg.out.below (below_drewN (Below.refl _ _) q)) (by decide) (by decide)).mono ?_;rintro e w' ⟨v,rfl,hb,he⟩;replace he:=Hd he;go_wp2;go_ret;exact⟨_,rfl,Below.step b0 (Below.step (below_drewN (Below.refl _ _) q) hb),by rw[hp.out];exact he.out⟩
    .rw[if_neg Nj] at hp;replace hp:=Hd hp;go_wp2;go_ret;exact⟨_,rfl,Below.step b0 (below_drewN (Below.refl _ _) q),by rw[hp.out];rfl⟩
def eh(G:List (List Int))(k j:Nat)(F:Nat->List Int):Prop :=
 ∀t,t<G.length->((F t).length<=aU G k+j/\∀y:Int,y∈F t↔∃v:Nat,y=v/\(v<k/\(t:Int)∈G.getD v []\/v=k/\(t:Int)∈(G.getD k []).take j))
theorem eh.zero(G:List (List Int)):eh G 0 0 (λ_=>[]):=by
 intro t _;refine⟨Nat.zero_le _,λy=>⟨λh=>(by cases h),λ⟨v,_,h⟩=>?_⟩⟩;rcases h with ⟨h,_⟩ | ⟨_,h⟩;.omega
 .simp at h
theorem eh.next{G:List (List Int)}{k:Nat}{F:Nat->List Int}(h:eh G k (G.getD k []).length F):eh G (k+1) 0 F:=by
 intro t ht;obtain⟨h1,h2⟩:=h t ht;refine⟨by simpa [aU] using h1,λy=>?_⟩;rw[h2 y];constructor
 .rintro⟨v,hv,h⟩;refine⟨v,hv,.inl ?_⟩;rcases h with ⟨a,b⟩ | ⟨rfl,b⟩;.exact⟨by omega,b⟩
  .rw[List.take_length] at b;exact⟨by omega,b⟩
 .rintro⟨v,hv,h⟩;rcases h with ⟨a,b⟩ | ⟨_,b⟩
  .refine⟨v,hv,?_⟩;by_cases e:v=k;.subst e;exact .inr ⟨rfl,by rw[List.take_length];exact b⟩
   .exact .inl ⟨by omega,b⟩
  .simp at b
theorem eh.add{G:List (List Int)}{k j u:Nat}{F:Nat->List Int}(h:eh G k j F)(hj:(G.getD k [])[j]?=some (u:Int)):eh G k (j+1) (aN F u (F u++[(k:Int)])):=by
 have dw:j<(G.getD k []).length:=by
  by_cases q:j<(G.getD k []).length;.exact q
  .rw[List.getElem?_eq_none (by omega)] at hj;cases hj
 have kg:(G.getD k []).take (j+1)=(G.getD k []).take j++[(u:Int)]:=by
  rw[List.take_add_one,hj];rfl
 intro t ht;obtain⟨h1,h2⟩:=h t ht;by_cases e:t=u
 .subst e;rw[ai];refine⟨by rw[List.length_append];simp only[List.length_cons,List.length_nil];omega,λy=>?_⟩;rw[List.mem_append,h2 y,kg];simp only[List.mem_singleton,List.mem_append];constructor
  .rintro(⟨v,hv,h⟩ | rfl)
   .refine⟨v,hv,?_⟩;rcases h with h | ⟨a,b⟩;.exact .inl h
    .exact .inr ⟨a,.inl b⟩
   .exact⟨k,rfl,.inr ⟨rfl,.inr (by simp)⟩⟩
  .rintro⟨v,hv,h⟩;rcases h with h | ⟨a,b | b⟩;.exact .inl ⟨v,hv,.inl h⟩
   .exact .inl ⟨v,hv,.inr ⟨a,b⟩⟩
   .right;rw[hv,a]
 .rw[ag _ _ _ e];refine⟨by omega,λy=>?_⟩;rw[h2 y,kg];simp only[List.mem_append,List.mem_singleton];constructor
  .rintro⟨v,hv,h⟩;refine⟨v,hv,?_⟩;rcases h with h | ⟨a,b⟩;.exact .inl h
   .exact .inr ⟨a,.inl b⟩
  .rintro⟨v,hv,h⟩;refine⟨v,hv,?_⟩;rcases h with h | ⟨a,b | b⟩;.exact .inl h
   .exact .inr ⟨a,b⟩
   .exact absurd (by omega) e
def kx(G H:List (List Int)):Prop:=H.length=G.length/\(∀t,t<G.length->(H.getD t []).length<=aU G G.length)/\∀t,t<G.length->∀y:Int,y∈H.getD t []↔∃v:Nat,y=v/\v<G.length/\(t:Int)∈G.getD v []
theorem eh.KJ{G:List (List Int)}{F:Nat->List Int}(h:eh G G.length 0 F):kx G (rowsOf G.length F):=by
 refine⟨kR _ _,λt ht=>?_,λt ht y=>?_⟩;.rw[jX _ _ _ ht];simpa using (h t ht).1
 .rw[jX _ _ _ ht,(h t ht).2 y];constructor
  .rintro⟨v,hv,h⟩;rcases h with h | ⟨_,h⟩;.exact⟨v,hv,h.1,h.2⟩
   .simp at h
  .rintro⟨v,hv,h⟩;exact⟨v,hv,.inl h⟩
theorem L3(na:Option Addr)(nc:Nat)(G:List (List Int))(w:World)(h:bh w (.slice na G.length nc) G)(bK:bR G)(hn:G.length<=8200)(sG:aU G G.length<=262144):
 Calls Tryz.prog 130 #[.slice na G.length nc] w (cz (λx w'=>∃H,kx G H/\bh w' x H) w):=by
 obtain⟨ov,w1,mk,ho,kZ⟩:=gS dL (G.length:Int) G.length w rfl (by omega);obtain⟨f1,dX,h1⟩:=WN.made G.length kZ (Nat.le_refl _) ho;obtain⟨oa,on,oc,rfl⟩:=ho.shape;have hlen:∀k,k<G.length->(G.getD k []).length<=262144:=λk hk=>by
  have:=fi G (show k+1<=G.length by omega);simp only[aU] at this;omega
 replace⟨h,bK,dX,ho,hlen⟩:=mV h bK dX ho hlen;go_enter Tryz.func130,Tryz.ntmps130;go_wp2_with fail;clear mk;go_loopw [13] (λkv wr=>∃(k:Nat) (F:Nat->List Int) (f:Names) (br:List Value),k<=G.length/\kv=.int .i64 k/\Rows w.heap.size wr f/\Below w.heap.size w wr/\WN f (.slice oa on oc) br G.length F/\eh G k 0 F) (λkv _=>G.length-(intOf kv).toNat);case atStart=>exact⟨0,_,f1,_,by omega,rfl,dX.out,kZ,h1,eh.zero G⟩
 case round =>
  clear h1 ho dX;obtain⟨k,F,f2,br,hk,rfl,dI,b2,h2,hB⟩:=hrel;obtain⟨wo,rfl⟩:=Ey wr;by_cases aT:k<G.length
  .obtain⟨mv,iR,qK,rI⟩:=h.out.row k aT;have cR:=(b2.cell (World.block_lt_of_cell? _ _ qK)).trans qK;clear qK;have hM:=rI.below b2;have jI:=hlen.out k aT;have oq:=bK.out k aT;have tu:=λ(j u:Nat) (F:Nat->List Int) (h:eh G k j F)=>h.add (u:=u);have oM:=λ(F:Nat->List Int) (h:eh G k (G.getD k []).length F)=>h.next;have uf:=λ(j t:Nat) (F:Nat->List Int) (h:eh G k j F) (ht:t<G.length)=>(h t ht).1;have ZU:=fi G hk;generalize G.getD k []=gk at *;have lM:=hM.len;generalize af (.slice na G.length nc) k=ra at *;replace⟨hB,tu,oM,uf,oq,dI,hM,rI⟩:=gp hB tu oM uf oq dI hM rI;go_wp2_with fail;clear iR cR lM;go_loopw [20] (λjv wr=>∃(j:Nat) (F:Nat->List Int) (f:Names) (br:List Value),j<=gk.length/\jv=.int .i64 j/\Rows w.heap.size wr f/\Below w.heap.size w wr/\WN f (.slice oa on oc) br G.length F/\eh G k j F) (λjv _=>gk.length-(intOf jv).toNat);case atStart=>exact⟨0,F,f2,br,by omega,rfl,dI.out,b2,h2,hB.out⟩
   case round =>
    clear hB dI h2 b2 hM;obtain⟨j,F,f3,br,hj,rfl,dP,b3,h3,hB⟩:=hrel;obtain⟨wo,rfl⟩:=Ey wr;by_cases dw:j<gk.length
    .have vt:=rI.out.below b3;have vg:=oq.out gk[j] (List.getElem_mem dw);obtain⟨u,hu⟩:∃u:Nat,gk[j]=u:=Int.eq_ofNat_of_zero_le vg.1;have nH:u<G.length:=by rw[hu] at vg;omega
     have EN:gk[j]?=some (u:Int):=by rw[List.getElem?_eq_getElem dw,hu]
     have jZ:gk.getD j 0=(u:Int):=by rw[List.getD_eq_getElem?_getD,EN];rfl
     have iJ:=λw'=>vt.idx j dw w';have cJ:=vt.aH j dw;rw[jZ] at cJ;have ks:=tu.out j u F hB EN;have Dr:=uf.out j u F hB nH;have j5:=(dP.ff h3.outer).at;have iO:=λw'=>j5.idx dL u (by rw[h3.len];exact nH) w';have cO:=j5.lp u (by rw[h3.len];exact nH);have hT:=dP.aR (h3.rows u nH);have tz:=λ(w1:World) (v':Value)=>h3.app dP nH (w1:=w1) (v':=v') (k:Int);have oz:=λ(w1:World) (v':Value) (xs:List Int)=>h3.put (B:=w.heap.size) (w1:=w1) nH (v':=v') (xs:=xs);have sS:w.heap.size<=wo.heap.size:=b3.size;generalize af mv j=ja at *;generalize oZ br u=tv at *;generalize af (.slice oa on oc) u=ua at *;replace⟨ks,tz,oz,hB,dP,j5,EN,jZ⟩:=gp ks tz oz hB dP j5 EN jZ;replace⟨hu,vg⟩:=bD hu vg;go_wp2_with (at_builtin;refine dD rfl _ _ rfl w.heap.size tv (F u) k hT rfl rfl (by omega) sS ?_);intro v' w7 eF b7 gn;have zQ:=tz.out w7 v' eF gn;obtain⟨y1,y2,y3,f8,nC,h8,_⟩:=oz.out w7 v' _ zQ;obtain⟨va,vn,vc,rfl⟩:=eF.at.shape;replace⟨nC,eF,zQ⟩:=dO nC eF zQ;clear gn hT iJ cJ cO;go_wp2;go_roundw;case measure=>simp[intOf];omega
     case rel=>exact⟨j+1,_,f8,_,by omega,by go_num,nC.out,(b3.trans b7).setCell y3 _,h8,ks.out⟩
    .obtain rfl:j=gk.length:=by omega
     have jD:=oM.out F hB;replace⟨jD,hB,dP⟩:=dO jD hB dP;go_wp2;go_roundw;case measure=>simp[intOf];omega
     case rel=>exact⟨k+1,F,f3,br,by omega,by go_num,dP.out,b3,h3,jD.out⟩
  .obtain rfl:k=G.length:=by omega
   have hT:=hB.KJ;have hL:=h2.lists dI;replace⟨hB,hT,hL,dI⟩:=gF hB hT hL dI;go_wp2;go_ret;exact⟨_,rfl,b2,_,hT.out,hL.out⟩
def uX(K N:Nat)(T:List Int)(u n:Nat):List (Int×Int):=(List.range n).map λs=>((rW K N u s:Int),lf K T u s)
theorem qG(K N:Nat)(T:List Int)(u n:Nat):(uX K N T u n).length=n:=by simp[uX]
theorem Pj(K N:Nat)(T:List Int)(u n:Nat):uX K N T u (n+1)=uX K N T u n++[((rW K N u n:Int),lf K T u n)]:=by simp[uX,List.range_succ]
def oS(K N:Nat)(T:List Int)(k j:Nat)(u:Nat):List (Int×Int):=if u<k then uX K N T u K else if u=k then uX K N T u j else []
theorem MF(K N:Nat)(T:List Int):oS K N T 0 0=λ_=>[]:=by
 funext u;unfold oS;rw[if_neg (by omega)];split;.simp[uX]
 .rfl
theorem Mn(K N:Nat)(T:List Int)(k:Nat):oS K N T k K=oS K N T (k+1) 0:=by
 funext u;unfold oS;by_cases h:u<k;.rw[if_pos h,if_pos (by omega)]
 .rw[if_neg h];by_cases e:u=k;.rw[if_pos e,if_pos (by omega)]
  .rw[if_neg e,if_neg (by omega)];split;.simp[uX]
   .rfl
theorem Cn(K N:Nat)(T:List Int)(k j:Nat):oS K N T k j k=uX K N T k j:=by unfold oS;rw[if_neg (by omega),if_pos rfl]
theorem K2(K N:Nat)(T:List Int)(k j:Nat):aN (oS K N T k j) k (uX K N T k (j+1))=oS K N T k (j+1):=by
 funext u;by_cases e:u=k;.subst e;rw[ai,Cn]
 .rw[ag _ _ _ e];unfold oS;by_cases h:u<k;.rw[if_pos h,if_pos h]
  .rw[if_neg h,if_neg h,if_neg e,if_neg e]
theorem Sb:Bf 160 162:=Me (by kernel_rfl) (by kernel_rfl)
theorem ot:OneCell 158 160 (.slice none 0 0) 24:=⟨by kernel_rfl,by kernel_rfl,rfl,by decide,λ_=>by kernel_rfl⟩
structure AN (f:Names) (ov:Value) (br:List Value) (n:Nat) (F:Nat->List (Int×Int)):Prop where
 outer:f (1,0)=some (bY 160 ov br)
 len:br.length=n
 rows:∀u,u<n->f (2,u)=some ⟨162,2,oZ br u,(F u).length,sj (F u)⟩
section
variable {B:Nat} {w:World} {f:Names} {ov:Value} {br:List Value} {n:Nat} {F:Nat->List (Int×Int)}
def JB(n:Nat):Names:=λi=>if i.1=2/\i.2<n then some ⟨162,2,.slice none 0 0,0,[]⟩ else none
theorem MJ(B:Nat)(w:World)(n:Nat):Rows B w (JB n):=by
 refine⟨λi r hi=>?_,λi j r s hi _ _=>?_⟩
 .unfold JB at hi;split at hi;.injection hi with hi;subst hi;exact World.ownsRow_nil w B _ 2
  .cases hi
 .left;unfold JB at hi;split at hi;.injection hi with hi;subst hi;rfl
  .cases hi
theorem AN.made{w1:World}(n:Nat)(hb:Below w.heap.size w w1)(hB:B<=w.heap.size)(ho:aZ 160 w.heap.size w1 ov (List.replicate n (.slice none 0 0))):
 ∃f,Rows B w1 f/\AN f ov (List.replicate n (.slice none 0 0)) n (λ_=>[]):=by
 refine⟨_,(MJ B w n).add (i:=(1,0)) (r':=bY 160 ov (List.replicate n (.slice none 0 0))) hb (ho.mono hB) (λk hk=>(ho.lt k hk).1),⟨ah _ _ _,by simp,λu hu=>?_⟩⟩;rw[ad _ _ (by simp)];show JB n (2,u)=_;unfold JB;rw[if_pos ⟨rfl,hu⟩];simp[oZ,List.getD,hu,sj]
theorem AN.app(h:AN f ov br n F)(hr:Rows B w f){w1:World}{u g c:Nat}(hu:u<n)(x y:Int)(ho:w1.ownsRow B 162 2 (.slice (some ⟨g,0,none⟩) ((F u).length+1) c) ((F u).length+1) (sj (F u)++[.int .i64 x,.int .i64 y]))(hJ:((oZ br u).ownBlock=some g/\w.grownBy w1 (oZ br u).ownBlock)\/(w.heap.size<=g/\w.grownBy w1 none)):
 w1.cell? (af ov u)=some (oZ br u)/\w1.frozen? (af ov u)=false/\B<=(af ov u).block /\
 ∃f' vals',Rows B (w1.setCell (af ov u) (.slice (some ⟨g,0,none⟩) ((F u).length+1) c)) f'/\AN f' ov vals' n (aN F u (F u++[(x,y)])):=by
 have dK:=h.rows u hu;have hg:w.grownBy w1 (oZ br u).ownBlock:=jr (hJ.imp (·.2) (·.2));have uw:(Value.slice (some ⟨g,0,none⟩) ((F u).length+1) c).ownBlock=(oZ br u).ownBlock\/∃k,(Value.slice (some ⟨g,0,none⟩) ((F u).length+1) c).ownBlock=some k/\w.heap.size<=k:=by
  rcases hJ with ⟨q,_⟩ | ⟨q,_⟩;.exact .inl q.symm
  .exact .inr ⟨g,rfl,q⟩
 have h1:=hr.grown (r':=⟨162,2,.slice (some ⟨g,0,none⟩) ((F u).length+1) c,(F u).length+1,sj (F u)++[Value.int .i64 x,Value.int .i64 y]⟩) dK hg (show Row.own B w1 ⟨_,_,_,_,_⟩ from ho) uw;have nD:ch f (2,u) (some ⟨162,2,.slice (some ⟨g,0,none⟩) ((F u).length+1) c,(F u).length+1,sj (F u)++[Value.int .i64 x,Value.int .i64 y]⟩) (1,0)=some (bY 160 ov br):=by rw[ad _ _ (by simp)];exact h.outer
 have hl:u<br.length:=by rw[h.len];exact hu
 have hO:=h1.ff nD;refine⟨hO.at.lp u hl,hO.mQ u hl,(hO.jP u hl).2,_,_,h1.L4 nD u hl _,⟨ah _ _ _,by simpa using h.len,λt ht=>?_⟩⟩;rw[ad _ _ (by simp)];by_cases e:t=u;.subst e;rw[ah,xj hl,ai,MR];simp
 .rw[ad _ _ (by simpa using e),Cs e,ag _ _ _ e];exact h.rows t ht
end
def Ij(w:World)(v:Value)(K N:Nat)(T:List Int):Prop :=
 ∃vs,aY w v vs/\vs.length=N/\∀u,u<N->∃g c,oZ vs u=.slice (some ⟨g,0,none⟩) K c/\K<=c/\∀s,s<K->w.cell? ⟨g,s*2,none⟩=some (.int .i64 (rW K N u s))/\w.cell? ⟨g,s*2+1,none⟩=some (.int .i64 (lf K T u s))
theorem AN.reads{B:Nat}{w:World}{f:Names}{ov:Value}{br:List Value}{K N:Nat}{T:List Int}(hK:1<=K)(h:AN f ov br N (oS K N T N 0))(hr:Rows B w f):Ij w ov K N T:=by
 refine⟨br,(hr.ff h.outer).at,h.len,λu hu=>?_⟩;have dK:=h.rows u hu;have hF:oS K N T N 0 u=uX K N T u K:=by unfold oS;rw[if_pos hu]
 rw[hF,qG] at dK;obtain⟨g,c,e,hc⟩:=qC (hr.1 _ _ dK) hK;refine⟨g,c,e,hc,λs hs=>?_⟩;have c0:=hr.cell dK (g:=g) (cap:=c) e (s*2) (by simp;omega);have c1:=hr.cell dK (g:=g) (cap:=c) e (s*2+1) (by simp;omega);have:=Ql (uX K N T u K) s (by rw[qG];exact hs);have ea:(uX K N T u K)[s]'(by rw[qG];exact hs)=((rW K N u s:Int),lf K T u s):=by simp[uX]
 rw[ea] at this;exact⟨c0.trans this.1,c1.trans this.2⟩
theorem Mg(r:Nat->Addr)(K R:Nat)(va:Option Addr)(vn vc:Nat)(T:List Int)(w:World)(hg:ck r w)(h:ae w (.slice va vn vc) T)(bK:aG K R T)(hl:T.length<=256):
 Calls Tryz.prog 79 #[.agg #[.int .i64 K,.int .i64 R,.slice va vn vc]] w (cz (λx w'=>Ij w' x K (T.length/K) T) w):=by
 have b0:=ab w (.cells #[.int .i64 K,.int .i64 R,.slice va vn vc] 24);have q:az (w.alloc (.cells #[.int .i64 K,.int .i64 R,.slice va vn vc] 24)) w.heap.size (.int .i64 K) (.int .i64 R) (.slice va vn vc):=by simp[az,go_sem]
 have dS:=bK.k1;have fs:=bK.k4;have ZL:T.length/K<=256:=Nat.le_trans (Nat.div_le_self _ _) hl;have uh:=λ(u s:Nat) (w':World) (jI:ck r w') (hT:ae w' (.slice va vn vc) T) (hu:u<T.length/K) (hs:s<K)=>zh r K R va vn vc T u s w' jI hT bK hl hu hs;have ld:=λ(w':World) (jI:ck r w') (hT:ae w' (.slice va vn vc) T)=>rS r K R va vn vc T w' jI hT bK hl;generalize T.length/K=N at *;replace⟨uh,ld⟩:=bD uh ld;replace hg:=Hd (hg.below b0);replace h:=Hd (h.below b0);replace bK:=Hd bK;go_enter Tryz.func79,Tryz.ntmps79;go_wp2_with fail;refine(ld.out _ hg.out h.out).mono ?_;rintro e w1 ⟨x,y,rfl,b1,rfl,rfl⟩;have q1:=q.below b1;have si:=Below.step b0 b1;have wN:=hg.out.below b1;have Oj:=h.out.below b1;clear q;go_wp2_with fail;obtain⟨ov,w2,mk,ho,ij⟩:=gS ot (N:Int) N w1 rfl (by omega);obtain⟨f1,dX,h1⟩:=AN.made N ij (Nat.le_refl _) ho;obtain⟨oa,on,oc,rfl⟩:=ho.shape;have lo:=λw'=>(ho.at).len ot 3 w';rw[List.length_replicate] at lo;rw[mk];simp only[Result.andThen];rw[<-MF K N T] at h1;replace⟨dX,ho,q1,wN,Oj⟩:=mV dX ho q1 wN Oj;clear mk;go_wp2_with fail;clear lo;go_loopw [20] (λkv wr=>∃(k:Nat) (f:Names) (br:List Value),k<=N/\kv=.int .i64 k/\Rows w1.heap.size wr f/\Below w1.heap.size w1 wr/\AN f (.slice oa on oc) br N (oS K N T k 0)) (λkv _=>N-(intOf kv).toNat);case atStart=>exact⟨0,f1,_,by omega,rfl,dX.out,ij,h1⟩
 case round =>
  clear h1 ho dX ij;obtain⟨k,f2,br,hk,rfl,dI,b2,h2⟩:=hrel;obtain⟨wo,rfl⟩:=Ey wr;by_cases aT:k<N
  .have z0:=(q1.out.below b2).1.1;replace dI:=Hd dI;go_wp2_with fail;clear z0;go_loopw [25] (λjv wr=>∃(j:Nat) (f:Names) (br:List Value),j<=K/\jv=.int .i64 j/\Rows w1.heap.size wr f/\Below w1.heap.size w1 wr/\AN f (.slice oa on oc) br N (oS K N T k j)) (λjv _=>K-(intOf jv).toNat);case atStart=>exact⟨0,f2,br,by omega,rfl,dI.out,b2,h2⟩
   case round =>
    clear dI h2 b2;obtain⟨j,f3,br,hj,rfl,dP,b3,h3⟩:=hrel;obtain⟨wo,rfl⟩:=Ey wr;by_cases dw:j<K
    .obtain⟨z0,z1,z2⟩:=(q1.out.below b3).1;replace dP:=Hd dP;go_wp2_with fail;refine(uh.out k j _ (wN.out.below b3) (Oj.out.below b3) aT dw).mono ?_;rintro e w4 ⟨x,y,z,rfl,b4,rfl,rfl,rfl⟩;have lV:=dP.out.below b4;have Ng:=Below.trans b3 (b4.mono b3.size);clear z0 z1 z2;have j5:=(lV.ff h3.outer).at;have iO:=λw'=>j5.idx ot k (by rw[h3.len];exact aT) w';have cO:=j5.lp k (by rw[h3.len];exact aT);have hT:=lV.1 _ _ (h3.rows k aT);have DB:w1.heap.size<=w4.heap.size:=Ng.size;have tz:=λ(w5:World) (g c:Nat)=>h3.app lV (w1:=w5) (g:=g) (c:=c) aT (rW K N k j) (lf K T k j);rw[Cn,<-Pj,K2] at tz;rw[Cn] at hT;unfold Row.own at hT;simp only[qG] at hT;generalize oZ br k=tv at *;generalize af (.slice oa on oc) k=ua at *;obtain⟨X,hX⟩:=Ex (rW K N k j);obtain⟨Y,hY⟩:=Ex (lf K T k j);rw[hX,hY] at tz ⊢;replace⟨tz,lV,j5,hX,hY⟩:=mV tz lV j5 hX hY;go_wp2_with (at_builtin;go_loud (refine UH Sb rfl _ _ rfl w1.heap.size tv j (sj (uX K N T k j)) X Y _ hT rfl rfl (by simp) (by omega) DB ?_));intro g c w7 eF gn;obtain⟨y1,y2,y3,f8,vals8,nC,h8⟩:=tz.out w7 g c (by rw[qG];exact eF) gn;rw[qG] at nC;replace⟨nC,eF⟩:=bD nC eF;have b7:Below w1.heap.size w4 w7:=by
      rcases gn with ⟨hv,qJ⟩ | ⟨_,qJ⟩;.exact(Below.refl _ _).grown qJ DB (λm hm=>(World.ownsRow.lt hT m hm).1)
      .exact(Below.refl _ _).grown qJ DB (λm hm=>by cases hm)
     clear gn hT cO;go_wp2;go_roundw;case measure=>simp[intOf];omega
     case rel=>exact⟨j+1,f8,vals8,by omega,by go_num,nC.out,(Ng.trans b7).setCell y3 _,h8⟩
    .obtain rfl:j=K:=by omega
     rw[Mn] at h3;replace dP:=Hd dP;go_wp2;go_roundw;case measure=>simp[intOf];omega
     case rel=>exact⟨k+1,f3,br,by omega,by go_num,dP.out,b3,h3⟩
  .obtain rfl:k=N:=by omega
   have hA:=h2.reads dS dI;replace⟨hA,dI⟩:=bD hA dI;have bE:=Below.step si b2;go_wp2;go_ret;exact⟨_,rfl,bE,hA.out⟩
open Go.RowKit Go.Shelf
def Tryz.JS:Go.Shelf.Ren:=⟨fun | 112=>94 | n=>n,fun | 28=>22 | 3=>3 | 4=>4 | 0=>0 | n=>n,fun | n=>n⟩
theorem Tryz.NV:Go.Proofs.Lays.n112 Tryz.prog Tryz.JS:={
 mixed:=by kernel_rfl
 f112:=Tryz.func94.trans (congrArg some (by kernel_rfl))
 t0:=Tryz.underlying0
 a0:=Tryz.isAgg0
 z0:=Tryz.sizeOf0
 v0:=Tryz.zeroValue0
 t3:=Tryz.underlying3
 a3:=Tryz.isAgg3
 z3:=Tryz.sizeOf3
 v3:=Tryz.zeroValue3
 t4:=Tryz.underlying4
 a4:=Tryz.isAgg4
 z4:=Tryz.sizeOf4
 v4:=Tryz.zeroValue4
 t28:=Tryz.underlying22
 a28:=Tryz.isAgg22
 z28:=Tryz.sizeOf22
 v28:=Tryz.zeroValue22 }
theorem rL{B g n cap:Nat}{w0:World}:∀(zs:List Int) (o:Nat) (xs:List Int) (w:World),xs.length=n->o+zs.length<=n->aj B w (.slice (some ⟨g,0,none⟩) n cap) xs->Below B w0 w ->
 aj B (w.setCells g o (zs.map (Value.int .i64))) (.slice (some ⟨g,0,none⟩) n cap) (xs.take o++zs++xs.drop (o+zs.length))/\Below B w0 (w.setCells g o (zs.map (Value.int .i64)))
 | [],o,xs,w,_,_,h,hb=>⟨by simpa [World.setCells] using h,hb⟩
 | z::r,o,xs,w,hn,ho,h,hb=>by
  have tR:o<xs.length:=by simp at ho;omega
  have h1:=h.set o tR z;have h2:=h.dB hb o tR (.int .i64 z);rw[cj] at h1 h2;have ih:=rL r (o+1) (xs.set o z) _ (by simpa using hn) (by simp at ho;omega) h1 h2;have e:(xs.set o z).take (o+1)++r++(xs.set o z).drop (o+1+r.length)=xs.take o++(z::r)++xs.drop (o+(z::r).length):=by
   rw[List.take_set,List.drop_set_of_lt (by omega)];rw[show(xs.take (o+1)).set o z=xs.take o++[z] by rw[gR xs o tR,List.set_append_right _ _ (by simp;omega)];simp[show o-min o xs.length=0 by omega]];simp[show o+1+r.length=o+(r.length+1) by omega]
  rw[e] at ih;exact ih
theorem tr(B:Nat)(v:Value)(xs:List Int)(w:World)(h:aj B w v xs)(hl:xs.length<=9223372036854775807):
 Calls Tryz.prog 94 #[v] w λe w'=>e=.returned (.tuple #[])/\aj B w' v xs.reverse/\Below B w w':=by
 rcases h.2 with ⟨rfl,hn⟩ | ⟨g,cap,cur,rfl,hb,hg,hn,hm,hs,ht⟩;.obtain rfl:=List.length_eq_zero_iff.1 hn;refine Calls.mono (Any.slices_Reverse_int_empty Tryz.NV none 0 w) ?_;rintro e w' ⟨rfl,rfl⟩;exact⟨rfl,h,Below.refl _ _⟩
 .refine Calls.mono (Any.slices_Reverse_int_cells Tryz.NV g 0 xs.length cap xs w (Nat.le_refl _) hl (λj hj=>?_) (λj hj=>?_)) ?_;.have:=h.at.aH j hj;rw[cj] at this;simpa using this
  .have:=h.mQ j hj;rw[cj] at this;simpa using this
  .rintro e w' ⟨rfl,q,rfl⟩;rw[List.take_length];have:=rL (w0:=w) xs.reverse 0 xs (w.drewN q) rfl (by simp) (h.drewN q) (below_drewN (Below.refl _ _) q);simp at this;simpa using ⟨this.1,this.2⟩
def Ao(zs:List Int):Nat->List Int
 | 0=>[]
 | m+1=>Ao zs m++if m=0\/zs.getD m 0≠zs.getD (m-1) 0 then [zs.getD m 0] else []
theorem FH(zs:List Int):∀m,(Ao zs m).length<=m
 | 0=>Nat.le_refl _
 | m+1=>by
  have:=FH zs m;rw[Ao,List.length_append];split<;>simp<;>omega
theorem zF{zs:List Int}(h:zs.Pairwise (·<=·)){i j:Nat}(Nk:i<=j)(hj:j<zs.length):zs.getD i 0<=zs.getD j 0:=by
 simp only[List.getD_eq_getElem?_getD,List.getElem?_eq_getElem hj,List.getElem?_eq_getElem (show i<zs.length by omega),Option.getD_some];by_cases e:i=j;.subst e;exact Int.le_refl _
 .exact List.pairwise_iff_getElem.1 h i j (by omega) hj (by omega)
theorem Iw{zs:List Int}(h:zs.Pairwise (·<=·)):∀m,m<=zs.length->(Ao zs m).Pairwise (·<·)/\(∀x,x∈Ao zs m↔x∈zs.take m)
 | 0,_=>by simp[Ao]
 | m+1,hm=>by
  obtain⟨h1,h2⟩:=Iw h m (by omega);have ht:zs.take (m+1)=zs.take m++[zs.getD m 0]:=by
   rw[List.take_add_one,List.getElem?_eq_getElem (show m<zs.length by omega)];simp[List.getD,show m<zs.length by omega]
  have top:∀x∈zs.take m,m≠0/\x<=zs.getD (m-1) 0:=λx hx=>by
   obtain⟨i,hi,e⟩:=List.mem_iff_getElem.1 hx;have C5:i<m:=by rw[List.length_take] at hi;omega
   have:=zF h (show i<=m-1 by omega) (by omega);rw[List.getElem_take] at e;rw[List.getD_eq_getElem?_getD,List.getElem?_eq_getElem (show i<zs.length by omega),Option.getD_some,e] at this;exact⟨by omega,this⟩
  rw[Ao,ht];by_cases c:m=0\/zs.getD m 0≠zs.getD (m-1) 0;.rw[if_pos c];refine⟨List.pairwise_append.2 ⟨h1,by simp,λa ha b hb=>?_⟩,λx=>by simp[h2]⟩;rw[List.mem_singleton] at hb;subst hb;obtain⟨t1,t2⟩:=top a ((h2 a).1 ha);have:=zF h (show m-1<=m by omega) (by omega);rcases c with c | c<;>omega
  .rw[if_neg c,List.append_nil];refine⟨h1,λx=>?_⟩;rw[h2,List.mem_append,List.mem_singleton];constructor;.exact .inl
   .rintro(q | q);.exact q
    .have c2:m≠0/\zs.getD m 0=zs.getD (m-1) 0:=by
      refine⟨λe=>c (.inl e),?_⟩;apply Classical.byContradiction;intro e;exact c (.inr e)
     rw[q,c2.2,List.mem_iff_getElem];refine⟨m-1,by rw[List.length_take];omega,?_⟩;rw[List.getElem_take];simp[List.getD,show m-1<zs.length by omega]
theorem Bv:∀{L M:List Int},L.Pairwise (·<·)->M.Pairwise (·<·)->(∀v,v∈L↔v∈M)->L=M
 | [],[],_,_,_=>rfl
 | [],b::M,_,_,h=>absurd ((h b).2 List.mem_cons_self) (by simp)
 | a::L,[],_,_,h=>absurd ((h a).1 List.mem_cons_self) (by simp)
 | a::L,b::M,hL,hM,h=>by
  obtain⟨a1,a2⟩:=List.pairwise_cons.1 hL;obtain⟨b1,b2⟩:=List.pairwise_cons.1 hM;have Ae:a=b:=by
   rcases List.mem_cons.1 ((h a).1 List.mem_cons_self) with e | e;.exact e
   .rcases List.mem_cons.1 ((h b).2 List.mem_cons_self) with e2 | e2;.exact e2.symm
    .have:=b1 a e;have:=a1 b e2;omega
  subst Ae;rw[Bv a2 b2 λv=>?_];have:=h v;simp only[List.mem_cons] at this;constructor
  .intro hv;rcases this.1 (.inr hv) with e | e;.subst e;exact absurd (a1 v hv) (Int.lt_irrefl _)
   .exact e
  .intro hv;rcases this.2 (.inr hv) with e | e;.subst e;exact absurd (b1 v hv) (Int.lt_irrefl _)
   .exact e
theorem IJ{K N:Nat}{T:List Int}(hN:0<N){p:Nat}{zs:List Int}(hs:zs.Pairwise (·<=·))(hm:∀x,x∈zs↔x∈(lN K N T (p/N) (p%N) K).map λ(n:Nat)=>(n:Int)):
 Ao zs zs.length=(bu K N T p).map λ(n:Nat)=>(n:Int):=by
 obtain⟨h1,h2⟩:=Iw hs zs.length (Nat.le_refl _);refine Bv h1 (List.pairwise_map.2 ((yb K N T p).imp λh=>by omega)) λv=>?_;rw[h2,List.take_length,hm];simp only[List.mem_map];constructor;.rintro⟨q,hq,rfl⟩;exact⟨q,(dU hN).2 (Bz.1 hq),rfl⟩
 .rintro⟨q,hq,rfl⟩;exact⟨q,Bz.2 ((dU hN).1 hq),rfl⟩
def Tryz.Ak:Go.Shelf.Ren:=⟨fun | 20=>81 | n=>n,fun | 22=>22 | 3=>3 | 4=>4 | 0=>0 | n=>n,fun | n=>n⟩
theorem Tryz.zq:Go.Proofs.Lays2.n20 Tryz.prog Tryz.Ak:={
 mixed:=by kernel_rfl
 f20:=Tryz.func81.trans (congrArg some (by kernel_rfl))
 t0:=Tryz.underlying0
 a0:=Tryz.isAgg0
 z0:=Tryz.sizeOf0
 v0:=Tryz.zeroValue0
 t3:=Tryz.underlying3
 a3:=Tryz.isAgg3
 z3:=Tryz.sizeOf3
 v3:=Tryz.zeroValue3
 t4:=Tryz.underlying4
 a4:=Tryz.isAgg4
 z4:=Tryz.sizeOf4
 v4:=Tryz.zeroValue4
 t22:=Tryz.underlying22
 a22:=Tryz.isAgg22
 z22:=Tryz.sizeOf22
 v22:=Tryz.zeroValue22
 i3:=by kernel_rfl }
theorem Jc(zs:List Int):Lib.compact zs=Ao zs zs.length:=by
 have:∀m,m<=zs.length->Lib.compactUpTo zs.toArray m=Ao zs m:=by
  intro m;induction m with
  | zero=>intro _;rfl
  | succ m ih =>
   intro hm;rw[Lib.compactUpTo_succ,ih (by omega),Ao];have e1:zs.toArray[m]! = zs.getD m 0:=by
    rw[getElem!_pos zs.toArray m (by simp;omega)];simp[List.getD,show m<zs.length by omega]
   have e2:zs.toArray[m-1]! = zs.getD (m-1) 0:=by
    rw[getElem!_pos zs.toArray (m-1) (by simp;omega)];simp[List.getD,show m-1<zs.length by omega]
   unfold Lib.keeps;rw[e1,e2];by_cases c:m=0\/zs.getD m 0≠zs.getD (m-1) 0;.rw[if_pos c,if_pos (by simpa using c)]
   .rw[if_neg c,if_neg (by simpa using c)]
 exact this _ (Nat.le_refl _)
theorem aj.ZF{B:Nat}{w:World}{a:Option Addr}{n c:Nat}{xs:List Int}(h:aj B w (.slice a n c) xs)(m:Nat)(hm:m<=xs.length):aj B w (.slice a m c) (xs.take m):=by
 rcases h.2 with ⟨e,e2⟩ | ⟨g,cap,cur,e,hB,hg,hn,C1,hs,ht⟩
 .injection e with e1 e3 e4;subst e1 e4;obtain rfl:=List.length_eq_zero_iff.1 e2;obtain rfl:m=0:=by simpa using hm
  exact aj.nil B w
 .injection e with e1 e3 e4;subst e1 e4;have hl:(xs.take m).length=m:=by simp;omega
  refine⟨by simp,.inr ⟨g,c,cur,by rw[hl],hB,hg,by rw[hl];omega,C1,hs,?_⟩⟩;rw[hl,List.map_take,<-ht,List.take_take];congr 1;omega
theorem JE(B:Nat)(v:Value)(xs:List Int)(w:World)(h:aj B w v xs)(hl:xs.length<=9223372036854775807):
 Calls Tryz.prog 81 #[v] w λe w'=>∃x,e=.returned x/\x.ownBlock=v.ownBlock/\aj B w' x (Ao xs xs.length)/\Below B w w':=by
 rcases h.2 with ⟨rfl,hn⟩ | ⟨g,cap,cur,rfl,hb,hg,hn,hm,hs,ht⟩;.obtain rfl:=List.length_eq_zero_iff.1 hn;refine Calls.mono (Any.slices_Compact_int_empty Tryz.zq none 0 w) ?_;rintro e w' ⟨rfl,rfl⟩;exact⟨_,rfl,rfl,h,Below.refl _ _⟩
 .refine Calls.mono (Any.slices_Compact_int_cells Tryz.zq g 0 xs.length cap xs w (Nat.le_refl _) hl hn (λj hj=>?_) (λj hj=>?_)) ?_;.have:=h.at.aH j hj;rw[cj] at this;simpa using this
  .have:=h.mQ j hj;rw[cj] at this;simpa using this
  .rintro e w' ⟨rfl,q,rfl⟩;rw[List.take_length,Jc];have hd:=FH xs xs.length;have hL:(Ao xs xs.length++List.replicate (xs.length-(Ao xs xs.length).length) (0:Int)).length=xs.length:=by simp;omega
   have:=rL (w0:=w) (Ao xs xs.length++List.replicate (xs.length-(Ao xs xs.length).length) 0) 0 xs (w.drewN q) rfl (by rw[hL];omega) (h.drewN q) (below_drewN (Below.refl _ _) q);rw[hL,List.take_zero,List.nil_append,Nat.zero_add,List.drop_length,List.append_nil] at this;have ho:=this.1.ZF (Ao xs xs.length).length (by rw[hL];exact hd);rw[List.take_left'  rfl] at ho;exact⟨_,rfl,rfl,ho,this.2⟩
attribute [local go_sem] Oper.semAt_some
theorem Vm(F:Fence)(n:Nat)(hF:F.fn 180)(hro:F.round=none)(hn:1<=n)(l Bs n0:Nat)(v:Value)(zs:List Int)(J Jx:List Int->World->Prop)(hY:∀pre x W,J pre W->pre.length<zs.length->YieldAt F (n-1) Tryz.prog l #[.int .i64 x] W λe W'=>
   (e=.returned (.bool true)/\J (pre++[x]) W'/\Below n0 W W')\/(e=.returned (.bool false)/\Jx (pre++[x]) W'))(W:World)(DI:W.cell? ⟨Bs,0,none⟩=some v)(hv:ae W v zs)(hb:∀i,i<zs.length->(af v i).block<n0)(h0:J [] W):
 CallsIn F n Tryz.prog 180 #[.func (.yield l) #[] #[],.pointer (some ⟨Bs,0,none⟩)] W λe W'=>(∃u,e=.returned u) /\
  ((∃ys,ys=zs/\J ys W')\/(∃pre,pre <+: zs/\Jx pre W')):=by
 have hlen:=hv.len;have hmax:=hv.gN;replace hv:=Hd hv;refine callsIn_of_wp Tryz.func180 rfl hF ?_ hro;simp only[Tryz.ntmps180,List.size_toArray,List.length_cons,List.length_nil,Nat.reduceAdd,Nat.reduceSub,Array.replicate_succ,Array.replicate_zero,List.push_toArray,List.append_toArray,List.nil_append,List.cons_append];gi_wp2;gi_loopw [7] (λi wr=>∃k:Nat,k<=zs.length/\i=.int .i64 k/\J (zs.take k) wr/\Below n0 W wr)
  (λi _=>zs.length-(intOf i).toNat);case atStart=>exact⟨0,Nat.zero_le _,rfl,h0,Below.refl _ _⟩
 case round =>
  obtain⟨k,hk,rfl,hJs,VV⟩:=hrel;by_cases aT:k<zs.length
  .have i1:=hv.out.idx k aT;have c1:=(VV.cell (hb k aT)).trans (hv.out.cell k aT);have ht:=Hd (gR zs k aT);obtain⟨x,hx⟩:=Ey (zs[k]);rw[<-hx] at c1 ht;clear hx;obtain⟨fn,tmps,assign,body,hy,hR⟩:=hY _ x wr hJs (by simp;omega);replace hJs:=Hd hJs;gi_wp2;refine hR.mono ?_;rintro e W3 (⟨rfl,hJ3,Tp⟩ | ⟨rfl,hJx3⟩)
   .replace hJ3:=Hd hJ3;gi_wp2;go_roundw;case rel=>exact⟨k+1,by omega,by go_num,by rw[ht.out];exact hJ3.out,VV.trans Tp⟩
    case measure=>simp[intOf];omega
   .replace hJx3:=Hd hJx3;gi_wp2;refine bodyPost_ret (results_none rfl _ _ _) rfl ?_;exact⟨⟨_,rfl⟩,.inr ⟨_,by rw[<-ht.out];exact List.take_prefix _ _,hJx3.out⟩⟩
  .obtain rfl:k=zs.length:=by omega
   rw[List.take_length] at hJs;replace hJs:=Hd hJs;gi_wp2;go_end0;exact⟨⟨_,rfl⟩,.inl ⟨_,rfl,hJs.out⟩⟩
theorem Uz(a:Option Addr)(n c:Nat)(w:World):
 Calls Tryz.prog 162 #[.slice a n c] w λe w'=>e=.returned (.func (.func 180) #[] #[.pointer (some ⟨w.heap.size,0,none⟩)])/\w.alloc (.cells #[.slice a n c] 22)=w':=by
 go_enter Tryz.func162,Tryz.ntmps162;go_wp2;go_ret;exact⟨rfl,rfl⟩
theorem MC(F:Fence)(n:Nat)(hF:F.fn 180)(hro:F.round=none)(hn:1<=n)(Bs n0:Nat)(v:Value)(zs:List Int)(w:World)(DI:Bs<w.heap.size)(hc:w.cell? ⟨Bs,0,none⟩=some v)(hv:ae w v zs)(hb:∀i,i<zs.length->(af v i).block<n0):
 SeqStopsK F n Tryz.prog 180 #[.pointer (some ⟨Bs,0,none⟩)] (fun x:Int=>#[Value.int .i64 x]) (Below n0) (λys=>ys=zs) (λpre=>pre <+: zs) zs.length w:=λl J Jx W hW _ _ hY h0=>
 Vm F n hF hro hn l Bs n0 v zs J Jx hY W ((hW.cell (p:=⟨Bs,0,none⟩) DI).trans hc) (hv.below hW) hb h0
theorem Fv(F:Fence)(n:Nat)(hA:F.fn 183)(hV:F.fn 180)(hro:F.round=none)(hn:3<=n)(Bs:Nat)(v:Value)(zs:List Int)(hlen:zs.length<=17592186044416)(w:World)(DI:Bs<w.heap.size)(hc:w.cell? ⟨Bs,0,none⟩=some v)(hv:ae w v zs):
 CallsIn F n Tryz.prog 183 #[.slice none 0 0,.func (.func 180) #[] #[.pointer (some ⟨Bs,0,none⟩)]] w λe w'=>∃x,e=.returned x/\aj w.heap.size w' x zs/\Below w.heap.size w w':=by
 have h1:1<=n:=by omega
 obtain⟨i0,hi,qq,kS,oU⟩:=info_parts Fu;refine callsIn_of_wp_marks Tryz.func183 rfl hA ?_ hro;simp only[Tryz.ntmps183,List.size_toArray,List.length_cons,List.length_nil,Nat.reduceAdd,Nat.reduceSub,Array.replicate_succ,Array.replicate_zero,List.push_toArray,List.append_toArray,List.nil_append,List.cons_append];replace hv:=Hd hv;gi_wp2;have bO:=Boxed.new w 22 (.slice none 0 0);have Cr:Below w.heap.size w (w.alloc (.cells #[.slice none 0 0] 22)):=(Below.refl _ w).alloc (Nat.le_refl _) _;refine wpIn_rangeFunc_ownG hro h1 (gf:=180) (lb:=#[.pointer (some ⟨Bs,0,none⟩)]) rfl hV (enters_of Tryz.func180 (by kernel_rfl) rfl)
  (MC F (n-1) hV hro (by omega) Bs w.heap.size v zs _ (by simp;omega) ((Cr.cell (p:=⟨Bs,0,none⟩) DI).trans hc) (hv.out.below Cr) (λi hi=>hv.out.vq i hi)) belowK_t (belowK_b (by simp)) (Below.refl _ _) (λ_=>rfl)
  (λpre W=>(∃v,Boxed W w.heap.size 22 v/\W.ownsRow w.heap.size 3 1 v pre.length (pre.map (Value.int .i64))/\(v=.slice none 0 0↔pre=[]))/\Below w.heap.size w W)
  (λ_ _ _=>False)
  (OwnFrom.and (Own.from (holdsRow_own w.heap.size w.heap.size 22 3 1 (λpre=>pre.length) (λpre=>pre.map (Value.int .i64)) (λpre v=>v=.slice none 0 0↔pre=[])) _) (ownFrom_below (Nat.le_refl _) (by simp)))
  (λ_ _ _ _ _ hs _ _=>hs)
  ⟨⟨_,bO,World.ownsRow_nil _ _ _ _,by simp⟩,Cr⟩
  (λx=>{ tmps:=#[.slice none 0 0,.func (.func 180) #[] #[.pointer (some ⟨Bs,0,none⟩)],.pointer (some ⟨w.heap.size,0,none⟩),undef,.slice none 0 0,.int .i64 x,.func (.func 180) #[] #[.pointer (some ⟨Bs,0,none⟩)],.int .i64 x,undef,undef,undef,undef,undef],defers:=[] }) ?assign ?body ?done ?stop;case assign =>
  intro l x W K hK;gi_wp2;exact hK
 case body =>
  rintro l pre x W ⟨⟨v,hv,dK,hnil⟩,hB⟩ aT;have hc:=hv.cell;gi_wp2_with (gi_at_builtin;refine wpListIn_append_own _ rfl _ _ 22 rfl w.heap.size 3 i0 (.int .i64 0) 1 8 ki hi qq kS oU rfl (by decide) _ _ _ rfl (dK.alloc _) ⟨W.heap.size,0,none⟩ 1 1 [.int .i64 x] rfl rfl (cell_one_new _ _ _) (by simp[Value.oneCell']) (by unfold maxLen;omega) (by omega) (by have:=hB.size;simp;omega) ?_;intro v' w1 M6 mY _;obtain⟨g',Rj,rfl⟩:=ownsRow_succ M6;obtain⟨Ef,hv2,dI,Sr,ij⟩:=hv.appended (by decide) dK hB.size (Nat.le_refl _) M6 mY;have hc1:=Ef.cell;have PZ:=Ef.frozen);exact⟨Sr.from _,ij,⟨_,hv2,by simpa using dI,by simp⟩,hB.trans ij⟩
 case done =>
  rintro D ys W hD rfl ⟨⟨v,hv,dK,hnil⟩,hB⟩ hK;have hc:=hv.cell;gi_wp2;refine⟨by simp,.inl ⟨_,_,rfl,run_takeDeferred hK,?_⟩⟩;exact⟨_,results_tmp rfl _ _ _,v,rfl,ownsRow_putObj dK _ hK rfl,hB.trans (belowK_b (w:=w) (Nat.le_refl _) W D _ _ (by simp at hD;omega) hK rfl rfl)⟩
 case stop =>
  rintro D c pre W _ _ h _;exact h.elim
theorem Jk(Bs:Nat)(v:Value)(zs:List Int)(hlen:zs.length<=17592186044416)(w:World)(DI:Bs<w.heap.size)(hc:w.cell? ⟨Bs,0,none⟩=some v)(hv:ae w v zs):
 Calls Tryz.prog 179 #[.func (.func 180) #[] #[.pointer (some ⟨Bs,0,none⟩)]] w (cz (λx w'=>aj w.heap.size w' x zs) w):=by
 have hA:=(callsIn_wide (n:=6)).1 (Fv Fence.wide 6 trivial trivial rfl (by omega) Bs v zs hlen w DI hc hv);go_enter Tryz.func179,Tryz.ntmps179;go_wp2_with fail;refine hA.mono ?_;clear hA;rintro e w1 ⟨x,rfl,ho,hb⟩;replace ho:=Hd ho;go_wp2;go_ret;exact⟨_,rfl,hb,ho.out⟩
open Go.RowKit Go.Shelf Go.Sort
def Tryz.Fw:Go.Shelf.Ren:=⟨fun | 5=>80 | 8=>127 | 7=>126 | 19=>156 | 20=>157 | 10=>147 | 11=>148 | 12=>149 | 13=>150 | 14=>151 | 15=>152 | 16=>153 | 17=>154 | 18=>155 | 30=>171 | 31=>172 | 32=>173 | 33=>174 | 34=>175 | 35=>176 | 40=>182 | n=>n,fun | 23=>22 | 25=>3 | 3=>3 | 32=>215 | 22=>22 | 0=>0 | 44=>239 | 46=>225 | 4=>4 | 36=>232 | 35=>231 | 41=>190 | 5=>5 | 9=>9 | 53=>260 | 57=>264 | 63=>269 | 64=>270 | n=>n,fun | n=>n⟩
theorem Tryz.IX:Go.Proofs.SlLaysM.n5 Tryz.prog Tryz.Fw:={
 mixed:=by kernel_rfl
 f5:=⟨Tryz.f80.name,by decide,Tryz.func80.trans (congrArg some (by kernel_rfl))⟩
 f7:=⟨Tryz.f126.name,by decide,Tryz.func126.trans (congrArg some (by kernel_rfl))⟩
 f8:=Tryz.func127.trans (congrArg some (by kernel_rfl))
 f10:=⟨Tryz.f147.name,by decide,Tryz.func147.trans (congrArg some (by kernel_rfl))⟩
 f11:=⟨Tryz.f148.name,by decide,Tryz.func148.trans (congrArg some (by kernel_rfl))⟩
 f12:=⟨Tryz.f149.name,by decide,Tryz.func149.trans (congrArg some (by kernel_rfl))⟩
 f13:=⟨Tryz.f150.name,by decide,Tryz.func150.trans (congrArg some (by kernel_rfl))⟩
 f14:=⟨Tryz.f151.name,by decide,Tryz.func151.trans (congrArg some (by kernel_rfl))⟩
 f15:=⟨Tryz.f152.name,by decide,Tryz.func152.trans (congrArg some (by kernel_rfl))⟩
 f16:=⟨Tryz.f153.name,by decide,Tryz.func153.trans (congrArg some (by kernel_rfl))⟩
 f17:=⟨Tryz.f154.name,by decide,Tryz.func154.trans (congrArg some (by kernel_rfl))⟩
 f18:=⟨Tryz.f155.name,by decide,Tryz.func155.trans (congrArg some (by kernel_rfl))⟩
 f19:=Tryz.func156.trans (congrArg some (by kernel_rfl))
 f20:=Tryz.func157.trans (congrArg some (by kernel_rfl))
 f30:=⟨Tryz.f171.name,by decide,Tryz.func171.trans (congrArg some (by kernel_rfl))⟩
 f31:=Tryz.func172.trans (congrArg some (by kernel_rfl))
 f32:=Tryz.func173.trans (congrArg some (by kernel_rfl))
 f33:=⟨Tryz.f174.name,by decide,Tryz.func174.trans (congrArg some (by kernel_rfl))⟩
 f34:=⟨Tryz.f175.name,by decide,Tryz.func175.trans (congrArg some (by kernel_rfl))⟩
 f35:=⟨Tryz.f176.name,by decide,Tryz.func176.trans (congrArg some (by kernel_rfl))⟩
 f40:=⟨Tryz.f182.name,by decide,Tryz.func182.trans (congrArg some (by kernel_rfl))⟩
 t0:=Tryz.underlying0
 a0:=Tryz.isAgg0
 z0:=Tryz.sizeOf0
 v0:=Tryz.zeroValue0
 t3:=Tryz.underlying3
 a3:=Tryz.isAgg3
 z3:=Tryz.sizeOf3
 v3:=Tryz.zeroValue3
 t4:=Tryz.underlying4
 a4:=Tryz.isAgg4
 z4:=Tryz.sizeOf4
 v4:=Tryz.zeroValue4
 t5:=Tryz.underlying5
 a5:=Tryz.isAgg5
 z5:=Tryz.sizeOf5
 v5:=Tryz.zeroValue5
 t9:=Tryz.underlying9
 a9:=Tryz.isAgg9
 z9:=Tryz.sizeOf9
 v9:=Tryz.zeroValue9
 t22:=Tryz.underlying22
 a22:=Tryz.isAgg22
 z22:=Tryz.sizeOf22
 v22:=Tryz.zeroValue22
 t23:=Tryz.underlying22
 a23:=Tryz.isAgg22
 z23:=Tryz.sizeOf22
 v23:=Tryz.zeroValue22
 t25:=Tryz.underlying3
 a25:=Tryz.isAgg3
 z25:=Tryz.sizeOf3
 v25:=Tryz.zeroValue3
 t32:=Tryz.underlying215
 a32:=Tryz.isAgg215
 z32:=Tryz.sizeOf215
 v32:=Tryz.zeroValue215
 t35:=Tryz.underlying231
 a35:=Tryz.isAgg231
 z35:=Tryz.sizeOf231
 v35:=Tryz.zeroValue231
 t36:=Tryz.underlying232
 a36:=Tryz.isAgg232
 z36:=Tryz.sizeOf232
 v36:=Tryz.zeroValue232
 t41:=Tryz.underlying190
 a41:=Tryz.isAgg190
 z41:=Tryz.sizeOf190
 v41:=Tryz.zeroValue190
 t44:=Tryz.underlying239
 a44:=Tryz.isAgg239
 z44:=Tryz.sizeOf239
 v44:=Tryz.zeroValue239
 t46:=Tryz.underlying225
 a46:=Tryz.isAgg225
 z46:=Tryz.sizeOf225
 v46:=Tryz.zeroValue225
 t53:=Tryz.underlying260
 a53:=Tryz.isAgg260
 z53:=Tryz.sizeOf260
 v53:=Tryz.zeroValue260
 t57:=Tryz.underlying264
 a57:=Tryz.isAgg264
 z57:=Tryz.sizeOf264
 v57:=Tryz.zeroValue264
 t63:=Tryz.underlying269
 a63:=Tryz.isAgg269
 z63:=Tryz.sizeOf269
 v63:=Tryz.zeroValue269
 t64:=Tryz.underlying270
 a64:=Tryz.isAgg270
 z64:=Tryz.sizeOf270
 v64:=Tryz.zeroValue270 }
def yw(xs:List Int):List Int:=xs.mergeSort λx y=>decide (x<=y)
theorem k9(xs:List Int):(yw xs).length=xs.length:=by simp[yw]
theorem BX(B:Nat)(v:Value)(xs:List Int)(w:World)(h:aj B w v xs)(hl:xs.length<=17592186044416)(hB:B<=w.heap.size):
 Calls Tryz.prog 80 #[v] w λe w'=>e=.returned (.tuple #[])/\aj B w' v (yw xs)/\Below B w w':=by
 rcases h.2 with ⟨rfl,hn⟩ | ⟨g,cap,cur,rfl,hb,hg,hn,C1,hs,ht⟩;.obtain rfl:=List.length_eq_zero_iff.1 hn;refine Calls.mono (AnyM.slices_Sort_int_none Tryz.IX none 0 w) ?_;rintro e w' ⟨rfl,rfl⟩;exact⟨rfl,by simpa [yw] using h,Below.refl _ _⟩
 .have hlen:xs.length<4611686018427387904:=by omega
  refine Calls.mono (AnyM.slices_Sort_int Tryz.IX g 0 cap xs w (holds_of_block_i hg (by simpa using ht)) (Array.getElem?_eq_some_iff.1 hg).1 hlen) ?_;rintro e w' ⟨rfl,n,os,rfl⟩;refine⟨rfl,?_,(Below.refl _ _).grown (grownBy_sorted_i _) hB (λj hj=>by cases hj;exact hb)⟩;have:=ownsRow_sorted_i (n:=n) (os:=os) (ts:=yw xs) (k9 xs) hb hg hn C1 hs;unfold aj;rw[k9];exact this
theorem K4(Bs:Nat)(v:Value)(zs:List Int)(hlen:zs.length<=17592186044416)(w:World)(DI:Bs<w.heap.size)(hc:w.cell? ⟨Bs,0,none⟩=some v)(hv:ae w v zs):
 Calls Tryz.prog 161 #[.func (.func 180) #[] #[.pointer (some ⟨Bs,0,none⟩)]] w (cz (λx w'=>aj w.heap.size w' x (yw zs)) w):=by
 have hA:=Jk Bs v zs hlen w DI hc hv;go_enter Tryz.func161,Tryz.ntmps161;go_wp2_with fail;refine hA.mono ?_;clear hA;rintro e w1 ⟨x,rfl,hb,ho⟩;have hs:=hb.size;go_wp2_with fail;refine(BX w.heap.size x zs _ ho hlen hs).mono ?_;rintro e w2 ⟨rfl,jK,ij⟩;replace jK:=Hd jK;go_wp2;go_ret;exact⟨_,rfl,hb.trans ij,jK.out⟩
def Tryz.HM:Go.Shelf.Ren:=⟨fun | 212=>135 | 263=>163 | 264=>164 | n=>n,fun | 46=>215 | 51=>239 | 146=>252 | 53=>225 | 148=>254 | n=>n,fun | n=>n⟩
theorem Tryz.Yb:Go.Proofs.Lays.n212 Tryz.prog Tryz.HM:={
 mixed:=by kernel_rfl
 f212:=Tryz.func135.trans (congrArg some (by kernel_rfl))
 f263:=Tryz.func163.trans (congrArg some (by kernel_rfl))
 f264:=Tryz.func164.trans (congrArg some (by kernel_rfl))
 t46:=Tryz.underlying215
 a46:=Tryz.isAgg215
 z46:=Tryz.sizeOf215
 v46:=Tryz.zeroValue215
 t51:=Tryz.underlying239
 a51:=Tryz.isAgg239
 z51:=Tryz.sizeOf239
 v51:=Tryz.zeroValue239
 t53:=Tryz.underlying225
 a53:=Tryz.isAgg225
 z53:=Tryz.sizeOf225
 v53:=Tryz.zeroValue225
 t146:=Tryz.underlying252
 a146:=Tryz.isAgg252
 z146:=Tryz.sizeOf252
 v146:=Tryz.zeroValue252
 t148:=Tryz.underlying254
 a148:=Tryz.isAgg254
 z148:=Tryz.sizeOf254
 v148:=Tryz.zeroValue254 }
theorem Ad{w:World}{B:Nat}{v u d:Value}{xs ys:List Int}(off:Nat)(ty:TypeId)(dp:Option Addr)(wJ O8:Nat)(aO:aj B w v xs)(hu:ae w u ys)(hd:d=.slice dp wJ O8)(wE:off+wJ<=xs.length)(h0:0<wJ)(h1:0<ys.length)(hdp:dp=some (af v off)):
 ∃w',(Builtin.copy_ #[22,22] ty #[d,u]).run Tryz.prog w=.ok (.int .i64 ((ys.take wJ).length:Int)) w'/\aj B w' v (xs.take off++ys.take wJ++xs.drop (off+(ys.take wJ).length))/\Below B w w':=by
 subst hd;obtain⟨sp,Wl,rfl,hc1,h2,h3,h4⟩:=hu;subst hdp;cases sp with
 | none=>have:=h3 rfl;omega
 | some p =>
  rcases aO.2 with ⟨rfl,hn⟩ | ⟨g,cap,cur,rfl,hb,hg,hn,hm,uV,ht⟩;.omega
  .rw[cj];obtain⟨zs,hzs⟩:=Ey (ys.take wJ);have Yv:zs.length=Nat.min ys.length wJ:=by rw[hzs,List.length_take,Nat.min_comm]
   have hzd:zs.length<=wJ:=by rw[Yv];exact Nat.min_le_right _ _
   rw[<-hzs];have hsrc:∀j u,(zs.map (Value.int .i64))[j]?=some u->w.cell? (p.add j)=some u:=by
    intro j u hj;have dw:j<zs.length:=by have:=(List.getElem?_eq_some_iff.1 hj).1;simpa using this
    have ZV:j<ys.length:=by rw[Yv] at dw;exact Nat.lt_of_lt_of_le dw (Nat.min_le_left _ _)
    have:=h4 j ZV;simp only[af] at this;rw[this,<-hj,List.getElem?_map,List.getElem?_eq_getElem dw];simp[hzs]
   have ur:cur.toList.length=cap:=by rw[Array.length_toList,uV];omega
   have hr:=run_copy_row (P:=Tryz.prog) w 22 22 ty 3 g off wJ O8 p ys.length Wl cur 3 (zs.map (.int .i64)) ki xk hg (by rw[List.length_map];exact Yv) hsrc (by rw[uV,List.length_map];omega) (ints_oneCell _ _);rw[show goInt (zs.map (Value.int .i64)).length=.int .i64 zs.length by rw[List.length_map];rfl] at hr;have mT:w.grownBy (w.setRow g (cur.toList.take off++zs.map (Value.int .i64)++cur.toList.drop (off+(zs.map (Value.int .i64)).length)).toArray) (some g) :=
    ⟨rfl,rfl,rfl,by simp,λk _ hk=>setRow_other w g k _ (λe=>hk (by simp[e]))⟩;refine⟨_,hr,?_,(Below.refl _ _).grown mT (by have:=(Array.getElem?_eq_some_iff.1 hg).1;omega) (by intro k hk;simp at hk;omega)⟩;have hlen:(xs.take off++zs++xs.drop (off+zs.length)).length=xs.length:=by simp;omega
   refine⟨by simp,.inr ⟨g,cap,_,by rw[hlen],hb,setRow_heap w g cur _ _ _ hg,by rw[hlen];exact hn,hm,?_,?_⟩⟩;.simp only[List.size_toArray,List.length_append,List.length_take,List.length_drop,List.length_map,ur];omega
   .rw[hlen];have e:=zN cur.toList (zs.map (Value.int .i64)) off xs.length (by rw[List.length_map];omega) (by omega);rw[Nat.mul_one] at ht ⊢;rw[e,ht];simp[List.map_take,List.map_drop]
def rO(x:Int)(m n:Nat):List Int:=List.replicate m x++List.replicate (n-m) 0
theorem tk(x:Int){m n:Nat}(h:m<=n):(rO x m n).length=n:=by simp[rO];omega
theorem PH(x:Int)(n:Nat):rO x n n=List.replicate n x:=by simp[rO]
theorem zr(x:Int){m n k:Nat}(hk:m+k<=n):(rO x m n).take m++List.replicate k x++(rO x m n).drop (m+k)=rO x (m+k) n:=by
 unfold rO;rw[List.take_left' (by simp),List.drop_append,List.drop_eq_nil_of_le (by simp),List.nil_append,List.length_replicate,List.drop_replicate,List.replicate_append_replicate];congr 2;omega
theorem YA(x y:Nat)(hx:x<100000)(hy:y<100000)(w:World):
 Calls Tryz.prog 135 #[.int .u64 x,.int .u64 y] w λe w'=>e=.returned (.tuple #[.int .u64 0,.int .u64 ((x*y:Nat):Int)])/\w=w':=by
 refine(Any.bits_Mul Tryz.Yb x y (by omega) (by omega) w).mono ?_;rintro e w' ⟨rfl,rfl⟩;have h:x*y<10000000000:=by
  calc x*y<=99999*99999:=Nat.mul_le_mul (by omega) (by omega)
   _<_:=by decide
 rw[Nat.div_eq_of_lt (by omega),Nat.mod_eq_of_lt (by omega)];exact⟨rfl,rfl⟩
theorem eR(v:Value)(x:Int)(n:Nat)(w:World)(h:ae w v [x])(hn:n<=10000):
 Calls Tryz.prog 93 #[v,.int .i64 n] w (cz (λu w'=>aj w.heap.size w' u (List.replicate n x)) w):=by
 have hl:=h.len;obtain⟨u,w1,Kv,hu,kZ⟩:=bG (n:Int) n w rfl (by omega);have hM:=YA 1 n (by omega) (by omega) w;rw[Nat.one_mul] at hM;replace hM:=Hd hM;obtain⟨ua,un,uc,rfl⟩:=hu.at.shape;go_enter Tryz.func93,Tryz.ntmps93;have hcp:∃w2,(Builtin.copy_ #[22,22] 3 #[.slice ua un uc,v]).run Tryz.prog w1=.ok (.int .i64 ((min 1 n:Nat):Int)) w2/\aj w.heap.size w2 (.slice ua un uc) (rO x (min 1 n) n)/\Below w.heap.size w1 w2:=by
  have nH:un=n:=by
   obtain⟨a,c,e,_⟩:=hu.at;injection e with _ e _;rw[e];simp
  have hv:=h.below kZ;by_cases h0:n=0;.subst h0;subst nH;obtain⟨sp,sc,rfl,_⟩:=hv;refine⟨w1,run_copy_none (P:=Tryz.prog) w1 22 22 3 3 ua sp 0 uc 1 sc ki xk (by simp),?_,Below.refl _ _⟩;simpa [rO] using hu
  .subst nH;have hva:ua=some (af (.slice ua un uc) 0):=by
    rcases hu.2 with ⟨e,NN⟩ | ⟨g,cap,cur,e,_⟩;.rw[List.length_replicate] at NN;exact absurd NN h0
    .injection e with e1 e2 e3;subst e1;rfl
   obtain⟨w2,h1,h2,h3⟩:=Ad (ys:=[x]) 0 3 ua un uc hu hv rfl (by rw[List.length_replicate];omega) (by omega) (by simp) hva;have ht:([x]:List Int).take un=[x]:=List.take_of_length_le (by show 1<=un;omega);rw[ht] at h1 h2;refine⟨w2,?_,?_,h3⟩;.rw[h1,Nat.min_eq_left (by omega)];rfl
   .rw[Nat.min_eq_left (by omega)];have e:=zr x (m:=0) (n:=un) (k:=1) (by omega);have e2:rO x 0 un=List.replicate un 0:=by simp[rO]
    rw[e2] at e;rw[<-e];exact h2
 obtain⟨w2,hcp,jK,ij⟩:=hcp;replace⟨hu,jK⟩:=bD hu jK;have hb:=Hd (kZ.trans ij);go_wp2_with fail;refine hM.out.mono ?_;rintro e w' ⟨rfl,rfl⟩;go_wp2_with fail;go_loopw [8] (λmv wr=>∃m:Nat,min 1 n<=m/\m<=n/\mv=.int .i64 m/\aj w.heap.size wr (.slice ua un uc) (rO x m n)/\Below w.heap.size w wr) (λmv _=>n-(intOf mv).toNat);case atStart=>exact⟨min 1 n,Nat.le_refl _,Nat.min_le_right _ _,rfl,jK.out,hb.out⟩
 case round =>
  obtain⟨m,hm1,qD,rfl,ho,hbr⟩:=hrel;obtain⟨wo,rfl⟩:=Ey wr;have A3:=ho.at.len;rw[tk x qD] at A3;by_cases aT:m<n
  .have hm0:1<=m:=by omega
   obtain⟨g,cap,cur,e,Hy,_,WV,_⟩:∃g cap cur,Value.slice ua un uc=.slice (some ⟨g,0,none⟩) (rO x m n).length cap/\w.heap.size<=g/\wo.heap[g]?=some (.cells cur 3 (0,0))/\(rO x m n).length<=cap/\True:=by
    rcases ho.2 with ⟨_,NN⟩ | ⟨g,cap,cur,e,h1,h2,h3,_⟩;.rw[tk x qD] at NN;omega
    .exact⟨g,cap,cur,e,h1,h2,h3,trivial⟩
   rw[tk x qD] at e WV;injection e with e1 e2 e3;subst e1;subst e2;subst e3;have aaw:=Hd hu;clear aaw hu jK hcp Kv;have yx:=ho.at.pre m (by rw[tk x qD];exact qD);have kg:(rO x m un).take m=List.replicate m x:=by unfold rO;exact List.take_left' (by simp)
   rw[kg] at yx;obtain⟨k,hk⟩:=Ey (((List.replicate m x).take (un-m)).length);have Cz:k=min (un-m) m:=by rw[hk];simp
   have hkr:(List.replicate m x).take (un-m)=List.replicate k x:=by rw[Cz,List.take_replicate]
   have hcp:∀W:World,aj w.heap.size W (.slice (some ⟨g,0,none⟩) un uc) (rO x m un)->ae W (.slice (some ⟨g,0,none⟩) m uc) (List.replicate m x)->∃w2,(Builtin.copy_ #[22,22] 3 #[.slice (some ⟨g,m,none⟩) (un-m) (uc-m),.slice (some ⟨g,0,none⟩) m uc]).run Tryz.prog W=.ok (.int .i64 (k:Int)) w2/\aj w.heap.size w2 (.slice (some ⟨g,0,none⟩) un uc) (rO x (m+k) un)/\Below w.heap.size W w2:=by
    intro W hW dZ;obtain⟨w2,a,b,c⟩:=Ad m 3 (some ⟨g,m,none⟩) (un-m) (uc-m) hW dZ rfl (by rw[tk x qD];omega) (by omega) (by rw[List.length_replicate];omega) (by rw[cj]);rw[<-hk] at a b;rw[hkr,zr x (by omega)] at b;exact⟨w2,a,b,c⟩
   obtain⟨w3,hc3,wR,vh⟩:=hcp wo.drew ho yx;have Tf:IntKind.i64.wrap ((m:Int)+(k:Int))=(m:Int)+k:=db (by omega) (by omega);have C4:Below w.heap.size w w3:=hbr.drew.trans vh;have dS:1<=k:=by omega
   have Sr:m+k<=un:=by omega
   have hsl1:(0<=(m:Int)/\(m:Int)<=(un:Int)):=⟨by omega,by omega⟩;have hsl2:(0<=(m:Int)/\(m:Int)<=(uc:Int)):=⟨by omega,by omega⟩;have hmc:¬ uc=m:=by omega
   replace⟨wR,ho⟩:=bD wR ho;clear hcp yx kg hk hkr Cz;go_upto_region 9 with fail;refine ar (λ_=>True) 9 [(0,true),(1,true),(2,true),(3,true),(4,true),(5,true),(6,true),(7,false),(8,true)] (by kernel_rfl) (by kernel_rfl) ?_;have hS:=trivial;refine ay 38 hS ?_;refine ay 39 hS ?_;refine ay 40 hS ?_;refine ay 41 hS ?_;refine ay 42 hS ?_;refine ay 43 hS ?_;refine ay 44 hS ?_;refine fZ rfl (λKK hK=>?_)
   -- CALL 7 slot (some 45)
   go_simp;refine hK _ _ hS ?_;clear hK KK;refine ay 46 hS ?_;refine dA ?_;simp only[List.drop_succ_cons,List.drop_zero];go_wp2;refine NoPanic.normal ?_;go_wp2;go_round;case measure=>simp[intOf];omega
   case rel=>exact⟨m+k,by omega,Sr,by go_num,wR.out,C4⟩
  .obtain rfl:m=n:=by omega
   rw[PH] at ho;replace ho:=Hd ho;go_wp2;go_ret;exact⟨_,rfl,hbr,ho.out⟩
def aw(l:List Nat):List Int:=l.map λ(x:Nat)=>(x:Int)
theorem aA(l:List Nat):(aw l).length=l.length:=by simp[aw]
theorem jS(l:List Nat)(x:Nat):aw (l++[x])=aw l++[(x:Int)]:=by simp[aw]
theorem j3{l:List Nat}{i x:Nat}(h:l[i]?=some x):(aw l).getD i 0=(x:Int):=by simp[aw,List.getD,h]
theorem pZ(l:List Nat):aw l.reverse=(aw l).reverse:=by simp[aw]
theorem eK:∀(n:Nat) (l:List Nat),l.Nodup->(∀x∈l,x<n)->l.length<=n
 | 0,l,_,h=>by
  cases l with
  | nil=>exact Nat.le_refl _
  | cons a l=>have:=h a List.mem_cons_self;omega
 | n+1,l,hn,h=>by
  have nJ:=eK n (l.erase n) (hn.erase n) (λx hx=>by
   have h1:=h x (List.mem_of_mem_erase hx);have h2:x≠n:=λe=>by subst e;exact(List.Nodup.not_mem_erase hn) hx
   omega);have:l.length<=(l.erase n).length+1:=by
   by_cases hm:n∈l;.have:=List.length_erase_of_mem hm;omega
   .rw[List.erase_of_not_mem hm];omega
  omega
def vN(l:List Int):List Nat:=(yw l).map Int.toNat
theorem xV(l:List Int)(x:Int):x∈yw l↔x∈l:=by unfold yw;exact(List.mergeSort_perm l _).mem_iff
theorem vP(l:List Int):(yw l).Pairwise (·<=·):=by
 have:=List.pairwise_mergeSort (le:=λ(x y:Int)=>decide (x<=y)) (λa b c h1 h2=>by simp at *;omega) (λa b=>by simp;omega) l;unfold yw;exact this.imp (λh=>by simpa using h)
theorem HD(l:List Int)(hp:∀x∈l,0<=x):(vN l).Pairwise (·<=·):=by
 unfold vN;rw[List.pairwise_map];refine(vP l).imp_of_mem fun {a b} ha hb h=>?_;have:=hp a ((xV l a).1 ha);omega
theorem HX(l:List Int)(t:Nat):t∈vN l↔t∈l.map Int.toNat:=by
 unfold vN;simp only[List.mem_map,xV]
theorem JH(l:List Int):(vN l).length=l.length:=by simp[vN,k9]
theorem TH(l:List Int)(hp:∀x∈l,0<=x)(j:Nat)(hj:j<l.length):(yw l).getD j 0=((vN l).getD j 0:Int):=by
 have hj':j<(yw l).length:=by rw[k9];exact hj
 have h0:=hp _ ((xV l _).1 (List.getElem_mem hj'));simp only[vN,List.getD_eq_getElem?_getD,List.getElem?_map,List.getElem?_eq_getElem hj',Option.map_some,Option.getD_some];omega
theorem DW(n:Nat):gO n (λ_=>-1)=List.replicate n (-1):=by
 unfold gO;apply List.ext_getElem<;>simp
theorem ND(B:Nat)(w:World):Rows B w (λ_=>none):=⟨λ_ _ h=>(by cases h),λ_ _ _ _ h=>(by cases h)⟩
def mD(w:World)(adj:Nat->List Nat)(a b:Nat)(x:Value)(w':World):Prop :=
 (∃u,eA adj a b u/\aj w.heap.size w' x (aw u))\/(¬ bH adj a b/\x=.slice none 0 0)
structure FN (f:Names) (cv qv:Value) (n:Nat) (came:Nat->Int) (q:List Nat):Prop where
 came:f (1,0)=some (aD cv (gO n came))
 queue:f (2,0)=some (aD qv (aw q))
section
variable {B:Nat} {w:World} {f:Names} {cv qv:Value} {n:Nat} {came:Nat->Int} {q:List Nat}
theorem FN.congr{f':Names}(h:FN f cv qv n came q)(e1:f' (1,0)=f (1,0))(e2:f' (2,0)=f (2,0)):FN f' cv qv n came q:=⟨e1.trans h.came,e2.trans h.queue⟩
theorem FN.set(h:FN f cv qv n came q)(hr:Rows B w f)(t:Nat)(ht:t<n)(v:Int):∃f',Rows B (w.setCell (af cv t) (.int .i64 v)) f'/\FN f' cv qv n (aN came t v) q/\∀i,i≠(1,0)->f' i=f i:=by
 have hs:=hr.Aw h.came t (by rw[aJ];exact ht) v;rw[ue] at hs;exact⟨_,hs,⟨ah _ _ _,by rw[ad _ _ (by simp)];exact h.queue⟩,λi hi=>ad _ _ hi⟩
theorem FN.push(h:FN f cv qv n came q)(hr:Rows B w f){w1:World}{mi:Value}(t:Nat)(ho:aj B w1 mi (aw q++[(t:Int)]))(hJ:(dJ mi=dJ qv/\w.grownBy w1 qv.ownBlock)\/(∃k,mi.ownBlock=some k/\w.heap.size<=k/\w.grownBy w1 none)):∃f',Rows B w1 f'/\FN f' cv mi n came (q++[t])/\∀i,i≠(2,0)->f' i=f i:=by
 have hO:=hr.aR h.queue;have hg:w.grownBy w1 qv.ownBlock:=jr (hJ.imp (·.2) (λ⟨_,_,_,q⟩=>q));have uw:mi.ownBlock=qv.ownBlock\/∃k,mi.ownBlock=some k/\w.heap.size<=k:=by
  rcases hJ with ⟨q,_⟩ | ⟨k,h1,h2,_⟩;.obtain⟨a1,n1,c1,e1⟩:=hO.at.shape;obtain⟨a2,n2,c2,e2⟩:=ho.at.shape;exact .inl (cM e1 e2 q)
  .exact .inr ⟨k,h1,h2⟩
 exact⟨_,hr.grown (r':=aD mi (aw q++[(t:Int)])) h.queue hg ho uw,⟨by rw[ad _ _ (by simp)];exact h.came,by rw[ah,jS]⟩,λi hi=>ad _ _ hi⟩
end
theorem D7(na:Option Addr)(nc:Nat)(G:List (List Int))(a b:Nat)(w:World)(h:bh w (.slice na G.length nc) G)(bK:bR G)(hn:G.length<=8200)(ha:a<G.length)(hb:b<G.length)(gQ:∀k,k<G.length->(G.getD k []).length<=17592186044416):
 Calls Tryz.prog 134 #[.slice na G.length nc,.int .i64 a,.int .i64 b] w (cz (mD w (aq G) a b) w):=by
 have b0:=ab w (.cells #[.int .i64 (-1)] 3);have hI:=(aj.lit w.heap.size w (Nat.le_refl _) [-1] (by simp[maxLen]) #[.int .i64 (-1)] rfl 1 rfl).at;have GV:=eR _ (-1) G.length _ hI (by omega);have Sp:=ud.init (aq G) a;replace⟨hI,h,bK,gQ,Sp,GV⟩:=rr hI h bK gQ Sp GV;go_enter Tryz.func134,Tryz.ntmps134;go_wp2_with fail;refine GV.out.mono ?_;rintro e w1 ⟨cv,rfl,b1,p9⟩;obtain⟨w0,rJ⟩:=Ey (w.alloc (.cells #[.int .i64 (-1)] 3));rw[<-rJ] at b0 b1 p9;rw[<-DW] at p9;clear GV hI rJ;have si:=Below.step b0 b1;have R1:=(ND w.heap.size w0).add (i:=(1,0)) (r':=aD cv (gO G.length λ_=>-1)) b1 (p9.mono b0.size) (λk hk=>(p9.lt k hk).1);have iA:=λw'=>p9.at.idx a (by rw[aJ];exact ha) w';have cA:=p9.at.aH a (by rw[aJ];exact ha);have fA:=p9.mQ a (by rw[aJ];exact ha);have kA:=(p9.yB.jP a (by rw[List.length_map,aJ];exact ha)).2;have R2:=R1.Aw (ah _ _ _) a (by rw[aJ];exact ha) (a:Int);rw[ue] at R2;have b2:Below w.heap.size w (w1.setCell (af cv a) (.int .i64 (a:Int))):=si.setCell (Nat.le_trans b0.size kA) _;generalize af cv a=ca at *;generalize (gO G.length λ_=>-1).getD a 0=oa at cA;obtain⟨W2,dZ⟩:=Ey (w1.setCell ca (.int .i64 (a:Int)));rw[<-dZ] at R2 b2;replace⟨R2,R1,p9⟩:=dO R2 R1 p9;go_upto_region 3 with fail;rw[<-dZ];clear dZ iA cA fA;have mo:=b2.size;have hal2:=ab W2 (.cells #[.int .i64 (a:Int)] 3);have FD:=aj.lit W2.heap.size W2 (Nat.le_refl _) [(a:Int)] (by simp[maxLen]) #[.int .i64 (a:Int)] rfl 1 rfl;have R3:=R2.out.add (i:=(2,0)) (r':=aD (.slice (some ⟨W2.heap.size,0,none⟩) 1 1) [(a:Int)]) hal2 (FD.mono mo) (λk hk=>(FD.lt k hk).1);have b3:=b2.trans (hal2.mono mo);obtain⟨W3,mr⟩:=Ey (W2.alloc (.cells #[.int .i64 (a:Int)] 3));rw[<-mr] at R3 b3;obtain⟨q2,hq2e⟩:=Ey W2.heap.size;rw[<-hq2e] at R3;have KA:FN (ch (ch (ch (λ_=>none) (1,0) (some (aD cv (gO G.length λ_=>-1)))) (1,0) (some (aD cv (gO G.length (aN (λ_=>(-1:Int)) a (a:Int)))))) (2,0) (some (aD (.slice (some ⟨q2,0,none⟩) 1 1) [(a:Int)]))) cv (.slice (some ⟨q2,0,none⟩) 1 1) G.length (aN (λ_=>(-1:Int)) a (a:Int)) [a] :=
  ⟨by rw[ad _ _ (by simp),ah],by rw[ah];rfl⟩;replace⟨R3,FD⟩:=bD R3 FD;go_wp2_with fail;rw[<-mr,<-hq2e];clear mr hq2e R2 R1 hal2 FD;go_loopw [8,9] (λqv iv wr=>∃(i:Nat) (came:Nat->Int) (q:List Nat) (par gd:Nat->Nat) (f':Names) (qw:Value),qw=qv/\iv=.int .i64 i/\i<=q.length/\Rows w.heap.size wr f'/\Below w.heap.size w wr/\FN f' cv qw G.length came q/\ze (aq G) a came q par gd i/\∀x∈q,x<G.length) (λ_ iv _=>G.length+1-(intOf iv).toNat);case atStart=>exact⟨0,_,[a],_,_,_,_,rfl,rfl,by omega,R3.out,b3,KA,Sp.out,λx hx=>by cases List.mem_singleton.1 hx;exact ha⟩
 case round =>
  obtain⟨i,came,q,par,gd,f1,qv,rfl,rfl,hi,dX,Eu,h1,hO,yz⟩:=hrel;obtain⟨wo,rfl⟩:=Ey wr;have OQ:=eK G.length q hO.nodup yz;have j7:=dX.aR h1.queue;have lQ:=j7.at.len;rw[aA] at lQ;have sP:=dX.aR h1.came;have iB:=λw'=>sP.at.idx b (by rw[aJ];exact hb) w';have cB:=sP.at.aH b (by rw[aJ];exact hb);rw[jR _ _ _ hb] at cB;generalize af cv b=pb at *;obtain⟨cb,KB⟩:=Ex (came b);rw[KB] at cB;by_cases jM:i<q.length
  .by_cases IC:cb<0
   .obtain⟨v,hv⟩:∃v,q[i]?=some v:=⟨_,List.getElem?_eq_getElem jM⟩;have zV:=yz v (List.mem_of_getElem? hv);have iV:=λw'=>j7.at.idx i (by rw[aA];exact jM) w';have cV:=j7.at.aH i (by rw[aA];exact jM);rw[j3 hv] at cV;obtain⟨mv,iR,cR,hM⟩:=(h.out.below (Eu:Below w.heap.size w wo)).row v zV;have KT:=gQ.out v zV;have oq:∀x∈G.getD v [],0<=x/\x<G.length:=bK.out v zV;have rM:aq G v=(G.getD v []).map Int.toNat:=rfl;generalize G.getD v []=gx at *;obtain⟨ma,mn,mc,rfl⟩:=hM.shape;generalize af qv i=qa at *;generalize af (.slice na G.length nc) v=ra at *;replace⟨KB,dX,j7,sP,hM,hO,yz,oq⟩:=gp KB dX j7 sP hM hO yz oq;replace⟨rM,hv⟩:=bD rM hv;go_wp2_with fail;refine(Uz ma mn mc _).mono ?_;rintro e w2 ⟨rfl,rfl⟩;have Jq:=ab wo (.cells #[.slice ma mn mc] 22);clear iB cB iV cV iR cR;go_wp2_with fail;refine(K4 wo.heap.size (.slice ma mn mc) gx KT _ (by simp) (by simp) (hM.out.below Jq)).mono ?_;rintro e w3 ⟨lv,rfl,XR,hL⟩;have b4:Below wo.heap.size wo w3:=Jq.trans (XR.mono Jq.size);have T9:w.heap.size<=wo.heap.size:=Eu.size;have R4:=dX.out.add (i:=(3,0)) (r':=aD lv (yw gx)) b4 (hL.mono (Nat.le_trans T9 Jq.size)) (λk hk=>Nat.le_trans Jq.size (hL.lt k hk).1);have h4:FN (ch f1 (3,0) (some (aD lv (yw gx)))) cv qv G.length came q:=h1.congr (ad _ _ (by simp)) (ad _ _ (by simp));have e4:ch f1 (3,0) (some (aD lv (yw gx))) (3,0)=some (aD lv (yw gx)):=ah _ _ _;have b5:=Eu.trans (b4.mono T9);have hIn:=hO.out.enter hv.out (l:=(vN gx).drop 0) (λt=>by rw[List.drop_zero,rM.out];exact HX gx t) (by rw[List.drop_zero];exact HD gx λx hx=>(oq.out x hx).1);have lL:=hL.at.len;have sD:(yw gx).length=gx.length:=k9 gx;generalize ch f1 (3,0) (some (aD lv (yw gx)))=f4 at *;replace⟨R4,hIn,hL,e4⟩:=gF R4 hIn hL e4;go_wp2_with fail;clear lL lQ;go_loopw [8,49] (λqv jv wr=>∃(j:Nat) (came:Nat->Int) (q:List Nat) (par gd:Nat->Nat) (f':Names) (qw:Value),qw=qv/\jv=.int .i64 j/\j<=gx.length/\Rows w.heap.size wr f'/\Below w.heap.size w wr/\FN f' cv qw G.length came q/\f' (3,0)=some (aD lv (yw gx))/\VL (aq G) a came q par gd i v ((vN gx).drop j)/\∀x∈q,x<G.length) (λ_ jv _=>gx.length-(intOf jv).toNat);case atStart=>exact⟨0,came,q,par,gd,f4,qv,rfl,rfl,by omega,R4.out,b5,h4,e4.out,hIn.out,yz.out⟩
    case round =>
     clear hIn R4 e4 h4 b5 h1 hi jM hO yz hv j7 sP IC KB;obtain⟨j,came,q,par,gd,f4,qv,rfl,rfl,hj,lV,b5,h4,e4,hIn,yz⟩:=hrel;obtain⟨wo,rfl⟩:=Ey wr;have Kq:=lV.aR e4;have lL:=Kq.at.len;rw[sD] at lL;by_cases dw:j<gx.length
     .have YY:j<(vN gx).length:=by rw[JH];exact dw
      obtain⟨t,ht⟩:∃t,(vN gx)[j]?=some t:=⟨_,List.getElem?_eq_getElem YY⟩;have G3:(vN gx).getD j 0=t:=by simp[List.getD,ht]
      have hdr:(vN gx).drop j=t::(vN gx).drop (j+1):=by
       rw[List.drop_eq_getElem_cons YY];rw[List.getElem?_eq_getElem YY] at ht;injection ht with ht;rw[ht]
      have gY:t<G.length:=by
       have hm:=(HX gx t).1 (List.mem_of_getElem? ht);obtain⟨x,hx,rfl⟩:=List.mem_map.1 hm;have:=oq.out x hx;omega
      have iT:=λw'=>Kq.at.idx j (by rw[sD];exact dw) w';have cT:=Kq.at.aH j (by rw[sD];exact dw);rw[TH gx (λx hx=>(oq.out x hx).1) j dw,G3] at cT;rw[hdr] at hIn;have sP:=lV.aR h4.came;have iC:=λw'=>sP.at.idx t (by rw[aJ];exact gY) w';have cC:=sP.at.aH t (by rw[aJ];exact gY);rw[jR _ _ _ gY] at cC;have fC:=sP.mQ t (by rw[aJ];exact gY);have kC:=(sP.yB.jP t (by rw[List.length_map,aJ];exact gY)).2;obtain⟨f5,lK,h5,k5⟩:=h4.set lV t gY (v:Int);have e5:f5 (3,0)=some (aD lv (yw gx)):=(k5 _ (by simp)).trans e4;have b6:Below w.heap.size w (wo.setCell (af cv t) (.int .i64 (v:Int))):=b5.setCell kC _;generalize af lv j=la at *;generalize af cv t=ta at *;obtain⟨ct,Oi⟩:=Ex (came t);rw[Oi] at cC;by_cases ZB:ct<0
      .have ks:=hIn.add (by rw[Oi];exact ZB);have hqn2:∀x∈q++[t],x<G.length:=λx hx=>by
        rcases List.mem_append.1 hx with hx | hx;.exact yz x hx
        .cases List.mem_singleton.1 hx;exact gY
       have hql2:=eK G.length q hIn.base.nodup yz;replace⟨ks,hqn2,hIn,yz,lV,lK,sP,Kq⟩:=gp ks hqn2 hIn yz lV lK sP Kq;replace⟨Oi,hdr,G3,ht,k5,e4,e5⟩:=zb Oi hdr G3 ht k5 e4 e5;go_upto_region 13 with fail;obtain⟨W5,pA⟩:=Ey (wo.setCell ta (.int .i64 (v:Int)));rw[<-pA];rw[<-pA] at lK b6;clear pA iT cT iC cC fC lL;have hOQ5:=lK.out.aR h5.queue;have yD:w.heap.size<=W5.heap.size:=b6.size;go_wp2_with (at_builtin;refine dD rfl _ _ rfl w.heap.size qv (aw q) t hOQ5 rfl rfl (by rw[aA];omega) yD ?_);intro mi w7 eF b7 gn;obtain⟨f7,pf,h7,k7⟩:=h5.push lK.out t eF gn;replace⟨pf,eF,k7⟩:=dO pf eF k7;clear gn;go_wp2;go_roundw;case measure=>simp[intOf];omega
       case rel=>exact⟨j+1,_,_,_,_,f7,mi,rfl,by go_num,by omega,pf.out,b6.trans b7,h7,(k7.out _ (by simp)).trans e5.out,ks.out,hqn2.out⟩
      .have hold:=hIn.lW (by rw[Oi];omega);replace⟨hold,hIn,yz,lV,lK,sP,Kq,Oi⟩:=gp hold hIn yz lV lK sP Kq Oi;replace⟨hdr,G3,ht,k5,e4,e5⟩:=rr hdr G3 ht k5 e4 e5;go_wp2;go_roundw;case measure=>simp[intOf];omega
       case rel=>exact⟨j+1,came,q,par,gd,f4,qv,rfl,by go_num,by omega,lV.out,b5,h4,e4.out,hold.out,yz.out⟩
     .obtain rfl:j=gx.length:=by omega
      rw[List.drop_eq_nil_of_le (by rw[JH];exact Nat.le_refl _)] at hIn;have hOut:=hIn.leave;have jM:=km hIn.cur;have hql2:=eK G.length q hIn.base.nodup yz;replace⟨hOut,hIn,yz,lV,Kq,e4⟩:=rr hOut hIn yz lV Kq e4;go_wp2;go_roundw;case measure=>simp[intOf];omega
      case rel=>exact⟨i+1,came,q,par,gd,f4,qv,rfl,by go_num,by omega,lV.out,b5,h4,hOut.out,yz.out⟩
   .have hcb0:¬ came b<0:=by rw[KB];exact IC
    have WW:=(hO.pH b).1 (by omega);obtain⟨k0,O7⟩:=List.mem_iff_getElem?.1 WW;have gG:=aj.lit wo.heap.size wo (Nat.le_refl _) [(b:Int)] (by simp[maxLen]) #[.int .i64 (b:Int)] rfl 1 rfl;have MQ:=ab wo (.cells #[.int .i64 (b:Int)] 3);have T9:w.heap.size<=wo.heap.size:=Eu.size;have R8:=dX.add (i:=(4,0)) (r':=aD (.slice (some ⟨wo.heap.size,0,none⟩) 1 1) (aw [b].reverse)) MQ (gG.mono T9) (λk hk=>(gG.lt k hk).1);have b8:=Eu.trans (MQ.mono T9);have rz:(ch f1 (4,0) (some (aD (.slice (some ⟨wo.heap.size,0,none⟩) 1 1) (aw [b].reverse)))) (1,0)=some (aD cv (gO G.length came)):=(ad _ _ (by simp)).trans h1.came;have tD:=ah f1 (4,0) (some (aD (.slice (some ⟨wo.heap.size,0,none⟩) 1 1) (aw [b].reverse)));generalize ch f1 (4,0) (some (aD (.slice (some ⟨wo.heap.size,0,none⟩) 1 1) (aw [b].reverse)))=f8 at *;obtain⟨W8,uB⟩:=Ey (wo.alloc (.cells #[.int .i64 (b:Int)] 3));obtain⟨s8,hs8⟩:=Ey wo.heap.size;rw[<-uB] at R8 b8;rw[<-hs8] at tD;have xO:Tree came q (aq G) b b [b]:=.one b WW;replace⟨KB,dX,j7,sP,hO,yz,gG,R8⟩:=gp KB dX j7 sP hO yz gG R8;replace⟨O7,rz,tD,xO⟩:=gF O7 rz tD xO;clear MQ;go_wp2_with fail;rw[<-uB,<-hs8];clear uB hs8 iB cB lQ;go_loopg [13,14] k0 (λk wv vv wr=>∃(x:Nat) (u:List Nat) (f':Names) (ww:Value),ww=wv/\vv=.int .i64 x/\q[k]?=some x/\Tree came q (aq G) x b u/\Rows w.heap.size wr f'/\Below w.heap.size w wr/\f' (1,0)=some (aD cv (gO G.length came))/\f' (4,0)=some (aD ww (aw u.reverse))/\u.length<=G.length+1-k);case atStart=>exact⟨b,[b],f8,_,rfl,rfl,O7.out,xO.out,R8.out,b8,rz.out,tD.out,by have:=km O7.out;simp only[List.length_cons,List.length_nil];omega⟩
    case round =>
     clear R8 b8 rz tD xO O7;obtain⟨x,u,f9,wv,rfl,rfl,hk,hT,xN,b9,Qs,Dx,yA⟩:=hrel;obtain⟨wo,rfl⟩:=Ey wr;obtain⟨k,rfl⟩:=Ey gk;have zB:=yz.out x (List.mem_of_getElem? hk);have sr:=km hk;by_cases lY:x=a
     .subst lY;have vL:=hO.out.first hT;have Eh:=xN.aR Dx;have GR:=tr w.heap.size wv (aw u.reverse) wo Eh (by rw[aA,List.length_reverse];omega);have UE:(aw u.reverse).reverse=aw u:=by rw[pZ,List.reverse_reverse]
      rw[UE] at GR;replace⟨GR,vL,hT,xN,Eh,Qs,Dx,hk⟩:=gp GR vL hT xN Eh Qs Dx hk;replace UE:=Hd UE;go_wp2_with fail;refine GR.out.mono ?_;rintro e w10 ⟨rfl,sz,HF⟩;replace sz:=Hd sz;go_wp2;go_ret;exact⟨_,rfl,b9.trans HF,.inl ⟨u,vL.out,sz.out⟩⟩
     .have dS:0<k:=by
       by_cases e:0<k;.exact e
       .obtain rfl:k=0:=by omega
        have:=hO.out.hd;rw[hk] at this;injection this with this;exact absurd this lY
      obtain⟨p1,p2,p,p3,p4,p5,p6⟩:=hO.out.sf k x dS hk;have Ej:=Tree.cons _ _ p3 hk dS p4 hT;have Wd:=yz.out p (List.mem_of_getElem? p3);have bM:((x:Int) != (a:Int))=true:=by rw[bne_iff_ne];omega
      have FB:=xN.aR Qs;have iX:=λw'=>FB.at.idx x (by rw[aJ];exact zB) w';have cX:=FB.at.aH x (by rw[aJ];exact zB);rw[jR _ _ _ zB,p4] at cX;have Eh:=xN.aR Dx;have ZT:w.heap.size<=wo.heap.size:=b9.size;have VQ:(aw u.reverse).length<4398046511104:=by rw[aA,List.length_reverse];omega
      have mY:=fun (w':World) (AB:Value) (ho:aj w.heap.size w' AB (aw u.reverse++[(p:Int)])) (hJ:(dJ AB=dJ wv/\wo.grownBy w' wv.ownBlock)\/(∃k,AB.ownBlock=some k/\wo.heap.size<=k/\wo.grownBy w' none))=>show ∃f',Rows w.heap.size w' f'/\f' (1,0)=some (aD cv (gO G.length came))/\f' (4,0)=some (aD AB (aw (p::u).reverse)) from by
       have hg:wo.grownBy w' wv.ownBlock:=jr (hJ.imp (·.2) (λ⟨_,_,_,q⟩=>q));have uw:AB.ownBlock=wv.ownBlock\/∃k,AB.ownBlock=some k/\wo.heap.size<=k:=by
        rcases hJ with ⟨q,_⟩ | ⟨k,h1,h2,_⟩;.obtain⟨a1,n1,c1,e1⟩:=Eh.at.shape;obtain⟨a2,n2,c2,e2⟩:=ho.at.shape;exact .inl (cM e1 e2 q)
        .exact .inr ⟨k,h1,h2⟩
       exact⟨_,xN.grown (r':=aD AB (aw u.reverse++[(p:Int)])) Dx hg ho uw,by rw[ad _ _ (by simp)];exact Qs,by rw[ah,List.reverse_cons,jS]⟩
      generalize af cv x=xa at *;replace⟨mY,hT,Ej,xN,FB,Qs,Dx,hk⟩:=gp mY hT Ej xN FB Qs Dx hk;replace⟨p3,p4,p6⟩:=dO p3 p4 p6;go_wp2_with (at_builtin;refine dD rfl _ _ rfl w.heap.size wv (aw u.reverse) p Eh rfl rfl VQ ZT ?_);intro AB w11 xM Du JL;obtain⟨f11,Ml,LK,KV⟩:=mY.out w11 AB xM JL;replace⟨xM,Ml,LK,KV⟩:=gF xM Ml LK KV;clear JL;go_wp2;go_roundg (par k);case measure=>exact p2
      case rel=>exact⟨p,p::u,f11,AB,rfl,rfl,p3.out,Ej.out,Ml.out,b9.trans Du,LK.out,KV.out,by simp only[List.length_cons];omega⟩
  .by_cases IC:cb<0;.have jU:=hO.none (by omega) (by rw[KB];exact IC);replace⟨jU,KB,dX,j7,sP,hO,yz⟩:=zb jU KB dX j7 sP hO yz;go_wp2;go_ret;exact⟨_,rfl,Eu,.inr ⟨jU.out,rfl⟩⟩
   .have hcb0:¬ came b<0:=by rw[KB];exact IC
    have WW:=(hO.pH b).1 (by omega);obtain⟨k0,O7⟩:=List.mem_iff_getElem?.1 WW;have gG:=aj.lit wo.heap.size wo (Nat.le_refl _) [(b:Int)] (by simp[maxLen]) #[.int .i64 (b:Int)] rfl 1 rfl;have MQ:=ab wo (.cells #[.int .i64 (b:Int)] 3);have T9:w.heap.size<=wo.heap.size:=Eu.size;have R8:=dX.add (i:=(4,0)) (r':=aD (.slice (some ⟨wo.heap.size,0,none⟩) 1 1) (aw [b].reverse)) MQ (gG.mono T9) (λk hk=>(gG.lt k hk).1);have b8:=Eu.trans (MQ.mono T9);have rz:(ch f1 (4,0) (some (aD (.slice (some ⟨wo.heap.size,0,none⟩) 1 1) (aw [b].reverse)))) (1,0)=some (aD cv (gO G.length came)):=(ad _ _ (by simp)).trans h1.came;have tD:=ah f1 (4,0) (some (aD (.slice (some ⟨wo.heap.size,0,none⟩) 1 1) (aw [b].reverse)));generalize ch f1 (4,0) (some (aD (.slice (some ⟨wo.heap.size,0,none⟩) 1 1) (aw [b].reverse)))=f8 at *;obtain⟨W8,uB⟩:=Ey (wo.alloc (.cells #[.int .i64 (b:Int)] 3));obtain⟨s8,hs8⟩:=Ey wo.heap.size;rw[<-uB] at R8 b8;rw[<-hs8] at tD;have xO:Tree came q (aq G) b b [b]:=.one b WW;replace⟨KB,dX,j7,sP,hO,yz,gG,R8⟩:=gp KB dX j7 sP hO yz gG R8;replace⟨O7,rz,tD,xO⟩:=gF O7 rz tD xO;clear MQ;go_wp2_with fail;rw[<-uB,<-hs8];clear uB hs8 iB cB lQ;go_loopg [13,14] k0 (λk wv vv wr=>∃(x:Nat) (u:List Nat) (f':Names) (ww:Value),ww=wv/\vv=.int .i64 x/\q[k]?=some x/\Tree came q (aq G) x b u/\Rows w.heap.size wr f'/\Below w.heap.size w wr/\f' (1,0)=some (aD cv (gO G.length came))/\f' (4,0)=some (aD ww (aw u.reverse))/\u.length<=G.length+1-k);case atStart=>exact⟨b,[b],f8,_,rfl,rfl,O7.out,xO.out,R8.out,b8,rz.out,tD.out,by have:=km O7.out;simp only[List.length_cons,List.length_nil];omega⟩
    case round =>
     clear R8 b8 rz tD xO O7;obtain⟨x,u,f9,wv,rfl,rfl,hk,hT,xN,b9,Qs,Dx,yA⟩:=hrel;obtain⟨wo,rfl⟩:=Ey wr;obtain⟨k,rfl⟩:=Ey gk;have zB:=yz.out x (List.mem_of_getElem? hk);have sr:=km hk;by_cases lY:x=a
     .subst lY;have vL:=hO.out.first hT;have Eh:=xN.aR Dx;have GR:=tr w.heap.size wv (aw u.reverse) wo Eh (by rw[aA,List.length_reverse];omega);have UE:(aw u.reverse).reverse=aw u:=by rw[pZ,List.reverse_reverse]
      rw[UE] at GR;replace⟨GR,vL,hT,xN,Eh,Qs,Dx,hk⟩:=gp GR vL hT xN Eh Qs Dx hk;replace UE:=Hd UE;go_wp2_with fail;refine GR.out.mono ?_;rintro e w10 ⟨rfl,sz,HF⟩;replace sz:=Hd sz;go_wp2;go_ret;exact⟨_,rfl,b9.trans HF,.inl ⟨u,vL.out,sz.out⟩⟩
     .have dS:0<k:=by
       by_cases e:0<k;.exact e
       .obtain rfl:k=0:=by omega
        have:=hO.out.hd;rw[hk] at this;injection this with this;exact absurd this lY
      obtain⟨p1,p2,p,p3,p4,p5,p6⟩:=hO.out.sf k x dS hk;have Ej:=Tree.cons _ _ p3 hk dS p4 hT;have Wd:=yz.out p (List.mem_of_getElem? p3);have bM:((x:Int) != (a:Int))=true:=by rw[bne_iff_ne];omega
      have FB:=xN.aR Qs;have iX:=λw'=>FB.at.idx x (by rw[aJ];exact zB) w';have cX:=FB.at.aH x (by rw[aJ];exact zB);rw[jR _ _ _ zB,p4] at cX;have Eh:=xN.aR Dx;have ZT:w.heap.size<=wo.heap.size:=b9.size;have VQ:(aw u.reverse).length<4398046511104:=by rw[aA,List.length_reverse];omega
      have mY:=fun (w':World) (AB:Value) (ho:aj w.heap.size w' AB (aw u.reverse++[(p:Int)])) (hJ:(dJ AB=dJ wv/\wo.grownBy w' wv.ownBlock)\/(∃k,AB.ownBlock=some k/\wo.heap.size<=k/\wo.grownBy w' none))=>show ∃f',Rows w.heap.size w' f'/\f' (1,0)=some (aD cv (gO G.length came))/\f' (4,0)=some (aD AB (aw (p::u).reverse)) from by
       have hg:wo.grownBy w' wv.ownBlock:=jr (hJ.imp (·.2) (λ⟨_,_,_,q⟩=>q));have uw:AB.ownBlock=wv.ownBlock\/∃k,AB.ownBlock=some k/\wo.heap.size<=k:=by
        rcases hJ with ⟨q,_⟩ | ⟨k,h1,h2,_⟩;.obtain⟨a1,n1,c1,e1⟩:=Eh.at.shape;obtain⟨a2,n2,c2,e2⟩:=ho.at.shape;exact .inl (cM e1 e2 q)
        .exact .inr ⟨k,h1,h2⟩
       exact⟨_,xN.grown (r':=aD AB (aw u.reverse++[(p:Int)])) Dx hg ho uw,by rw[ad _ _ (by simp)];exact Qs,by rw[ah,List.reverse_cons,jS]⟩
      generalize af cv x=xa at *;replace⟨mY,hT,Ej,xN,FB,Qs,Dx,hk⟩:=gp mY hT Ej xN FB Qs Dx hk;replace⟨p3,p4,p6⟩:=dO p3 p4 p6;go_wp2_with (at_builtin;refine dD rfl _ _ rfl w.heap.size wv (aw u.reverse) p Eh rfl rfl VQ ZT ?_);intro AB w11 xM Du JL;obtain⟨f11,Ml,LK,KV⟩:=mY.out w11 AB xM JL;replace⟨xM,Ml,LK,KV⟩:=gF xM Ml LK KV;clear JL;go_wp2;go_roundg (par k);case measure=>exact p2
      case rel=>exact⟨p,p::u,f11,AB,rfl,rfl,p3.out,Ej.out,Ml.out,b9.trans Du,LK.out,KV.out,by simp only[List.length_cons];omega⟩
theorem SO(g K c:Nat)(w:World):(Builtin.len_ #[160] 3 #[.slice (some ⟨g,0,none⟩) K c]).run Tryz.prog w=.ok (.int .i64 K) w:=by
 rw[run_len_slice _ _ _ _ _ _ (by kernel_rfl)];rfl
theorem S9(g K c s:Nat)(hs:s<K)(w:World):(Instr.indexAt 160 (.slice (some ⟨g,0,none⟩) K c) (.int .i64 s)).run Tryz.prog w=.ok (.pointer (some ⟨g,s*2,none⟩)) w:=by
 have e:Tryz.prog.elem 160=162:=by kernel_rfl
 have hz:∀w:World,(sizeOf 162).run Tryz.prog w=.ok 2 w:=λw=>by kernel_rfl
 rw[run_indexAt_slice _ _ _ _ _ _ _ (by rw[e];kernel_rfl),if_pos (by omega),e,hz];simp only[Result.andThen,Addr.add,Int.toNat_natCast];by_cases e:s*2=0;.rw[if_pos e];simp only[e]
 .rw[if_neg e];simp
def pX(K N:Nat)(T:List Int)(k p:Nat):List Int:=if p<k then aw (bu K N T p) else []
theorem zy(K N:Nat)(T:List Int):pX K N T 0=λ_=>[]:=by funext p;unfold pX;rw[if_neg (by omega)]
theorem zS(K N:Nat)(T:List Int)(k:Nat):aN (pX K N T k) k (aw (bu K N T k))=pX K N T (k+1):=by
 funext p;unfold pX;by_cases e:p=k;.subst e;rw[ai,if_pos (by omega)]
 .rw[ag _ _ _ e];by_cases h:p<k;.rw[if_pos h,if_pos (by omega)]
  .rw[if_neg h,if_neg (by omega)]
def dd(K N:Nat)(T:List Int):List (List Int):=rowsOf (N*N) λp=>aw (bu K N T p)
theorem rC{w w':World}{row:Option Nat}{p:Addr}{v:Value}(hg:w.grownBy w' row)(h:w.cell? p=some v)(bM:row≠some p.block):w'.cell? p=some v :=
 (World.cell?_of_block (hg.block _ (World.block_lt_of_cell? _ _ h) (λe=>bM e.symm))).trans h
theorem Rows.Zj{B B':Nat}{w:World}{f:Names}(h:Rows B w f)(hB:B'<=B):Rows B' w f :=
 ⟨λi r hi=>by
   have ho:=h.1 i r hi;refine⟨ho.1,?_⟩;rcases ho.2 with h2 | ⟨g,cap,cur,e,hb,r⟩;.exact .inl h2
   .exact .inr ⟨g,cap,cur,e,Nat.le_trans hB hb,r⟩,h.2⟩
theorem uJ(r:Nat->Addr)(K R:Nat)(va:Option Addr)(vn vc:Nat)(T:List Int)(w:World)(hg:ck r w)(h:ae w (.slice va vn vc) T)(hr:aG K R T)(hl:T.length<=256):
 Calls Tryz.prog 41 #[.agg #[.int .i64 K,.int .i64 R,.slice va vn vc]] w (jf (λx y w'=>y=.nilIface/\∃f br,Rows w.heap.size w' f/\WN f x br (pw K (2*fW R)*pw K (2*fW R)) (λp=>aw (bu K (pw K (2*fW R)) (lJ K R T) p))) w):=by
 have b0:=ab w (.cells #[.int .i64 K,.int .i64 R,.slice va vn vc] 24);have q:az (w.alloc (.cells #[.int .i64 K,.int .i64 R,.slice va vn vc] 24)) w.heap.size (.int .i64 K) (.int .i64 R) (.slice va vn vc):=by simp[az,go_sem]
 have dS:=hr.k1;have fs:=hr.k4;have oI:=zw hr;have NO:=qZ hr hl;have Ho:=tW R;have jo:=nB oI Ho NO;obtain⟨hdiv,hlen⟩:=oI.half;have pC:=eN (K:=K) (2*fW R) dS;have l9:=λ(w':World) (jI:ck r w') (hT:ae w' (.slice va vn vc) T)=>wP r K R va vn vc T w' jI hT hr hl;have sG:=λ(a:Option Addr) (n c:Nat) (w':World) (jI:ck r w') (hT:ae w' (.slice a n c) (lJ K R T))=>Mg r K (fW R) a n c (lJ K R T) w' jI hT oI NO;rw[hdiv] at sG;generalize pw K (2*fW R)=N at *;generalize lJ K R T=T' at *;generalize fW R=R' at *;replace⟨l9,sG⟩:=bD l9 sG;replace hg:=Hd (hg.below b0);replace h:=Hd (h.below b0);replace⟨oI,hr,hdiv,hlen⟩:=gF oI hr hdiv hlen;go_enter Tryz.func41,Tryz.ntmps41;go_wp2_with fail;refine(l9.out _ hg.out h.out).mono ?_;rintro e w1 ⟨x,y,rfl,b1,rfl,a,n,c,rfl,Oj⟩;have si:=Below.step b0 b1;have ba:=ab w1 (.cells #[.int .i64 K,.int .i64 R',.slice a n c] 24);have q1:az (w1.alloc (.cells #[.int .i64 K,.int .i64 R',.slice a n c] 24)) w1.heap.size (.int .i64 K) (.int .i64 R') (.slice a n c):=by simp[az,go_sem]
 have Da:=Below.step si ba;have mw:=Below.step b1 ba;have Ej:=Oj.below ba;clear q;replace⟨Oj,Ej⟩:=bD Oj Ej;go_wp2_with fail;refine(sG.out a n c _ (hg.out.below mw) Ej.out).mono ?_;rintro e w3 ⟨lv,rfl,b3,hA⟩;have BK:=Below.step Da b3;clear q1;obtain⟨vs,VS,RF,nk⟩:=hA;obtain⟨la,ln,lc,rfl⟩:=VS.shape;have ll:=λw'=>VS.len ot 3 w';rw[RF] at ll;have hNN:(N:Int)*(N:Int)=((N*N:Nat):Int):=by simp
 have Hu:N*N<=6561:=Nat.mul_le_mul jo jo;have hNz1:¬ (N:Int)=0:=by omega
 have hNz2:((N:Int)==0)=false:=by rw[beq_eq_false_iff_ne];omega
 have hNz3:(0:Int)<N:=by omega
 have hNz4:¬ N=0:=by omega
 obtain⟨M,hM⟩:=Ex (N*N);rw[hM] at hNN Hu;have hwM:IntKind.i64.wrap (M:Int)=M:=db (by omega) (by omega);obtain⟨ov,w4,mk,ho,C4⟩:=gS dL (M:Int) M w3 rfl (by omega);obtain⟨f1,dX,h1⟩:=WN.made M C4 (Nat.le_refl _) ho;obtain⟨oa,on,oc,rfl⟩:=ho.shape;have lo:=λw'=>(ho.at).len dL 3 w';rw[List.length_replicate] at lo;rw[<-zy K N T'] at h1;replace⟨VS,nk,dX,ho,hM⟩:=mV VS nk dX ho hM;go_wp2_with fail;clear mk lo ll;go_loopw [33] (λkv wr=>∃(k:Nat) (f:Names) (br:List Value),k<=M/\kv=.int .i64 k/\Rows w3.heap.size wr f/\Below w3.heap.size w3 wr/\WN f (.slice oa on oc) br M (pX K N T' k)) (λkv _=>M-(intOf kv).toNat);case atStart=>exact⟨0,f1,_,by omega,rfl,dX.out,C4,h1⟩
 case round =>
  clear h1 ho dX C4;obtain⟨k,f2,br,hk,rfl,dI,b2,h2⟩:=hrel;obtain⟨wo,rfl⟩:=Ey wr;by_cases aT:k<M
  .obtain⟨u,hu⟩:=Ex (k/N);obtain⟨v,hv⟩:=Ex (k%N);have nH:u<N:=by rw[<-hu];exact oh (by rw[hM.out];exact aT)
   have zV:v<N:=by rw[<-hv];exact Nat.mod_lt _ (by omega)
   have hqu:(k:Int)/(N:Int)=(u:Int):=by rw[<-hu];simp
   have hqv:(k:Int)%(N:Int)=(v:Int):=by rw[<-hv];simp
   have hqu2:(k:Int).tdiv (N:Int)=(u:Int):=by rw[Int.tdiv_eq_ediv_of_nonneg (by omega)];exact hqu
   have hqv2:(k:Int).tmod (N:Int)=(v:Int):=by rw[Int.tmod_eq_emod_of_nonneg (by omega)];exact hqv
   have hwu:IntKind.i64.wrap (u:Int)=u:=db (by omega) (by omega);have CR:IntKind.i64.wrap (v:Int)=v:=db (by omega) (by omega);obtain⟨gu,cu,eu,hcu,Fy⟩:=nk.out u nH;obtain⟨gv,cv,ev,p9,GB⟩:=nk.out v zV;have iU:=λw'=>VS.out.idx ot u (by omega) w';have iV:=λw'=>VS.out.idx ot v (by omega) w';have cU3:=VS.out.lp u (by omega);have cV3:=VS.out.lp v (by omega);rw[eu] at cU3;rw[ev] at cV3;have cU:=(b2.cell (World.block_lt_of_cell? _ _ cU3)).trans cU3;generalize af (.slice la ln lc) u=ua at *;have lenU:=SO gu K cu;have lenV:=SO gv K cv;have idxU:=fun s (hs:s<K) w'=>S9 gu K cu s hs w';have idxV:=fun s (hs:s<K) w'=>S9 gv K cv s hs w';have hcU:=λ(w':World) (hb:Below w3.heap.size w3 w') s (hs:s<K)=>(⟨au hb (Fy s hs).1,au hb (Fy s hs).2⟩:w'.cell? ⟨gu,s*2,none⟩=some (.int .i64 (rW K N u s))/\w'.cell? ⟨gu,s*2+1,none⟩=some (.int .i64 (lf K T' u s)));have hcV:=λ(w':World) (hb:Below w3.heap.size w3 w') s (hs:s<K)=>(⟨au hb (GB s hs).1,au hb (GB s hs).2⟩:w'.cell? ⟨gv,s*2,none⟩=some (.int .i64 (rW K N v s))/\w'.cell? ⟨gv,s*2+1,none⟩=some (.int .i64 (lf K T' v s)));have cVk:=λ(w':World) (hb:Below w3.heap.size w3 w')=>(hb.cell (World.block_lt_of_cell? _ _ cV3)).trans cV3;generalize af (.slice la ln lc) v=Dc at *;replace⟨hcU,hcV,cVk,idxU,idxV,Fy,GB,dI⟩:=gp hcU hcV cVk idxU idxV Fy GB dI;replace⟨hu,hv,eu,ev⟩:=gF hu hv eu ev;clear cU3 cV3;go_wp2_with fail;clear cU iU;go_loopw [10,43] (λtv sv wr=>∃(s:Nat) (tw:Value),s<=K/\sv=.int .i64 s/\tw=tv/\aj wo.heap.size wr tw (aw (lN K N T' u v s))/\Below wo.heap.size wo wr) (λ_ sv _=>K-(intOf sv).toNat);case atStart=>exact⟨0,_,by omega,rfl,rfl,aj.nil _ _,Below.refl _ _⟩
   case round =>
    obtain⟨s,tv,hs,rfl,rfl,hoT,bT⟩:=hrel;obtain⟨wt,rfl⟩:=Ey wr;by_cases sD:s<K
    .have b3t:=b2.trans (bT.mono b2.size);have iS:=λw'=>idxU.out s sD w';obtain⟨P0,cS1⟩:=hcU.out wt b3t s sD;obtain⟨X,hX⟩:=Ex (rW K N u s);obtain⟨Y,hY⟩:=Ex (lf K T' u s);rw[hX] at P0;rw[hY] at cS1;have hXN:X<N:=by rw[<-hX];exact vJ (by omega)
     have bA:=ab wt (.cells #[.int .i64 X,.int .i64 Y] 162);have bTA:=bT.trans (bA.mono bT.size);have b3A:=b3t.trans (bA.mono b3t.size);have cA0:(wt.alloc (.cells #[.int .i64 X,.int .i64 Y] 162)).cell? ⟨wt.heap.size,0,none⟩=some (.int .i64 X):=by simp[go_sem]
     have RC:(wt.alloc (.cells #[.int .i64 X,.int .i64 Y] 162)).cell? ⟨wt.heap.size,1,none⟩=some (.int .i64 Y):=by simp[go_sem]
     have cV:=cVk.out _ b3A;have hoA:=hoT.below bA;have X7:tv.ownBlock≠some wt.heap.size:=λe=>by have:=(hoT.lt _ e).2;omega
     replace⟨hoT,hoA,hX,hY,cA0,RC⟩:=rr hoT hoA hX hY cA0 RC;go_wp2_with fail;obtain⟨wa,hwa⟩:=Ey (wt.alloc (.cells #[.int .i64 X,.int .i64 Y] 162));rw[<-hwa] at bA bTA b3A cA0 RC cV hoA ⊢;replace hwa:=Hd hwa;go_loopw [10,54] (λtv' jv wr=>∃(j:Nat) (tw:Value),j<=K/\jv=.int .i64 j/\tw=tv'/\aj wo.heap.size wr tw (aw (lN K N T' u v s++nQ K N T' u v s j))/\Below wo.heap.size wo wr/\tw.ownBlock≠some wt.heap.size/\wr.cell? ⟨wt.heap.size,0,none⟩=some (.int .i64 X)/\wr.cell? ⟨wt.heap.size,1,none⟩=some (.int .i64 Y)) (λ_ jv _=>K-(intOf jv).toNat);case atStart=>exact⟨0,_,by omega,rfl,rfl,by simpa [nQ] using hoA.out,bTA,X7,cA0.out,RC.out⟩
     case round =>
      obtain⟨j,tj,hj,rfl,rfl,hoJ,bJ,bM,y0,y1⟩:=hrel;obtain⟨wj,rfl⟩:=Ey wr;by_cases dw:j<K
      .have b3j:=b2.trans (bJ.mono b2.size);have iJ:=λw'=>idxV.out j dw w';obtain⟨cJ0,cJ1⟩:=hcV.out wj b3j j dw;obtain⟨X2,Ia⟩:=Ex (rW K N v j);obtain⟨Y2,MD⟩:=Ex (lf K T' v j);rw[Ia] at cJ0;rw[MD] at cJ1;have hXN2:X2<N:=by rw[<-Ia];exact vJ (by omega)
       have bA2:=ab wj (.cells #[.int .i64 X2,.int .i64 Y2] 162);have Zi:=au bA2 y0;have y1':=au bA2 y1;have bJA:=bJ.trans (bA2.mono bJ.size);have QL:=hoJ.below bA2;have gQ:=bJA.size;have hwt:wt.heap.size<wj.heap.size:=World.block_lt_of_cell? _ _ y0;have hlenJ:(aw (lN K N T' u v s++nQ K N T' u v s j)).length<=100:=by
        rw[aA,List.length_append];have e1:=tY K N T' u v s;have e2:=BB K N T' u v s j;have e3:=Nat.mul_le_mul hs fs;omega
       replace⟨hoJ,Ia,MD⟩:=dO hoJ Ia MD;have cB0:(wj.alloc (.cells #[.int .i64 X2,.int .i64 Y2] 162)).cell? ⟨wj.heap.size,0,none⟩=some (.int .i64 X2):=by simp[go_sem]
       have cB1:(wj.alloc (.cells #[.int .i64 X2,.int .i64 Y2] 162)).cell? ⟨wj.heap.size,1,none⟩=some (.int .i64 Y2):=by simp[go_sem]
       go_upto_region 17 with fail;obtain⟨wb,hwb⟩:=Ey (wj.alloc (.cells #[.int .i64 X2,.int .i64 Y2] 162));rw[<-hwb] at bA2 Zi y1' bJA QL gQ cB0 cB1 ⊢;have hszb:=@Hd (wj.heap.size<wb.heap.size) (World.block_lt_of_cell? _ _ cB0);replace hwb:=Hd hwb;by_cases hYY:Y=Y2
       .have hYq:(Y==Y2)=true:=by rw[beq_iff_eq];exact hYY
        have Hg:nQ K N T' u v s (j+1)=nQ K N T' u v s j++[X*N+X2]:=by
         rw[uz];unfold Kg;rw[hY.out,MD.out,hX.out,Ia.out,if_pos hYY]
        obtain⟨m,hm⟩:=Ex (X*N);have hm1:(X:Int)*(N:Int)=(m:Int):=by rw[<-hm];simp
        have AH:m<=6561:=by rw[<-hm];exact Nat.le_trans (Nat.mul_le_mul (show X<=81 by omega) jo) (by decide)
        have LX:IntKind.i64.wrap (m:Int)=m:=db (by omega) (by omega);have Am:(m:Int)+(X2:Int)=((m+X2:Nat):Int):=by simp
        rw[hm] at Hg;obtain⟨z,hz⟩:=Ex (m+X2);rw[hz] at Am Hg;have Yv:z<=7000:=by omega
        have hwz:IntKind.i64.wrap (z:Int)=z:=db (by omega) (by omega);replace⟨Hg,hm,hz,hYY⟩:=gF Hg hm hz hYY;go_wp2_with (at_builtin;go_loud (refine dD rfl _ _ rfl wo.heap.size tj _ z QL rfl rfl (by omega) gQ ?_));intro v' w7 eF b7 hJ;have hne':v'.ownBlock≠some wt.heap.size:=by
         rcases hJ with ⟨q1,_⟩ | ⟨m,q1,q2,_⟩;.rw[IZ QL eF q1];exact bM
         .rw[q1];intro e;injection e with e;have:=hszb.out;omega
        have y07:w7.cell? ⟨wt.heap.size,0,none⟩=some (.int .i64 X)/\w7.cell? ⟨wt.heap.size,1,none⟩=some (.int .i64 Y):=by
         rcases hJ with ⟨_,q2⟩ | ⟨_,_,_,q2⟩;.exact⟨rC q2 Zi bM,rC q2 y1' bM⟩
         .exact⟨rC q2 Zi (by simp),rC q2 y1' (by simp)⟩
        obtain⟨ta,tn,tc,rfl⟩:=eF.at.shape;replace⟨eF,y07⟩:=bD eF y07;clear hJ;go_wp2;go_roundw;case measure=>simp[intOf];omega
        case rel=>exact⟨j+1,_,by omega,by go_num,rfl,by rw[Hg.out,<-List.append_assoc,jS];exact eF.out,bJA.trans b7,hne',y07.out.1,y07.out.2⟩
       .have hYq:(Y==Y2)=false:=by rw[beq_eq_false_iff_ne];exact hYY
        have Hg:nQ K N T' u v s (j+1)=nQ K N T' u v s j:=by
         rw[uz];unfold Kg;rw[hY.out,MD.out,if_neg hYY,List.append_nil]
        replace⟨Hg,QL,hYY⟩:=dO Hg QL hYY;go_wp2;go_roundw;case measure=>simp[intOf];omega
        case rel=>exact⟨j+1,_,by omega,by go_num,rfl,by rw[Hg.out];exact QL.out,bJA,bM,Zi,y1'⟩
      .obtain rfl:j=K:=by omega
       rw[<-y9] at hoJ;replace hoJ:=Hd hoJ;go_wp2;go_roundw;case measure=>simp[intOf];omega
       case rel=>exact⟨s+1,_,by omega,by go_num,rfl,hoJ.out,bJ⟩
    .obtain rfl:s=K:=by omega
     have hlT:(aw (lN s N T' u v s)).length<=17592186044416:=by
      rw[aA];have e1:=tY s N T' u v s;have e3:=Nat.mul_le_mul fs fs;omega
     have gQ:=bT.size;replace hoT:=Hd hoT;go_wp2_with fail;refine(BX wo.heap.size tv _ wt hoT.out hlT gQ).mono ?_;rintro e w8 ⟨rfl,CS,b8⟩;have bT8:=bT.trans b8;replace CS:=Hd CS;go_wp2_with fail;refine(JE wo.heap.size tv _ w8 CS.out (by rw[k9];omega)).mono ?_;rintro e w9 ⟨x,rfl,_,vQ,b9⟩;have Y9:=bT8.trans b9;have LA:Ao (yw (aw (lN s N T' u v s))) (yw (aw (lN s N T' u v s))).length=aw (bu s N T' k):=by
      refine IJ (by omega) (vP _) (λx=>?_);rw[xV,hu.out,hv.out];rfl
     rw[LA] at vQ;have wC:=h2.new dI.out k Y9 b2.size vQ;obtain⟨y1,y2,y3,f8,nC,h8,_⟩:=h2.put aT wC;rw[zS] at h8;have iO:=λw'=>((dI.out.ff h2.outer).at).idx dL k (by rw[h2.len];exact aT) w';generalize af (.slice oa on oc) k=ka at *;obtain⟨xa,xn,xc,rfl⟩:=vQ.at.shape;have b39:=b2.trans (Y9.mono b2.size);replace⟨nC,vQ,LA,wC⟩:=gF nC vQ LA wC;go_wp2;go_roundw;case measure=>simp[intOf];omega
     case rel=>exact⟨k+1,f8,_,by omega,by go_num,nC.out,b39.setCell y3 _,h8⟩
  .obtain rfl:k=M:=by omega
   have hR:=dI.Zj (Nat.le_trans BK.size (Nat.le_refl _));have hW:WN f2 (.slice oa on oc) br (N*N) (λp=>aw (bu K N T' p)):=by
    rw[hM.out];exact⟨h2.outer,h2.len,λu hu=>by rw[h2.rows u hu];unfold pX;rw[if_pos hu]⟩
   have bE:=Below.step BK b2;replace⟨hR,dI⟩:=bD hR dI;go_wp2;go_ret2;exact⟨_,_,rfl,bE,rfl,_,_,hR.out,hW⟩
def ZJ(n:Nat)(adj:Nat->List Nat)(s:Nat)(D:Nat->Int):Prop :=
 ∀t,t<n->(D t=-1/\¬ bH adj s t)\/∃w,Way adj s t w/\(w.length:Int)=D t+1/\∀u,Way adj s t u->w.length<=u.length
def XX(n:Nat)(adj:Nat->List Nat)(s:Nat)(D:Nat->Int):Prop :=
 ∀t,t<n->(D t=-1/\¬ bH adj t s)\/∃w,Way adj t s w/\(w.length:Int)=D t+1/\∀u,Way adj t s u->w.length<=u.length
theorem XX.low{n:Nat}{adj:Nat->List Nat}{s:Nat}{D:Nat->Int}(h:XX n adj s D){t:Nat}(ht:t<n):-1<=D t:=by
 rcases h t ht with ⟨h1,_⟩ | ⟨w,h1,h2,_⟩;.omega
 .have:=h1.pos;omega
theorem XX.pos{n:Nat}{adj:Nat->List Nat}{s:Nat}{D:Nat->Int}(h:XX n adj s D){t:Nat}(ht:t<n):0<=D t↔bH adj t s:=by
 rcases h t ht with ⟨h1,h2⟩ | ⟨w,h1,h2,_⟩;.exact⟨λq=>by omega,λq=>absurd q h2⟩
 .exact⟨λ_=>h1.goes,λ_=>by have:=h1.pos;omega⟩
theorem ZJ.pos{n:Nat}{adj:Nat->List Nat}{s:Nat}{D:Nat->Int}(h:ZJ n adj s D){t:Nat}(ht:t<n):0<=D t↔bH adj s t:=by
 rcases h t ht with ⟨h1,h2⟩ | ⟨w,h1,h2,_⟩;.exact⟨λq=>by omega,λq=>absurd q h2⟩
 .exact⟨λ_=>h1.goes,λ_=>by have:=h1.pos;omega⟩
structure FBase (adj:Nat->List Nat) (s:Nat) (D:Nat->Int) (q:List Nat) (b i:Nat):Prop where
 hd:q[0]?=some s
 nodup:q.Nodup
 there:∀x,0<=D x↔x∈q
 low:∀x,-1<=D x
 d0:D s=0
 sound:∀x∈q,∃w,Way adj s x w/\(w.length:Int)=D x+1
 par:∀x∈q,x=s\/∃p y,p<b/\q[p]?=some y/\D x=D y+1
 mono:∀(j k x y:Nat),j<=k->q[j]?=some x->q[k]?=some y->D x<=D y
 closed:∀p x,p<i->q[p]?=some x->∀t∈adj x,0<=D t/\D t<=D x+1
structure FIn (adj:Nat->List Nat) (s:Nat) (D:Nat->Int) (q:List Nat) (i v:Nat) (l:List Nat):Prop where
 base:FBase adj s D q (i+1) i
 cur:q[i]?=some v
 sub:∀t∈l,t∈adj v
 seen:∀t∈adj v,t∈l\/(0<=D t/\D t<=D v+1)
section
variable {adj:Nat->List Nat} {s:Nat} {D:Nat->Int} {q:List Nat} {i v b:Nat} {l:List Nat}
theorem FIn.top(h:FIn adj s D q i v l):∀x∈q,D x<=D v+1:=by
 intro x hx;have Xx:=(h.base.there v).2 (List.mem_of_getElem? h.cur);rcases h.base.par x hx with rfl | ⟨p,y,h1,h2,h3⟩;.have:=h.base.d0;omega
 .have:=h.base.mono p i y v (by omega) h2 h.cur;omega
end
def mx(F:Nat->Nat):Nat->Nat
 | 0=>0
 | n+1=>mx F n+F n
theorem vH{F F':Nat->Nat}:∀{n},(∀v,v<n->F v=F' v)->mx F n=mx F' n
 | 0,_=>rfl
 | n+1,h=>by
  show mx F n+F n=mx F' n+F' n;rw[vH (n:=n) (λv hv=>h v (by omega)),h n (by omega)]
theorem qF{F:Nat->Nat}:∀{n},0<mx F n↔∃v,v<n/\0<F v
 | 0=>by simp[mx]
 | n+1=>by
  show 0<mx F n+F n↔_;constructor
  .intro h;by_cases e:0<mx F n;.obtain⟨v,h1,h2⟩:=qF.1 e;exact⟨v,by omega,h2⟩
   .exact⟨n,by omega,by omega⟩
  .rintro⟨v,h1,h2⟩;by_cases e:v=n;.subst e;omega
   .have:=qF.2 ⟨v,show v<n by omega,h2⟩;omega
theorem JY{F F':Nat->Nat}{v:Nat}(h:∀u,u≠v->F' u=F u):∀{n},v<n->mx F' n+F v=mx F n+F' v
 | 0,q=>by omega
 | n+1,q=>by
  show mx F' n+F' n+F v=mx F n+F n+F' v;by_cases e:v=n;.subst e;rw[vH (n:=v) (λu hu=>h u (by omega))];omega
  .have:=JY h (n:=n) (by omega);rw[h n (λq=>e q.symm)];omega
theorem Ev:∀n,mx (λ_=>0) n=0
 | 0=>rfl
 | n+1=>by show mx _ n+0=0;rw[Ev n]
theorem JJ(F F':Nat->Nat):∀n,mx (λv=>F v+F' v) n=mx F n+mx F' n
 | 0=>rfl
 | n+1=>by show mx _ n+(F n+F' n)=mx F n+F n+(mx F' n+F' n);rw[JJ F F' n];omega
theorem HY(x:Nat):∀n,mx (λv=>if v=x then 1 else 0) n=if x<n then 1 else 0
 | 0=>rfl
 | n+1=>by
  show mx _ n+(if n=x then 1 else 0)=_;rw[HY x n];by_cases e:n=x;.subst e;simp
  .rw[if_neg e];by_cases q:x<n;.rw[if_pos q,if_pos (by omega)]
   .rw[if_neg q,if_neg (by omega)]
theorem vE(n:Nat):∀(l:List Nat),(∀x∈l,x<n)->l.length=mx (λv=>l.count v) n
 | [],_=>by simp[Ev]
 | x::l,h=>by
  have ih:=vE n l (λy hy=>h y (List.mem_cons_of_mem _ hy));have e:(λv=>(x::l).count v)=λv=>l.count v+if v=x then 1 else 0:=by
   funext v;rw[List.count_cons];by_cases q:x=v;.simp[q]
   .rw[if_neg (by simpa using q),if_neg (λr=>q r.symm)]
  rw[e,JJ,HY,if_pos (h x List.mem_cons_self),<-ih,List.length_cons]
def Xm(n:Nat)(A:Nat->List Nat)(c gK:Nat->Nat):Prop:=∀t,t<n->gK t=mx (λv=>((A v).drop (c v)).count t) n
theorem Xm.init{n:Nat}{A B:Nat->List Nat}(hB:∀t,t<n->∀x∈B t,x<n)(hc:∀v t,v<n->t<n->(B t).count v=(A v).count t):Xm n A (λ_=>0) (λt=>(B t).length):=by
 intro t ht;show(B t).length=_;rw[vE n _ (hB t ht)];exact vH λv hv=>by rw[hc v t hv ht,List.drop_zero]
theorem Xm.step{n:Nat}{A:Nat->List Nat}{c gK:Nat->Nat}{v j t:Nat}(h:Xm n A c gK)(hv:v<n)(hj:c v=j)(ht:(A v)[j]?=some t)(gY:t<n):
 0<gK t/\Xm n A (aN c v (j+1)) (aN gK t (gK t-1)):=by
 have dw:j<(A v).length:=km ht;have hd:(A v).drop j=t::(A v).drop (j+1):=by
  rw[List.drop_eq_getElem_cons dw];rw[List.getElem?_eq_getElem dw] at ht;injection ht with ht;rw[ht]
 have key:∀x,mx (λu=>((A u).drop (aN c v (j+1) u)).count x) n+(if x=t then 1 else 0)=mx (λu=>((A u).drop (c u)).count x) n:=by
  intro x;have:=JY (F:=λu=>((A u).drop (c u)).count x) (F':=λu=>((A u).drop (aN c v (j+1) u)).count x) (v:=v) (λu hu=>by simp only[ag _ _ _ hu]) hv;simp only[ai,hj,hd,List.count_cons] at this;by_cases e:x=t;.subst e;rw[if_pos rfl];simp at this;omega
  .rw[if_neg e];have e2:(t==x)=false:=by simpa using λq=>e q.symm
   rw[e2] at this;simp at this;omega
 have h1:=key t;rw[if_pos rfl,<-h t gY] at h1;refine⟨by omega,λx hx=>?_⟩;have h2:=key x;by_cases e:x=t;.subst e;rw[ai];omega
 .rw[ag _ _ _ e,h x hx];rw[if_neg e] at h2;omega
structure vl (n:Nat) (A B:Nat->List Nat) (gK out:Nat->Nat) (c d:Nat->Nat) (gone:Nat->Bool) (q:List Nat) (dC:Nat->Prop):Prop where
 TI:Xm n A c gK
 Vx:Xm n B d out
 nodup:q.Nodup
 xm:∀x,gone x=true↔x∈q
 low:∀x∈q,x<n
 fresh:∀v,v∉q->c v=0/\d v=0
 keep:∀t,t<n->dC t->gone t=false
structure pQ (n:Nat) (A B:Nat->List Nat) (dC:Nat->Prop):Prop where
 behind:∀t,t<n->dC t->∃p,p<n/\dC p/\t∈A p
 ahead:∀t,t<n->dC t->∃p,p<n/\dC p/\t∈B p
section
variable {n:Nat} {A B:Nat->List Nat} {gK out c d:Nat->Nat} {gone:Nat->Bool} {q:List Nat} {dC:Nat->Prop}
theorem vl.WG(h:vl n A B gK out c d gone q dC)(hL:pQ n A B dC){t:Nat}(ht:t<n)(hl:dC t):0<gK t/\0<out t:=by
 have aux:∀p,p<n->dC p->c p=0/\d p=0:=λp hp hlp=>h.fresh p (λq=>by have:=(h.xm p).2 q;rw[h.keep p hp hlp] at this;cases this);refine⟨?_,?_⟩;.obtain⟨p,hp,hlp,hm⟩:=hL.behind t ht hl;rw[h.TI t ht];refine qF.2 ⟨p,hp,?_⟩;rw[(aux p hp hlp).1,List.drop_zero];exact List.count_pos_iff.2 hm
 .obtain⟨p,hp,hlp,hm⟩:=hL.ahead t ht hl;rw[h.Vx t ht];refine qF.2 ⟨p,hp,?_⟩;rw[(aux p hp hlp).2,List.drop_zero];exact List.count_pos_iff.2 hm
theorem vl.goes(h:vl n A B gK out c d gone q dC)(hL:pQ n A B dC){t:Nat}(ht:t<n)(hg:gone t=false)(h0:gK t=0\/out t=0):vl n A B gK out c d (aN gone t true) (q++[t]) dC:=by
 have KE:t∉q:=λr=>by have:=(h.xm t).2 r;rw[hg] at this;cases this
 refine⟨h.TI,h.Vx,?_,λx=>?_,λx hx=>?_,λv hv=>h.fresh v (λr=>hv (List.mem_append_left _ r)),λx hx hl=>?_⟩;.exact List.nodup_append.2 ⟨h.nodup,by simp,λx hx y hy e=>by cases List.mem_singleton.1 hy;subst e;exact KE hx⟩
 .by_cases e:x=t;.subst e;rw[ai];simp
  .rw[ag _ _ _ e,h.xm];simp[e]
 .rcases List.mem_append.1 hx with hx | hx;.exact h.low x hx
  .cases List.mem_singleton.1 hx;exact ht
 .by_cases e:x=t;.subst e;have:=h.WG hL hx hl;omega
  .rw[ag _ _ _ e];exact h.keep x hx hl
theorem vl.acE(h:vl n A B gK out c d gone q dC){v j t:Nat}(hv:v∈q)(hj:c v=j)(ht:(A v)[j]?=some t)(gY:t<n):
 0<gK t/\vl n A B (aN gK t (gK t-1)) out (aN c v (j+1)) d gone q dC:=by
 obtain⟨h1,h2⟩:=h.TI.step (h.low v hv) hj ht gY;exact⟨h1,h2,h.Vx,h.nodup,h.xm,h.low,λu hu=>by
  have e:u≠v:=λe=>hu (by rw[e];exact hv);rw[ag _ _ _ e];exact h.fresh u hu,h.keep⟩
theorem vl.left(h:vl n A B gK out c d gone q dC)(jB:∀v∈q,c v=(A v).length/\d v=(B v).length)(hpos:∀t,t<n->gone t=false->0<gK t/\0<out t){t:Nat}(ht:t<n)(hg:gone t=false):
 (∃p,p<n/\gone p=false/\t∈A p)/\∃p,p<n/\gone p=false/\t∈B p:=by
 obtain⟨h1,h2⟩:=hpos t ht hg;rw[h.TI t ht] at h1;rw[h.Vx t ht] at h2;obtain⟨p,hp,hc⟩:=qF.1 h1;obtain⟨p2,ZY,gL⟩:=qF.1 h2;refine⟨⟨p,hp,?_,List.mem_of_mem_drop (List.count_pos_iff.1 hc)⟩,⟨p2,ZY,?_,List.mem_of_mem_drop (List.count_pos_iff.1 gL)⟩⟩;.cases oq:gone p with
  | false=>rfl
  | true=>rw[(jB p ((h.xm p).1 oq)).1,List.drop_length] at hc;simp at hc
 .cases oq:gone p2 with
  | false=>rfl
  | true=>rw[(jB p2 ((h.xm p2).1 oq)).2,List.drop_length] at gL;simp at gL
end
theorem JQ{n:Nat}{A:Nat->List Nat}{S:Nat->Prop}(hS:∀x,S x->x<n)(hs:∀x,S x->∃t∈A x,S t){x:Nat}(hx:S x):∃u,u<n/\(∃t∈A u,bH A t u)/\bH A x u:=by
 apply Classical.byContradiction;intro ig;have key:∀k,∃w y,Way A x y w/\w.length=k+1/\w.Nodup/\(∀z∈w,S z)/\S y:=by
  intro k;induction k with
  | zero=>exact⟨[x],x,.one x,rfl,by simp,λz hz=>by cases List.mem_singleton.1 hz;exact hx,hx⟩
  | succ k ih =>
   obtain⟨w,y,h1,h2,h3,h4,h5⟩:=ih;obtain⟨t,ht,mT⟩:=hs y h5;have Ln:t∉w:=λhm=>by
    obtain⟨u,hu,_⟩:=h1.mem t hm;exact ig ⟨y,hS y h5,⟨t,ht,hu.goes⟩,h1.goes⟩
   refine⟨w++[t],t,h1.snoc ht,by simp[h2],List.nodup_append.2 ⟨h3,by simp,λa ha b hb e=>by cases List.mem_singleton.1 hb;subst e;exact Ln ha⟩,λz hz=>?_,mT⟩;rcases List.mem_append.1 hz with hz | hz;.exact h4 z hz
   .cases List.mem_singleton.1 hz;exact mT
 obtain⟨w,y,h1,h2,h3,h4,_⟩:=key n;have hl:∀(n:Nat) (l:List Nat),l.Nodup->(∀x∈l,x<n)->l.length<=n:=by
  intro n;induction n with
  | zero=>intro l _ h;cases l with
   | nil=>simp
   | cons a l=>exact absurd (h a List.mem_cons_self) (by omega)
  | succ n ih =>
   intro l hl h;have h1:=ih (l.erase n) (hl.erase n) (λx hx=>by
    have:=h x (List.mem_of_mem_erase hx);have:x≠n:=λe=>by subst e;exact(List.Nodup.not_mem_erase hl) hx
    omega);have:=List.length_erase (a:=n) (l:=l);split at this<;>omega
 have:=hl n w h3 (λz hz=>hS z (h4 z hz));omega
end Go.Proofs.YtgjfejfeoofkhaaGreatDoor
