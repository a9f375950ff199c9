/-
  Texts that the proof leans on.
-/
import Derived.Test.YtgjfejfeoofkhaaGreatDoorMLr5
import Derived.Laws.Bits64b
import Derived.Deep.RegionHeld3
set_option maxHeartbeats 8000000
set_option maxRecDepth 100000
namespace Go.Proofs.YtgjfejfeoofkhaaGreatDoor
open Go.RowKit
def pN(G:List (List Int))(k j:Nat)(F:Nat->List Int):Prop :=
 ∀t,t<G.length->∀v:Nat,(F t).count (v:Int)=if v<k then (G.getD v []).count (t:Int) else if v=k then ((G.getD k []).take j).count (t:Int) else 0
theorem pN.zero(G:List (List Int)):pN G 0 0 (λ_=>[]):=by
 intro t _ v;rw[if_neg (by omega)];split<;>simp
theorem pN.next{G:List (List Int)}{k:Nat}{F:Nat->List Int}(h:pN G k (G.getD k []).length F):pN G (k+1) 0 F:=by
 intro t ht v;rw[h t ht v,List.take_length];by_cases e:v<k;.rw[if_pos e,if_pos (by omega)]
 .rw[if_neg e];by_cases e2:v=k;.subst e2;rw[if_pos rfl,if_pos (by omega)]
  .rw[if_neg e2,if_neg (by omega)];split<;>simp
theorem pN.add{G:List (List Int)}{k j u:Nat}{F:Nat->List Int}(h:pN G k j F)(hj:(G.getD k [])[j]?=some (u:Int)):pN G k (j+1) (aN F u (F u++[(k:Int)])):=by
 have kg:(G.getD k []).take (j+1)=(G.getD k []).take j++[(u:Int)]:=by
  rw[List.take_add_one,hj];rfl
 intro t ht v;have h1:=h t ht v;rw[kg,List.count_append];by_cases e:t=u
 .subst e;rw[ai,List.count_append,h1];by_cases e1:v<k
  .rw[if_pos e1,if_pos e1];have:([(k:Int)]:List Int).count (v:Int)=0:=by
    rw[List.count_eq_zero];simp;omega
   omega
  .rw[if_neg e1,if_neg e1];by_cases e2:v=k;.subst e2;rw[if_pos rfl,if_pos rfl];simp
   .rw[if_neg e2,if_neg e2];rw[Nat.zero_add,List.count_eq_zero];simp;omega
 .rw[ag _ _ _ e,h1];have:([(u:Int)]:List Int).count (t:Int)=0:=by
   rw[List.count_eq_zero];simp;omega
  rw[this,Nat.add_zero]
structure AP (G H:List (List Int)):Prop where
 t:kx G H
 cnt:∀t v,t<G.length->v<G.length->(aq H t).count v=(aq G v).count t
theorem tg:∀(l:List Int) (x:Nat),(∀y∈l,0<=y)->(l.map Int.toNat).count x=l.count (x:Int)
 | [],_,_=>rfl
 | a::l,x,h=>by
  rw[List.map_cons,List.count_cons,List.count_cons,tg l x (λy hy=>h y (List.mem_cons_of_mem _ hy))];have ha:=h a List.mem_cons_self;by_cases e:a=(x:Int);.subst e;simp
  .have:¬ a.toNat=x:=by omega
   simp[e,this]
theorem AP.of{G:List (List Int)}{F:Nat->List Int}(bK:bR G)(h:eh G G.length 0 F)(hc:pN G G.length 0 F):AP G (rowsOf G.length F):=by
 have hT:=h.KJ;refine⟨hT,λt v ht hv=>?_⟩;unfold aq;rw[jX _ _ _ ht,tg,tg,hc t ht v,if_pos hv];.exact λy hy=>(bK v hv y hy).1
 .intro y hy;obtain⟨v,rfl,_⟩:=((h t ht).2 y).1 hy;omega
def dR(B:Nat)(w:World)(v:Value)(G:List (List Int)):Prop :=
 ∃vs:List Value,aZ 22 B w v vs/\vs.length=G.length/\∀i,i<G.length->aj B w (oZ vs i) (G.getD i [])
theorem dR.at{B:Nat}{w:World}{v:Value}{G:List (List Int)}(h:dR B w v G):bh w v G:=by
 obtain⟨vs,h1,h2,h3⟩:=h;exact⟨vs,h1.at,h2,λi hi=>(h3 i hi).at⟩
theorem dR.set{B:Nat}{w:World}{v:Value}{G:List (List Int)}(h:dR B w v G){a:Addr}(ha:a.block<B)(u:Value):dR B (w.setCell a u) v G:=by
 obtain⟨vs,h1,h2,h3⟩:=h;exact⟨vs,aZ.al h1 ha u,h2,λi hi=>aZ.YW (aZ.al (h3 i hi).yB ha u)⟩
theorem WN.from{B:Nat}{w:World}{f:Names}{ov:Value}{br:List Value}{n:Nat}{F:Nat->List Int}(h:WN f ov br n F)(hr:Rows B w f):dR B w ov (rowsOf n F) :=
 ⟨br,hr.ff h.outer,by rw[h.len,kR],λi hi=>by
   rw[kR] at hi;rw[jX n F i hi];exact hr.aR (h.rows i hi)⟩
theorem Mt(na:Option Addr)(nc:Nat)(G:List (List Int))(w:World)(h:bh w (.slice na G.length nc) G)(bK:bR G)(hn:G.length<=8200)(sG:aU G G.length<=262144):
 Calls Tryz.prog 166 #[.slice na G.length nc] w (cz (λx w'=>∃H,AP G H/\dR w.heap.size w' x H) w):=by
 obtain⟨ov,w1,mk,ho,kZ⟩:=gS dL (G.length:Int) G.length w rfl (by omega);obtain⟨f1,dX,h1⟩:=WN.made G.length kZ (Nat.le_refl _) ho;obtain⟨oa,on,oc,rfl⟩:=ho.shape;have hlen:∀k,k<G.length->(G.getD k []).length<=262144:=λk hk=>by
  have:=fi G (show k+1<=G.length by omega);simp only[aU] at this;omega
 replace⟨h,bK,dX,ho,hlen⟩:=mV h bK dX ho hlen;go_enter Tryz.func166,Tryz.ntmps166;go_wp2_with fail;clear mk;go_loopw [4] (λkv wr=>∃(k:Nat) (F:Nat->List Int) (f:Names) (br:List Value),k<=G.length/\kv=.int .i64 k/\Rows w.heap.size wr f/\Below w.heap.size w wr/\WN f (.slice oa on oc) br G.length F/\eh G k 0 F/\pN G k 0 F) (λkv _=>G.length-(intOf kv).toNat);case atStart=>exact⟨0,_,f1,_,by omega,rfl,dX.out,kZ,h1,eh.zero G,pN.zero G⟩
 case round =>
  clear h1 ho dX;obtain⟨k,F,f2,br,hk,rfl,dI,b2,h2,hB,hC⟩:=hrel;obtain⟨wo,rfl⟩:=Ey wr;by_cases aT:k<G.length
  .obtain⟨mv,iR,qK,rI⟩:=h.out.row k aT;have jI:=hlen.out k aT;have oq:=bK.out k aT;have tu:=λ(j u:Nat) (F:Nat->List Int) (h:eh G k j F)=>h.add (u:=u);have oM:=λ(F:Nat->List Int) (h:eh G k (G.getD k []).length F)=>h.next;have Su:=λ(j u:Nat) (F:Nat->List Int) (h:pN G k j F)=>h.add (u:=u);have KY:=λ(F:Nat->List Int) (h:pN G k (G.getD k []).length F)=>h.next;have uf:=λ(j t:Nat) (F:Nat->List Int) (h:eh G k j F) (ht:t<G.length)=>(h t ht).1;have ZU:=fi G hk;generalize G.getD k []=gk at *;have lM:=rI.len;generalize af (.slice na G.length nc) k=ra at *;have cR1:=Hd qK;clear qK;replace⟨hB,hC,tu,oM,Su,KY,uf,oq⟩:=gp hB hC tu oM Su KY uf oq;replace⟨dI,rI⟩:=bD dI rI;go_wp2_with fail;go_loopw [5] (λjv wr=>∃(j:Nat) (F:Nat->List Int) (f:Names) (br:List Value),j<=gk.length/\jv=.int .i64 j/\Rows w.heap.size wr f/\Below w.heap.size w wr/\WN f (.slice oa on oc) br G.length F/\eh G k j F/\pN G k j F) (λjv _=>gk.length-(intOf jv).toNat);case atStart=>exact⟨0,F,f2,br,by omega,rfl,dI.out,b2,h2,hB.out,hC.out⟩
   case round =>
    clear hB hC dI h2 b2;obtain⟨j,F,f3,br,hj,rfl,dP,b3,h3,hB,hC⟩:=hrel;obtain⟨wo,rfl⟩:=Ey wr;have cR:=(b3.cell (World.block_lt_of_cell? _ _ cR1.out)).trans cR1.out;by_cases dw:j<gk.length
    .have vt:=rI.out.below b3;have vg:=oq.out gk[j] (List.getElem_mem dw);obtain⟨u,hu⟩:∃u:Nat,gk[j]=u:=Int.eq_ofNat_of_zero_le vg.1;have nH:u<G.length:=by rw[hu] at vg;omega
     have EN:gk[j]?=some (u:Int):=by rw[List.getElem?_eq_getElem dw,hu]
     have jZ:gk.getD j 0=(u:Int):=by rw[List.getD_eq_getElem?_getD,EN];rfl
     have iJ:=λw'=>vt.idx j dw w';have cJ:=vt.aH j dw;rw[jZ] at cJ;have ks:=tu.out j u F hB EN;have su:=Su.out j u F hC EN;have Dr:=uf.out j u F hB nH;have j5:=(dP.ff h3.outer).at;have iO:=λw'=>j5.idx dL u (by rw[h3.len];exact nH) w';have cO:=j5.lp u (by rw[h3.len];exact nH);have hT:=dP.aR (h3.rows u nH);have tz:=λ(w1:World) (v':Value)=>h3.app dP nH (w1:=w1) (v':=v') (k:Int);have oz:=λ(w1:World) (v':Value) (xs:List Int)=>h3.put (B:=w.heap.size) (w1:=w1) nH (v':=v') (xs:=xs);have sS:w.heap.size<=wo.heap.size:=b3.size;generalize af mv j=ja at *;generalize oZ br u=tv at *;generalize af (.slice oa on oc) u=ua at *;replace⟨ks,su,tz,oz,hB,hC,dP,j5⟩:=gp ks su tz oz hB hC dP j5;replace⟨EN,jZ,hu,vg⟩:=gF EN jZ hu vg;go_wp2_with (at_builtin;refine dD rfl _ _ rfl w.heap.size tv (F u) k hT rfl rfl (by omega) sS ?_);intro v' w7 eF b7 gn;have zQ:=tz.out w7 v' eF gn;obtain⟨y1,y2,y3,f8,nC,h8,_⟩:=oz.out w7 v' _ zQ;obtain⟨va,vn,vc,rfl⟩:=eF.at.shape;replace⟨nC,eF,zQ⟩:=dO nC eF zQ;clear gn hT iJ cJ cO;go_wp2;go_roundw;case measure=>simp[intOf];omega
     case rel=>exact⟨j+1,_,f8,_,by omega,by go_num,nC.out,(b3.trans b7).setCell y3 _,h8,ks.out,su.out⟩
    .obtain rfl:j=gk.length:=by omega
     have jD:=oM.out F hB;have Mx:=KY.out F hC;replace⟨jD,Mx,hB,hC,dP⟩:=mV jD Mx hB hC dP;go_wp2;go_roundw;case measure=>simp[intOf];omega
     case rel=>exact⟨k+1,F,f3,br,by omega,by go_num,dP.out,b3,h3,jD.out,Mx.out⟩
  .obtain rfl:k=G.length:=by omega
   have hT:=AP.of bK.out hB hC;have hL:=h2.from dI;replace⟨hB,hC,hT,hL,dI⟩:=mV hB hC hT hL dI;go_wp2;go_ret;exact⟨_,rfl,b2,_,hT.out,hL.out⟩
theorem Py(B:Nat)(v:Value)(xs:List Int)(w:World)(h:aj B w v xs)(hl:xs.length<=17592186044416)(hB:B<=w.heap.size):
 Calls Tryz.prog 139 #[v] w λe w'=>e=.returned (.tuple #[])/\aj B w' v (yw xs)/\Below B w w':=by
 have hs:=BX B v xs w h hl hB;replace hs:=Hd hs;go_enter Tryz.func139,Tryz.ntmps139;go_wp2_with fail;refine hs.out.mono ?_;rintro e w1 ⟨rfl,ho,hb⟩;replace ho:=Hd ho;go_wp2;go_end0;exact⟨rfl,ho.out,hb⟩
theorem LJ{N K u s:Nat}(hu:u<N)(hs:s<K):u*K+s<N*K:=by
 have:=Nat.mul_le_mul_right K (show u+1<=N by omega);rw[Nat.add_mul] at this;omega
theorem M4(K R:Nat)(va:Option Addr)(vn vc:Nat)(T:List Int)(w:World)(h:ae w (.slice va vn vc) T)(hr:aG K R T)(hR:1<=R)(hl:T.length<=256):
 Calls Tryz.prog 108 #[.agg #[.int .i64 K,.int .i64 R,.slice va vn vc]] w (cz (λx w'=>dR w.heap.size w' x (dd K (pw K (2*R)) T)) w):=by
 have b0:=ab w (.cells #[.int .i64 K,.int .i64 R,.slice va vn vc] 24);have q:az (w.alloc (.cells #[.int .i64 K,.int .i64 R,.slice va vn vc] 24)) w.heap.size (.int .i64 K) (.int .i64 R) (.slice va vn vc):=by simp[az,go_sem]
 have dS:=hr.k1;have fs:=hr.k4;have kK:=hr.r3;have jo:=nB hr hR hl;have pC:=eN (K:=K) (2*R) dS;obtain⟨hdiv,hlen⟩:=hr.half;have Ro:pw K (2*R)*K<=256:=by rw[<-hlen];exact hl
 have qP:=λ(w':World)=>uQ K R va vn vc w' dS fs kK;generalize hN9:pw K (2*R)=N at *;obtain⟨M,hM⟩:=Ex (N*N);have Hu:M<=6561:=by rw[<-hM];exact Nat.mul_le_mul jo jo
 have hNN:(N:Int)*(N:Int)=(M:Int):=by rw[<-hM];simp
 replace h:=Hd (h.below b0);replace⟨hr,qP,hN9,hM,hlen⟩:=mV hr qP hN9 hM hlen;have hNK2:=Hd Ro;clear hdiv;have q0:=q;obtain⟨⟨z0,z1,z2⟩,-,-,-⟩:=q0;go_enter Tryz.func108,Tryz.ntmps108;go_wp2_with fail;refine(qP.out _).mono ?_;rintro e W1 ⟨_,rfl,b1,rfl⟩;have q1:=q.below b1;have h1:=h.out.below b1;have si:=Below.step b0 b1;replace h1:=Hd h1;obtain⟨ov,w2,mk,Hw,ij⟩:=gS dL (M:Int) M W1 rfl (by omega);obtain⟨f2,dI,g2⟩:=WN.made M ij (Nat.le_refl _) Hw;obtain⟨oa,on,oc,rfl⟩:=Hw.shape;replace⟨Hw,dI⟩:=bD Hw dI;clear z0 z1 z2;go_wp2_with fail;clear mk;go_loopw [5] (λuv wr=>∃(u:Nat) (f:Names) (br:List Value),u<=N/\uv=.int .i64 u/\Rows W1.heap.size wr f/\Below W1.heap.size W1 wr/\WN f (.slice oa on oc) br M (pX K N T (u*N))) (λuv _=>N-(intOf uv).toNat);case atStart=>exact⟨0,f2,_,Nat.zero_le _,rfl,dI.out,ij,by rw[Nat.zero_mul,zy];exact g2⟩
 case round =>
  clear g2 dI Hw;obtain⟨u,f3,br,hu,rfl,dP,b3,g3⟩:=hrel;obtain⟨w3,rfl⟩:=Ey wr;by_cases yA:u<N
  .have duN:decide ((u:Int)<(N:Int))=true:=decide_eq_true (by omega);replace dP:=Hd dP;go_wp2_with fail;go_loopw [6] (λvv wr=>∃(v:Nat) (f:Names) (br:List Value),v<=N/\vv=.int .i64 v/\Rows W1.heap.size wr f/\Below W1.heap.size W1 wr/\WN f (.slice oa on oc) br M (pX K N T (u*N+v))) (λvv _=>N-(intOf vv).toNat);case atStart=>exact⟨0,f3,_,Nat.zero_le _,rfl,dP.out,b3,g3⟩
   case round =>
    clear g3 dP b3;obtain⟨v,f4,br,hv,rfl,lV,b4,g4⟩:=hrel;obtain⟨wo,rfl⟩:=Ey wr;by_cases RF:v<N
    .have dvN:decide ((v:Int)<(N:Int))=true:=decide_eq_true (by omega);have hkM:u*N+v<M:=by rw[<-hM.out];exact pP yA RF
     have ba:=ab wo (.cells #[] 3);have gG:=aj.lit wo.heap.size wo (Nat.le_refl _) [] (by unfold maxLen;simp) #[] rfl 0 rfl;replace⟨lV,gG⟩:=bD lV gG;have hlit2:=gG;go_wp2_with fail;go_loopw [7,8] (λsv cv wr=>∃(s:Nat) (sw:Value),sw=sv/\cv=.int .i64 s/\s<=K/\aj wo.heap.size wr sw (aw (lN K N T u v s))/\Below wo.heap.size wo wr) (λ_ cv _=>K-(intOf cv).toNat);case atStart=>exact⟨0,_,rfl,rfl,Nat.zero_le _,gG.out,ba⟩
     case round =>
      clear gG hlit2 ba;obtain⟨s,sw,rfl,rfl,hs,VG,bS⟩:=hrel;obtain⟨ws,rfl⟩:=Ey wr;have b5:=b4.trans (bS.mono b4.size);obtain⟨⟨z0,z1,z2⟩,-,-,-⟩:=q1.below b5;replace VG:=Hd VG;by_cases sD:s<K
      .have dsK:decide ((s:Int)<(K:Int))=true:=decide_eq_true (by omega);go_wp2_with fail;clear z0 z1 z2;go_loopw [7,9] (λsv cv wr=>∃(t:Nat) (sw:Value),sw=sv/\cv=.int .i64 t/\t<=K/\aj wo.heap.size wr sw (aw (lN K N T u v s++nQ K N T u v s t))/\Below wo.heap.size wo wr) (λ_ cv _=>K-(intOf cv).toNat);case atStart=>exact⟨0,_,rfl,rfl,Nat.zero_le _,by simpa [nQ] using VG.out,bS⟩
       case round =>
        clear VG bS b5;obtain⟨t,sw,rfl,rfl,ht,VG,bT⟩:=hrel;obtain⟨wt,rfl⟩:=Ey wr;have b5:=b4.trans (bT.mono b4.size);have qt:=q1.below b5;obtain⟨⟨z0,z1,z2⟩,-,-,-⟩:=qt;replace VG:=Hd VG;by_cases ko:t<K
        .have dtK:decide ((t:Int)<(K:Int))=true:=decide_eq_true (by omega);obtain⟨W,hW⟩:=Ex wt.drew;have b5W:Below W1.heap.size W1 W:=by rw[<-hW];exact b5.drew
         have bTW:Below wo.heap.size wo W:=by rw[<-hW];exact bT.drew
         have RJ:aj wo.heap.size W sw (aw (lN K N T u v s++nQ K N T u v s t)):=by rw[<-hW];exact VG.out
         have KH:=h1.out.below b5W;have hA:u*K+s<T.length:=by rw[hlen.out];exact LJ yA sD
         have hB:v*K+t<T.length:=by rw[hlen.out];exact LJ RF ko
         have iA:=λw'=>KH.idx _ hA w';have cA:=KH.aH _ hA;have iB:=λw'=>KH.idx _ hB w';have cB:=KH.aH _ hB;have hlA:lf K T u s=T.getD (u*K+s) 0:=rfl;have hlB:lf K T v t=T.getD (v*K+t) 0:=rfl;have haA:u*K+s<=256:=by have:=hl;omega
         have haB:v*K+t<=256:=by have:=hl;omega
         have hrt:Kg K N T u v s t=if lf K T u s=lf K T v t then [rW K N u s*N+rW K N v t] else []:=rfl;have JX:=uz K N T u v s t;rw[hlA,hlB] at hrt;generalize T.getD (u*K+s) 0=y1 at *;generalize T.getD (v*K+t) 0=y2 at *;generalize af (.slice va vn vc) (u*K+s)=ta at *;generalize af (.slice va vn vc) (v*K+t)=tb at *;have ea:(u:Int)*(K:Int)+(s:Int)=((u*K+s:Nat):Int):=by simp
         have eb:(v:Int)*(K:Int)+(t:Int)=((v*K+t:Nat):Int):=by simp
         have ea2:(u:Int)*(K:Int)=((u*K:Nat):Int):=by simp
         have eb2:(v:Int)*(K:Int)=((v*K:Nat):Int):=by simp
         have wa1:IntKind.i64.wrap ((u:Int)*(K:Int))=(u:Int)*(K:Int):=db (by omega) (by omega);have wb1:IntKind.i64.wrap ((v:Int)*(K:Int))=(v:Int)*(K:Int):=db (by omega) (by omega);have wa2:IntKind.i64.wrap ((u:Int)*(K:Int)+(s:Int))=((u*K+s:Nat):Int):=by rw[ea];exact db (by omega) (by omega)
         have wb2:IntKind.i64.wrap ((v:Int)*(K:Int)+(t:Int))=((v*K+t:Nat):Int):=by rw[eb];exact db (by omega) (by omega)
         have htoA:rW K N u s=(u*K+s)%N:=rfl;have htoB:rW K N v t=(v*K+t)%N:=rfl;generalize u*K+s=A at *;generalize v*K+t=B at *;have hS:W.cell? ⟨w.heap.size,0,none⟩=some (.int .i64 K)/\W.cell? ⟨w.heap.size,2,none⟩=some (.slice va vn vc)/\W.cell? ta=some (.int .i64 y1)/\W.cell? tb=some (.int .i64 y2):=by
          obtain⟨⟨p0,p1,p2⟩,-,-,-⟩:=q1.below b5W;exact⟨p0,p2,cA,cB⟩
         replace⟨KH,RJ,hlA,hlB,hrt,JX,htoA,htoB⟩:=gp KH RJ hlA hlB hrt JX htoA htoB;replace⟨hW,ea,eb,ea2,eb2⟩:=mV hW ea eb ea2 eb2;clear cA cB;go_upto_region 16 with fail;refine ar (λw'=>w'.cell? ⟨w.heap.size,0,none⟩=some (.int .i64 K)/\w'.cell? ⟨w.heap.size,2,none⟩=some (.slice va vn vc)/\w'.cell? ta=some (.int .i64 y1)/\w'.cell? tb=some (.int .i64 y2)) 20 [(0,true),(1,true),(2,true),(3,true),(4,true),(5,true),(6,true),(7,true),(8,true),(9,true),(10,true),(11,true),(12,true),(13,true),(14,true),(15,true),(16,true),(17,true),(18,true),(19,true)] (by kernel_rfl) (by kernel_rfl) ?_;rw[hW.out];clear z0 z1 z2;refine ay 41 hS ?_;refine ay 42 hS ?_;refine ay 43 hS ?_;refine ay 44 hS ?_;refine ay 45 hS ?_;refine ay 46 hS ?_;refine ay 47 hS ?_;refine ay 48 hS ?_;refine ay 49 hS ?_;refine ay 50 hS ?_;refine ay 51 hS ?_;refine ay 52 hS ?_;refine ay 53 hS ?_;refine ay 54 hS ?_;refine ay 55 hS ?_;refine ay 56 hS ?_;refine ay 57 hS ?_;refine ay 58 hS ?_;refine ay 59 hS ?_;refine ay 60 hS ?_;refine dA ?_;simp only[List.drop_succ_cons,List.drop_zero];by_cases hy:y1=y2
         .have heq:(y1==y2)=true:=by rw[beq_iff_eq];exact hy
          replace hy:=Hd hy;go_wp2;refine NoPanic.normal ?_;obtain⟨V,hV⟩:=Ex W.drew;have b5V:Below W1.heap.size W1 V:=by rw[<-hV];exact b5W.drew
          have bTV:Below wo.heap.size wo V:=by rw[<-hV];exact bTW.drew
          have hsV:aj wo.heap.size V sw (aw (lN K N T u v s++nQ K N T u v s t)):=by rw[<-hV];exact RJ.out
          have BW:V.cell? ⟨w.heap.size,0,none⟩=some (.int .i64 K):=by rw[<-hV];exact hS.1
          replace⟨hV,hsV⟩:=bD hV hsV;have ZL:((N:Int)==0)=false:=by rw[beq_eq_false_iff_ne];omega
          have CV:¬ (N:Int)=0:=by omega
          have YO:¬ N=0:=by omega
          have hP:=Nat.mod_lt A (show N>0 by omega);have hQ:=Nat.mod_lt B (show N>0 by omega);have hmA:(A:Int).tmod (N:Int)=((A%N:Nat):Int):=by rw[Int.tmod_eq_emod_of_nonneg (Int.natCast_nonneg A)];exact(Int.natCast_emod A N).symm
          have hmB:(B:Int).tmod (N:Int)=((B%N:Nat):Int):=by rw[Int.tmod_eq_emod_of_nonneg (Int.natCast_nonneg B)];exact(Int.natCast_emod B N).symm
          have htA:=htoA.out;have htB:=htoB.out;generalize A%N=P at *;generalize B%N=Q at *;have hPQ:P*N+Q<M:=by rw[<-hM.out];exact pP hP hQ
          have hZ:(P:Int)*(N:Int)+(Q:Int)=((P*N+Q:Nat):Int):=by simp
          have hZ2:(P:Int)*(N:Int)=((P*N:Nat):Int):=by simp
          have wz1:IntKind.i64.wrap ((P:Int)*(N:Int))=(P:Int)*(N:Int):=by rw[hZ2];exact db (by omega) (by omega)
          have wz2:IntKind.i64.wrap ((P:Int)*(N:Int)+(Q:Int))=((P*N+Q:Nat):Int):=by rw[hZ];exact db (by omega) (by omega)
          have KM:aw (lN K N T u v s++nQ K N T u v s t)++[((P*N+Q:Nat):Int)]=aw (lN K N T u v s++nQ K N T u v s (t+1)):=by
           rw[JX.out,hrt.out,if_pos hy.out,htA,htB];simp[aw]
          have hln:(aw (lN K N T u v s++nQ K N T u v s t)).length<=1000:=by
           rw[aA,List.length_append];have e1:=tY K N T u v s;have e2:=BB K N T u v s t;have e3:=Nat.mul_le_mul hs fs;omega
          generalize P*N+Q=Z at *;have bl:=ab V (.cells #[.int .i64 (Z:Int)] 3);have gG:=aj.lit V.heap.size V (Nat.le_refl _) [(Z:Int)] (by simp[maxLen]) #[.int .i64 (Z:Int)] rfl 1 rfl;have CT:=hsV.out.below bl;have sV:=bTV.size;have KS:wo.heap.size<=(V.alloc (.cells #[.int .i64 (Z:Int)] 3)).heap.size:=by simp;omega
          have hSl:(V.alloc (.cells #[.int .i64 (Z:Int)] 3)).cell? ⟨w.heap.size,0,none⟩=some (.int .i64 K):=(bl.cell (World.block_lt_of_cell? _ _ BW)).trans BW;replace⟨KM,gG,CT,htA,htB,hZ,hZ2⟩:=zb KM gG CT htA htB hZ hZ2;go_upto_region 17 with fail;refine ar (λw'=>w'.cell? ⟨w.heap.size,0,none⟩=some (.int .i64 K)) 22 [(0,true),(1,true),(2,true),(3,true),(4,true),(5,true),(6,true),(7,true),(8,true),(9,true),(10,true),(11,true),(12,true),(13,true),(14,true),(15,true),(16,true),(17,true),(18,true),(19,true),(20,false),(21,false)] (by kernel_rfl) (by kernel_rfl) ?_;rw[hV.out];clear hS;refine ay 62 BW ?_;refine ay 63 BW ?_;refine ay 64 BW ?_;refine ay 65 BW ?_;refine ay 66 BW ?_;refine ay 67 BW ?_;refine ay 68 BW ?_;refine ay 69 BW ?_;refine ay 70 BW ?_;refine ay 71 BW ?_;refine ay 72 BW ?_;refine ay 73 BW ?_;refine ay 74 BW ?_;refine ay 75 BW ?_;refine ay 76 BW ?_;refine ay 77 BW ?_;refine ay 78 BW ?_;refine ay 79 BW ?_;refine ay 80 BW ?_;refine ay 81 BW ?_;refine fZ rfl (λKK hK=>?_);go_simp;refine hK _ _ hSl ?_;clear hK KK;refine fZ rfl (λKK hK=>?_);refine uR rfl _ _ rfl wo.heap.size sw (.slice (some ⟨V.heap.size,0,none⟩) 1 1) _ [(Z:Int)] rfl rfl CT.out gG.out.at (by simp only[List.length_cons,List.length_nil];omega) KS ?_;intro v9 w9 vQ b9;rw[KM.out] at vQ;obtain⟨Z7,ZC,Zg,rfl⟩:=vQ.at.shape;have Y9:Below wo.heap.size wo w9:=(bTV.trans (bl.mono sV)).trans b9;have hS9:w9.cell? ⟨w.heap.size,0,none⟩=some (.int .i64 K):=by
           obtain⟨⟨p0,p1,p2⟩,-,-,-⟩:=q1.below (b4.trans (Y9.mono b4.size));exact p0
          replace vQ:=Hd vQ;refine hK _ _ hS9 ?_;clear hK KK;refine dA ?_;simp only[List.drop_succ_cons,List.drop_zero];clear BW hSl hS9;go_wp2;refine NoPanic.normal ?_;go_wp2;go_roundw;case measure=>simp[intOf];omega
          case rel=>exact⟨t+1,_,rfl,by go_num,by omega,vQ.out,Y9⟩
         .have heq:(y1==y2)=false:=by rw[beq_eq_false_iff_ne];exact hy
          have KM:aw (lN K N T u v s++nQ K N T u v s t)=aw (lN K N T u v s++nQ K N T u v s (t+1)):=by
           rw[JX.out,hrt.out,if_neg hy];simp
          have VN:=RJ.out;rw[KM] at VN;replace⟨VN,KM,hy⟩:=dO VN KM hy;clear hS;go_wp2;refine NoPanic.normal ?_;go_wp2;go_roundw;case measure=>simp[intOf];omega
          case rel=>exact⟨t+1,_,rfl,by go_num,by omega,VN.out,bTW⟩
        .obtain rfl:t=K:=by omega
         have VN:=VG.out;rw[<-y9] at VN;have dtK:decide ((t:Int)<(t:Int))=false:=decide_eq_false (by omega);replace VN:=Hd VN;go_wp2;go_roundw;case measure=>simp[intOf];omega
         case rel=>exact⟨s+1,_,rfl,by go_num,by omega,VN.out,bT⟩
      .obtain rfl:s=K:=by omega
       have dsK:decide ((s:Int)<(s:Int))=false:=decide_eq_false (by omega);have hlT:(aw (lN s N T u v s)).length<=1000:=by
        rw[aA];have e1:=tY s N T u v s;have e3:=Nat.mul_le_mul fs fs;omega
       have N2:=Py wo.heap.size sw _ ws VG.out (by omega) bS.size;have LA:Ao (yw (aw (lN s N T u v s))) (yw (aw (lN s N T u v s))).length=aw (bu s N T (u*N+v)):=by
        refine IJ (by omega) (vP _) (λx=>?_);rw[xV,nj RF,nw RF];rfl
       have Yv:(yw (aw (lN s N T u v s))).length<=1000:=by rw[k9];exact hlT
       generalize yw (aw (lN s N T u v s))=zs at *;replace⟨N2,LA⟩:=bD N2 LA;go_wp2_with fail;refine N2.out.mono ?_;rintro e w8 ⟨rfl,hz8,b8⟩;have bS8:=bS.trans b8;have lZ:=hz8.at.len;have ba:=ab w8 (.cells #[] 3);have gG:=aj.lit w8.heap.size w8 (Nat.le_refl _) [] (by unfold maxLen;simp) #[] rfl 0 rfl;obtain⟨swa,swb,swc,rfl⟩:=hz8.at.shape;replace⟨hz8,gG⟩:=bD hz8 gG;clear z0 z1 z2 N2;go_wp2_with fail;go_loopw [10,11] (λlv iv wr=>∃(i:Nat) (lw:Value),lw=lv/\iv=.int .i64 i/\i<=zs.length/\aj w8.heap.size wr lw (Ao zs i)/\Below w8.heap.size w8 wr) (λ_ iv _=>zs.length-(intOf iv).toNat);case atStart=>exact⟨0,_,rfl,rfl,Nat.zero_le _,gG.out,ba⟩
       case round =>
        clear gG ba;obtain⟨i,lw,rfl,rfl,hi,hlO,bL⟩:=hrel;obtain⟨wl,rfl⟩:=Ey wr;have hzL:=hz8.out.at.below bL;have oQ:=FH zs i;replace hlO:=Hd hlO;by_cases jM:i<zs.length
        .have diL:decide ((i:Int)<(zs.length:Int))=true:=decide_eq_true (by omega);obtain⟨V,hV⟩:=Ex wl.drew;have bLV:Below w8.heap.size w8 V:=by rw[<-hV];exact bL.drew
         have RM:aj w8.heap.size V lw (Ao zs i):=by rw[<-hV];exact hlO.out
         have hzV:=hz8.out.at.below bLV;have iI:=λw'=>hzV.idx i jM w';have cI:=hzV.aH i jM;have Dh:Ao zs (i+1)=Ao zs i++if i=0\/zs.getD i 0≠zs.getD (i-1) 0 then [zs.getD i 0] else []:=rfl;have bLs:=bLV.size;by_cases hi0:i=0
         .have di0:((i:Int)==0)=true:=by rw[beq_iff_eq];omega
          rw[if_pos (.inl hi0)] at Dh;generalize zs.getD i 0=x at *;generalize af (.slice swa swb swc) i=xa at *;have hS:True:=trivial;replace⟨Dh,hV,RM,hzV,hzL,hi0⟩:=rr Dh hV RM hzV hzL hi0;go_upto_region 23 with fail;refine ar (λ_=>True) 13 [(0,true),(1,true),(2,true),(3,true),(4,true),(5,true),(6,true),(7,true),(8,true),(9,true),(10,true),(11,true),(12,true)] (by kernel_rfl) (by kernel_rfl) ?_;rw[hV.out];refine ay 93 hS ?_;refine ay 94 hS ?_;refine ay 95 hS ?_;refine Ku 96 hS ?_;refine Ku 97 hS ?_;refine Ku 98 hS ?_;refine Ku 99 hS ?_;refine Ku 100 hS ?_;refine Ku 101 hS ?_;refine Ku 102 hS ?_;refine Ku 103 hS ?_;refine Ku 104 hS ?_;refine Ku 105 hS ?_;refine dA ?_;simp only[List.drop_succ_cons,List.drop_zero];go_wp2;refine NoPanic.normal ?_;go_wp2_with (at_builtin;refine dD rfl _ _ rfl w8.heap.size lw (Ao zs i) x RM.out rfl rfl (by omega) bLs ?_);intro v' w7 eF b7 _;rw[<-Dh.out] at eF;obtain⟨v7a,v7b,v7c,rfl⟩:=eF.at.shape;replace eF:=Hd eF;go_wp2;go_roundw;case measure=>simp[intOf];omega
          case rel=>exact⟨i+1,_,rfl,by go_num,by omega,eF.out,bLV.trans b7⟩
         .have di0:((i:Int)==0)=false:=by rw[beq_eq_false_iff_ne];omega
          have wi:IntKind.i64.wrap ((i:Int)-1)=(i:Int)-1:=db (by omega) (by omega);have iP:∀w',(Instr.indexAt 22 (.slice swa swb swc) (.int .i64 ((i:Int)-1))).run Tryz.prog w'=.ok (.pointer (some (af (.slice swa swb swc) (i-1)))) w':=by
           intro w';have:=hzV.idx (i-1) (by omega) w';rwa [show(((i-1:Nat):Nat):Int)=(i:Int)-1 by omega] at this
          have cP:=hzV.aH (i-1) (by omega);generalize zs.getD i 0=x at *;generalize zs.getD (i-1) 0=x' at *;generalize af (.slice swa swb swc) i=xa at *;generalize af (.slice swa swb swc) (i-1)=xb at *;have hS:V.cell? xa=some (.int .i64 x)/\V.cell? xb=some (.int .i64 x'):=⟨cI,cP⟩;replace⟨hV,RM,hzV,hzL,Dh⟩:=mV hV RM hzV hzL Dh;go_upto_region 23 with fail;refine ar (λw'=>w'.cell? xa=some (.int .i64 x)/\w'.cell? xb=some (.int .i64 x')) 13 [(0,true),(1,true),(2,true),(3,true),(4,true),(5,true),(6,true),(7,true),(8,true),(9,true),(10,true),(11,true),(12,true)] (by kernel_rfl) (by kernel_rfl) ?_;rw[hV.out];refine ay 93 hS ?_;refine ay 94 hS ?_;refine ay 95 hS ?_;refine ay 96 hS ?_;refine ay 97 hS ?_;refine ay 98 hS ?_;refine ay 99 hS ?_;refine ay 100 hS ?_;refine ay 101 hS ?_;refine ay 102 hS ?_;refine ay 103 hS ?_;refine ay 104 hS ?_;refine ay 105 hS ?_;refine dA ?_;simp only[List.drop_succ_cons,List.drop_zero];clear hS;by_cases Ht:x=x'
          .have bM:(x != x')=false:=by simp[Ht]
           have Fj:=Dh.out;rw[if_neg (by rintro(q | q);exact hi0 q;exact q Ht),List.append_nil] at Fj;have A3:=RM.out;rw[<-Fj] at A3;replace⟨A3,Fj,Ht⟩:=dO A3 Fj Ht;go_wp2;refine NoPanic.normal ?_;go_wp2;go_roundw;case measure=>simp[intOf];omega
           case rel=>exact⟨i+1,_,rfl,by go_num,by omega,A3.out,bLV⟩
          .have bM:(x != x')=true:=by rw[bne_iff_ne];exact Ht
           have Fj:=Dh.out;rw[if_pos (.inr Ht)] at Fj;replace⟨Fj,Ht⟩:=bD Fj Ht;go_wp2;refine NoPanic.normal ?_;go_wp2_with (at_builtin;refine dD rfl _ _ rfl w8.heap.size lw (Ao zs i) x RM.out rfl rfl (by omega) bLs ?_);intro v' w7 eF b7 _;rw[<-Fj.out] at eF;obtain⟨v7a,v7b,v7c,rfl⟩:=eF.at.shape;replace eF:=Hd eF;go_wp2;go_roundw;case measure=>simp[intOf];omega
           case rel=>exact⟨i+1,_,rfl,by go_num,by omega,eF.out,bLV.trans b7⟩
        .obtain rfl:i=zs.length:=by omega
         have diL:decide ((zs.length:Int)<(zs.length:Int))=false:=decide_eq_false (by omega);have A3:=hlO.out;rw[LA.out] at A3;have Y9:Below wo.heap.size wo wl:=bS8.trans (bL.mono bS8.size);have wC:=g4.new lV.out (u*N+v) Y9 b4.size (A3.mono bS8.size);obtain⟨y1,y2,y3,f8,nC,h8,_⟩:=g4.put hkM wC;rw[zS] at h8;have iO:=λw'=>((lV.out.ff g4.outer).at).idx dL (u*N+v) (by rw[g4.len];exact hkM) w';have ek:(u:Int)*(N:Int)+(v:Int)=((u*N+v:Nat):Int):=by simp
         have ek2:(u:Int)*(N:Int)=((u*N:Nat):Int):=by simp
         have wk1:IntKind.i64.wrap ((u:Int)*(N:Int))=(u:Int)*(N:Int):=by rw[ek2];exact db (by omega) (by omega)
         have wk2:IntKind.i64.wrap ((u:Int)*(N:Int)+(v:Int))=((u*N+v:Nat):Int):=by rw[ek];exact db (by omega) (by omega)
         have hk9:u*N+(v+1)=u*N+v+1:=by omega
         rw[<-hk9] at h8;generalize af (.slice oa on oc) (u*N+v)=ka at *;obtain⟨xa,xn,xc,rfl⟩:=A3.at.shape;have b39:=b4.trans (Y9.mono b4.size);replace⟨nC,A3,wC,hzL,hk9⟩:=mV nC A3 wC hzL hk9;generalize Cz:u*N+v=kk at *;replace⟨Cz,ek,ek2⟩:=dO Cz ek ek2;go_wp2;go_roundw;case measure=>simp[intOf];omega
         case rel=>exact⟨v+1,f8,_,by omega,by go_num,nC.out,b39.setCell y3 _,h8⟩
    .obtain rfl:v=N:=by omega
     have dvN:decide ((v:Int)<(v:Int))=false:=decide_eq_false (by omega);have g5:=g4;rw[show u*v+v=(u+1)*v by rw[Nat.add_mul];omega] at g5;replace lV:=Hd lV;go_wp2;go_roundw;case measure=>simp[intOf];omega
     case rel=>exact⟨u+1,f4,_,by omega,by go_num,lV.out,b4,g5⟩
  .obtain rfl:u=N:=by omega
   have duN:decide ((u:Int)<(u:Int))=false:=decide_eq_false (by omega);have g5:WN f3 (.slice oa on oc) br (u*u) (λp=>aw (bu K u T p)):=by
    rw[hM.out];exact⟨g3.outer,g3.len,λz hz=>by rw[g3.rows z hz];unfold pX;rw[if_pos (by rw[hM.out];exact hz)]⟩
   have hL:=g5.from (dP.Zj si.size);have bE:=Below.step si b3;replace⟨dP,hL⟩:=bD dP hL;go_wp2;go_ret;exact⟨_,rfl,bE,hL.out⟩
theorem Ii{w:World}{a:Addr}{x:Value}(h:w.cell? a=some x)(o:Obj):(w.alloc o).cell? a=some x:=((ab w o).cell (World.block_lt_of_cell? _ _ h)).trans h
def XQ(K n:Nat)(T:List Int)(i:Nat):Int:=T.getD (aI K (aV K n i).reverse) 0
theorem L2(K n:Nat)(T:List Int):nG K n T=(List.range T.length).map (XQ K n T):=rfl
theorem Lf(A B:List Int)(j:Nat)(hj:j<A.length)(hl:B.length=A.length):(A.take j++B.drop j).set j (A.getD j 0)=A.take (j+1)++B.drop (j+1):=by
 have e:(A.take j).length=j:=by simp;omega
 rw[List.set_append_right _ _ (by omega),e,Nat.sub_self,List.drop_eq_getElem_cons (show j<B.length by omega),List.set_cons_zero,gR A j hj,List.append_assoc];simp[List.getD,hj]
theorem TY(A B:List Int)(j:Nat)(hj:j<=A.length)(hl:B.length=A.length):(A.take j++B.drop j).length=A.length:=by simp;omega
theorem BQ(A:List Int)(j:Nat)(hj:j<A.length):A.reverse.getD j 0=A.getD (A.length-1-j) 0:=by
 have h2:A.length-1-j<A.length:=by omega
 simp[List.getD,hj,h2]
theorem HR(K R:Nat)(va:Option Addr)(vn vc:Nat)(T:List Int)(w:World)(h:ae w (.slice va vn vc) T)(hr:aG K R T):
 Calls Tryz.prog 112 #[.agg #[.int .i64 K,.int .i64 R,.slice va vn vc]] w (jf (λx y w'=>∃a n c,x=.agg #[.int .i64 K,.int .i64 R,.slice a n c]/\aj w.heap.size w' (.slice a n c) (nG K (2*R+1) T)/\y=lk) w):=by
 have hlen:=h.len;have dS:=hr.k1;have fs:=hr.k4;have dP:=hr.r3;have Az:=hr.gN;have fK:=Hd hr.check;have b0:=Below.step (Below.step (ab w (.cells #[.int .i64 K,.int .i64 R,.slice va vn vc] 24)) (ab _ (.cells #[.int .i64 0,.int .i64 0,.slice none 0 0] 24))) (ab _ (.cells #[.int .i64 0,.slice none 0 0,.slice none 0 0] 36));obtain⟨w0,rJ⟩:=Ey (((w.alloc (.cells #[.int .i64 K,.int .i64 R,.slice va vn vc] 24)).alloc (.cells #[.int .i64 0,.int .i64 0,.slice none 0 0] 24)).alloc (.cells #[.int .i64 0,.slice none 0 0,.slice none 0 0] 36));have q1:az w0 w.heap.size (.int .i64 K) (.int .i64 R) (.slice va vn vc):=by simp[rJ,az,go_sem]
 have q2:az w0 (w.heap.size+1) (.int .i64 0) (.int .i64 0) (.slice none 0 0):=by simp[rJ,az,go_sem]
 have q3:az w0 (w.heap.size+1+1) (.int .i64 0) (.slice none 0 0) (.slice none 0 0):=by simp[rJ,az,go_sem]
 have s0:w0.heap.size=w.heap.size+3:=by simp[rJ]
 rw[<-rJ] at b0;replace h:=Hd (h.below b0);have pg:=Hd hr.len;have JX:=Hd hr.syms;clear hr;obtain⟨n,hn⟩:=Ey (2*R+1);rw[<-hn];have hn7:n<=7:=by omega
 have WV:(2*(R:Int)+1)=(n:Int):=by omega
 rw[<-hn] at pg;replace hn:=Hd hn;go_enter Tryz.func112,Tryz.ntmps112;go_wp2_with fail;rw[<-rJ];clear rJ;refine(Ei 0 K R va vn vc T _ h.out).mono ?_;rintro e w1 ⟨x,rfl,b1,he⟩;rw[fK.out] at he;obtain rfl:x=lk:=he;have Eu:=Below.step b1 (ab w1 (.cells #[.int .i64 0,.slice none 0 0,.slice none 0 0] 36));have q4:az (w1.alloc (.cells #[.int .i64 0,.slice none 0 0,.slice none 0 0] 36)) w1.heap.size (.int .i64 0) (.slice none 0 0) (.slice none 0 0):=by simp[az,go_sem]
 go_wp2_with fail;refine(fH 0 none 0 0 none 0 0 _).mono ?_;rintro e w2 ⟨x,rfl,b2,rfl⟩;have Da:=Below.step Eu b2;have q1a:=q1.below Da;have q1b:=q1a.alloc (.cells #[.int .i64 K,.int .i64 R,.slice none 0 0] 24);have q5:az (w2.alloc (.cells #[.int .i64 K,.int .i64 R,.slice none 0 0] 24)) w2.heap.size (.int .i64 K) (.int .i64 R) (.slice none 0 0):=by simp[az,go_sem]
 have z0:=q1a.1.1;have z1:=q1a.1.2.1;have z2:=q1b.1.2.1;have z3:=q1b.1.1;have BK:=Below.step Da (ab w2 (.cells #[.int .i64 K,.int .i64 R,.slice none 0 0] 24));have q2b:=q2.below BK;have q3b:=q3.below BK;have q4b:=(q4.below b2).alloc (.cells #[.int .i64 K,.int .i64 R,.slice none 0 0] 24);have s2:w.heap.size+3<=w2.heap.size:=by have:=Da.size;omega
 have Cr:=Below.step b0 BK;go_wp2;obtain⟨W0,mz⟩:=Ey (w2.alloc (.cells #[.int .i64 K,.int .i64 R,.slice none 0 0] 24));have sW:W0.heap.size=w2.heap.size+1:=by simp[mz]
 rw[<-mz] at q1b q5 BK q2b q3b q4b Cr ⊢;clear mz z0 z1 z2 z3 q1a;have h0:=Hd (h.out.below BK);have hlT:=Hd (show T.length=T.length from rfl);go_loopw [7] (λi wr=>∃m:Nat,m<=T.length/\i=.int .i64 m/\(∃ta tn tc,aj (w2.heap.size+1) wr (.slice ta tn tc) ((List.range m).map (XQ K n T))/\az wr w2.heap.size (.int .i64 K) (.int .i64 R) (.slice ta tn tc))/\Below w2.heap.size W0 wr/\W0.heap.size<=wr.heap.size) (λi _=>T.length-(intOf i).toNat);case atStart=>exact⟨0,by omega,rfl,⟨none,0,0,aj.nil _ _,q5⟩,Below.refl _ _,Nat.le_refl _⟩
 case round =>
  obtain⟨m,hm,rfl,⟨ta,tn,tc,hT,hX⟩,hB,gQ⟩:=hrel;obtain⟨wo,rfl⟩:=Ey wr;have q1c:=q1b.kY hB (by omega);obtain⟨⟨z0,z1,z2⟩,-,-,-⟩:=q1c;by_cases AH:m<T.length
  .go_wp2_with fail;refine(wO _ _ _ K n m _ rfl rfl rfl dS fs hn7 (by omega)).mono ?_;rintro e w4 ⟨dv,rfl,b4,hd⟩;have oQ:=@Hd ((aV K n m).length=n) (aK ..);replace hd:=Hd hd;go_wp2_with (at_make;refine me rfl _ _ rfl _ rfl rfl (by omega) (by omega) ?_);intro bv w5 Jq b5;replace Jq:=Hd Jq;have d5:=Hd (hd.out.at.below b5);go_wp2;go_loopw [10] (λi wr=>∃j:Nat,j<=n/\i=.int .i64 j/\aj w4.heap.size wr bv ((aV K n m).reverse.take j++(List.replicate n (0:Int)).drop j)/\Below w4.heap.size w4 wr) (λi _=>n-(intOf i).toNat);case atStart=>exact⟨0,by omega,rfl,by simpa using Jq.out,b5⟩
   case round =>
    obtain⟨j,hj,rfl,hO,Ot⟩:=hrel;obtain⟨wi,rfl⟩:=Ey wr;by_cases dw:j<n
    .have tp:((aV K n m).reverse.take j++(List.replicate n (0:Int)).drop j).length=n:=by rw[TY _ _ j (by simp[oQ.out];omega) (by simp[oQ.out])];simp[oQ.out]
     have dj:=hd.out.at.below Ot;have hdj:n-1-j<(aV K n m).length:=by rw[oQ.out];omega
     have i1:∀w',(Instr.indexAt 22 dv (.int .i64 ((n:Int)-1-(j:Int)))).run Tryz.prog w'=.ok (.pointer (some (af dv (n-1-j)))) w':=by
      intro w';have:=dj.Mi ((n:Int)-1-(j:Int)) (by omega) (by omega) w';rwa [show((n:Int)-1-(j:Int)).toNat=n-1-j by omega] at this
     have c1:=dj.aH (n-1-j) hdj;have i2:=hO.at.idx j (by rw[tp];exact dw);have c2:=hO.at.aH j (by rw[tp];exact dw);have f2:=hO.mQ j (by rw[tp];exact dw);have hS:=hO.set j (by rw[tp];exact dw) ((aV K n m).getD (n-1-j) 0);have ql:=hO.dB Ot j (by rw[tp];exact dw) (.int .i64 ((aV K n m).getD (n-1-j) 0));rw[show(aV K n m).getD (n-1-j) 0=(aV K n m).reverse.getD j 0 by rw[BQ _ _ (by rw[oQ.out];exact dw),oQ.out],Lf _ _ j (by simp[oQ.out];exact dw) (by simp[oQ.out])] at hS;rw[show(aV K n m).getD (n-1-j) 0=(aV K n m).reverse.getD j 0 by rw[BQ _ _ (by rw[oQ.out];exact dw),oQ.out]] at ql c1;replace⟨hS,ql⟩:=bD hS ql;generalize (aV K n m).reverse.getD j 0=y at c1 hS ql;generalize ((aV K n m).reverse.take j++(List.replicate n (0:Int)).drop j).getD j 0=y' at c2;clear tp hO hdj dj;go_wp2;go_roundw;case rel=>exact⟨j+1,by omega,by go_num,hS.out,ql.out⟩
     case measure=>simp[intOf];omega
    .obtain rfl:n=j:=by omega
     rw[List.drop_of_length_le (by simp),List.append_nil,List.take_of_length_le (by simp[oQ.out])] at hO;go_wp2;have bwi:=Below.step b4 Ot;have b0i:=Below.step ((BK.trans (hB.mono (by omega)))) bwi;have ix:aI K (aV K n m).reverse<T.length:=by
      have h1:=gH (aV K n m).reverse (λx hx=>fM dS n m x (List.mem_reverse.1 hx));rw[List.length_reverse,oQ.out,<-pg.out] at h1;exact h1
     have Mh:=h.out.below b0i;have i3:=Mh.idx _ ix;have c3:=Mh.aH _ ix;have hRs:Hid (bj K (aV K n m).reverse):=Hd (λx hx=>fM dS n m x (List.mem_reverse.1 hx));have hRl:(aV K n m).reverse.length<=7:=by rw[List.length_reverse,oQ.out];omega
     have JC:Hid ((List.range m).map (XQ K n T)++[T.getD (aI K (aV K n m).reverse) 0]=(List.range (m+1)).map (XQ K n T)):=by
      show _=_;rw[List.range_succ,List.map_append];rfl
     have xi:=hX.below bwi;have hTo:=Hd (hT.below bwi);have q1i:=(q1b.kY hB (by omega)).below bwi;obtain⟨W,hW⟩:=Ey wi.drew;have hRv:=Hd (show ae W bv _ by rw[hW];exact hO.at.drew);have hTW:=Hd (show aj (w2.heap.size+1) W _ _ by rw[hW];exact hTo.out.drew);have xW:=Hd (show az W _ _ _ _ by rw[hW];exact xi.drew);have bW:Below wo.heap.size wo W:=by rw[hW];exact bwi.drew
     have hS:W.cell? ⟨w2.heap.size,2,none⟩=some (.slice ta tn tc)/\W.cell? ⟨w.heap.size,2,none⟩=some (.slice va vn vc)/\W.cell? ⟨w.heap.size,0,none⟩=some (.int .i64 K)/\W.cell? (af (.slice va vn vc) (aI K (aV K n m).reverse))=some (.int .i64 (T.getD (aI K (aV K n m).reverse) 0)):=by
      rw[hW];exact⟨xi.1.2.2,q1i.1.2.2,q1i.1.1,c3⟩
     generalize T.getD (aI K (aV K n m).reverse) 0=y at hS JC c3;generalize af (.slice va vn vc) (aI K (aV K n m).reverse)=ya at hS i3 c3;refine ar (λw'=>w'.cell? ⟨w2.heap.size,2,none⟩=some (.slice ta tn tc)/\w'.cell? ⟨w.heap.size,2,none⟩=some (.slice va vn vc)/\w'.cell? ⟨w.heap.size,0,none⟩=some (.int .i64 K)/\w'.cell? ya=some (.int .i64 y)) 11 [(0,true),(1,true),(2,true),(3,true),(4,true),(5,true),(6,true),(7,false),(8,true),(9,true),(10,false)] (by kernel_rfl) (by kernel_rfl) ?_;rw[<-hW];replace hW:=Hd hW;clear z0 z1 z2 c3;refine ay 55 hS ?_;refine ay 56 hS ?_;refine ay 57 hS ?_;refine ay 58 hS ?_;refine ay 59 hS ?_;refine ay 60 hS ?_;refine ay 61 hS ?_;refine fZ rfl (λKK hK=>?_);go_simp;refine(Em K bv _ _ dS fs hRv.out hRs.out hRl).mono ?_;rintro e wv ⟨rfl,rfl⟩;refine hK _ _ hS ?_;clear hK KK;refine ay 63 hS ?_;refine ay 64 hS ?_;refine fZ rfl (λKK hK=>?_);go_simp;refine hK _ _ ⟨eO hS.1 _,eO hS.2.1 _,eO hS.2.2.1 _,Ii hS.2.2.2 _⟩ ?_;clear hK KK;refine dA ?_;simp only[List.drop_succ_cons,List.drop_zero];have sWo:w2.heap.size+1<=W.heap.size:=by have:=bW.size;omega
     refine GZ rfl _ _ rfl (w2.heap.size+1) (.slice ta tn tc) _ y hTW.out (by rfl) W.heap.size (by rfl) rfl (by simp;omega) sWo ?_;intro v' w' Sj nh _ _;obtain⟨Dc,JA,HQ,rfl⟩:=Sj.at.shape;have X':=xW.out.kY nh (show w2.heap.size<w2.heap.size+1 by omega);have NX:=Sj.al (a:=⟨w2.heap.size,2,none⟩) (show w2.heap.size<w2.heap.size+1 by omega) (.slice Dc JA HQ);rw[JC.out] at NX;have Xn:=X'.YT (.slice Dc JA HQ);have Bn:=(hB.trans ((bW.mono (show w2.heap.size<=wo.heap.size by omega)).trans (nh.mono (show w2.heap.size<=w2.heap.size+1 by omega)))).setCell (p:=⟨w2.heap.size,2,none⟩) (Nat.le_refl _) (.slice Dc JA HQ);have sN:W0.heap.size<=(w'.setCell ⟨w2.heap.size,2,none⟩ (.slice Dc JA HQ)).heap.size:=by
      have:=nh.size;simp[World.setCell];omega
     obtain⟨⟨ey0,ey1,ey2⟩,eh0,eh1,eh2⟩:=X';replace⟨NX,Xn,Bn,sN⟩:=gF NX Xn Bn sN;clear Sj nh;go_wp2;refine NoPanic.normal ?_;go_wp2;go_roundw;case rel=>exact⟨m+1,by omega,by go_num,⟨Dc,JA,HQ,NX.out,Xn.out⟩,Bn.out,sN.out⟩
     case measure=>simp[intOf];omega
  .obtain rfl:T.length=m:=by omega
   have hTf:=Hd hT;have q2f:=q2b.kY hB (by omega);have q3f:=q3b.kY hB (by omega);have Ut:=Hd (Cr.trans (hB.mono (show w.heap.size<=w2.heap.size by omega)));obtain⟨⟨y0,y1,y2⟩,g0,g1,g2⟩:=q2f;obtain⟨⟨x0,x1,x2⟩,-,-,-⟩:=hX;obtain⟨⟨u0,u1,u2⟩,k0,k1,k2⟩:=q3f;go_wp2;refine bodyPost_ret (v:=.tuple #[.agg #[.int .i64 K,.int .i64 R,.slice ta tn tc],lk]) (by simp[results,Tryz.results112,go_sem,y0,y1,y2,u0,u1,u2]) rfl ⟨_,_,rfl,?_,ta,tn,tc,rfl,?_,rfl⟩;.exact aB (aB Ut.out (by omega) _ _ _) (by omega) _ _ _
   .rw[L2];exact(((((((hTf.out.al (a:=⟨w.heap.size+1,0,none⟩) (by simp;omega) _).al (a:=⟨w.heap.size+1,1,none⟩) (by simp;omega) _).al (a:=⟨w.heap.size+1,2,none⟩) (by simp;omega) _).al (a:=⟨w.heap.size+1+1,0,none⟩) (by simp;omega) _).al (a:=⟨w.heap.size+1+1,1,none⟩) (by simp;omega) _).al (a:=⟨w.heap.size+1+1,2,none⟩) (by simp;omega) _).mono (by omega))
theorem Je{t K:Nat}(h:t<=4294967296):IntKind.i64.wrap ((t:Int)/(K:Int))=(t:Int)/(K:Int):=by
 have h0:0<=(t:Int)/(K:Int):=Int.ediv_nonneg (by omega) (by omega);have h1:(t:Int)/(K:Int)<=4294967296:=by
  have h1:t/K<=t:=Nat.div_le_self _ _;have h2:((t/K:Nat):Int)<=4294967296:=by omega
  rwa [Int.natCast_ediv] at h2
 exact db (by omega) (by omega)
theorem Jl{K a b:Nat}(h:a<=b):a/K<=b/K:=Nat.div_le_div_right h
theorem zY(K R:Nat)(va:Option Addr)(vn vc:Nat)(T:List Int)(w:World)(h:ae w (.slice va vn vc) T)(hr:aG K R T):
 Calls Tryz.prog 63 #[.agg #[.int .i64 K,.int .i64 R,.slice va vn vc]] w (cz (λx _=>x=.bool (my K T)) w):=by
 have b0:=ab w (.cells #[.int .i64 K,.int .i64 R,.slice va vn vc] 24);have hlen:=h.len;have dS:=hr.k1;have fs:=hr.k4;have Az:=hr.gN;have hK0:((K:Int)==0)=false:=by rw[beq_eq_false_iff_ne];omega
 have Yy:¬ (K:Int)=0:=by omega
 have hK2:(0:Int)<K:=by omega
 have hK3:¬ K=0:=by omega
 replace h:=Hd (h.below b0);have q1:az (w.alloc (.cells #[.int .i64 K,.int .i64 R,.slice va vn vc] 24)) w.heap.size (.int .i64 K) (.int .i64 R) (.slice va vn vc):=by simp[az,go_sem]
 go_enter Tryz.func63,Tryz.ntmps63;go_wp2;obtain⟨W,hW⟩:=Ey (w.alloc (.cells #[.int .i64 K,.int .i64 R,.slice va vn vc] 24));rw[<-hW] at b0 h q1 ⊢;clear hW;obtain⟨⟨z0,z1,z2⟩,-,-,-⟩:=q1;go_loopw [3,4] (λi _ wr=>∃m:Nat,m<=T.length/\i=.int .i64 m/\(∀i',i'<m->∀j,j<T.length->i'<j->j/K=i'/K->T.getD i' 0≠T.getD j 0)/\∃n,wr=W.drewN n) (λi _ _=>T.length-(intOf i).toNat);case atStart=>exact⟨0,by omega,rfl,λi' hi=>by omega,0,rfl⟩
 case round =>
  obtain⟨m,hm,rfl,bK,n,rfl⟩:=hrel;replace bK:=Hd bK;by_cases AH:m<T.length
  .go_wp2;go_loopw [4] (λj wr=>∃t:Nat,m<t/\t<=T.length/\j=.int .i64 t/\(∀j',m<j'->j'<t->j'/K=m/K/\T.getD m 0≠T.getD j' 0)/\∃n,wr=W.drewN n) (λj _=>T.length-(intOf j).toNat);case atStart=>exact⟨m+1,by omega,by omega,by simp,λj' h1 h2=>by omega,n,rfl⟩
   case round =>
    obtain⟨t,hmt,ko,rfl,ou,n',rfl⟩:=hrel;replace ou:=Hd ou;have hqe:((t:Int)/(K:Int)==(m:Int)/(K:Int))=decide (t/K=m/K):=by
     rw[Bool.eq_iff_iff,beq_iff_eq,decide_eq_true_iff];exact⟨λh=>by exact_mod_cast h,λh=>by exact_mod_cast h⟩
    have hwt:IntKind.i64.wrap ((t:Int)/(K:Int))=(t:Int)/(K:Int):=Je (by omega);have LX:IntKind.i64.wrap ((m:Int)/(K:Int))=(m:Int)/(K:Int):=Je (by omega);by_cases hA:t<T.length/\t/K=m/K
    .obtain⟨RS,hq⟩:=hA;rw[decide_eq_true hq] at hqe;replace hq:=Hd hq;have i1:=h.out.idx m AH;have c1:=h.out.aH m AH;have i2:=h.out.idx t RS;have c2:=h.out.aH t RS;by_cases he:T.getD m 0=T.getD t 0;.have dX:my K T=false:=F2 m t RS hmt hq.out he;replace dX:=Hd dX;generalize hy:T.getD t 0=y at c2 he;rw[he] at c1;clear he hy;go_wp2;go_quiet (fail);go_wp2;go_quiet (fail);go_wp2;go_ret;exact⟨_,rfl,below_drewN (below_drewN (below_drewN b0 _) _) _,by rw[dX.out];rfl⟩
     .have bM:(T.getD m 0==T.getD t 0)=false:=by rw[beq_eq_false_iff_ne];exact he
      have hin':Hid (∀j',m<j'->j'<t+1->j'/K=m/K/\T.getD m 0≠T.getD j' 0):=Hd (λj' h1 h2=>by
       by_cases e:j'=t;.subst e;exact⟨hq.out,he⟩
       .exact ou.out j' h1 (by omega));clear he;obtain⟨y,hy⟩:=Ey (T.getD t 0);obtain⟨x,hx⟩:=Ey (T.getD m 0);rw[<-hx] at c1 bM;rw[<-hy] at c2 bM;clear hx hy;go_wp2;go_quiet (fail);go_wp2;go_quiet (fail);go_wp2;go_roundw;case rel=>exact⟨t+1,by omega,by omega,by go_num,hin'.out,_,rfl⟩
      case measure=>simp[intOf];omega
    .have hok':Hid (∀i',i'<m+1->∀j,j<T.length->i'<j->j/K=i'/K->T.getD i' 0≠T.getD j 0):=Hd (λi' hi j hj Nk hq=>by
      by_cases e:i'=m
      .subst e;by_cases SM:j<t;.exact(ou.out j Nk SM).2
       .exfalso;apply hA;have h1:=Jl (K:=K) (show i'<=t by omega);have h2:=Jl (K:=K) (show t<=j by omega);exact⟨by omega,by omega⟩
      .exact bK.out i' (by omega) j hj Nk hq);by_cases RS:t<T.length
     .have hq:¬ t/K=m/K:=λe=>hA ⟨RS,e⟩;rw[decide_eq_false hq] at hqe;clear hA hq;go_wp2;go_quiet (fail);go_wp2;go_roundw;case rel=>exact⟨m+1,by omega,by go_num,hok'.out,_,rfl⟩
      case measure=>simp[intOf];omega
     .clear hA hqe;have hd:decide (t<T.length)=false:=by simp;omega
      go_wp2;go_quiet (fail);go_wp2;go_roundw;case rel=>exact⟨m+1,by omega,by go_num,hok'.out,_,rfl⟩
      case measure=>simp[intOf];omega
  .have dX:my K T=true:=I4 (λi' hi j hj=>bK.out i' (by omega) j hj);replace dX:=Hd dX;go_wp2;go_ret;exact⟨_,rfl,below_drewN b0 _,by rw[dX.out];rfl⟩
theorem I0(K R:Nat)(va:Option Addr)(vn vc:Nat)(T:List Int)(w:World)(h:ae w (.slice va vn vc) T)(hr:aG K R T):
 Calls Tryz.prog 64 #[.agg #[.int .i64 K,.int .i64 R,.slice va vn vc]] w (cz (λx w'=>∃a n c,x=.agg #[.int .i64 K,.int .i64 R,.slice a n c]/\aj w.heap.size w' (.slice a n c) (nG K (2*R+1) T)) w):=by
 have b0:=Below.step (ab w (.cells #[.int .i64 K,.int .i64 R,.slice va vn vc] 24)) (ab _ (.cells #[.int .i64 0,.int .i64 0,.slice none 0 0] 24));have q2:az ((w.alloc (.cells #[.int .i64 K,.int .i64 R,.slice va vn vc] 24)).alloc (.cells #[.int .i64 0,.int .i64 0,.slice none 0 0] 24)) (w.heap.size+1) (.int .i64 0) (.int .i64 0) (.slice none 0 0):=by simp[az,go_sem]
 replace h:=Hd (h.below b0);go_enter Tryz.func64,Tryz.ntmps64;go_wp2_with fail;refine(HR K R va vn vc T _ h.out hr).mono ?_;rintro e w1 ⟨x,y,rfl,b1,a,n,c,rfl,ho,rfl⟩;have Eu:=Below.step b1 (Below.step (ab w1 (.cells #[.int .i64 K,.int .i64 R,.slice a n c] 24)) (ab _ (.cells #[.int .i64 0,.slice none 0 0,.slice none 0 0] 36)));have q2':=q2.below Eu;obtain⟨⟨y0,y1,y2⟩,f0,f1,f2⟩:=q2';have hs:=b1.size;simp only[World.size_alloc] at ho hs;replace ho:=Hd ((ho.alloc (.cells #[.int .i64 K,.int .i64 R,.slice a n c] 24)).alloc (.cells #[.int .i64 0,.slice none 0 0,.slice none 0 0] 36));go_wp2;refine bodyPost_ret (v:=.agg #[.int .i64 K,.int .i64 R,.slice a n c]) (by simp[results,Tryz.results64,go_sem,y0,y1,y2]) rfl ⟨_,rfl,aB (Below.step b0 Eu) (Nat.le_succ _) _ _ _,a,n,c,rfl,?_⟩;exact(((ho.out.al (a:=⟨w.heap.size+1,0,none⟩) (by simp) _).al (a:=⟨w.heap.size+1,1,none⟩) (by simp) _).al (a:=⟨w.heap.size+1,2,none⟩) (by simp) _).mono (by omega)
theorem Qy(A B:List Int)(j:Nat)(hj:j<A.length)(hl:B.length=A.length):(B.take (A.length-j)++A.reverse.drop (A.length-j)).set (A.length-1-j) (A.getD j 0)=B.take (A.length-(j+1))++A.reverse.drop (A.length-(j+1)):=by
 have hm:A.length-j=A.length-(j+1)+1:=by omega
 have hg:A.getD j 0=A.reverse.getD (A.length-(j+1)) 0:=by
  rw[BQ _ _ (by omega)];congr 1;omega
 rw[show A.length-1-j=A.length-(j+1) by omega,hm,hg];have aT:A.length-(j+1)<A.length:=by omega
 generalize A.length-(j+1)=i at aT;have jM:i<A.reverse.length:=by simpa using aT
 rw[gR B i (by omega),List.append_assoc,List.set_append_right _ _ (by simp;omega),List.drop_eq_getElem_cons jM];have e:i-(B.take i).length=0:=by simp;omega
 have g:A.reverse.getD i 0=A.reverse[i]:=by simp only[List.getD,List.getElem?_eq_getElem jM,Option.getD_some]
 rw[e,g,List.singleton_append,List.set_cons_zero]
theorem RP{K N:Nat}{T:List Int}{s:Int}{u c:Nat}{out:List Bool}(h:T.getD (u*K+c) 0=s):FK K N T s u c out=out.set ((u*K+c)%N) true:=by unfold FK;rw[if_pos h]
theorem QT{K N:Nat}{T:List Int}{s:Int}{u c:Nat}{out:List Bool}(h:¬ T.getD (u*K+c) 0=s):FK K N T s u c out=out:=by unfold FK;rw[if_neg h]
theorem Md(K R:Nat)(va:Option Addr)(vn vc:Nat)(T:List Int)(v:Value)(l:List Bool)(s:Int)(w:World)(h:ae w (.slice va vn vc) T)(hv:aY w v (cZ l))(fs:K<=4)(hl:T.length<=256)(hT:T.length=l.length*K)(h1:1<=l.length)(Wr:l.length<=256):
 Calls Tryz.prog 103 #[.agg #[.int .i64 K,.int .i64 R,.slice va vn vc],v,.int .i64 s] w (cz (λx w'=>aZ 4 w.heap.size w' x (cZ (jj K l.length T l s))) w):=by
 rw[<-Tb (K:=K) (T:=T) (l:=l) (s:=s) (show 0<l.length by omega)];have b0:=ab w (.cells #[.int .i64 K,.int .i64 R,.slice va vn vc] 24);have q:az (w.alloc (.cells #[.int .i64 K,.int .i64 R,.slice va vn vc] 24)) w.heap.size (.int .i64 K) (.int .i64 R) (.slice va vn vc):=by simp[az,go_sem]
 obtain⟨ba,bc,rfl⟩:=tX hv;obtain⟨N,hN⟩:=Ex l.length;rw[hN] at hv hT h1 Wr ⊢;replace h:=Hd (h.below b0);replace hv:=Hd (hv.below b0);replace⟨hN,hT⟩:=bD hN hT;obtain⟨w0,rJ⟩:=Ex (w.alloc (.cells #[.int .i64 K,.int .i64 R,.slice va vn vc] 24));rw[rJ] at b0 q h hv;have q0:=q;obtain⟨⟨z0,z1,z2⟩,-,-,-⟩:=q0;replace rJ:=Hd rJ;go_enter Tryz.func103,Tryz.ntmps103;go_upto_region 1 with fail;rw[rJ.out];go_wp2_with (at_make;refine uK oV rfl _ _ rfl (N:Int) rfl rfl (by omega) (by omega) ?_);intro ov w1 nT g1;have b1:Below w0.heap.size w0 w1:=(Below.refl _ _).grown g1 (Nat.le_refl _) (by intro k hk;cases hk);obtain⟨oa,on,oc,rfl⟩:=nT.shape;replace nT:aZ 4 w0.heap.size w1 (.slice oa on oc) (cZ (sF K N T l s 0)):=by
  have e:cZ (sF K N T l s 0)=List.replicate N (.bool false):=by unfold sF cZ;simp
  rw[e];simpa using nT
 have jK:=Hd nT;have b2:=Hd b1;clear nT b1 g1 z0 z1 z2;go_wp2_with fail;go_loopw [9] (λuv wr=>∃u:Nat,uv=.int .i64 u/\u<=N/\aZ 4 w0.heap.size wr (.slice oa on oc) (cZ (sF K N T l s u))/\Below w0.heap.size w0 wr) (λuv _=>N-(intOf uv).toNat);case atStart=>exact⟨0,rfl,Nat.zero_le _,jK.out,b2.out⟩
 case round =>
  clear jK b2;obtain⟨u,rfl,hu,hO,hB⟩:=hrel;obtain⟨wo,rfl⟩:=Ey wr;by_cases yA:u<N
  .have du:decide ((u:Int)<(N:Int))=true:=decide_eq_true (by omega);have Gx:=hv.out.below hB;have hub:u<(cZ l).length:=by rw[gZ,hN.out];exact yA
   have iX:=λw'=>Gx.idx oV u hub w';have cX:=Gx.cell u hub;rw[tI] at cX;have Kn:sF K N T l s (u+1)=if l.getD u false=true then wG K N T s u K (sF K N T l s u) else sF K N T l s u:=rfl;have len0:=rh K N T l s u;obtain⟨out,Lx⟩:=Ex (sF K N T l s u);rw[Lx] at hO Kn len0;obtain⟨b,hb⟩:=Ex (l.getD u false);rw[hb] at cX Kn;obtain⟨xa,lY⟩:=Ex (af (.slice ba N bc) u);rw[lY] at iX cX;replace⟨lY,hb,Gx,Lx⟩:=gF lY hb Gx Lx;cases b with
   | false =>
    rw[if_neg (by decide)] at Kn;replace⟨Kn,hO,hB⟩:=dO Kn hO hB;go_wp2;go_roundw;case measure=>simp[intOf];omega
    case rel=>exact⟨u+1,by go_num,by omega,by rw[Kn.out];exact hO.out,hB.out⟩
   | true =>
    rw[if_pos rfl] at Kn;replace⟨Kn,hO,hB⟩:=dO Kn hO hB;go_wp2_with fail;clear cX iX;go_loopw [10] (λcv wr=>∃c:Nat,cv=.int .i64 c/\c<=K/\aZ 4 w0.heap.size wr (.slice oa on oc) (cZ (wG K N T s u c out))/\Below w0.heap.size w0 wr) (λcv _=>K-(intOf cv).toNat);case atStart=>exact⟨0,rfl,Nat.zero_le _,hO.out,hB.out⟩
    case round =>
     clear hO hB;obtain⟨c,rfl,hc,hO,hB⟩:=hrel;obtain⟨wc,rfl⟩:=Ey wr;obtain⟨⟨z0,z1,z2⟩,-,-,-⟩:=q.below hB;by_cases ur:c<K
     .have dc:decide ((c:Int)<(K:Int))=true:=decide_eq_true (by omega);have KH:=h.out.below hB;have hA:u*K+c<T.length:=by rw[hT.out];exact LJ yA ur
      have iA:=λw'=>KH.idx _ hA w';have cA:=KH.aH _ hA;have haA:u*K+c<=256:=by omega
      have ea:(u:Int)*(K:Int)+(c:Int)=((u*K+c:Nat):Int):=by simp
      have ea2:(u:Int)*(K:Int)=((u*K:Nat):Int):=by simp
      have wa1:IntKind.i64.wrap ((u:Int)*(K:Int))=(u:Int)*(K:Int):=by rw[ea2];exact db (by omega) (by omega)
      have wa2:IntKind.i64.wrap ((u:Int)*(K:Int)+(c:Int))=((u*K+c:Nat):Int):=by rw[ea];exact db (by omega) (by omega)
      have hP:=Nat.mod_lt (u*K+c) (show N>0 by omega);have HA:=λe=>RP (K:=K) (N:=N) (T:=T) (s:=s) (u:=u) (c:=c) (out:=wG K N T s u c out) e;have sK:=λe=>QT (K:=K) (N:=N) (T:=T) (s:=s) (u:=u) (c:=c) (out:=wG K N T s u c out) e;have step:wG K N T s u (c+1) out=FK K N T s u c (wG K N T s u c out):=rfl;have lenc:(wG K N T s u c out).length=N:=by rw[xZ];exact len0
      rw[<-step] at HA sK;obtain⟨oc',hoc⟩:=Ex (wG K N T s u c out);rw[hoc] at hO HA sK lenc;have hmA:((u*K+c:Nat):Int).tmod (N:Int)=(((u*K+c)%N:Nat):Int):=by rw[Int.tmod_eq_emod_of_nonneg (Int.natCast_nonneg _)];exact(Int.natCast_emod _ N).symm
      obtain⟨y1,hy1⟩:=Ex (T.getD (u*K+c) 0);rw[hy1] at cA HA sK;generalize Be:af (.slice va vn vc) (u*K+c)=ta at *;generalize (u*K+c)%N=P at *;generalize u*K+c=A at *;have hPl:P<(cZ oc').length:=by rw[gZ,lenc];exact hP
      have iP:=λw'=>hO.at.idx oV P hPl w';obtain⟨cP,eP⟩:∃y,wc.cell? (af (.slice oa on oc) P)=some y:=⟨_,hO.at.cell _ hPl⟩;have fP:=hO.mQ _ hPl;have jh:=hO.set _ hPl (.bool true);rw[Cc] at jh;have sS:=hB.setCell (hO.jP _ hPl).2 (.bool true);obtain⟨aP,haP⟩:=Ex (af (.slice oa on oc) P);rw[haP] at iP eP fP jh sS;have ZL:((N:Int)==0)=false:=by rw[beq_eq_false_iff_ne];omega
      have CV:¬ (N:Int)=0:=by omega
      have YO:¬ N=0:=by omega
      replace⟨haP,Be,hy1,KH,step,hoc,ea,ea2⟩:=gp haP Be hy1 KH step hoc ea ea2;by_cases hy:y1=s
      .have heq:(y1==s)=true:=by rw[beq_iff_eq];exact hy
       have e3:=HA hy;rw[<-e3] at jh;replace⟨jh,sS,hy,e3⟩:=gF jh sS hy e3;clear HA sK hO hB;go_wp2;go_roundw;case measure=>simp[intOf];omega
       case rel=>exact⟨c+1,by go_num,by omega,jh.out,sS.out⟩
      .have heq:(y1==s)=false:=by rw[beq_eq_false_iff_ne];exact hy
       have e3:=sK hy;rw[<-e3] at hO;replace⟨hO,hB,hy,e3⟩:=gF hO hB hy e3;clear HA sK jh sS iP eP fP;go_wp2;go_roundw;case measure=>simp[intOf];omega
       case rel=>exact⟨c+1,by go_num,by omega,hO.out,hB.out⟩
     .have dc:decide ((c:Int)<(K:Int))=false:=decide_eq_false (by omega);obtain rfl:c=K:=by omega
      rw[<-Kn.out] at hO;replace⟨hO,hB⟩:=bD hO hB;go_wp2;go_roundw;case measure=>simp[intOf];omega
      case rel=>exact⟨u+1,by go_num,by omega,hO.out,hB.out⟩
  .have du:decide ((u:Int)<(N:Int))=false:=decide_eq_false (by omega);obtain rfl:u=N:=by omega
   have bE:=Below.step b0 hB;have sU:=hO.mono b0.size;replace⟨sU,hO,bE⟩:=dO sU hO bE;go_wp2;go_ret;exact⟨_,rfl,bE.out,sU.out⟩
theorem OE{words:List (List Int)}{fr bs:List Int}(h:WO words fr bs){j:Nat}(h0:0<j)(hj:j<words.length):∃q:Nat,q<j/\fr.getD j 0=q/\words.getD j []=words.getD q []++[bs.getD j 0]:=h.up j h0 hj
theorem QG{g:Nat}{fv bv:Value}{fr bs:List Int}{words:List (List Int)}(w:World)(i:Nat)(c2:w.cell? ⟨g,2,none⟩=some fv)(c3:w.cell? ⟨g,3,none⟩=some bv)(hf:ae w fv fr)(hb:ae w bv bs)(hp:WO words fr bs)(hi:i<words.length)(h4:words.length<=4096):
 Calls Tryz.prog 105 #[.pointer (some ⟨g,0,none⟩),.int .i64 i] w (cz (λx w'=>aj w.heap.size w' x (words.getD i [])) w):=by
 obtain⟨fa,fn,fc,rfl⟩:=hf.shape;obtain⟨ba,bn,bc,rfl⟩:=hb.shape;have jI:g<w.heap.size:=World.block_lt_of_cell? _ _ c2;obtain⟨W,hW⟩:=Ex (words.getD i []);rw[hW];have Dr:=hp.fl;have Kz:=hp.bl;replace⟨hf,hb,hp,hW⟩:=gF hf hb hp hW;obtain⟨M,hM⟩:=Ex words.length;rw[hM] at hi h4 Dr Kz;replace⟨hM,Dr,Kz,c2,c3⟩:=mV hM Dr Kz c2 c3;go_enter Tryz.func105,Tryz.ntmps105;go_wp2;go_loopw [1,5] (λiv kv wr=>∃(j:Nat) (kw:Value) (back:List Int),kw=kv/\iv=.int .i64 j/\j+back.length<=i/\W=words.getD j []++back.reverse/\aj w.heap.size wr kw back/\Below w.heap.size w wr) (λiv _ _=>(intOf iv).toNat);case atStart=>exact⟨i,_,[],rfl,rfl,by simp,by rw[<-hW.out];simp,aj.nil _ _,Below.refl _ _⟩
 case round =>
  obtain⟨j,kw,back,rfl,rfl,dw,hWj,hO,hB⟩:=hrel;obtain⟨wo,rfl⟩:=Ey wr;have x2:=au hB c2.out;have x3:=au hB c3.out;obtain⟨ka,kn,kc,rfl⟩:=hO.at.shape;by_cases hj0:0<j
  .have dj:decide ((j:Int)>0)=true:=decide_eq_true (by omega);obtain⟨q,hq,eq1,eq2⟩:=OE hp.out hj0 (by rw[hM.out];omega);have RD:=hf.out.below hB;have Nu:=hb.out.below hB;have iF:=λw'=>RD.idx j (by rw[Dr.out];omega) w';have cF:=RD.aH j (by rw[Dr.out];omega);have iB:=λw'=>Nu.idx j (by rw[Kz.out];omega) w';have cB:=Nu.aH j (by rw[Kz.out];omega);rw[eq1] at cF;rw[eq2] at hWj;obtain⟨y,hy⟩:=Ex (bs.getD j 0);rw[hy] at cB hWj;obtain⟨xf,hxf⟩:=Ex (af (.slice fa fn fc) j);obtain⟨xb,hxb⟩:=Ex (af (.slice ba bn bc) j);rw[hxf] at iF cF;rw[hxb] at iB cB;have hbf:=RD.vq j (by rw[Dr.out];omega);rw[hxf] at hbf;have DI:=hB.size;replace⟨hxf,hxb,hy,eq1,eq2,RD,Nu,hWj⟩:=gp hxf hxb hy eq1 eq2 RD Nu hWj;have D5:back.length<17592186044415:=by omega
   have bl1:∀W',Below wo.heap.size wo W'->Below w.heap.size w W':=λW' b=>Below.step hB b;go_wp2_with (at_builtin;go_loud (refine gi rfl _ _ rfl w.heap.size (.slice ka kn kc) back y hO rfl rfl D5 DI ?_));intro v' w2 jK b2 _ _;have mo:=hB.trans b2;clear x2 x3 iB cB iF cF;have y2:=au mo c2.out;have VX:=hf.out.below mo;have iF2:=λw'=>VX.idx j (by rw[Dr.out];omega) w';have cF2:=VX.aH j (by rw[Dr.out];omega);rw[eq1.out] at cF2;rw[hxf.out] at iF2 cF2;have dZ:W=words.getD q []++(back++[y]).reverse:=by rw[hWj.out,List.reverse_append,List.append_assoc];rfl
   have hln:q+(back++[y]).length<=i:=by rw[List.length_append,List.length_singleton];omega
   obtain⟨qa,qn,qc,rfl⟩:=jK.at.shape;replace⟨VX,jK,dZ,hB⟩:=gF VX jK dZ hB;clear hO bl1 D5;go_wp2;go_roundw;case measure=>simp[intOf];omega
   case rel=>exact⟨q,_,back++[y],rfl,rfl,hln,dZ.out,jK.out,mo⟩
  .have dj:decide ((j:Int)>0)=false:=decide_eq_false (by omega);obtain rfl:j=0:=by omega
   have z0:=hp.out.z0;rw[z0,List.nil_append] at hWj;subst hWj;have hx:=hO.at;have hln:=hx.len;clear x2 x3;replace⟨hx,hO,hW⟩:=dO hx hO hW;go_wp2_with (at_make;refine me rfl _ _ rfl _ rfl rfl (by omega) (by omega) ?_);intro bv w1 kZ b1;replace kZ:=Hd kZ;go_wp2;go_loopw [7] (λi wr=>∃j:Nat,j<=back.length/\i=.int .i64 j/\aj wo.heap.size wr bv ((List.replicate back.length (0:Int)).take (back.length-j)++back.reverse.drop (back.length-j))/\Below wo.heap.size wo wr) (λi _=>back.length-(intOf i).toNat);case atStart=>exact⟨0,by omega,rfl,by rw[Nat.sub_zero,List.drop_of_length_le (by simp),List.append_nil,List.take_of_length_le (by simp)];exact kZ.out,b1⟩
   case round =>
    obtain⟨j,hj,rfl,jh,mo⟩:=hrel;obtain⟨wi,rfl⟩:=Ey wr;by_cases dw:j<back.length
    .have tp:((List.replicate back.length (0:Int)).take (back.length-j)++back.reverse.drop (back.length-j)).length=back.length:=by simp<;>omega
     have hd:=hx.out.below mo;have i1:=hd.idx j dw;have c1:=hd.aH j dw;have i2:∀w',(Instr.indexAt 22 bv (.int .i64 ((back.length:Int)-1-(j:Int)))).run Tryz.prog w'=.ok (.pointer (some (af bv (back.length-1-j)))) w':=by
      intro w';have:=jh.at.Mi ((back.length:Int)-1-(j:Int)) (by omega) (by rw[tp];omega) w';rwa [show((back.length:Int)-1-(j:Int)).toNat=back.length-1-j by omega] at this
     have c2:=jh.at.aH (back.length-1-j) (by rw[tp];omega);have f2:=jh.mQ (back.length-1-j) (by rw[tp];omega);have hS:=jh.set (back.length-1-j) (by rw[tp];omega) (back.getD j 0);have ql:=jh.dB mo (back.length-1-j) (by rw[tp];omega) (.int .i64 (back.getD j 0));rw[Qy back _ j dw (by simp)] at hS;replace⟨hS,ql⟩:=bD hS ql;obtain⟨y,hy⟩:=Ey (back.getD j 0);rw[<-hy] at c1 hS ql;generalize ((List.replicate back.length (0:Int)).take (back.length-j)++back.reverse.drop (back.length-j)).getD (back.length-1-j) 0=y' at c2;clear tp jh hd hy;go_wp2;go_roundw;case rel=>exact⟨j+1,by omega,by go_num,hS.out,ql.out⟩
     case measure=>simp[intOf];omega
    .obtain rfl:back.length=j:=by omega
     rw[Nat.sub_self,List.take_zero,List.drop_zero,List.nil_append] at jh;have bE:=Below.step hB mo;have sU:=jh.mono hB.size;replace sU:=Hd sU;clear jh;go_wp2;go_ret;exact⟨_,rfl,bE,sU.out⟩
theorem tK:OneCell 207 225 (.int .u64 0) 8:=⟨by kernel_rfl,by kernel_rfl,rfl,by decide,λ_=>by kernel_rfl⟩
theorem wh(l:List Nat)(i:Nat)(h:i<l.length):l.take (i+1)=l.take i++[l[i]]:=by
 rw[List.take_add_one];simp[h]
def eD(ws:List Nat):List Value:=ws.map fun n:Nat=>Value.int .u64 (n:Int)
def pE(ns:List Nat):List Value:=ns.map fun n:Nat=>Value.int .u8 (n:Int)
theorem mG(ws:List Nat):(eD ws).length=ws.length:=by simp[eD]
theorem Ms(ns:List Nat)(n:Nat):pE (ns++[n])=pE ns++[.int .u8 (n:Int)]:=by simp[pE]
theorem Ta(B:Nat)(w:World)(v:Value)(ws:List Nat)(h:aZ 5 B w v (pE (pr ws)))(h1:1<=ws.length):(convert 221 9 v).run Tryz.prog w=.ok (.string (AG ws)) w:=by
 have hl:(pE (pr ws)).length=(vo ws).length:=by simp[pE,vo]
 have hp:(vo ws).length=8*ws.length:=by unfold vo;rw[List.length_map,Bx]
 rcases h.2 with ⟨rfl,hn⟩ | ⟨g,cap,cur,rfl,hb,hg,hn,hm,hs,ht⟩;.omega
 .refine run_convert_bytes_arg (P:=Tryz.prog) w 221 5 qM.ht ZA g 0 (pE (pr ws)).length cap (vo ws) hl.symm (λi hi=>?_) 9 SX;have:=h.at.cell i hi;rw[cj] at this;rw[Nat.zero_add,this];have Au:i<(pr ws).length:=by rw[hl] at hi;unfold vo at hi;rwa [List.length_map] at hi
  simp[pE,vo,List.getD,Au]
theorem FL(v:Value)(ws:List Nat)(w:World)(h:aY w v (eD ws))(h1:1<=ws.length)(hl:ws.length<=64)(hw:∀x∈ws,x<2 ^ 64):
 Calls Tryz.prog 142 #[v] w (cz (λx _=>x=.string (AG ws)) w):=by
 obtain⟨va,vn,vc,rfl⟩:∃a n c,v=.slice a n c:=(by obtain⟨a,c,e,_⟩:=h;exact⟨a,_,c,e⟩);have l1:=h.len tK;rw[mG] at l1;replace⟨h,hw⟩:=bD h hw;go_enter Tryz.func142,Tryz.ntmps142;go_wp2_with (at_make;refine Mu qM rfl _ _ rfl (8*ws.length) rfl (by go_num) (by omega) ?_);intro bv w2 jK b2;replace jK:=Hd jK;go_wp2_with fail;go_loopw [3,12] (λov iv wr=>∃(i:Nat) (ow:Value),ow=ov/\iv=.int .i64 i/\i<=ws.length/\aZ 5 w.heap.size wr ow (pE (pr (ws.take i)))/\Below w.heap.size w wr) (λ_ iv _=>ws.length-(intOf iv).toNat);case atStart=>exact⟨0,_,rfl,rfl,Nat.zero_le _,jK.out,b2⟩
 case round =>
  obtain⟨i,ow,rfl,rfl,hi,hO,hB⟩:=hrel;obtain⟨wo,rfl⟩:=Ey wr;by_cases jM:i<ws.length
  .have di:decide ((i:Int)<(ws.length:Int))=true:=decide_eq_true (by omega);have hv:=h.out.below hB;have iX:=λw'=>hv.idx tK i (by rw[mG];exact jM) w';have cX:=hv.cell i (by rw[mG];exact jM);have ex:(eD ws)[i]'(by rw[mG];exact jM)=.int .u64 ((ws[i]:Nat):Int):=by simp[eD]
   rw[ex] at cX;have hxb:=hw.out ws[i] (List.getElem_mem jM);have kg:pr (ws.take (i+1))=pr (ws.take i)++jz ws[i]:=by
    rw[wh ws i jM,Qp]
   obtain⟨x,hx⟩:=Ex (ws[i]);rw[hx] at cX hxb kg;obtain⟨xa,lY⟩:=Ex (af (.slice va vn vc) i);rw[lY] at iX cX;have aT:(pr (ws.take i)).length<=512:=by rw[Bx,List.length_take];omega
   obtain⟨ns,hns⟩:=Ex (pr (ws.take i));rw[hns] at kg hO aT;replace⟨hx,lY,hv,kg,hns,hxb,hO⟩:=zb hx lY hv kg hns hxb hO;clear ex;go_wp2;go_loopw [3,5,16] (λov cv jv wr=>∃(j c:Nat) (ow:Value),ow=ov/\cv=.int .u64 (c:Int)/\jv=.int .i64 j/\j<=8/\c=x/256 ^ j/\aZ 5 w.heap.size wr ow (pE (ns++(jz x).take j))/\Below w.heap.size w wr) (λ_ _ jv _=>8-(intOf jv).toNat);case atStart=>exact⟨0,x,_,rfl,rfl,rfl,by omega,by simp,by simpa using hO.out,hB⟩
   case round =>
    obtain⟨j,c,pw,rfl,rfl,rfl,hj,hc,hP,Ot⟩:=hrel;obtain⟨wj,rfl⟩:=Ey wr;by_cases dw:j<8
    .have dj:decide ((j:Int)<8)=true:=decide_eq_true (by omega);have DI:=Ot.size;have KB:c<2 ^ 64:=by rw[hc];exact Nat.lt_of_le_of_lt (Nat.div_le_self _ _) hxb.out
     have hse:pE (ns++(jz x).take (j+1))=pE (ns++(jz x).take j)++[.int .u8 ((c%256:Nat):Int)]:=by
      rw[Jg x j dw,<-List.append_assoc,Ms,hc]
     have hlm:(pE (ns++(jz x).take j)).length<4398046511104:=by
      simp[pE,oG];omega
     have wr8:IntKind.u8.wrap (c:Int)=((c%256:Nat):Int):=by simp[IntKind.wrap,IntKind.signed,IntKind.bits]
     have HW:(c:Int)/256=((c/256:Nat):Int):=by omega
     have gL:c/256=x/256 ^ (j+1):=by rw[hc,Nat.div_div_eq_div_mul,Nat.pow_succ]
     obtain⟨m,hm⟩:=Ex (c%256);rw[hm] at wr8 hse;obtain⟨d,hd⟩:=Ex (c/256);rw[hd] at HW gL;replace⟨hm,hd,hc,gL,hse⟩:=mV hm hd hc gL hse;go_wp2_with (at_builtin;go_loud (refine SB qM rfl _ _ rfl w.heap.size pw _ (.int .u8 (m:Int)) rfl hP rfl rfl hlm DI ?_));intro v' w7 eF b7;rw[<-hse.out] at eF;replace eF:=Hd eF;clear hP;go_wp2;go_roundw;case measure=>simp[intOf];omega
     case rel=>exact⟨j+1,d,_,rfl,by simp,by go_num,by omega,gL.out,eF.out,Ot.trans b7⟩
    .obtain rfl:j=8:=by omega
     have e8:(jz x).take 8=jz x:=List.take_of_length_le (by rw[oG];exact Nat.le_refl _);rw[e8,<-kg.out] at hP;replace hP:=Hd hP;have dj:decide (((8:Nat):Int)<8)=false:=by decide
     go_wp2;go_roundw;case measure=>simp[intOf];omega
     case rel=>exact⟨i+1,_,rfl,by go_num,by omega,hP.out,Ot⟩
  .have di:decide ((i:Int)<(ws.length:Int))=false:=decide_eq_false (by omega);obtain rfl:i=ws.length:=by omega
   rw[List.take_length] at hO;have hc:=Ta w.heap.size wo ow ws hO h1;obtain⟨oa,on,oc,rfl⟩:=hO.shape;replace hO:=Hd hO;go_wp2;go_ret;exact⟨_,rfl,hB,rfl⟩
def nI(xs:List Nat):List Int:=xs.map fun n:Nat=>(n:Int)
theorem mb(xs:List Nat):(nI xs).length=xs.length:=by simp[nI]
theorem NY{xs:List Nat}{i:Nat}(h:i<xs.length):(nI xs).getD i 0=((xs[i]:Nat):Int):=by simp[nI,List.getD,h]
theorem LB(ws:List Nat)(k x:Nat):(eD ws).set k (.int .u64 (x:Int))=eD (ws.set k x):=by simp[eD,List.map_set]
theorem Ja(n:Nat):eD (List.replicate n 0)=List.replicate n (.int .u64 0):=by simp[eD]
theorem abv{m j:Nat}(hm:m<2 ^ 64)(hj:j<64):bits BinOp.or IntKind.u64 (m:Int) (IntKind.u64.wrap (2 ^ j))=((m ||| 2 ^ j:Nat):Int):=by
 have hp:2 ^ j<2 ^ 64:=Nat.pow_lt_pow_right (by decide) hj;have e:IntKind.u64.wrap (2 ^ j)=((2 ^ j:Nat):Int):=by
  have e1:((2:Int) ^ j)=((2 ^ j:Nat):Int):=by norm_cast
  rw[e1];simp only[IntKind.wrap,IntKind.signed,IntKind.bits];generalize 2 ^ j=a at hp;simp;omega
 rw[e];exact bits_or_u64_nat m (2 ^ j) hm hp
theorem CP(n g:Nat)(v:Value)(xs:List Nat)(w:World)(c0:w.cell? ⟨g,0,none⟩=some (.int .i64 n))(h:ae w v (nI xs))(hx:∀x∈xs,x<n)(rU:xs.length<=100000)(h1:1<=n)(hn:n<=4096):
 Calls Tryz.prog 121 #[.pointer (some ⟨g,0,none⟩),v] w (jf (λx y w'=>y=.nilIface/\aZ 225 w.heap.size w' x (eD (bg (setOf n xs)))) w):=by
 have l1:=h.len;rw[mb] at l1;obtain⟨va,vn,vc,rfl⟩:=h.shape;have hg:=World.block_lt_of_cell? _ _ c0;replace⟨h,hx⟩:=bD h hx;obtain⟨q,hq⟩:=Ex ((n+63)/64);have eq0:((n:Int)+63)/64=(q:Int):=by omega
 have hq64:q<=64:=by omega
 replace hq:=Hd hq;go_enter Tryz.func121,Tryz.ntmps121;go_wp2_with (at_make;refine uK tK rfl _ _ rfl (((n:Int)+63)/64) rfl rfl (by omega) (by omega) ?_);intro sv w1 nT g1;have b1:Below w.heap.size w w1:=(Below.refl _ _).grown g1 (Nat.le_refl _) (by intro k hk;cases hk);rw[<-Ja,<-hq.out,<-J5] at nT;obtain⟨sa,sn,sc,rfl⟩:=nT.shape;replace nT:=Hd nT;go_wp2_with fail;go_loopw [21] (λiv wr=>∃i:Nat,iv=.int .i64 i/\i<=xs.length/\aZ 225 w.heap.size wr (.slice sa sn sc) (eD (bg (setOf n (xs.take i))))/\Below w.heap.size w wr) (λiv _=>xs.length-(intOf iv).toNat);case atStart=>exact⟨0,rfl,Nat.zero_le _,by simpa [setOf] using nT.out,b1⟩
 case round =>
  obtain⟨i,rfl,hi,hO,hB⟩:=hrel;obtain⟨wo,rfl⟩:=Ey wr;have Hy:=hB.size;have e0:wo.cell? ⟨g,0,none⟩=some (.int .i64 n):=by rw[hB.cell hg];exact c0
  by_cases jM:i<xs.length
  .have di:decide ((i:Int)<(xs.length:Int))=true:=decide_eq_true (by omega);have hv:=h.out.below hB;have iX:=λw'=>hv.idx i (by rw[mb];exact jM) w';have cX:=hv.aH i (by rw[mb];exact jM);rw[NY jM] at cX;have zB:=hx.out xs[i] (List.getElem_mem jM);have kg:setOf n (xs.take (i+1))=(setOf n (xs.take i)).set xs[i] true:=by rw[wh xs i jM,setOf_snoc]
   obtain⟨x,Ht⟩:=Ex (xs[i]);rw[Ht] at cX zB kg;obtain⟨xa,lY⟩:=Ex (af (.slice va vn vc) i);rw[lY] at iX cX;obtain⟨l,hl⟩:=Ex (setOf n (xs.take i));have I7:l.length=n:=by rw[<-hl,j8]
   rw[hl] at kg hO;have hxll:x<l.length:=by omega
   have Ty:eD (bg (l.set x true))=(eD (bg l)).set (x/64) (.int .u64 ((mu l (x/64) ||| 2 ^ (x%64):Nat):Int)):=by rw[LO hxll,LB]
   have hk:x/64<(eD (bg l)).length:=by rw[mG,jk];omega
   have iS:∀w',(Instr.indexAt 207 (.slice sa sn sc) (.int .i64 ((x:Int)/64))).run Tryz.prog w'=.ok (.pointer (some (af (.slice sa sn sc) (x/64)))) w':=by
    intro w';have:=hO.at.idx tK (x/64) hk w';rwa [show((x/64:Nat):Int)=(x:Int)/64 by omega] at this
   have cS:=hO.at.cell (x/64) hk;have eS:(eD (bg l))[x/64]=.int .u64 ((mu l (x/64):Nat):Int):=by simp[eD,bg]
   rw[eS] at cS;have fS:=hO.mQ (x/64) hk;have jh:=hO.set (x/64) hk (.int .u64 ((mu l (x/64) ||| 2 ^ (x%64):Nat):Int));rw[<-Ty,<-kg] at jh;have mo:=hB.setCell (hO.jP (x/64) hk).2 (.int .u64 ((mu l (x/64) ||| 2 ^ (x%64):Nat):Int));have dl:decide ((x:Int)<0)=false:=decide_eq_false (by omega);have dh:decide ((x:Int)>=(n:Int))=false:=decide_eq_false (by omega);have m0:(0:Int)<=(x:Int)%64:=by omega
   have m1:(x:Int)%64<=64:=by omega
   have Ny:=qT l (x/64);obtain⟨m,hm⟩:=Ex (mu l (x/64));rw[hm] at cS jh mo Ny;obtain⟨aS,C0⟩:=Ex (af (.slice sa sn sc) (x/64));rw[C0] at iS cS fS jh mo;replace⟨Ht,lY,hv,kg,hl,Ty,hm,C0⟩:=gp Ht lY hv kg hl Ty hm C0;replace⟨jh,mo,hB⟩:=dO jh mo hB;clear hO eS hk;go_wp2;go_region;all_goals
    go_wp2;go_roundw;case measure=>simp[intOf];omega
    case rel =>
     have eb:bits BinOp.or IntKind.u64 (m:Int) (IntKind.u64.wrap (2 ^ (x%64)))=((m ||| 2 ^ (x%64):Nat):Int):=abv Ny (Nat.mod_lt _ (by decide));rw[eb];exact⟨i+1,by go_num,by omega,jh.out.drew,mo.out.drew⟩
  .have di:decide ((i:Int)<(xs.length:Int))=false:=decide_eq_false (by omega);obtain rfl:i=xs.length:=by omega
   rw[List.take_length] at hO;replace hO:=Hd hO;go_wp2;go_ret2;exact⟨_,_,rfl,hB,rfl,hO.out⟩
theorem uT:OneCell 204 207 (.slice none 0 0) 24:=⟨by kernel_rfl,by kernel_rfl,rfl,by decide,λ_=>by kernel_rfl⟩
theorem Wu(g id:Nat)(at_:Int)(sv:Value)(ed:List Value)(w:World)(c1:w.cell? ⟨g,1,none⟩=some sv)(h:aY w sv ed)(hid:id<ed.length):
 Calls Tryz.prog 143 #[.pointer (some ⟨g,0,none⟩),.int .i64 id,.int .i64 at_] w (jf (λx y w'=>x=ed[id]/\y=.nilIface/\w'=w) w):=by
 have l1:=h.len uT;have iX:=λw'=>h.idx uT id hid w';have cX:=h.cell id hid;obtain⟨va,vn,vc,rfl⟩:∃a n c,sv=.slice a n c:=(by obtain⟨a,c,e,_⟩:=h;exact⟨a,_,c,e⟩);obtain⟨y,hy⟩:=Ex (ed[id]);rw[hy] at cX ⊢;have d1:decide ((id:Int)<0)=false:=decide_eq_false (by omega);have d2:decide ((id:Int)>=(ed.length:Int))=false:=decide_eq_false (by omega);replace⟨h,hy⟩:=bD h hy;go_enter Tryz.func143,Tryz.ntmps143;go_wp2;go_ret2;exact⟨_,_,rfl,Below.refl _ _,rfl,rfl,rfl⟩
theorem Et(xs:List Nat)(x:Nat):nI (xs++[x])=nI xs++[(x:Int)]:=by simp[nI]
theorem XV{m j:Nat}(hm:m<2 ^ 64):bits BinOp.and IntKind.u64 ((m:Int)/2 ^ j) 1=((m/2 ^ j &&& 1:Nat):Int):=by
 have e:((m:Int)/2 ^ j)=((m/2 ^ j:Nat):Int):=by norm_cast
 rw[e];exact bits_and_u64_nat (m/2 ^ j) 1 (Nat.lt_of_le_of_lt (Nat.div_le_self _ _) hm) (by decide)
theorem XS(n g id:Nat)(sv:Value)(ed:List Value)(l:List Bool)(w:World)(c0:w.cell? ⟨g,0,none⟩=some (.int .i64 n))(c1:w.cell? ⟨g,1,none⟩=some sv)(h:aY w sv ed)(hid:id<ed.length)(hs:aY w ed[id] (eD (bg l)))(hl:l.length=n)(hn:n<=4096):
 Calls Tryz.prog 123 #[.pointer (some ⟨g,0,none⟩),.int .i64 id] w (jf (λx y w'=>y=.nilIface/\aj w.heap.size w' x (nI (nM l n))) w):=by
 obtain⟨va,vn,vc,hsv⟩:∃a n c,ed[id]=.slice a n c:=(by obtain⟨a,c,e,_⟩:=hs;exact⟨a,_,c,e⟩);have gI:=Wu g id 0 sv ed w c1 h hid;rw[hsv] at gI hs;have hg:=World.block_lt_of_cell? _ _ c0;replace⟨h,hs,hsv⟩:=dO h hs hsv;go_enter Tryz.func123,Tryz.ntmps123;go_wp2_with fail;refine gI.mono ?_;rintro e w1 ⟨_,_,rfl,b1,rfl,rfl,rfl⟩;go_wp2;go_loopw [8,23] (λov iv wr=>∃(i:Nat) (ow:Value),ow=ov/\iv=.int .i64 i/\i<=n/\aj w1.heap.size wr ow (nI (nM l i))/\Below w1.heap.size w1 wr) (λ_ iv _=>n-(intOf iv).toNat);case atStart=>exact⟨0,_,rfl,rfl,Nat.zero_le _,aj.nil _ _,Below.refl _ _⟩
 case round =>
  obtain⟨i,ow,rfl,rfl,hi,hO,hB⟩:=hrel;obtain⟨wo,rfl⟩:=Ey wr;by_cases jM:i<n
  .have di:decide ((i:Int)<(n:Int))=true:=decide_eq_true (by omega);have hv:=hs.out.below hB;have hk:i/64<(eD (bg l)).length:=by rw[mG,jk];omega
   have iS:∀w',(Instr.indexAt 207 (.slice va vn vc) (.int .i64 ((i:Int)/64))).run Tryz.prog w'=.ok (.pointer (some (af (.slice va vn vc) (i/64)))) w':=by
    intro w';have:=hv.idx tK (i/64) hk w';rwa [show((i/64:Nat):Int)=(i:Int)/64 by omega] at this
   have cS:=hv.cell (i/64) hk;have eS:(eD (bg l))[i/64]=.int .u64 ((mu l (i/64):Nat):Int):=by simp[eD,bg]
   rw[eS] at cS;have m0:(0:Int)<=(i:Int)%64:=by omega
   have m1:(i:Int)%64<=64:=by omega
   have Ny:=qT l (i/64);have Ox:=adW l i;have zg:=OV l i;have DI:=hB.size;have AH:(nI (nM l i)).length<=4096:=by
    rw[mb];exact Nat.le_trans (List.length_filter_le _ _) (by rw[List.length_range];omega)
   obtain⟨m,hm⟩:=Ex (mu l (i/64));rw[hm] at cS Ny Ox;have Ae:=XV (m:=m) (j:=i%64) Ny;rw[Ox] at Ae;obtain⟨aS,C0⟩:=Ex (af (.slice va vn vc) (i/64));rw[C0] at iS cS;replace⟨hv,hm,C0,Ox⟩:=gF hv hm C0 Ox;clear hk eS;cases hb:l.getD i false with
   | true =>
    have qU:bits BinOp.and IntKind.u64 ((m:Int)/2 ^ (i%64)) 1=1:=by rw[Ae,hb];rfl
    have IU:nI (nM l (i+1))=nI (nM l i)++[(i:Int)]:=by rw[zg,hb,if_pos rfl,Et]
    obtain⟨M,hM⟩:=Ex (nI (nM l i));rw[hM] at IU hO AH;clear Ae zg hb;replace⟨hM,IU⟩:=bD hM IU;go_wp2_with (at_builtin;refine gi rfl _ _ rfl w1.heap.size _ M (i:Int) hO rfl rfl (by omega) DI ?_);intro v' w3 sU b3 _ _;rw[<-IU.out] at sU;replace sU:=Hd sU;clear hO;go_wp2;go_roundw;case measure=>simp[intOf];omega
    case rel=>exact⟨i+1,_,rfl,by go_num,by omega,sU.out,hB.trans b3⟩
   | false =>
    have qU:bits BinOp.and IntKind.u64 ((m:Int)/2 ^ (i%64)) 1=0:=by rw[Ae,hb];rfl
    have IU:nM l (i+1)=nM l i:=by rw[zg,hb,if_neg (by decide),List.append_nil]
    rw[<-IU] at hO;clear Ae zg hb IU;replace hO:=Hd hO;go_wp2;go_roundw;case measure=>simp[intOf];omega
    case rel=>exact⟨i+1,_,rfl,by go_num,by omega,hO.out,hB⟩
  .have di:decide ((i:Int)<(n:Int))=false:=decide_eq_false (by omega);obtain rfl:i=n:=by omega
   replace hO:=Hd hO;go_wp2;go_ret2;exact⟨_,_,rfl,hB,rfl,hO.out⟩
theorem nf.dB{B:Nat}{w:World}{m:Value}{xs:List Int}(h:nf B w m xs){a:Addr}(ha:a.block<B)(u:Value):nf B (w.setCell a u) m xs:=by
 obtain⟨v,e,ho⟩:=h;exact⟨v,e,ho.al ha u⟩
theorem nf.mono{B B':Nat}{w:World}{m:Value}{xs:List Int}(h:nf B w m xs)(hB:B'<=B):nf B' w m xs:=by
 obtain⟨v,e,ho⟩:=h;exact⟨v,e,ho.mono hB⟩
theorem yj(k R:Int)(va:Option Addr)(vn vc:Nat)(T:List Int)(w:World)(h:ae w (.slice va vn vc) T)(hl:T.length<=17592186044414):
 Calls Tryz.prog 6 #[.agg #[.int .i64 k,.int .i64 R,.slice va vn vc]] w (cz (λx w'=>∃a n c,x=.agg #[.int .i64 k,.int .i64 R,.slice a n c]/\nf w.heap.size w' (.slice a n c) T) w):=by
 have b0:=Below.step (ab w (.cells #[.int .i64 k,.int .i64 R,.slice va vn vc] 24)) (ab _ (.cells #[.int .i64 0,.int .i64 0,.slice none 0 0] 24));have q6:az ((w.alloc (.cells #[.int .i64 k,.int .i64 R,.slice va vn vc] 24)).alloc (.cells #[.int .i64 0,.int .i64 0,.slice none 0 0] 24)) w.heap.size (.int .i64 k) (.int .i64 R) (.slice va vn vc):=by simp[az,go_sem]
 have q7:az ((w.alloc (.cells #[.int .i64 k,.int .i64 R,.slice va vn vc] 24)).alloc (.cells #[.int .i64 0,.int .i64 0,.slice none 0 0] 24)) (w.heap.size+1) (.int .i64 0) (.int .i64 0) (.slice none 0 0):=by simp[az,go_sem]
 replace h:=Hd (h.below b0);go_enter Tryz.func6,Tryz.ntmps6;go_wp2;have hWs:w.heap.size+2<=((w.alloc (.cells #[.int .i64 k,.int .i64 R,.slice va vn vc] 24)).alloc (.cells #[.int .i64 0,.int .i64 0,.slice none 0 0] 24)).heap.size:=by simp
 obtain⟨W,hW⟩:=Ey (((w.alloc (.cells #[.int .i64 k,.int .i64 R,.slice va vn vc] 24)).alloc (.cells #[.int .i64 0,.int .i64 0,.slice none 0 0] 24)));rw[<-hW] at b0 q6 q7 h hWs ⊢;clear hW;have q6':=q6;obtain⟨⟨z0,z1,z2⟩,-,-,-⟩:=q6';go_region_held3 (λw'=>w'.cell? ⟨w.heap.size,0,none⟩=some (.int .i64 k)/\w'.cell? ⟨w.heap.size,1,none⟩=some (.int .i64 R)/\w'.cell? ⟨w.heap.size,2,none⟩=some (.slice va vn vc)) (first | exact⟨z0,z1,z2⟩ | exact⟨s0,s1,s2⟩ | (simp[s0,s1,s2,World.cell?_setCell_far];done))
  (first | (go_at_call 14;refine(TK (.slice va vn vc) T _ ?_ hl).mono ?_;.exact h.out.drew
            rintro e w1 ⟨x,rfl,b1,hx⟩;have Eu:Below W.heap.size W w1:=(Below.refl W.heap.size W).drew.trans b1;obtain⟨a,n,c,rfl⟩:=hx.at.shape;have s0:=au Eu z0;have s1:=au Eu z1;have s2:=au Eu z2;have q7n:=q7.below Eu;obtain⟨⟨y0,y1,y2⟩,g0,g1,g2⟩:=q7n));have hE:=Hd (((hx.dB (a:=⟨w.heap.size+1,0,none⟩) (show w.heap.size+1<W.heap.size by omega) (.int .i64 k)).dB (a:=⟨w.heap.size+1,1,none⟩) (show w.heap.size+1<W.heap.size by omega) (.int .i64 R)).dB (a:=⟨w.heap.size+1,2,none⟩) (show w.heap.size+1<W.heap.size by omega) (.slice a n c));have Ut:=Hd (aB (Below.Af b0 Eu) (Nat.le_succ w.heap.size) (.int .i64 k) (.int .i64 R) (.slice a n c));clear hx b1 Eu;go_wp2;exact bodyPost_ret (v:=.agg #[.int .i64 k,.int .i64 R,.slice a n c]) (by simp[results,Tryz.results6,go_sem,y0,y1,y2]) rfl ⟨_,rfl,Ut.out,a,n,c,rfl,hE.out.mono (show w.heap.size<=W.heap.size by omega)⟩
theorem xz(B:Nat)(k R:Int)(a:Option Addr)(n c:Nat)(va:Option Addr)(vn vc:Nat)(T:List Int)(w:World)(h:nf B w (.slice a n c) T)(h':ae w (.slice va vn vc) T)(hl:T.length<=17592186044414):
 Calls Tryz.prog 11 #[.agg #[.int .i64 k,.int .i64 R,.slice a n c],.agg #[.int .i64 k,.int .i64 R,.slice va vn vc]] w (cz (λx _=>x=.bool true) w):=by
 have b0:=Below.step (ab w (.cells #[.int .i64 k,.int .i64 R,.slice a n c] 24)) (ab _ (.cells #[.int .i64 k,.int .i64 R,.slice va vn vc] 24));replace h:=Hd (h.below b0);replace h':=Hd (h'.below b0);have e1:(k==k)=true:=by simp
 have e2:(R==R)=true:=by simp
 go_enter Tryz.func11,Tryz.ntmps11;go_wp2_with fail;refine(TA B _ _ T _ h.out h'.out hl).mono ?_;rintro e w1 h1;obtain⟨rfl,b1⟩:=h1.below;have hB:=Hd (Below.step b0 b1);clear h1;go_wp2;go_ret;exact⟨_,rfl,hB.out,rfl⟩
abbrev Ru(w:World)(b:Nat)(x y z:Value):World:=((w.setCell ⟨b,0,none⟩ x).setCell ⟨b,1,none⟩ y).setCell ⟨b,2,none⟩ z
theorem Cq{w:World}{b i:Nat}{a:Addr}(h:a.block≠b)(u:Value):(w.setCell ⟨b,i,none⟩ u).cell? a=w.cell? a :=
 World.cell?_setCell_other _ _ _ _ (by intro e;rw[<-e] at h;exact h rfl)
theorem iw.set{r:Nat->Addr}{w:World}{n:Int}{b i:Nat}(hs:∀s,w.cell? ⟨b,0,none⟩≠some (.string s))(u:Value):
 ∀{l:List (ByteArray×Int)} {v:Value},iw r w n l v->iw r (w.setCell ⟨b,i,none⟩ u) n l v
 | [],_,h=>h
 | (op,at_)::rest,v,⟨p,u',e,c0,c1,c2,h⟩=>by
  have hp:p≠b:=by rintro rfl;exact hs _ c0
  exact⟨p,u',e,by rw[Cq hp];exact c0,by rw[Cq hp];exact c1,by rw[Cq hp];exact c2,iw.set hs u h⟩
theorem bf.set{r:Nat->Addr}{w:World}{t:ky}{v:Value}{b i:Nat}(h:bf r w t v)(hs:∀s,w.cell? ⟨b,0,none⟩≠some (.string s))(u:Value):bf r (w.setCell ⟨b,i,none⟩ u) t v:=by
 match t,h with
 | none,h=>exact h
 | some (n,l),h=>exact iw.set hs u h
theorem az.Ru{w:World}{b:Nat}{x0 x1 x2:Value}(h:az w b x0 x1 x2)(x y z:Value):az (Ru w b x y z) b x y z:=by
 obtain⟨⟨h0,h1,h2⟩,f0,f1,f2⟩:=h;have e0:(w.cell? ⟨b,0,none⟩).isSome=true:=by rw[h0];rfl
 have e1:(w.cell? ⟨b,1,none⟩).isSome=true:=by rw[h1];rfl
 have e2:(w.cell? ⟨b,2,none⟩).isSome=true:=by rw[h2];rfl
 have n10:(⟨b,1,none⟩:Addr)≠⟨b,0,none⟩:=by simp
 have n20:(⟨b,2,none⟩:Addr)≠⟨b,0,none⟩:=by simp
 have n21:(⟨b,2,none⟩:Addr)≠⟨b,1,none⟩:=by simp
 refine⟨⟨?_,?_,?_⟩,?_,?_,?_⟩;.rw[World.cell?_setCell_other _ _ _ _ n20,World.cell?_setCell_other _ _ _ _ n10,World.cell?_setCell_same' _ _ _ e0]
 .rw[World.cell?_setCell_other _ _ _ _ n21];exact World.cell?_setCell_same' _ _ _ (by rw[World.cell?_setCell_other _ _ _ _ n10.symm];exact e1)
 .exact World.cell?_setCell_same' _ _ _ (by rw[World.cell?_setCell_other _ _ _ _ n21.symm,World.cell?_setCell_other _ _ _ _ n20.symm];exact e2)
 all_goals simpa [Go.Proofs.YtgjfejfeoofkhaaGreatDoor.Ru,go_sem]
theorem az.YV{w:World}{b b':Nat}{x0 x1 x2:Value}(h:az w b x0 x1 x2)(bM:b'≠b)(x y z:Value):az (Go.Proofs.YtgjfejfeoofkhaaGreatDoor.Ru w b' x y z) b x0 x1 x2 :=
 ((h.vy bM 0 x).vy bM 1 y).vy bM 2 z
theorem Rows.add2{B:Nat}{w w':World}{f:Names}{i j:Nat×Nat}{r' s':Row}(h:Rows B w f)(hb:Below w.heap.size w w')(ho:r'.own B w')(hn:∀k,r'.v.ownBlock=some k->w.heap.size<=k)(jK:s'.own B w')(vm:∀k,s'.v.ownBlock=some k->w.heap.size<=k)(bM:r'.v.ownBlock=Option.none\/r'.v.ownBlock≠s'.v.ownBlock)(Nk:i≠j):Rows B w' (ch (ch f i (some r')) j (some s')):=by
 have h1:=h.add (i:=i) hb ho hn;have vy:∀k t,ch f i (some r') k=some t->k≠j->t.v.ownBlock=Option.none\/t.v.ownBlock≠s'.v.ownBlock:=λk t hk hkj=>by
  by_cases e:k=i;.subst e;rw[ah] at hk;cases hk;exact bM
  .rw[ad _ _ e] at hk;cases hs:t.v.ownBlock with
   | none=>exact .inl rfl
   | some m =>
    right;intro e2;have:=vm m e2.symm;have:=(h.lt hk m hs).2;omega
 refine⟨λk t hk=>?_,λk l s t hk hl sr=>?_⟩
 .by_cases e:k=j;.subst e;rw[ah] at hk;cases hk;exact jK
  .rw[ad _ _ e] at hk;exact h1.1 k t hk
 .by_cases e:k=j
  .subst e;rw[ah] at hk;cases hk;rw[ad _ _ (Ne.symm sr)] at hl;rcases vy l t hl (Ne.symm sr) with e2 | e2;.cases hr:s'.v.ownBlock with
    | none=>exact .inl rfl
    | some m=>right;rw[e2];simp
   .exact .inr (Ne.symm e2)
  .rw[ad _ _ e] at hk;by_cases e':l=j;.subst e';rw[ah] at hl;cases hl;exact vy k s hk e
   .rw[ad _ _ e'] at hl;exact h1.2 k l s t hk hl sr
theorem Rows.y8{B:Nat}{w w':World}{f:Names}(i:Nat×Nat){r':Row}(h:Rows B w f)(hb:Below w.heap.size w w')(ho:r'.own B w')(hn:∀k,r'.v.ownBlock=some k->w.heap.size<=k):
 ∃f',Rows B w' f'/\f' i=some r'/\∀j,j≠i->f' j=f j :=
 ⟨_,h.add (i:=i) hb ho hn,ah _ _ _,λ_ e=>ad _ _ e⟩
theorem Rows.Vs{B:Nat}{w w':World}{f:Names}(i j:Nat×Nat)(Nk:i≠j){r' s':Row}(h:Rows B w f)(hb:Below w.heap.size w w')(ho:r'.own B w')(hn:∀k,r'.v.ownBlock=some k->w.heap.size<=k)(jK:s'.own B w')(vm:∀k,s'.v.ownBlock=some k->w.heap.size<=k)(bM:r'.v.ownBlock=Option.none\/r'.v.ownBlock≠s'.v.ownBlock):∃f',Rows B w' f'/\f' i=some r'/\f' j=some s'/\∀k,k≠i->k≠j->f' k=f k :=
 ⟨_,h.add2 hb ho hn jK vm bM Nk,by rw[ad _ _ Nk,ah],ah _ _ _,λk e1 e2=>by rw[ad _ _ e2,ad _ _ e1]⟩
theorem Rows.lose{B:Nat}{w w':World}{f:Names}{i:Nat×Nat}{r:Row}(h:Rows B w f)(hi:f i=some r)(hg:w.grownBy w' r.v.ownBlock):∃f',Rows B w' f'/\∀j,j≠i->f' j=f j :=
 ⟨ch f i Option.none,⟨λj s hj=>by
   by_cases e:j=i;.subst e;rw[ah] at hj;cases hj
   .rw[ad _ _ e] at hj;exact World.ownsRow.kept (h.1 j s hj) hg (h.2 j i s r hj hi e),(h.drop i).2⟩,λ_ e=>ad _ _ e⟩
abbrev mj(T:TypeId)(g:Nat)(cs:List Value):Row:=⟨T,4,.slice (some ⟨g,0,none⟩) 1 1,1,cs⟩
theorem Rows.mj{B:Nat}{w:World}{f:Names}(i:Nat×Nat)(h:Rows B w f)(hB:B<=w.heap.size)(T:TypeId)(a b c d:Value):
 ∃f',Rows B (w.alloc (.cells #[a,b,c,d] T)) f'/\f' i=some (Go.Proofs.YtgjfejfeoofkhaaGreatDoor.mj T w.heap.size [a,b,c,d])/\∀j,j≠i->f' j=f j :=
 h.y8 i (r':=Go.Proofs.YtgjfejfeoofkhaaGreatDoor.mj T w.heap.size [a,b,c,d]) (ab w _) (World.ownsRow_lit (base:=B) (e:=T) (size:=4) w #[a,b,c,d] 1 hB (by decide) rfl) (λk hk=>by cases hk;exact Nat.le_refl _)
structure UT (w:World) (g:Nat) (a b c d:Value):Prop where
 c0:w.cell? ⟨g,0,none⟩=some a
 c1:w.cell? ⟨g,1,none⟩=some b
 c2:w.cell? ⟨g,2,none⟩=some c
 c3:w.cell? ⟨g,3,none⟩=some d
theorem Rows.dE{B:Nat}{w:World}{f:Names}{i:Nat×Nat}{T:TypeId}{g:Nat}{a b c d:Value}(h:Rows B w f)(hi:f i=some (Go.Proofs.YtgjfejfeoofkhaaGreatDoor.mj T g [a,b,c,d])):UT w g a b c d :=
 ⟨h.cell hi (g:=g) (cap:=1) rfl 0 (show 0<1*4 by decide),h.cell hi (g:=g) (cap:=1) rfl 1 (show 1<1*4 by decide),h.cell hi (g:=g) (cap:=1) rfl 2 (show 2<1*4 by decide),h.cell hi (g:=g) (cap:=1) rfl 3 (show 3<1*4 by decide)⟩
theorem Rows.ib{B:Nat}{w:World}{f:Names}{i:Nat×Nat}{T:TypeId}{g:Nat}{cs:List Value}(h:Rows B w f)(hi:f i=some (Go.Proofs.YtgjfejfeoofkhaaGreatDoor.mj T g cs))(k:Nat):w.frozen? ⟨g,k,none⟩=false :=
 h.frozen hi (g:=g) (cap:=1) rfl k
theorem Rows.wk{B:Nat}{w:World}{f:Names}{i:Nat×Nat}{T:TypeId}{g:Nat}{cs:List Value}(h:Rows B w f)(hi:f i=some (Go.Proofs.YtgjfejfeoofkhaaGreatDoor.mj T g cs)):B<=g/\g<w.heap.size :=
 h.lt hi g rfl
theorem Rows.B9{B:Nat}{w:World}{f:Names}{i:Nat×Nat}{T:TypeId}{g:Nat}{cs:List Value}(h:Rows B w f)(hi:f i=some (Go.Proofs.YtgjfejfeoofkhaaGreatDoor.mj T g cs))(k:Nat)(y:Value):
 ∃f',Rows B (w.setCell ⟨g,k,none⟩ y) f'/\f' i=some (Go.Proofs.YtgjfejfeoofkhaaGreatDoor.mj T g (cs.set k y))/\∀j,j≠i->f' j=f j :=
 ⟨_,h.set hi (g:=g) (cap:=1) rfl k y,ah _ _ _,λ_ e=>ad _ _ e⟩
theorem Rows.pV{B:Nat}{w:World}{f:Names}{i:Nat×Nat}{T:TypeId}{g:Nat}{x0 x1 x2 x3:Value}(h:Rows B w f)(hi:f i=some (Go.Proofs.YtgjfejfeoofkhaaGreatDoor.mj T g [x0,x1,x2,x3]))(a b c d:Value):
 ∃f',Rows B ((((w.setCell ⟨g,0,none⟩ a).setCell ⟨g,1,none⟩ b).setCell ⟨g,2,none⟩ c).setCell ⟨g,3,none⟩ d) f'/\f' i=some (Go.Proofs.YtgjfejfeoofkhaaGreatDoor.mj T g [a,b,c,d])/\∀j,j≠i->f' j=f j:=by
 obtain⟨f1,h1,i1,o1⟩:=h.B9 hi 0 a;obtain⟨f2,h2,i2,o2⟩:=h1.B9 i1 1 b;obtain⟨f3,h3,i3,o3⟩:=h2.B9 i2 2 c;obtain⟨f4,h4,i4,o4⟩:=h3.B9 i3 3 d;exact⟨f4,h4,i4,λj e=>by rw[o4 j e,o3 j e,o2 j e,o1 j e]⟩
theorem Below.pV{B g:Nat}{w0 w:World}(h:Below B w0 w)(hb:B<=g)(a b c d:Value):Below B w0 ((((w.setCell ⟨g,0,none⟩ a).setCell ⟨g,1,none⟩ b).setCell ⟨g,2,none⟩ c).setCell ⟨g,3,none⟩ d) :=
 (((h.setCell (show B<=(⟨g,0,Option.none⟩:Addr).block from hb) _).setCell (show B<=(⟨g,1,Option.none⟩:Addr).block from hb) _).setCell (show B<=(⟨g,2,Option.none⟩:Addr).block from hb) _).setCell (show B<=(⟨g,3,Option.none⟩:Addr).block from hb) _
theorem Rows.merge{B:Nat}{w w':World}{f g:Names}(p:Nat×Nat->Bool)(h:Rows B w f)(hb:Below w.heap.size w w')(hg:Rows w.heap.size w' g)(hB:B<=w.heap.size):∃f',Rows B w' f'/\(∀i,p i=true->f' i=g i)/\∀i,p i=false->f' i=f i:=by
 have hf:=h.below hb;refine⟨λi=>if p i=true then g i else f i,⟨λi r hi=>?_,λi j r s hi hj bM=>?_⟩,λi hi=>by simp[hi],λi hi=>by simp[hi]⟩
 .dsimp only at hi;split at hi
  .have ho:=hg.1 i r hi;refine⟨ho.1,?_⟩;rcases ho.2 with h2 | ⟨b,cap,cur,e,A6,rest⟩;.exact .inl h2
   .exact .inr ⟨b,cap,cur,e,Nat.le_trans hB A6,rest⟩
  .exact hf.1 i r hi
 .dsimp only at hi hj;have vy:∀(k l:Nat×Nat) (r s:Row),f k=some r->g l=some s->r.v.ownBlock=Option.none\/r.v.ownBlock≠s.v.ownBlock:=λk l r s hk hl=>by
   cases hr:r.v.ownBlock with
   | none=>exact .inl rfl
   | some m =>
    right;intro e;have h1:=(h.lt hk m hr).2;have h2:=(hg.lt hl m e.symm).1;omega
  split at hi
  .split at hj;.exact hg.2 i j r s hi hj bM
   .rcases vy j i s r hj hi with e | e;.cases hr:r.v.ownBlock with
     | none=>exact .inl rfl
     | some m=>right;rw[e];simp
    .exact .inr (Ne.symm e)
  .split at hj;.exact vy i j r s hi hj
   .exact hf.2 i j r s hi hj bM
theorem bf.pV{r:Nat->Addr}{w:World}{t:ky}{v:Value}{g:Nat}{n:Int}{b c d:Value}(h:bf r w t v)(hc:UT w g (.int .i64 n) b c d)(x y z:Value):
 bf r ((((w.setCell ⟨g,0,none⟩ (.int .i64 0)).setCell ⟨g,1,none⟩ x).setCell ⟨g,2,none⟩ y).setCell ⟨g,3,none⟩ z) t v:=by
 have k1:(w.setCell ⟨g,0,none⟩ (.int .i64 0)).cell? ⟨g,0,none⟩=some (.int .i64 0):=World.cell?_setCell_same _ _ _ hc.c0;have k2:((w.setCell ⟨g,0,none⟩ (.int .i64 0)).setCell ⟨g,1,none⟩ x).cell? ⟨g,0,none⟩=some (.int .i64 0):=by
  rw[World.cell?_setCell_other _ _ _ _ (by intro e;cases e)];exact k1
 have k3:(((w.setCell ⟨g,0,none⟩ (.int .i64 0)).setCell ⟨g,1,none⟩ x).setCell ⟨g,2,none⟩ y).cell? ⟨g,0,none⟩=some (.int .i64 0):=by
  rw[World.cell?_setCell_other _ _ _ _ (by intro e;cases e)];exact k2
 exact(((h.set (b:=g) (i:=0) (λs e=>by rw[hc.c0] at e;cases e) _).set (b:=g) (i:=1) (λs e=>by rw[k1] at e;cases e) _).set (b:=g) (i:=2) (λs e=>by rw[k2] at e;cases e) _).set (b:=g) (i:=3) (λs e=>by rw[k3] at e;cases e) _
def UM(v:Value)(w w':World):Prop:=∃row,w.grownBy w' row/\∀k,row=some k->v.ownBlock=some k
def x9(f f':Names)(i:Nat×Nat):Prop:=∀j,j≠i->f' j=f j
theorem qS{T E:TypeId}{z:Value}{b:Nat}(oc:OneCell T E z b){w:World}{ops:Array Oper}{rest:List Oper}{o:Oper}{a:Act}{Q:Exit->Act->World->Prop}(jZ:o.guard=none)(s x:Operand)(ho:o.op=.call { callee:=.builtin .append,args:=#[s,x],argTypes:=#[T,T] }){B:Nat}{f:Names}(hR:Rows B w f)(i:Nat×Nat)(v:Value)(xs:List Value)(hi:f i=some (bY E v xs))(y:Value)(hy:y.oneCell'=true)(hs:a.eval s=v)(hx:a.eval x=.slice (some ⟨w.heap.size,0,none⟩) 1 1)(hlen:xs.length<4398046511104)(hB:B<=w.heap.size)(h:∀v' w' f',Rows B w' f'->f' i=some (bY E v' (xs++[y]))->x9 f f' i->Below B w w'->UM v w w'->wpList Tryz.prog ops Q rest (a.put o.dst v') w'):
 wpList Tryz.prog ops Q (o::rest) a (w.alloc (.cells #[y] E)):=by
 have aO:=hR.ff hi;refine wpList_plain jZ λK hK=>?_;have hA:Rows B (w.alloc (.cells #[y] E)) f:=hR.below (ab w _);obtain⟨v',w',hr,h2,h3⟩:=xQ oc (w.alloc (.cells #[y] E)) B o.type v _ (aO.alloc _) ⟨w.heap.size,0,none⟩ 1 [y] (by simp) (cell_one_new _ _ _) (by simp[hy]) (by simp;omega) (by simp;omega);unfold Oper.wp execOp;simp only[ho,resolve,invoke,builtin,Sem.run_bind,Sem.run_pure,Result.andThen_ok,List.map_toArray,List.map_cons,List.map_nil,hs,hx];rw[show([y]:List Value).length=1 from rfl] at hr;rw[hr];have hJ:∀row,w.grownBy (w.alloc (.cells #[y] E)) row:=λrow=>World.grownBy_alloc w _ row;obtain⟨a1,n1,q1,e1⟩:=h2.shape;obtain⟨a2,n2,q2,e2⟩:=aO.shape;rcases h3 with ⟨ni,hg⟩ | ⟨hk,hg⟩;.have uw:=cM e2 e1 ni;have np:=hA.grown (r':=bY E v' (xs++[y])) hi hg h2 (.inl uw);exact hK _ _ (h v' w' _ np (ah _ _ _) (λj e=>ad _ _ e) ((Below.refl _ _).grown ((hJ v.ownBlock).trans hg) hB (λk hk=>(aO.lt k hk).1)) ⟨v.ownBlock,(hJ _).trans hg,λ_ hk=>hk⟩)
 .have np:=hA.grown (r':=bY E v' (xs++[y])) hi (EO hg _) h2 (.inr ⟨_,hk,Nat.le_refl _⟩);exact hK _ _ (h v' w' _ np (ah _ _ _) (λj e=>ad _ _ e) ((Below.refl _ _).grown ((hJ none).trans hg) hB (by intro k hk;cases hk)) ⟨none,(hJ none).trans hg,λk hk=>by cases hk⟩)
abbrev Yz(T:TypeId)(g:Nat)(cs:List Value):Row:=⟨T,3,.slice (some ⟨g,0,none⟩) 1 1,1,cs⟩
structure gB (B:Nat) (w:World) (f:Names) (g b n:Nat) (sets:List (List Bool)) (sv:Value) (ed:List Value):Prop where
 box:f (20,0)=some (Yz 206 g [.int .i64 n,sv,.map (some b)])
 out:f (21,0)=some (bY 207 sv ed)
 len:ed.length=sets.length
 each:∀i,i<sets.length->f (22,i)=some (bY 225 (ed.getD i .nilIface) (eD (bg (sets.getD i []))))
 all:∀x∈sets,x.length=n
 map:gy w b n sets
 vq:B<=b
section
variable {B:Nat} {w:World} {f:Names} {g b n:Nat} {sets:List (List Bool)} {sv:Value} {ed:List Value}
theorem gB.cells(h:gB B w f g b n sets sv ed)(hR:Rows B w f):w.cell? ⟨g,0,none⟩=some (.int .i64 n)/\w.cell? ⟨g,1,none⟩=some sv/\w.cell? ⟨g,2,none⟩=some (.map (some b)) :=
 ⟨hR.cell h.box (g:=g) (cap:=1) rfl 0 (show 0<1*3 by decide),hR.cell h.box (g:=g) (cap:=1) rfl 1 (show 1<1*3 by decide),hR.cell h.box (g:=g) (cap:=1) rfl 2 (show 2<1*3 by decide)⟩
theorem gB.low(h:gB B w f g b n sets sv ed)(hR:Rows B w f):B<=g/\g<w.heap.size:=hR.lt h.box g rfl
theorem gB.outer(h:gB B w f g b n sets sv ed)(hR:Rows B w f):aY w sv ed:=(hR.ff h.out).at
theorem gB.set(h:gB B w f g b n sets sv ed)(hR:Rows B w f){i:Nat}(hi:i<sets.length):aY w (ed.getD i .nilIface) (eD (bg (sets.getD i []))):=(hR.ff (h.each i hi)).at
theorem gB.below{w':World}(h:gB B w f g b n sets sv ed)(hb:Below w.heap.size w w'):gB B w' f g b n sets sv ed :=
 ⟨h.box,h.out,h.len,h.each,h.all,h.map.below hb,h.vq⟩
theorem gB.congr{f':Names}(h:gB B w f g b n sets sv ed)(e:∀i,(i.1=20\/i.1=21\/i.1=22)->f' i=f i):gB B w f' g b n sets sv ed :=
 ⟨(e _ (.inl rfl)).trans h.box,(e _ (.inr (.inl rfl))).trans h.out,h.len,λi hi=>(e _ (.inr (.inr rfl))).trans (h.each i hi),h.all,h.map,h.vq⟩
end
def Mk:ByteArray:=⟨#[98,97,103]⟩
theorem P4(r:Nat->Addr)(at_ n:Int)(w:World)(hg:ck r w)(h1:1<=n)(h2:n<=11):
 Calls Tryz.prog 120 #[.int .i64 at_,.int .i64 n] w (cz (λv w'=>bf r w' (fresh Mk at_ n) v) w):=by
 go_enter Tryz.func120,Tryz.ntmps120;go_wp2_with fail;refine(uy r _ at_ n w hg h1 h2).mono ?_;rintro e w' ⟨v,rfl,hb,he⟩;go_wp2;go_ret;exact⟨_,rfl,hb,he⟩
theorem ry{y:List Bool}{n:Nat}(hy:y.length=n)(h1:1<=n)(hn:n<=4096):1<=(bg y).length/\(bg y).length<=64:=by
 rw[jk];omega
theorem Yo{B:Nat}{f:Names}{g b n:Nat}{sets:List (List Bool)}{sv:Value}{ed:List Value}{w:World}(hR:Rows B w f)(hb:gB B w f g b n sets sv ed)(v:Value)(y:List Bool)(hv:aY w v (eD (bg y)))(hy:y.length=n)(hm:y∈sets)(h1:1<=n)(hn:n<=4096):
 Calls Tryz.prog 122 #[.pointer (some ⟨g,0,none⟩),v] w (vf (λx d e _=>x=.int .i64 (sets.idxOf y:Nat)/\d=.bool false/\e=.nilIface) w):=by
 obtain⟨z0,z1,z2⟩:=hb.cells hR;obtain⟨k1,k2⟩:=ry hy h1 hn;have key:=FL v (bg y) w hv k1 k2 (qH y);have jI:=(hb.low hR).2;have PW:=hb.map;replace⟨hb,hR,hv⟩:=dO hb hR hv;go_enter Tryz.func122,Tryz.ntmps122;go_wp2_with fail;refine key.mono ?_;rintro e w1 ⟨_,rfl,b1,rfl⟩;have y2:w1.cell? ⟨g,2,none⟩=some (.map (some b)):=by rw[b1.cell jI];exact z2
 have HA:=(PW.below b1).HA hm hy hn;go_wp2;go_ret3;exact⟨_,_,_,rfl,b1,rfl,rfl,rfl⟩
theorem XN(r:Nat->Addr){B:Nat}{f:Names}{g b n:Nat}{sets:List (List Bool)}{sv:Value}{ed:List Value}{w:World}(hg:ck r w)(hR:Rows B w f)(hb:gB B w f g b n sets sv ed)(v:Value)(y:List Bool)(hv:aY w v (eD (bg y)))(hy:y.length=n)(hm:y∉sets)(h1:1<=n)(hn:n<=4096)(h4:sets.length=4096):
 Calls Tryz.prog 122 #[.pointer (some ⟨g,0,none⟩),v] w (vf (λx d e w'=>x=.int .i64 0/\d=.bool false/\bf r w' (fresh Mk 0 4) e) w):=by
 obtain⟨z0,z1,z2⟩:=hb.cells hR;obtain⟨k1,k2⟩:=ry hy h1 hn;have key:=FL v (bg y) w hv k1 k2 (qH y);have jI:=(hb.low hR).2;have PW:=hb.map;have ho:=hb.outer hR;have l1:=ho.len uT;have Wr:ed.length=4096:=by rw[hb.len,h4]
 rw[Wr] at l1;obtain⟨va,vn,vc,rfl⟩:∃a n c,sv=.slice a n c:=(by obtain⟨a,c,e,_⟩:=ho;exact⟨a,_,c,e⟩);replace⟨ho,hb,hR,hv,hg⟩:=mV ho hb hR hv hg;go_enter Tryz.func122,Tryz.ntmps122;go_wp2_with fail;refine key.mono ?_;rintro e w1 ⟨_,rfl,b1,rfl⟩;have y1:w1.cell? ⟨g,1,none⟩=some (.slice va vn vc):=by rw[b1.cell jI];exact z1
 have y2:w1.cell? ⟨g,2,none⟩=some (.map (some b)):=by rw[b1.cell jI];exact z2
 obtain⟨u,sK⟩:=(PW.below b1).sK hm hy hn;have wN:=Hd (hg.out.below b1);go_wp2_with fail;refine(P4 r 0 4 _ wN.out (by decide) (by decide)).mono ?_;rintro e w2 ⟨x,rfl,b2,he⟩;have mw:=Below.step b1 b2;obtain⟨T,a,rfl⟩:=bf.bX he;replace he:=Hd he;go_wp2;go_ret3;exact⟨_,_,_,rfl,mw,rfl,rfl,he.out⟩
theorem Rows.pO{B:Nat}{w:World}{f:Names}{i:Nat×Nat}{r:Row}{b:Nat}{es:Array MapEntry}{c:Nat}(h:Rows B w f)(hi:f i=some r)(hb:w.heap[b]?=some (.map es c)):r.v.ownBlock≠some b:=by
 have ho:=h.1 i r hi;rcases ho.2 with ⟨e,_⟩ | ⟨g,cap,cur,e,_,hh,_⟩;.rw[e];intro q;cases q
 .rw[e];intro q;have:g=b:=by injection q
  subst this;rw[hh] at hb;cases hb
theorem gB.more{B:Nat}{w w':World}{f f3:Names}{g b n:Nat}{sets:List (List Bool)}{sv sv' v:Value}{ed:List Value}{y:List Bool}(h:gB B w f g b n sets sv ed)(hR:Rows B w' f3)(e20:f3 (20,0)=some (Yz 206 g [.int .i64 n,sv',.map (some b)]))(e21:f3 (21,0)=some (bY 207 sv' (ed++[v])))(e22:∀i,f3 (22,i)=f (22,i))(Tr:f3 (23,0)=some (bY 225 v (eD (bg y))))(hy:y.length=n)(hm:gy w' b n (sets++[y])):
 ∃f',Rows B w' f'/\gB B w' f' g b n (sets++[y]) sv' (ed++[v])/\∀j:Nat×Nat,j.1≠22->j.1≠23->f' j=f3 j:=by
 have aO:=hR.1 _ _ Tr;have Hn:=hR.move (j:=(22,sets.length)) Tr aO rfl;have ll:=h.len;refine⟨_,Hn,⟨?_,?_,by simp[ll],λi hi=>?_,λx hx=>?_,hm,h.vq⟩,λj h1 h2=>?_⟩;.rw[ad _ _ (by intro e;cases e),ad _ _ (by intro e;cases e)];exact e20
 .rw[ad _ _ (by intro e;cases e),ad _ _ (by intro e;cases e)];exact e21
 .rw[List.length_append,List.length_singleton] at hi;by_cases c:i=sets.length
  .subst c;have a1:(ed++[v]).getD sets.length .nilIface=v:=by rw[<-ll];simp[List.getD]
   have a2:(sets++[y]).getD sets.length []=y:=by simp[List.getD]
   rw[ah,a1,a2]
  .have Au:i<sets.length:=by omega
   have a1:(ed++[v]).getD i .nilIface=ed.getD i .nilIface:=by simp[List.getD,List.getElem?_append_left (show i<ed.length by omega)]
   have a2:(sets++[y]).getD i []=sets.getD i []:=by simp[List.getD,List.getElem?_append_left Au]
   rw[ad _ _ (by intro e;injection e with _ e;exact c e),ad _ _ (by intro e;cases e),a1,a2,e22];exact h.each i Au
 .rcases List.mem_append.1 hx with hx | hx;.exact h.all x hx
  .rw[List.mem_singleton] at hx;rw[hx];exact hy
 .rw[ad _ _ (by intro e;exact h1 (by rw[e])),ad _ _ (by intro e;exact h2 (by rw[e]))]
def Fs(B:Nat)(f:Names)(g b n:Nat)(sets:List (List Bool))(ed:List Value)(v:Value)(y:List Bool)(m:Nat)(w:World)(e:Ending)(w':World):Prop :=
 e=.returned (.tuple #[.int .i64 (m:Nat),.bool true,.nilIface])/\Below B w w'/\∃f' sv',Rows B w' f'/\gB B w' f' g b n (sets++[y]) sv' (ed++[v])/\∀j:Nat×Nat,j.1≠20->j.1≠21->j.1≠22->j.1≠23->f' j=f j
theorem Xk{B:Nat}{f:Names}{g b n:Nat}{sets:List (List Bool)}{sv:Value}{ed:List Value}{w:World}(hR:Rows B w f)(hb:gB B w f g b n sets sv ed)(v:Value)(y:List Bool)(hi:f (23,0)=some (bY 225 v (eD (bg y))))(hy:y.length=n)(hm:y∉sets)(h1:1<=n)(hn:n<=4096)(h4:sets.length<4096):
 Calls Tryz.prog 122 #[.pointer (some ⟨g,0,none⟩),v] w (Fs B f g b n sets ed v y sets.length w):=by
 obtain⟨z0,z1,z2⟩:=hb.cells hR;obtain⟨k1,k2⟩:=ry hy h1 hn;have hv:=(hR.ff hi).at;obtain⟨ua,un,uc,rfl⟩:=(hR.ff hi).shape;have key:=FL _ (bg y) w hv k1 k2 (qH y);obtain⟨Hy,jI⟩:=hb.low hR;have PW:=hb.map;have ho:=hb.outer hR;have hlen:=hb.len;have l1:=ho.len uT;obtain⟨va,vn,vc,rfl⟩:=(hR.ff hb.out).shape;replace⟨ho,hb,hR,hv⟩:=gF ho hb hR hv;obtain⟨m,hm0⟩:=Ex sets.length;rw[hm0] at hlen h4 ⊢;rw[hlen] at l1;have d4:decide ((m:Int)=4096)=false:=decide_eq_false (by omega);go_enter Tryz.func122,Tryz.ntmps122;go_wp2_with fail;refine key.mono ?_;rintro e w1 ⟨_,rfl,b1,rfl⟩;have y1:w1.cell? ⟨g,1,none⟩=some (.slice va vn vc):=by rw[b1.cell jI];exact z1
 have y2:w1.cell? ⟨g,2,none⟩=some (.map (some b)):=by rw[b1.cell jI];exact z2
 have Nf:=PW.below b1;obtain⟨u,sK⟩:=Nf.sK hm hy hn;have sR:=hR.out.below b1;obtain⟨w2,mT,NU,g2⟩:=Nf.store hm hy hn hb.out.all (by omega);rw[hm0] at mT;obtain⟨es,cl,ve⟩:=Nf.vq;have gX:=sR.mapB ve g2;have B2:Below B w1 w2:=(Below.refl _ _).grown g2 (Nat.le_trans (Nat.le_of_lt (Nat.lt_of_le_of_lt Hy jI)) b1.size) (by intro k hk;injection hk with hk;subst hk;exact hb.out.vq);have x0:w2.cell? ⟨g,0,none⟩=some (.int .i64 n):=gX.cell hb.out.box (g:=g) (cap:=1) rfl 0 (show 0<1*3 by decide);have x1:w2.cell? ⟨g,1,none⟩=some (.slice va vn vc):=gX.cell hb.out.box (g:=g) (cap:=1) rfl 1 (show 1<1*3 by decide);have x2:w2.cell? ⟨g,2,none⟩=some (.map (some b)):=gX.cell hb.out.box (g:=g) (cap:=1) rfl 2 (show 2<1*3 by decide);have hB2s:B<=w2.heap.size:=Nat.le_trans (Nat.le_of_lt (Nat.lt_of_le_of_lt Hy jI)) (Nat.le_trans b1.size B2.size);obtain⟨es2,cl2,Ue⟩:=NU.vq;have sD:ed.length<4398046511104:=by omega
 have mw:Below B w w2:=(b1.mono (Nat.le_of_lt (Nat.lt_of_le_of_lt Hy jI))).trans B2;replace⟨NU,Ue,ve,mw,hi⟩:=mV NU Ue ve mw hi;clear PW Nf sR B2 key;go_wp2_with (at_builtin;go_loud (refine qS uT rfl _ _ rfl gX (21,0) (.slice va vn vc) ed hb.out.out (.slice ua un uc) rfl rfl rfl sD hB2s ?_));intro v' w3 f3 kK i3 o3 B3 qJ;obtain⟨row,g3,dK⟩:=qJ;obtain⟨xa,xn,xc,rfl⟩:=(kK.ff i3).shape;have Th:=NU.out.kept g3 (λe=>gX.pO hb.out.out Ue.out (dK b e.symm));have e20:f3 (20,0)=some (Yz 206 g [.int .i64 n,.slice va vn vc,.map (some b)]):=(o3 _ (by intro e;cases e)).trans hb.out.box;have t1:w3.cell? ⟨g,1,none⟩=some (.slice va vn vc):=kK.cell e20 (g:=g) (cap:=1) rfl 1 (show 1<1*3 by decide);have t2:=kK.frozen e20 (g:=g) (cap:=1) rfl 1;obtain⟨es3,cl3,Aa⟩:=Th.vq;have rq:=kK.set e20 (g:=g) (cap:=1) rfl 1 (.slice xa xn xc);have g4:w3.grownBy (w3.setCell ⟨g,1,none⟩ (.slice xa xn xc)) (some g):=(World.ownsRow.stored (kK.1 _ _ e20) 1 (.slice xa xn xc)).2;have Zw:=Th.kept g4 (λe=>kK.pO e20 Aa (by injection e with e;rw[e];rfl));have aX:=hb.out.more rq (sv':=.slice xa xn xc) (v:=.slice ua un uc) (y:=y) (by rw[ah];rfl) (by rw[ad _ _ (by intro e;cases e)];exact i3) (λi=>by rw[ad _ _ (by intro e;cases e)];exact o3 _ (by intro e;cases e)) (by rw[ad _ _ (by intro e;cases e),o3 _ (by intro e;cases e)];exact hi.out) hy Zw;have sH:=mw.out.trans (B3.setCell (show B<=(⟨g,1,none⟩:Addr).block from Hy) (.slice xa xn xc));obtain⟨f5,qj,Ai,o5⟩:=aX;have o6:∀j:Nat×Nat,j.1≠20->j.1≠21->j.1≠22->j.1≠23->f5 j=f j:=λj h20 h21 h22 h23=>by
  rw[o5 j h22 h23,ad _ _ (by intro e;exact h20 (by rw[e])),o3 j (by intro e;exact h21 (by rw[e]))]
 replace⟨Ai,qj,sH⟩:=dO Ai qj sH;clear rq Th Zw Aa kK gX B3 g3 g4 i3 o3;go_wp2;go_ret3;exact⟨rfl,sH.out,f5,_,qj.out,Ai.out,o6⟩
theorem IQ{B:Nat}{f:Names}{g b n:Nat}{sets:List (List Bool)}{sv:Value}{ed:List Value}{w:World}(hR:Rows B w f)(hb:gB B w f g b n sets sv ed)(v:Value)(xs:List Nat)(h:ae w v (nI xs))(hx:∀x∈xs,x<n)(rU:xs.length<=100000)(hm:setOf n xs∈sets)(h1:1<=n)(hn:n<=4096):
 Calls Tryz.prog 75 #[.pointer (some ⟨g,0,none⟩),v] w (vf (λx d e _=>x=.int .i64 (sets.idxOf (setOf n xs):Nat)/\d=.bool false/\e=.nilIface) w):=by
 obtain⟨z0,z1,z2⟩:=hb.cells hR;have J0:=CP n g v xs w z0 h hx rU h1 hn;obtain⟨va,vn,vc,rfl⟩:=h.shape;replace⟨hb,hR,h⟩:=dO hb hR h;go_enter Tryz.func75,Tryz.ntmps75;go_wp2_with fail;refine J0.mono ?_;rintro e w1 ⟨x,_,rfl,b1,rfl,ho⟩;have oz:=Yo (hR.out.below b1) (hb.out.below b1) x (setOf n xs) ho.at (j8 _ _) hm h1 hn;obtain⟨xa,xn,xc,rfl⟩:=ho.shape;replace ho:=Hd ho;go_wp2_with fail;refine oz.mono ?_;rintro e w2 ⟨_,_,_,rfl,b2,rfl,rfl,rfl⟩;have mw:=Below.step b1 b2;go_wp2;go_ret3;exact⟨_,_,_,rfl,mw,rfl,rfl,rfl⟩
theorem HG(r:Nat->Addr){B:Nat}{f:Names}{g b n:Nat}{sets:List (List Bool)}{sv:Value}{ed:List Value}{w:World}(hg:ck r w)(hR:Rows B w f)(hb:gB B w f g b n sets sv ed)(v:Value)(xs:List Nat)(h:ae w v (nI xs))(hx:∀x∈xs,x<n)(rU:xs.length<=100000)(hm:setOf n xs∉sets)(h1:1<=n)(hn:n<=4096)(h4:sets.length=4096):
 Calls Tryz.prog 75 #[.pointer (some ⟨g,0,none⟩),v] w (vf (λx d e w'=>x=.int .i64 0/\d=.bool false/\bf r w' (fresh Mk 0 4) e) w):=by
 obtain⟨z0,z1,z2⟩:=hb.cells hR;have J0:=CP n g v xs w z0 h hx rU h1 hn;obtain⟨va,vn,vc,rfl⟩:=h.shape;replace⟨hb,hR,h,hg⟩:=gF hb hR h hg;go_enter Tryz.func75,Tryz.ntmps75;go_wp2_with fail;refine J0.mono ?_;rintro e w1 ⟨x,_,rfl,b1,rfl,ho⟩;have oz:=XN r (hg.out.below b1) (hR.out.below b1) (hb.out.below b1) x (setOf n xs) ho.at (j8 _ _) hm h1 hn h4;obtain⟨xa,xn,xc,rfl⟩:=ho.shape;replace ho:=Hd ho;go_wp2_with fail;refine oz.mono ?_;rintro e w2 ⟨_,_,_,rfl,b2,rfl,rfl,he⟩;have mw:=Below.step b1 b2;obtain⟨T,a,rfl⟩:=bf.bX he;replace he:=Hd he;go_wp2;go_ret3;exact⟨_,_,_,rfl,mw,rfl,rfl,he.out⟩
theorem zI{B:Nat}{f:Names}{g b n:Nat}{sets:List (List Bool)}{sv:Value}{ed:List Value}{w:World}(hR:Rows B w f)(hb:gB B w f g b n sets sv ed)(v:Value)(xs:List Nat)(h:ae w v (nI xs))(hx:∀x∈xs,x<n)(rU:xs.length<=100000)(hm:setOf n xs∉sets)(h1:1<=n)(hn:n<=4096)(h4:sets.length<4096):
 Calls Tryz.prog 75 #[.pointer (some ⟨g,0,none⟩),v] w (λe w'=>∃u,Fs B f g b n sets ed u (setOf n xs) sets.length w e w'):=by
 obtain⟨z0,z1,z2⟩:=hb.cells hR;have Hy:=(hb.low hR);have J0:=CP n g v xs w z0 h hx rU h1 hn;obtain⟨va,vn,vc,rfl⟩:=h.shape;replace⟨hb,hR,h⟩:=dO hb hR h;go_enter Tryz.func75,Tryz.ntmps75;go_wp2_with fail;refine J0.mono ?_;rintro e w1 ⟨x,_,rfl,b1,rfl,ho⟩;have U8:B<=w.heap.size:=by omega
 have sR:=hR.out.add (i:=(23,0)) (r':=bY 225 x (eD (bg (setOf n xs)))) b1 (ho.mono U8) (λk hk=>(ho.lt k hk).1);have kZ:=(hb.out.below b1).congr (f':=ch f (23,0) (some (bY 225 x (eD (bg (setOf n xs)))))) (λi hi=>ad _ _ (by intro e;subst e;rcases hi with q | q | q<;>cases q));have oz:=Xk sR kZ x (setOf n xs) (ah _ _ _) (j8 _ _) hm h1 hn h4;obtain⟨xa,xn,xc,rfl⟩:=ho.shape;replace⟨ho,sR,kZ⟩:=dO ho sR kZ;go_wp2_with fail;refine oz.mono ?_;rintro e w2 ⟨rfl,b2,f2,sv2,gX,ij,o2⟩;have aX:Fs B f g b n sets ed (.slice xa xn xc) (setOf n xs) sets.length w (.returned (.tuple #[.int .i64 (sets.length:Nat),.bool true,.nilIface])) w2 :=
  ⟨rfl,(b1.mono U8).trans b2,f2,sv2,gX,ij,λj a1 a2 a3 a4=>by rw[o2 j a1 a2 a3 a4,ad _ _ (by intro e;exact a4 (by rw[e]))]⟩;replace aX:=Hd aX;clear gX ij o2;go_wp2;go_ret3;exact⟨_,aX.out⟩
theorem Ys(g:Nat)(sv:Value)(ed:List Value)(w:World)(c1:w.cell? ⟨g,1,none⟩=some sv)(h:aY w sv ed):
 Calls Tryz.prog 76 #[.pointer (some ⟨g,0,none⟩)] w λe w'=>e=.returned (.int .i64 (ed.length:Nat))/\w=w':=by
 have l1:=h.len uT;obtain⟨va,vn,vc,rfl⟩:∃a n c,sv=.slice a n c:=(by obtain⟨a,c,e,_⟩:=h;exact⟨a,_,c,e⟩);replace h:=Hd h;go_enter Tryz.func76,Tryz.ntmps76;go_wp2;go_ret;exact⟨rfl,rfl⟩
def NI(B:Nat)(f:Names)(n:Nat)(w:World)(e:Ending)(w':World):Prop :=
 ∃g,e=.returned (.tuple #[.pointer (some ⟨g,0,none⟩),.nilIface])/\Below w.heap.size w w'/\w.heap.size<=g/\∃b f',Rows B w' f'/\gB B w' f' g b n [] (.slice none 0 0) []/\∀j:Nat×Nat,j.1≠20->j.1≠21->f' j=f j
theorem YG(B:Nat)(f:Names)(n:Nat)(w:World)(hR:Rows B w f)(hB:B<=w.heap.size)(hn:n<=8192):
 Calls Tryz.prog 74 #[.int .i64 n] w (NI B f n w):=by
 have d1:decide ((n:Int)<0)=false:=decide_eq_false (by omega);have d2:decide ((n:Int)>8192)=false:=decide_eq_false (by omega);have sR:=hR.below (ab w (.map #[] 0));have gX:=sR.add (i:=(20,0)) (r':=Yz 206 (w.heap.size+1) [.int .i64 n,.slice none 0 0,.map (some w.heap.size)]) (ab _ (.cells #[.int .i64 n,.slice none 0 0,.map (some w.heap.size)] 206))
  (by
    have:=World.ownsRow_lit (base:=B) (e:=206) (size:=3) (w.alloc (.map #[] 0)) #[.int .i64 n,.slice none 0 0,.map (some w.heap.size)] 1 (by simp;omega) (by decide) rfl;unfold Row.own;simpa using this) (λk hk=>by cases hk;simp);have kK:=gX.add (i:=(21,0)) (r':=bY 207 (.slice none 0 0) []) (Below.refl _ _) (aZ.nil _ _ _) (λk hk=>by cases hk);have hm:=(gy.made w n).below (ab _ (.cells #[.int .i64 n,.slice none 0 0,.map (some w.heap.size)] 206));have aX:NI B f n w (.returned (.tuple #[.pointer (some ⟨w.heap.size+1,0,none⟩),.nilIface])) ((w.alloc (.map #[] 0)).alloc (.cells #[.int .i64 n,.slice none 0 0,.map (some w.heap.size)] 206)):=by
  refine⟨_,rfl,Below.step (ab w _) (ab _ _),Nat.le_succ _,w.heap.size,_,kK,⟨?_,ah _ _ _,rfl,λi hi=>absurd hi (Nat.not_lt_zero _),λx hx=>(by cases hx),hm,hB⟩,λj h1 h2=>?_⟩;.rw[ad _ _ (by intro e;cases e),ah]
  .rw[ad _ _ (by intro e;exact h2 (by rw[e])),ad _ _ (by intro e;exact h1 (by rw[e]))]
 have mkm:(Instr.makeMap 187 none).run Tryz.prog w=.ok (.map (some w.heap.size)) (w.alloc (.map #[] 0)):=rfl;replace aX:=Hd aX;clear sR gX kK hm;go_enter Tryz.func74,Tryz.ntmps74;go_wp2;go_ret2;exact aX.out
end Go.Proofs.YtgjfejfeoofkhaaGreatDoor
