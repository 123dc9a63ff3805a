/- Lemmas. -/
import Derived.Test.YtjlkljmickcacaaGreatDoorMba
namespace Go.Proofs.YtjlkljmickcacaaGreatDoor
open Go.RowKit
set_option linter.unusedVariables false
set_option linter.unusedSimpArgs false
set_option maxHeartbeats 16000000
open _root_.Go.Proofs.Tryz
set_option maxRecDepth 20000
theorem QCw{p:Prop}(h:p:=by
 exact((((((((HP.o.set qo).set qo).set qo).set qo).set qo).set qo).set qo).set qo)):p:=h
theorem QCo{p:Prop}(h:p:=by
 exact cY.end (((((((((HK.o.set qo).set qo).set qo).set qo).set qo).set qo).set qo).set qo))):p:=h
theorem QAP{p:Prop}(h:p:=by
 exact aH.more aO (aH.set aO (aH.set aO (aH.set aO (aH.set aO (aH.set aO (aH.set aO (aH.set aO (aH.set aO (HSo.o) qh) qh) qh) qh) qh) qh) qh) qh) (fun b hb=>by have:=hb.1;show w.heap.size<=b;omega)):p:=h
theorem QAO{p:Prop}(h:p:=by
 exact aH.more aS (aH.set aS (aH.set aS (aH.set aS (aH.set aS (aH.set aS (aH.set aS (aH.set aS (aH.set aS (HSt.o) qh) qh) qh) qh) qh) qh) qh) qh) (fun b hb=>by have:=hb.1;show w.heap.size<=b;omega)):p:=h
def vL(L:List Tok):Nat->PS->List Po×PS
 |0,p=>gQ L (fun q=>(mJ,q)) true L.length [] p
 |n+1,p=>gQ L (cO L n) false L.length [] p
theorem El(L:List Tok)(n:Nat)(p:PS)(h:(aZ L [str "policy",str "set"] p).1=2):cO L n p=
 (.mk (bT L (aZ L [str "policy",str "set"] p).2).1 true (aZ L dI (bT L (aZ L [str "policy",str "set"] p).2).2).1 (bU L (aZ L dI (bT L (aZ L [str "policy",str "set"] p).2).2).2).1 [] (vL L n (eJ L rH (bU L (aZ L dI (bT L (aZ L [str "policy",str "set"] p).2).2).2).2)).1 (gP L (eJ L yN (vL L n (eJ L rH (bU L (aZ L dI (bT L (aZ L [str "policy",str "set"] p).2).2).2).2)).2)).1,
  (gP L (eJ L yN (vL L n (eJ L rH (bU L (aZ L dI (bT L (aZ L [str "policy",str "set"] p).2).2).2).2)).2)).2):=by
 cases n with
 |zero=>
  unfold cO vL;dsimp only;rw[dX h,iP rfl]
 |succ n=>
  unfold cO vL;dsimp only;rw[dX h,iP rfl]
theorem VQ(L:List Tok)(n:Nat)(p:PS)(h:(aZ L [str "policy",str "set"] p).1≠2):cO L n p=
 (.mk (bT L (aZ L [str "policy",str "set"] p).2).1 false (aZ L dI (bT L (aZ L [str "policy",str "set"] p).2).2).1 (bU L (aZ L dI (bT L (aZ L [str "policy",str "set"] p).2).2).2).1 (iL L L.length [] (eJ L rH (bU L (aZ L dI (bT L (aZ L [str "policy",str "set"] p).2).2).2).2)).1 [] (gP L (eJ L yN (iL L L.length [] (eJ L rH (bU L (aZ L dI (bT L (aZ L [str "policy",str "set"] p).2).2).2).2)).2)).1,
  (gP L (eJ L yN (iL L L.length [] (eJ L rH (bU L (aZ L dI (bT L (aZ L [str "policy",str "set"] p).2).2).2).2)).2)).2):=by
 cases n with
 |zero=>
  unfold cO;dsimp only;rw[dF h,iN qe]
 |succ n=>
  unfold cO;dsimp only;rw[dF h,iN qe]
theorem Ka{L:List Tok}(T:Toks L)(n:Nat){p:PS}(h:p.at_<L.length):dM L p (vL L n p).2:=by
 cases n with
 |zero=>exact rB (one:=fun q=>(mJ,q)) (fun h=>dM.refl h) true L.length [] h
 |succ n=>exact rB (one:=cO L n) (rZ T n) false L.length [] h
def Ql(L:List Tok)(n:Nat):Prop:=∀(d:Int),d=5 - (n:Int)->∀p g w,p.at_<L.length->p.aDq<=64->PW L w g p->
 Calls prog 154 #[.pointer (some ⟨g,0,none⟩),.int .i64 d] w (iM (qM n) L g w (vL L n p).1 (vL L n p).2)
abbrev alW:Array Value:=#[.string ⟨#[100,101,110,121,111,118,101,114]⟩,.string ⟨#[112,101,114,109,105,116,111,118,101,114]⟩,.string ⟨#[102,105,114,115,116]⟩,.string ⟨#[111,110,108,121]⟩,.string ⟨#[100,101,110,121,117,110,108,101,115,115]⟩,.string ⟨#[112,101,114,109,105,116,117,110,108,101,115,115]⟩]
theorem GP{L:List Tok}{n:Nat}(hn:n<=3)(T:Toks L)(S:Ql L n){p:PS}(d:Int)(hd:d=4 - (n:Int))(hp:p.at_<L.length)(af:p.aDq<=64)(g:Nat)(w:World)(h:PW L w g p)(Q:(aZ L [str "policy",str "set"] p).1=2):
 Calls prog 91 #[.pointer (some ⟨g,0,none⟩),.int .i64 d] w (wU n L g w (cO L n p).1 (cO L n p).2):=by
 have hL:=T.len;have aq:=h.lt;have HP:=aA h;have m1:=dU T [str "policy",str "set"] hp;have m2:=jK T m1.lt;have m3:=dU T dI m2.lt;have m4:=mB T m3.lt;have m5:=gC T rH m4.lt;have m15:=m1.trans (m2.trans (m3.trans (m4.trans m5)));have U:=m15.aD9 af;have m6:=Ka T n m5.lt;have m7:=gC T yN m6.lt;have I:=aA (fun a c w h hw=>nM T [str "policy",str "set"] a c 2 rfl qe hp g w h hw);have R:=aA (fun w h=>rL T m1.lt g w h);have J:=aA (fun a c w h hw=>nM T dI a c 6 rfl qe m2.lt g w h hw);have P:=aA (fun w h=>tU T m3.lt g w h);have O:=aA (fun w h=>mN T rH m4.lt g w h);have K:=aA (fun w h=>S (d+1) qo (eJ L rH (bU L (aZ L dI (bT L (aZ L [str "policy",str "set"] p).2).2).2).2) g w m5.lt U h);have N:=aA (fun w h=>mN T yN m6.lt g w h);have M:=aA (fun w h=>vF T m7.lt g w h);have ab:=aA (rP T m1.lt);have aa:=aA (nX (L:=L) dI (bT L (aZ L [str "policy",str "set"] p).2).2);have d1:1<=d:=qo;have d2:d<=4:=qo;rw[El L n p Q];unfold wU;unfold iM at P M K;clear h m1 m2 m3 m4 m5 m6 m7 m15 U S hd;generalize aZ L [str "policy",str "set"] p=V at *;generalize bT L V.2=W at *;generalize aZ L dI W.2=H at *;generalize bU L H.2=X at *;generalize eJ L rH X.2=p5 at *;generalize vL L n p5=Y at *;generalize eJ L yN Y.2=p7 at *;generalize gP L p7=r8 at *;rw[wG,JZ] at I;rw[show dI=[⟨#[100,101,110,121,111,118,101,114]⟩,⟨#[112,101,114,109,105,116,111,118,101,114]⟩,⟨#[102,105,114,115,116]⟩,⟨#[111,110,108,121]⟩,⟨#[100,101,110,121,117,110,108,101,115,115]⟩,⟨#[112,101,114,109,105,116,117,110,108,101,115,115]⟩] from by kernel_rfl] at J
 rw[TL] at O;rw[TM] at N;have ao:(V.1==2)=true:=bQ.2 Q;clear Q;dsimp only;go_enter func91,ntmps91;have HK:=aA (cY.refl w.heap.size g w);go_wp2_with fail;refine(I.o _ _ _ (HP.o.alloc.alloc.alloc) (nN _ _ _ _ _ qs rfl)).mono ?_;rintro e w1 ⟨rfl,k,f⟩;obtain⟨j,i,l,HK,HP⟩:=gH (aF (aE (aE (aK _ _ _ qs) (aB _ _)) (aB _ _)) f qo:w1.heap[w.heap.size]? =some (.cells wM 36 (0,0))) (aF (aE (aK _ _ _ qs) (aB _ _)) f qo:w1.heap[w.heap.size+1]? =some (.cells wM 36 (0,0))) (aF (aK _ _ _ qs) f qo:w1.heap[w.heap.size+2]? =some (.cells #[.string ⟨#[112,111,108,105,99,121]⟩,.string ⟨#[115,101,116]⟩] 9 (0,0))) (HK.o.alloc.alloc.alloc.aDF f) k;clear k f;have bf:=aD j.o;have bp:=aD i.o;have ar:=aD l.o;have bz:=HP.o.lt;clear I;obtain⟨⟨o,q,r,s,t,v,x⟩,y,z,A,B,C,D,E⟩:=bI i.o;go_wp2_with fail;refine(R.o _ ((HP.o.set qo))).mono ?_;rintro e w2 ⟨rfl,k,f⟩;obtain⟨j,i,l,HK,HP⟩:=gH (aF (bE (j.o) qo) f qo) (aF (Sx (i.o) _) f qo) (aF (bE (l.o) qo) f qo) ((HK.o.set qo).aDF f) k;clear k f o q r s t v x y z A B C D E;have bg:=aD j.o;have bq:=aD i.o;have au:=aD l.o;have b0:=HP.o.lt;clear R;obtain⟨⟨o,q,r,s,t,v,x⟩,y,z,A,B,C,D,E⟩:=bI i.o;go_wp2_with fail;refine(J.o _ _ _ ((HP.o.set qo).alloc) (nN _ _ _ _ _ qs rfl)).mono ?_;rintro e w3 ⟨rfl,k,f⟩;obtain⟨j,i,l,m,HK,HP⟩:=hD6 (aF (aE (bE (j.o) qo) (aB _ _)) f qo) (aF (aE (Sw (i.o) _) (aB _ _)) f qo) (aF (aE (bE (l.o) qo) (aB _ _)) f qo) (aF (aK _ _ _ qs) f qo:w3.heap[w2.heap.size]? =some (.cells alW 9 (0,0))) ((HK.o.set qo).alloc.aDF f) k;clear k f o q r s t v x y z A B C D E
 have bh:=aD j.o;have br:=aD i.o;have av:=aD l.o;have a6:=aD m.o;have b1:=HP.o.lt;clear J;obtain⟨⟨o,q,r,s,t,v,x⟩,y,z,A,B,C,D,E⟩:=bI i.o;go_wp2_with fail;refine(P.o _ ((HP.o.set qo))).mono ?_;rintro e w4 ⟨Z,rfl,F,k,f⟩;obtain⟨ta,tc,rfl,tl⟩:=F.slice;obtain⟨j,i,l,m,HK,HP⟩:=hD6 (aF (bE (j.o) qo) f qo) (aF (Sy (i.o) _) f qo) (aF (bE (l.o) qo) f qo) (aF (bE (m.o) qo) f qo) ((HK.o.set qo).aDF f) k;clear k f o q r s t v x y z A B C D E;have bj:=aD j.o;have bs:=aD i.o;have aw:=aD l.o;have a7:=aD m.o;have b2:=HP.o.lt;have HSt:=aA (aH.more aS (aH.inb aS F) (ok':=fun b=>w.heap.size<b/\b≠w.heap.size+1) (fun b hb=>by have h1:=hb.1;(try simp only[World.setCell,Array.size_modify] at h1);have h3:w3.heap.size<=b:=h1;exact⟨by show w.heap.size<b;omega,by show b≠w.heap.size+1;omega⟩));clear F;clear P;obtain⟨⟨o,q,r,s,t,v,x⟩,y,z,A,B,C,D,E⟩:=bI i.o;go_wp2_with fail;refine(O.o _ ((HP.o.set qo))).mono ?_;rintro e w5 ⟨rfl,k,f⟩;obtain⟨j,i,l,m,HK,HP⟩:=hD6 (aF (bE (j.o) qo) f qo) (aF (KC (i.o) _) f qo) (aF (bE (l.o) qo) f qo) (aF (bE (m.o) qo) f qo) ((HK.o.set qo).aDF f) k;have HSt:=aA (aH.aDF aS (aH.set aS (HSt.o) qh) f qh);clear k f o q r s t v x y z A B C D E;have bk:=aD j.o;have bt:=aD i.o;have ax:=aD l.o;have a8:=aD m.o;have b3:=HP.o.lt;clear O;obtain⟨⟨o,q,r,s,t,v,x⟩,y,z,A,B,C,D,E⟩:=bI i.o;go_wp2_with fail;refine(K.o _ (HP.o)).mono ?_;rintro e w6 ⟨Z,rfl,F,k,f⟩;obtain⟨ba,bc,rfl,bl⟩:=F.slice;obtain⟨j,i,l,m,HK,HP⟩:=hD6 (aF (j.o) f qo) (aF (i.o) f qo) (aF (l.o) f qo) (aF (m.o) f qo) (HK.o.aDF f) k
 have HSt:=aA (aH.aDF aS (HSt.o) f qh);clear k f o q r s t v x y z A B C D E;have bm:=aD j.o;have bu:=aD i.o;have ay:=aD l.o;have bb:=aD m.o;have b4:=HP.o.lt;have G:=aA (aH.more (bB n) (aH.inb (bB n) F) (ok':=fun b=>w.heap.size<b/\b≠w.heap.size+1) (fun b hb=>by have h1:=hb.1;(try simp only[World.setCell,Array.size_modify] at h1);have h3:w5.heap.size<=b:=h1;exact⟨by show w.heap.size<b;omega,by show b≠w.heap.size+1;omega⟩));clear F;clear K;obtain⟨⟨o,q,r,s,t,v,x⟩,y,z,A,B,C,D,E⟩:=bI i.o;go_wp2_with fail;refine(N.o _ ((HP.o.set qo))).mono ?_;rintro e w7 ⟨rfl,k,f⟩;obtain⟨j,i,l,m,HK,HP⟩:=hD6 (aF (bE (j.o) qo) f qo) (aF (aAD (i.o) _) f qo) (aF (bE (l.o) qo) f qo) (aF (bE (m.o) qo) f qo) ((HK.o.set qo).aDF f) k;have HSt:=aA (aH.aDF aS (aH.set aS (HSt.o) qh) f qh);have G:=aA (aH.aDF (bB n) (aH.set (bB n) (G.o) qh) f qh);clear k f o q r s t v x y z A B C D E;have bn:=aD j.o;have bw:=aD i.o;have az:=aD l.o;have bd:=aD m.o;have b5:=HP.o.lt;clear N;go_wp2_with fail;refine(M.o _ (HP.o)).mono ?_;rintro e w8 ⟨Z,rfl,F,k,f⟩;obtain⟨oa,oc,rfl,ol⟩:=F.slice;obtain⟨j,i,l,m,HK,HP⟩:=hD6 (aF (j.o) f qo) (aF (i.o) f qo) (aF (l.o) f qo) (aF (m.o) f qo) (HK.o.aDF f) k;have HSt:=aA (aH.aDF aS (HSt.o) f qh);have G:=aA (aH.aDF (bB n) (G.o) f qh)
 clear k f;have bo:=aD j.o;have bx:=aD i.o;have a1:=aD l.o;have be:=aD m.o;have b6:=HP.o.lt;have HSo:=aA (aH.more aO (aH.inb aO F) (ok':=fun b=>w.heap.size<b/\b≠w.heap.size+1) (fun b hb=>by have h1:=hb.1;(try simp only[World.setCell,Array.size_modify] at h1);have h3:w7.heap.size<=b:=h1;exact⟨by show w.heap.size<b;omega,by show b≠w.heap.size+1;omega⟩));clear F;clear M;obtain⟨⟨o,q,r,s,t,v,x⟩,y,z,A,B,C,D,E⟩:=bI i.o;obtain⟨⟨R0,R1,R2,R3,R4,R5,R6⟩,ag,ah,ai,aj,ak,al,an⟩:=bI j.o;go_wp2;refine bR (.agg #[.string W.1,.bool true,.int .i64 H.1,.slice ta X.1.length tc,.slice none 0 0,.slice ba Y.1.length bc,.slice oa r8.1.length oc]) ?_;have ae:=aa.o;have ad:dI.length=6:=rfl;rw[ad] at ae;refine⟨_,_,_,_,rfl,⟨lT ab.o (by unfold cP;omega),by unfold bK;show _<=H.1/\H.1<=_;omega,?_,?_,?_,?_⟩,?_,?_⟩
 .exact QAO
 .exact aH.nil
 .exact aH.more (bB n) (aH.set (bB n) (aH.set (bB n) (aH.set (bB n) (aH.set (bB n) (aH.set (bB n) (aH.set (bB n) (aH.set (bB n) (aH.set (bB n) (G.o) qh) qh) qh) qh) qh) qh) qh) qh) (fun b hb=>by have:=hb.1;show w.heap.size<=b;omega)
 .exact QAP
 .exact QCw
 .exact QCo
theorem BQ{L:List Tok}{n:Nat}(hn:n<=3)(T:Toks L){p:PS}(d:Int)(hd:d=4 - (n:Int))(hp:p.at_<L.length)(af:p.aDq<=64)(g:Nat)(w:World)(h:PW L w g p)(Q:(aZ L [str "policy",str "set"] p).1≠2):
 Calls prog 91 #[.pointer (some ⟨g,0,none⟩),.int .i64 d] w (wU n L g w (cO L n p).1 (cO L n p).2):=by
 have hL:=T.len;have aq:=h.lt;have HP:=aA h;have m1:=dU T [str "policy",str "set"] hp;have m2:=jK T m1.lt;have m3:=dU T dI m2.lt;have m4:=mB T m3.lt;have m5:=gC T rH m4.lt;have m15:=m1.trans (m2.trans (m3.trans (m4.trans m5)));have S:=m15.aD9 af;have m6:=tA T L.length [] m5.lt;have m7:=gC T yN m6.lt;have I:=aA (fun a c w h hw=>nM T [str "policy",str "set"] a c 2 rfl qe hp g w h hw);have R:=aA (fun w h=>rL T m1.lt g w h);have J:=aA (fun a c w h hw=>nM T dI a c 6 rfl qe m2.lt g w h hw);have P:=aA (fun w h=>tU T m3.lt g w h);have O:=aA (fun w h=>mN T rH m4.lt g w h);have K:=aA (fun w h=>Qk T m5.lt S g w h);have N:=aA (fun w h=>mN T yN m6.lt g w h);have M:=aA (fun w h=>vF T m7.lt g w h);have ab:=aA (rP T m1.lt);have aa:=aA (nX (L:=L) dI (bT L (aZ L [str "policy",str "set"] p).2).2);have d1:1<=d:=qo;have d2:d<=4:=qo;rw[VQ L n p Q];unfold wU;unfold iM at P M K;clear h m1 m2 m3 m4 m5 m6 m7 m15 S hd;generalize aZ L [str "policy",str "set"] p=U at *;generalize bT L U.2=V at *;generalize aZ L dI V.2=H at *;generalize bU L H.2=W at *;generalize eJ L rH W.2=p5 at *;generalize iL L L.length [] p5=X at *;generalize eJ L yN X.2=p7 at *;generalize gP L p7=r8 at *;rw[wG,JZ] at I;rw[show dI=[⟨#[100,101,110,121,111,118,101,114]⟩,⟨#[112,101,114,109,105,116,111,118,101,114]⟩,⟨#[102,105,114,115,116]⟩,⟨#[111,110,108,121]⟩,⟨#[100,101,110,121,117,110,108,101,115,115]⟩,⟨#[112,101,114,109,105,116,117,110,108,101,115,115]⟩] from by kernel_rfl] at J;rw[TL] at O;rw[TM] at N;have ao:(U.1==2)=false:=bN.2 Q;clear Q
 dsimp only;go_enter func91,ntmps91;have HK:=aA (cY.refl w.heap.size g w);go_wp2_with fail;refine(I.o _ _ _ (HP.o.alloc.alloc.alloc) (nN _ _ _ _ _ qs rfl)).mono ?_;rintro e w1 ⟨rfl,k,f⟩;obtain⟨j,i,l,HK,HP⟩:=gH (aF (aE (aE (aK _ _ _ qs) (aB _ _)) (aB _ _)) f qo:w1.heap[w.heap.size]? =some (.cells wM 36 (0,0))) (aF (aE (aK _ _ _ qs) (aB _ _)) f qo:w1.heap[w.heap.size+1]? =some (.cells wM 36 (0,0))) (aF (aK _ _ _ qs) f qo:w1.heap[w.heap.size+2]? =some (.cells #[.string ⟨#[112,111,108,105,99,121]⟩,.string ⟨#[115,101,116]⟩] 9 (0,0))) (HK.o.alloc.alloc.alloc.aDF f) k;clear k f;have bf:=aD j.o;have bp:=aD i.o;have ar:=aD l.o;have bz:=HP.o.lt;clear I;obtain⟨⟨o,q,r,s,t,v,x⟩,y,z,A,B,C,D,E⟩:=bI i.o;go_wp2_with fail;refine(R.o _ ((HP.o.set qo))).mono ?_;rintro e w2 ⟨rfl,k,f⟩;obtain⟨j,i,l,HK,HP⟩:=gH (aF (bE (j.o) qo) f qo) (aF (Sx (i.o) _) f qo) (aF (bE (l.o) qo) f qo) ((HK.o.set qo).aDF f) k;clear k f o q r s t v x y z A B C D E;have bg:=aD j.o;have bq:=aD i.o;have au:=aD l.o;have b0:=HP.o.lt;clear R;obtain⟨⟨o,q,r,s,t,v,x⟩,y,z,A,B,C,D,E⟩:=bI i.o;go_wp2_with fail;refine(J.o _ _ _ ((HP.o.set qo).alloc) (nN _ _ _ _ _ qs rfl)).mono ?_;rintro e Z ⟨rfl,k,f⟩;obtain⟨j,i,l,m,HK,HP⟩:=hD6 (aF (aE (bE (j.o) qo) (aB _ _)) f qo) (aF (aE (Sw (i.o) _) (aB _ _)) f qo) (aF (aE (bE (l.o) qo) (aB _ _)) f qo) (aF (aK _ _ _ qs) f qo:Z.heap[w2.heap.size]? =some (.cells alW 9 (0,0))) ((HK.o.set qo).alloc.aDF f) k;clear k f o q r s t v x y z A B C D E;have bh:=aD j.o;have br:=aD i.o;have av:=aD l.o;have a6:=aD m.o
 have b1:=HP.o.lt;clear J;obtain⟨⟨o,q,r,s,t,v,x⟩,y,z,A,B,C,D,E⟩:=bI i.o;go_wp2_with fail;refine(P.o _ ((HP.o.set qo))).mono ?_;rintro e w4 ⟨Y,rfl,F,k,f⟩;obtain⟨ta,tc,rfl,tl⟩:=F.slice;obtain⟨j,i,l,m,HK,HP⟩:=hD6 (aF (bE (j.o) qo) f qo) (aF (Sy (i.o) _) f qo) (aF (bE (l.o) qo) f qo) (aF (bE (m.o) qo) f qo) ((HK.o.set qo).aDF f) k;clear k f o q r s t v x y z A B C D E;have bj:=aD j.o;have bs:=aD i.o;have aw:=aD l.o;have a7:=aD m.o;have b2:=HP.o.lt;have HSt:=aA (aH.more aS (aH.inb aS F) (ok':=fun b=>w.heap.size<b/\b≠w.heap.size+1) (fun b hb=>by have h1:=hb.1;(try simp only[World.setCell,Array.size_modify] at h1);have h3:Z.heap.size<=b:=h1;exact⟨by show w.heap.size<b;omega,by show b≠w.heap.size+1;omega⟩));clear F;clear P;obtain⟨⟨o,q,r,s,t,v,x⟩,y,z,A,B,C,D,E⟩:=bI i.o;go_wp2_with fail;refine(O.o _ ((HP.o.set qo))).mono ?_;rintro e w5 ⟨rfl,k,f⟩;obtain⟨j,i,l,m,HK,HP⟩:=hD6 (aF (bE (j.o) qo) f qo) (aF (KC (i.o) _) f qo) (aF (bE (l.o) qo) f qo) (aF (bE (m.o) qo) f qo) ((HK.o.set qo).aDF f) k;have HSt:=aA (aH.aDF aS (aH.set aS (HSt.o) qh) f qh);clear k f o q r s t v x y z A B C D E;have bk:=aD j.o;have bt:=aD i.o;have ax:=aD l.o;have a8:=aD m.o;have b3:=HP.o.lt;clear O;obtain⟨⟨o,q,r,s,t,v,x⟩,y,z,A,B,C,D,E⟩:=bI i.o;go_wp2_with fail;refine(K.o _ (HP.o)).mono ?_;rintro e w6 ⟨Y,rfl,F,k,f⟩;obtain⟨ba,bc,rfl,bl⟩:=F.slice;obtain⟨j,i,l,m,HK,HP⟩:=hD6 (aF (j.o) f qo) (aF (i.o) f qo) (aF (l.o) f qo) (aF (m.o) f qo) (HK.o.aDF f) k
 have HSt:=aA (aH.aDF aS (HSt.o) f qh);clear k f o q r s t v x y z A B C D E;have bm:=aD j.o;have bu:=aD i.o;have ay:=aD l.o;have bb:=aD m.o;have b4:=HP.o.lt;have G:=aA (aH.more bM (aH.inb bM F) (ok':=fun b=>w.heap.size<b/\b≠w.heap.size+1) (fun b hb=>by have h1:=hb.1;(try simp only[World.setCell,Array.size_modify] at h1);have h3:w5.heap.size<=b:=h1;exact⟨by show w.heap.size<b;omega,by show b≠w.heap.size+1;omega⟩));clear F;clear K;obtain⟨⟨o,q,r,s,t,v,x⟩,y,z,A,B,C,D,E⟩:=bI i.o;go_wp2_with fail;refine(N.o _ ((HP.o.set qo))).mono ?_;rintro e w7 ⟨rfl,k,f⟩;obtain⟨j,i,l,m,HK,HP⟩:=hD6 (aF (bE (j.o) qo) f qo) (aF (aAC (i.o) _) f qo) (aF (bE (l.o) qo) f qo) (aF (bE (m.o) qo) f qo) ((HK.o.set qo).aDF f) k;have HSt:=aA (aH.aDF aS (aH.set aS (HSt.o) qh) f qh);have G:=aA (aH.aDF bM (aH.set bM (G.o) qh) f qh);clear k f o q r s t v x y z A B C D E;have bn:=aD j.o;have bw:=aD i.o;have az:=aD l.o;have bd:=aD m.o;have b5:=HP.o.lt;clear N;go_wp2_with fail;refine(M.o _ (HP.o)).mono ?_;rintro e w8 ⟨Y,rfl,F,k,f⟩;obtain⟨oa,oc,rfl,ol⟩:=F.slice;obtain⟨j,i,l,m,HK,HP⟩:=hD6 (aF (j.o) f qo) (aF (i.o) f qo) (aF (l.o) f qo) (aF (m.o) f qo) (HK.o.aDF f) k;have HSt:=aA (aH.aDF aS (HSt.o) f qh);have G:=aA (aH.aDF bM (G.o) f qh);clear k f
 have bo:=aD j.o;have bx:=aD i.o;have a1:=aD l.o;have be:=aD m.o;have b6:=HP.o.lt;have HSo:=aA (aH.more aO (aH.inb aO F) (ok':=fun b=>w.heap.size<b/\b≠w.heap.size+1) (fun b hb=>by have h1:=hb.1;(try simp only[World.setCell,Array.size_modify] at h1);have h3:w7.heap.size<=b:=h1;exact⟨by show w.heap.size<b;omega,by show b≠w.heap.size+1;omega⟩));clear F;clear M;obtain⟨⟨o,q,r,s,t,v,x⟩,y,z,A,B,C,D,E⟩:=bI i.o;obtain⟨⟨R0,R1,R2,R3,R4,R5,R6⟩,ag,ah,ai,aj,ak,al,an⟩:=bI j.o;go_wp2;refine bR (.agg #[.string V.1,.bool false,.int .i64 H.1,.slice ta W.1.length tc,.slice ba X.1.length bc,.slice none 0 0,.slice oa r8.1.length oc]) ?_;have ae:=aa.o;have ad:dI.length=6:=rfl;rw[ad] at ae;refine⟨_,_,_,_,rfl,⟨lT ab.o (by unfold cP;omega),by unfold bK;show _<=H.1/\H.1<=_;omega,?_,?_,?_,?_⟩,?_,?_⟩
 .exact QAO
 .exact aH.more bM (aH.set bM (aH.set bM (aH.set bM (aH.set bM (aH.set bM (aH.set bM (aH.set bM (aH.set bM (G.o) qh) qh) qh) qh) qh) qh) qh) qh) (fun b hb=>by have:=hb.1;show w.heap.size<=b;omega)
 .exact aH.nil
 .exact QAP
 .exact QCw
 .exact QCo
theorem LB{L:List Tok}(T:Toks L)(M:AR L):∀n,n<=3->Zm L n
 |0,hn=>fun d a p g w hp b h=>by
  have e:Ql L 0:=fun d a p g w hp b h=>Jx T M d (by simpa using a) hp b g w h
  by_cases c:(aZ L [str "policy",str "set"] p).1=2
  .exact GP (n:=0) qo T e d a hp b g w h c
  .exact BQ (n:=0) qo T d a hp b g w h c
 |n+1,hn=>fun d a p g w hp b h=>by
  have e:Ql L (n+1):=fun d a p g w hp b h=>Jy T M (n:=n) qo (LB T M n qo) d (by rw[a];omega) hp b g w h
  by_cases c:(aZ L [str "policy",str "set"] p).1=2
  .exact GP hn T e d a hp b g w h c
  .exact BQ hn T d a hp b g w h c
theorem Zn{p:Prop}(h:p:=by
 go_enter func266,ntmps266;go_wp2;go_ret;exact⟨rfl,rfl⟩):p:=h
theorem GQ(a:At)(d:BZ a)(w:World):Calls prog 283 #[oP a] w (aP (.bool (yO a)) w):=by
 unfold aP oP yO;have c:=aA (fun w=>oX a.name (by have:=d.2;unfold cP at this;unfold maxLen;omega) w);generalize eM a.name=b at *;go_enter func283,ntmps283;go_wp2_with (go_at_call 41;refine(c.o _).mono ?_;rintro e w' ⟨rfl,rfl⟩)
 all_goals go_returns
 all_goals exact⟨bH (by rw[Bool.eq_iff_iff];simp[*]<;>(intros;omega)),by go_grown⟩
theorem VS(n:Nat)(w:World):Calls prog 266 #[.int .i64 n] w (fun e w'=>e=.returned (.int .i64 (oO n))/\w=w'):=by
 unfold oO;by_cases h0:n=0
 .rw[iP h0];have d:((n:Int)==0)=true:=bQ.2 qo;clear h0;exact Zn
 .rw[iN h0];have d:((n:Int)==0)=false:=bN.2 qo;by_cases h8:8<n
  .rw[iP h8];have d8:decide ((n:Int) > 8)=true:=dX qo;clear h0 h8;exact Zn
  .rw[iN h8];have d8:decide ((n:Int) > 8)=false:=dF qo;clear h0 h8;exact Zn
theorem VT(m:Ma)(g:uA m)(w:World):Calls prog 282 #[kV m] w (aP (.bool (sX m)) w):=by
 unfold aP kV sX;have a:=aA (fun w=>GQ m.aDN g.1 w);have j:=aA (fun w=>nT m.val.1 m.val.2.1 m.val.2.2 (by have:=g.2.2.2.2;unfold cP at this;unfold maxLen;omega) w);unfold aP oP at a;unfold lM at j;generalize yO m.aDN=b at *;have e:aT m.val=aT (m.val.1,m.val.2.1,m.val.2.2):=rfl;rw[e];generalize aT (m.val.1,m.val.2.1,m.val.2.2)=c at *;clear e g;obtain⟨q,o⟩:=xE (w.alloc (.cells (KD m) 294));have l:=aA (aK w (.cells (KD m) 294) _ rfl);clear o;go_enter func282,ntmps282;go_wp2_with fail;refine(a.o _).mono ?_;rintro e w1 ⟨rfl,f⟩;have i:=qK l f;have d:=aA (aC (aB w _) f);obtain⟨⟨r,s,t,v,x,y,z⟩,_⟩:=bI i.o;have p:=aD i.o;clear f a
 cases b
 .go_wp2;go_returns;exact⟨rfl,d.o⟩
 .go_wp2_with (go_at_call 44;refine(j.o _).mono ?_;rintro e w2 ⟨rfl,k⟩;have n:=qB d k;clear k)
  all_goals go_returns
  all_goals first
   |exact⟨bH (by rw[Bool.eq_iff_iff];simp[*]<;>(intros;omega)),n.o⟩
   |exact⟨bH (by rw[Bool.eq_iff_iff];simp[*]<;>(intros;omega)),d.o⟩
theorem Tv{p:Prop}(h:p:=by
 go_wp2;go_roundw
 case rel=>exact⟨k+1,qo,by go_num,HR2,HB2⟩
 case measure=>simp[intOf];omega):p:=h
theorem Tw{p:Prop}(h:p:=by
 have hk1:¬(k:Int)<(l.length:Int):=qo;obtain rfl:k=l.length:=qo;have HE:=aA (Kb HR.o);clear HR;go_wp2;go_returns;exact⟨by rw[HE.o];rfl,HB.o⟩):p:=h
theorem LC{α:Type}(f:α->Int)(l:List α)(k:Nat)(a:k<l.length):gJ f (l.drop k)=if f l[k]≠0 then f l[k] else gJ f (l.drop (k+1)):=by
 rw[List.drop_eq_getElem_cons a];rfl
theorem xU{α:Type}{f:α->Int}{l:List α}{k:Nat}{R:Int}(a:k<l.length)(h:gJ f (l.drop k)=R)(h1:f l[k]≠0):R=f l[k]:=by
 rw[<-h,LC f l k a,iP h1]
theorem AT{α:Type}{f:α->Int}{l:List α}{k:Nat}{R:Int}(b:k<l.length)(h:gJ f (l.drop k)=R)(h1:f l[k]=0):gJ f (l.drop (k+1))=R:=by
 rw[<-h,LC f l k b,iN (fun a=>a h1)]
theorem Kb{α:Type}{f:α->Int}{l:List α}{R:Int}(h:gJ f (l.drop l.length)=R):R=0:=by
 rw[<-h,List.drop_length];rfl
theorem Kc{ok:nP}(v:Value)(l:List Ma)(w:World)(h:aH rW w ok v l):Calls prog 267 #[v] w (aP (.int .i64 (rT l)) w):=by
 obtain⟨a,c,rfl,I⟩:=h.slice;have y:=aA h;clear h;unfold aP rT;have o:=aA (VS l.length w);by_cases h0:oO l.length≠0
 .rw[iP h0];have d:(oO l.length != 0)=true:=bne_iff_ne.2 h0;clear h0;generalize oO l.length=F at *;go_enter func267,ntmps267;go_wp2_with fail;refine o.o.mono ?_;rintro e w1 ⟨rfl,rfl⟩;exact GF
 rw[iN h0];have h0:oO l.length=0:=by simpa using h0
 rw[h0] at o;clear h0;obtain⟨res,q⟩:=xE (gJ (fun m=>if sX m then 0 else 1) l);rw[<-q];have HR0:Hid (gJ (fun m=>if sX m then 0 else 1) (l.drop 0)=res):=aA (by rw[List.drop_zero];exact q.symm);clear q;go_enter func267,ntmps267;go_wp2_with fail;refine o.o.mono ?_;rintro e w1 ⟨rfl,rfl⟩;clear o;go_wp2;go_loopw [14] (fun i wr=>∃k:Nat,k<=l.length/\i=.int .i64 k/\Hid (gJ (fun m=>if sX m then 0 else 1) (l.drop k)=res)/\Hid (Below w.heap.size w wr)) (fun i _=>l.length - (intOf i).toNat)
 case atStart=>exact Ah
 case round=>
  clear HR0;obtain⟨k,H,rfl,HR,HB⟩:=hrel;by_cases p:k<l.length
  .have hk1:(k:Int)<(l.length:Int):=qo;obtain⟨b,off,r,rfl,_,G,⟨rfl,t⟩,s⟩:=aH.at eQ (y.o.on eQ HB.o) p qe;obtain⟨x,z,A,B,C,D,E⟩:=CK s;rw[Nat.add_zero] at x;have n:=aA (fun h1=>xU p HR.o h1);have j:=aA (fun h1=>AT p HR.o h1);have f:=aA (fun w=>VT l[k] t w);unfold aP kV at f;clear s HR t;generalize l[k]=m at *
   cases hm:sX m
   .rw[hm] at f n;have HE:=aA (n.o qe);clear n j hm;go_wp2_with fail;refine(f.o _).mono ?_;rintro e w2 ⟨rfl,g⟩;have HB2:=aA (aC (aC HB.o (aB _ _)) g);clear g f;exact GG
   .rw[hm] at f j;have HR2:=aA (j.o qe);clear n j hm;go_wp2_with fail;refine(f.o _).mono ?_;rintro e w2 ⟨rfl,g⟩;have HB2:=aA (aC (aC HB.o (aB _ _)) g);clear g f x z A B C D E;exact Tv
  .exact Tw
theorem Kd{ok:nP}(v:Value)(l:List (List Ma))(w:World)(h:aH (rows rW) w ok v l):Calls prog 248 #[v] w (aP (.int .i64 (rU l)) w):=by
 obtain⟨a,c,rfl,C⟩:=h.slice;have y:=aA h;clear h;unfold aP rU;have j:=aA (VS l.length w);by_cases h0:oO l.length≠0
 .rw[iP h0];have d:(oO l.length != 0)=true:=bne_iff_ne.2 h0;clear h0;generalize oO l.length=z at *;go_enter func248,ntmps248;go_wp2_with fail;refine j.o.mono ?_;rintro e w1 ⟨rfl,rfl⟩;exact GF
 rw[iN h0];have h0:oO l.length=0:=by simpa using h0
 rw[h0] at j;clear h0;obtain⟨res,q⟩:=xE (gJ rT l);rw[<-q];have HR0:Hid (gJ rT (l.drop 0)=res):=aA (by rw[List.drop_zero];exact q.symm);clear q;go_enter func248,ntmps248;go_wp2_with fail;refine j.o.mono ?_;rintro e w1 ⟨rfl,rfl⟩;clear j;go_wp2;go_loopw [15] (fun i wr=>∃k:Nat,k<=l.length/\i=.int .i64 k/\Hid (gJ rT (l.drop k)=res)/\Hid (Below w.heap.size w wr)) (fun i _=>l.length - (intOf i).toNat)
 case atStart=>exact Ah
 case round=>
  clear HR0;obtain⟨k,B,rfl,HR,HB⟩:=hrel;by_cases p:k<l.length
  .have hk1:(k:Int)<(l.length:Int):=qo;obtain⟨b,off,r,rfl,_,A,⟨D,rfl,s⟩,x⟩:=aH.at dQ (y.o.on dQ HB.o) p qe;obtain⟨E,F,rfl,_⟩:=s.slice;have t:=x 0 _ rfl;rw[Nat.add_zero,Nat.mul_one] at t;have o:=aA (fun h1=>xU p HR.o h1);have n:=aA (fun h1=>AT p HR.o h1);have f:=aA (Kc _ l[k] wr s);unfold aP at f;clear x HR s;by_cases he:rT l[k]=0
   .have HR2:=aA (n.o he);rw[he] at f;clear o n he;generalize l[k]=m at *;go_wp2_with fail;refine f.o.mono ?_;rintro e w2 ⟨rfl,g⟩;have HB2:=qB HB g;clear g f t;exact Tv
   .have HE:=aA (o.o he);have d2:(rT l[k] != 0)=true:=bne_iff_ne.2 he;clear o n he;generalize l[k]=m at *;generalize rT m=em at *;go_wp2_with fail;refine f.o.mono ?_;rintro e w2 ⟨rfl,g⟩;have HB2:=qB HB g;clear g f t;exact GG
  .exact Tw
theorem LD{ok:nP}(v:Value)(l:List (List (List Ma)))(w:World)(h:aH (rows (rows rW)) w ok v l):Calls prog 231 #[v] w (aP (.int .i64 (eZ l)) w):=by
 obtain⟨a,c,rfl,A⟩:=h.slice;have x:=aA h;clear h;unfold aP eZ;by_cases h0:8<l.length
 .rw[iP h0];have d:decide ((l.length:Int) > 8)=true:=dX qo;clear h0;go_enter func231,ntmps231;exact GF
 rw[iN h0];have d:decide ((l.length:Int) > 8)=false:=dF qo;clear h0;obtain⟨res,p⟩:=xE (gJ rU l);rw[<-p];have HR0:Hid (gJ rU (l.drop 0)=res):=aA (by rw[List.drop_zero];exact p.symm);clear p;go_enter func231,ntmps231;go_wp2;go_loopw [11] (fun i wr=>∃k:Nat,k<=l.length/\i=.int .i64 k/\Hid (gJ rU (l.drop k)=res)/\Hid (Below w.heap.size w wr)) (fun i _=>l.length - (intOf i).toNat)
 case atStart=>exact Ah
 case round=>
  clear HR0;obtain⟨k,z,rfl,HR,HB⟩:=hrel;by_cases o:k<l.length
  .have hk1:(k:Int)<(l.length:Int):=qo;obtain⟨b,off,r,rfl,_,y,⟨B,rfl,q⟩,t⟩:=aH.at aS (x.o.on aS HB.o) o qe;obtain⟨C,D,rfl,_⟩:=q.slice;have s:=t 0 _ rfl;rw[Nat.add_zero,Nat.mul_one] at s;have n:=aA (fun h1=>xU o HR.o h1);have j:=aA (fun h1=>AT o HR.o h1);have f:=aA (Kd _ l[k] wr q);unfold aP at f;clear t HR q;by_cases he:rU l[k]=0
   .have HR2:=aA (j.o he);rw[he] at f;clear n j he;generalize l[k]=m at *;go_wp2_with fail;refine f.o.mono ?_;rintro e w2 ⟨rfl,g⟩;have HB2:=qB HB g;clear g f s;exact Tv
   .have HE:=aA (n.o he);have d2:(rU l[k] != 0)=true:=bne_iff_ne.2 he;clear n j he;generalize l[k]=m at *;generalize rU m=em at *;go_wp2_with fail;refine f.o.mono ?_;rintro e w2 ⟨rfl,g⟩;have HB2:=qB HB g;clear g f s;exact GG
  .exact Tw
theorem Ke{p:Prop}(h:p:=by
 go_wp2;go_returns;exact⟨by rw[HE.o];rfl,aC HB.o (aB _ _)⟩):p:=h
theorem VU{ok:nP}(v:Value)(l:List Ob)(w:World)(h:aH kD w ok v l):Calls prog 232 #[v] w (aP (.int .i64 (lJ l)) w):=by
 obtain⟨a,c,rfl,N⟩:=h.slice;have D:=aA h;clear h;unfold aP lJ;by_cases h0:8<l.length
 .rw[iP h0];have d:decide ((l.length:Int) > 8)=true:=dX qo;clear h0;go_enter func232,ntmps232;exact GF
 rw[iN h0];have d:decide ((l.length:Int) > 8)=false:=dF qo;clear h0;obtain⟨f,t⟩:∃f:Ob->Int,f=(fun o:Ob=>if (1<=o.on/\o.on<=2)/\(1<=o.aDo/\o.aDo<=4)/\eM o.arg=true then (0:Int) else 1):=⟨_,rfl⟩;rw[<-t];have j:Hid (∀o:Ob,¬((1<=o.on/\o.on<=2)/\(1<=o.aDo/\o.aDo<=4)/\eM o.arg=true)->f o=1):=aA (fun o h=>by rw[t];exact iN h);have n:Hid (∀o:Ob,((1<=o.on/\o.on<=2)/\(1<=o.aDo/\o.aDo<=4)/\eM o.arg=true)->f o=0):=aA (fun o h=>by rw[t];exact iP h);clear t;obtain⟨res,z⟩:=xE (gJ f l);rw[<-z];have HR0:Hid (gJ f (l.drop 0)=res):=aA (by rw[List.drop_zero];exact z.symm);clear z;go_enter func232,ntmps232;go_wp2;go_loopw [10] (fun i wr=>∃k:Nat,k<=l.length/\i=.int .i64 k/\Hid (gJ f (l.drop k)=res)/\Hid (Below w.heap.size w wr)) (fun i _=>l.length - (intOf i).toNat)
 case atStart=>exact Ah
 case round=>
  clear HR0;obtain⟨k,M,rfl,HR,HB⟩:=hrel;by_cases y:k<l.length
  .have hk1:(k:Int)<(l.length:Int):=qo;obtain⟨b,off,r,rfl,_,L,⟨rfl,B⟩,A⟩:=aH.at aO (D.o.on aO HB.o) y qe;obtain⟨C,J,K⟩:=cR3 A;rw[Nat.add_zero] at C;have m:=aA (fun h1=>xU y HR.o h1);have p:=aA (fun h1=>AT y HR.o h1);have s:=aA (fun w=>oX l[k].arg (by have:=B.2.2;unfold cP at this;unfold maxLen;omega) w);clear A HR B;generalize l[k]=o at *;by_cases h1:o.on<1
   .have HE:Hid (res=1):=aA (by
     have g:=j.o o (by rintro⟨x,a2,_⟩;omega);rw[m.o (by rw[g];decide),g])
    clear m p n j;have E:decide (o.on<1)=true:=dX qo;clear h1;exact Ke
   have E:decide (o.on<1)=false:=dF qo;by_cases h2:2<o.on
   .have HE:Hid (res=1):=aA (by
     have g:=j.o o (by rintro⟨x,a2,_⟩;omega);rw[m.o (by rw[g];decide),g])
    clear m p n j;have F:decide (o.on > 2)=true:=dX qo;clear h2;exact Ke
   have F:decide (o.on > 2)=false:=dF qo;by_cases h3:o.aDo<1
   .have HE:Hid (res=1):=aA (by
     have g:=j.o o (by rintro⟨x,a2,_⟩;omega);rw[m.o (by rw[g];decide),g])
    clear m p n j;have G:decide (o.aDo<1)=true:=dX qo;clear h3;exact Ke
   have G:decide (o.aDo<1)=false:=dF qo;by_cases h4:4<o.aDo
   .have HE:Hid (res=1):=aA (by
     have g:=j.o o (by rintro⟨x,a2,_⟩;omega);rw[m.o (by rw[g];decide),g])
    clear m p n j;have H:decide (o.aDo > 4)=true:=dX qo;clear h4;exact Ke
   have H:decide (o.aDo > 4)=false:=dF qo
   cases q:eM o.arg
   .have I:=q;rw[q] at s;have HE:Hid (res=1):=aA (by
     have g:=j.o o (by rintro⟨_,_,a3⟩;rw[q] at a3;cases a3);rw[m.o (by rw[g];decide),g])
    clear m p n j;clear q I h1 h2 h3 h4;go_wp2_with fail;refine(s.o _).mono ?_;rintro e w2 ⟨rfl,rfl⟩;clear s;exact Ke
   .rw[q] at s;have HR2:=aA (p.o (n.o o ⟨⟨qo,qo⟩,⟨qo,qo⟩,q⟩));have HB2:=qB HB (aB _ (.cells #[.int .i64 o.on,.int .i64 o.aDo,.string o.arg] 197));clear q h1 h2 h3 h4 m p n j;go_wp2_with fail;refine(s.o _).mono ?_;rintro e w2 ⟨rfl,rfl⟩;clear s C J K;exact Tv
  .exact Tw
theorem QDe{p:Prop}(h:p:=by
 go_wp2
 all_goals go_returns
 all_goals exact⟨bH (by rw[Bool.eq_iff_iff];simp[*]),HB.o⟩):p:=h
theorem GS(b:bY):b=ByteArray.empty↔b.toList=[]:=by
 rw[Lib.toList_data];constructor
 .rintro rfl;rfl
 .intro h
  apply ByteArray.ext
  apply Array.ext'
  rw[h];rfl
theorem VV(v:V3):(decide (v=bD))=decide (v.1=0/\v.2.1=0/\v.2.2.toList=[]):=by
 obtain⟨a,b,c⟩:=v;rw[Bool.eq_iff_iff];simp[bD,<-GS]
theorem VW(v:At):(decide (v=uS))=decide (v.cat=0/\v.name.toList=[]/\v.aDW=false):=by
 obtain⟨a,b,c⟩:=v;rw[Bool.eq_iff_iff];simp[uS,<-GS]
theorem Em(n:No)(i:oW n)(w:World):Calls prog 269 #[jR n] w (aP (.bool (rA n)) w):=by
 unfold aP jR rA;have f:=aA (fun w=>GQ n.aDN i.2.2 w);have g:=aA (fun w=>nT n.val.1 n.val.2.1 n.val.2.2 (by have:=i.2.1.2.2;unfold cP at this;unfold maxLen;omega) w);unfold aP oP at f;unfold lM at g;generalize yO n.aDN=b at *;have e:aT n.val=aT (n.val.1,n.val.2.1,n.val.2.2):=rfl;rw[e];generalize aT (n.val.1,n.val.2.1,n.val.2.2)=c at *;clear e i;have j:=aA (aK w (.cells (iT n) 307) _ rfl);have k:=aA (aB w (.cells (iT n) 307));by_cases h1:n.op=1
 .rw[iP h1];have d1:(n.op==1)=true:=bQ.2 h1;clear h1 f;rw[VW];go_enter func269,ntmps269;go_wp2_with fail;refine(g.o _).mono ?_;rintro e w1 ⟨rfl,a⟩;have d:=qK j a;have HB:=qB k a;obtain⟨⟨m,o,p,q,r,s,t⟩,_⟩:=bI d.o;have l:=aD d.o;clear a g
  cases c
  .go_wp2;go_returns;exact⟨rfl,HB.o⟩
  .exact QDe
 rw[iN h1];have d1:(n.op==1)=false:=bN.2 h1;clear h1 g;by_cases h2:n.op=2
 .rw[iP h2];have d2:(n.op==2)=true:=bQ.2 h2;clear h2;rw[VV];go_enter func269,ntmps269;go_wp2_with fail;refine(f.o _).mono ?_;rintro e w1 ⟨rfl,a⟩;have d:=qK j a;have HB:=qB k a;obtain⟨⟨m,o,p,q,r,s,t⟩,_⟩:=bI d.o;have l:=aD d.o;clear a f
  cases b
  .go_wp2;go_returns;exact⟨rfl,HB.o⟩
  .exact QDe
 rw[iN h2];have d2:(n.op==2)=false:=bN.2 h2;clear h2 f;rw[VV,VW];go_enter func269,ntmps269;go_wp2
 all_goals go_returns
 all_goals exact⟨bH (by rw[Bool.eq_iff_iff];simp[*]),aB _ _⟩
theorem QBH{p:Prop}(h:p:=by
 have B0:=aA (aK w (.cells #[.bool true] 4) _ rfl);have HB0:=aA (aB w (.cells #[.bool true] 4));go_enter func268,ntmps268;go_wp2;go_returns;exact⟨_,rfl,HB0.o,xV (l:=[true]) B0.o (lR _) rfl rfl qe⟩):p:=h
theorem Tx{p:Prop}(h:p:=by
 go_enter func268,ntmps268;go_wp2;go_returns;exact⟨_,rfl,Below.refl _ _,aH.nil⟩):p:=h
theorem GU(w:World)(ok:nP):∀l:List Bool,aX (DG w ok) (l.map Value.bool) l
 | []=>rfl
 |x::l=>⟨[.bool x],l.map Value.bool,rfl,⟨rfl,trivial⟩,GU w ok l⟩
theorem xV{w:World}{ok:nP}{b:Nat}{cs:Array Value}{e:TypeId}{fr:Nat×Nat}{l:List Bool}{c n:Nat}(d:w.heap[b]? =some (.cells cs e fr))(j:ok b)(f:cs.toList=l.map Value.bool)(g:l.length=n)(k:n<=1000000):aH DG w ok (.slice (some ⟨b,0,none⟩) n c) l:=by
 refine⟨_,c,l.map Value.bool,by rw[g],fun _=>⟨b,0,rfl,j,fun i x a=> ?_⟩,GU w ok l,qo⟩;rw[<-f] at a;simp only[World.cell?,d,Nat.zero_add];simpa using a
def DQ(op:Int)(w:World)(e:Ending)(w':World):Prop:=
 ∃v,e=.returned (.tuple #[v,.bool (mY op).isSome])/\Below w.heap.size w w'/\aH DG w' (fun b=>w.heap.size<=b) v ((mY op).getD [])
theorem Kf(op:Int)(w:World):Calls prog 268 #[.int .i64 op] w (DQ op w):=by
 unfold DQ mY;by_cases h1:op=1
 .subst h1;rw[iP (.inl rfl)];exact Tx
 by_cases h2:op=2
 .subst h2;rw[iP (.inr rfl)];exact Tx
 rw[iN qo];have d1:(op==1)=false:=bN.2 h1;have d2:(op==2)=false:=bN.2 h2;clear h1 h2;by_cases h1:op=3
 .subst h1;rw[iP (.inl rfl)];exact QBH
 by_cases h2:op=4
 .subst h2;rw[iP (.inr rfl)];exact QBH
 rw[iN qo];have d3:(op==3)=false:=bN.2 h1;have d4:(op==4)=false:=bN.2 h2;clear h1 h2;by_cases h1:op=5
 .subst h1;rw[iP rfl];have B0:=aA (aK w (.cells #[.bool true,.bool false] 4) _ rfl);have HB0:=aA (aB w (.cells #[.bool true,.bool false] 4));go_enter func268,ntmps268;go_wp2;go_returns;exact⟨_,rfl,HB0.o,xV (l:=[true,false]) B0.o (lR _) rfl rfl qe⟩
 rw[iN h1];have d5:(op==5)=false:=bN.2 h1;clear h1;by_cases h1:op=11
 .subst h1;rw[iP rfl];have B0:=aA (aK w (.cells #[.bool false] 4) _ rfl);have HB0:=aA (aB w (.cells #[.bool false] 4));go_enter func268,ntmps268;go_wp2;go_returns;exact⟨_,rfl,HB0.o,xV (l:=[false]) B0.o (lR _) rfl rfl qe⟩
 rw[iN h1];have d11:(op==11)=false:=bN.2 h1;clear h1;by_cases h1:6<=op
 .have d6:decide (op ≥ 6)=true:=dX h1;by_cases h2:op<=13
  .rw[iP ⟨h1,h2⟩];have d7:decide (op<=13)=true:=dX h2;clear h1 h2;have B0:=aA (aK w (.cells #[.bool false,.bool false] 4) _ rfl);have HB0:=aA (aB w (.cells #[.bool false,.bool false] 4));go_enter func268,ntmps268;go_wp2;go_returns;exact⟨_,rfl,HB0.o,xV (l:=[false,false]) B0.o (lR _) rfl rfl qe⟩
  .rw[iN (fun h=>h2 h.2)];have d7:decide (op<=13)=false:=dF h2;clear h1 h2;exact Tx
 .rw[iN (fun h=>h1 h.1)];have d6:decide (op ≥ 6)=false:=dF h1;clear h1;exact Tx
theorem Zo{p:Prop}(h:p:=by
 go_wp2;go_returns;rw[HE.o];exact⟨_,rfl,HB.o.mono hbase,aM.nil⟩):p:=h
theorem Ty:dZ prog 348 4 1 1:=fQ (z:= .bool false) underlying348 (by kernel_rfl) rfl qe
def JH(l:List Bool)(n:No)(base:Nat)(w:World)(e:Ending)(w':World):Prop:=
 ∃v,e=.returned (.tuple #[v,.bool (lH l n).isSome])/\Below base w w'/\aM DG 1 4 w' base (fun _=>True) v ((lH l n).getD [])
theorem En{l m:List Bool}{a k:Nat}(h1:a+k<l.length)(h2:k<m.length):(l.drop (a+k)=m.drop k)↔(l[a+k]=m[k]/\l.drop (a+(k+1))=m.drop (k+1)):=by
 rw[List.drop_eq_getElem_cons h1,List.drop_eq_getElem_cons h2,List.cons.injEq];rfl
theorem Eo{l:List Bool}{n:No}(h:mY n.op=none):lH l n=none:=by unfold lH;rw[h]
theorem DR{l m:List Bool}{n:No}(h:mY n.op=some m)(h2:¬(rA n=true/\m.length<=l.length/\l.drop (l.length - m.length)=m)):lH l n=none:=by unfold lH;rw[h];exact iN h2
theorem Ep{l m:List Bool}{n:No}{q:Nat}(a:l.length=q+m.length)(h:mY n.op=some m)(h1:rA n=true)(h2:l.drop q=m):lH l n=some (l.take q++[decide (n.op=2)]):=by
 have e:l.length - m.length=q:=qo;unfold lH;rw[h];simp only[e];exact iP ⟨h1,qo,h2⟩
theorem JI(v:Value)(l:List Bool)(n:No)(ag:oW n)(base:Nat)(w:World)(h:aM DG 1 4 w base (fun _=>True) v l)(au:l.length<=100)(hbase:base<=w.heap.size):Calls prog 249 #[v,jR n] w (JH l n base w):=by
 obtain⟨a,c,rfl⟩:=h.slice;have G:=aA h;have N:=aA (fun w=>Kf n.op w);have K:=aA (fun w=>Em n ag w);unfold DQ at N;unfold aP jR at K;unfold JH jR;have B0:=aA (aK w (.cells (iT n) 307) _ rfl);have ad:=aA (aB w (.cells (iT n) 307));clear h;go_enter func249,ntmps249;go_wp2_with fail;refine(N.o _).mono ?_;rintro e w1 ⟨wv,rfl,o,ab⟩;obtain⟨C,HB,y⟩:=aY (aE B0.o o) (aC ad.o o) ab;obtain⟨⟨x0,x1,x2,x3,x4,x5,x6⟩,_⟩:=bI C.o;have hz:=aD C.o;clear o ab N
 cases hw:mY n.op with
 |none=>
  have HE:=aA (Eo (l:=l) hw);simp only[Option.isSome_none];clear hw;exact Zo
 |some m=>
  simp only[Option.isSome_some];rw[hw] at y;simp only[Option.getD_some] at y;go_wp2_with fail;refine(K.o _).mono ?_;rintro e w2 ⟨rfl,o⟩;obtain⟨HB,D,y⟩:=aY (aC HB.o o) (aE C.o o) (y.o.on jV o);clear x0 x1 x2 x3 x4 x5 x6 hz C o K;obtain⟨⟨x0,x1,x2,x3,x4,x5,x6⟩,_⟩:=bI D.o;have hz:=aD D.o;obtain⟨wa,wc,rfl,av⟩:=y.o.slice
  cases B:rA n with
  |false=>
   have HE:=aA (DR (l:=l) hw (fun h=>by rw[B] at h;exact absurd h.1 qe));clear hw B;exact Zo
  |true=>
   by_cases hlen:l.length<m.length
   .have HE:=aA (DR (l:=l) hw (fun h=>by omega));have d:decide ((l.length:Int)<(m.length:Int))=true:=dX qo;clear hw B;exact Zo
   obtain⟨q,Q⟩:∃q,l.length=q+m.length:=⟨l.length - m.length,qo⟩;have d:decide ((l.length:Int)<(m.length:Int))=false:=dF qo;have d2:IntKind.i64.wrap ((l.length:Int) - (m.length:Int))=(q:Int):=by rw[IntWalk.i64_in _ qo];omega
   have E:=aA (fun (hd:¬(l.drop q=m))=>DR (l:=l) (n:=n) hw (fun h=>by rw[show l.length - m.length=q by omega] at h;exact hd h.2.2));have H:=aA (Ep Q hw B);have f:=aA Q;clear hw B Q;obtain⟨res,R⟩:∃res:Prop,res=(l.drop q=m):=⟨_,rfl⟩;rw[<-R] at E H;have af:Hid (aH DG w2 (fun _=>True) (.slice a l.length c) l):=aA ((G.o.on jV HB.o).sl qo _ (fun _ _ _=>trivial) (fun _ _ _=>trivial) jV);have V:Hid ((l.drop (q+0)=m.drop 0)=res):=aA (by rw[Nat.add_zero,List.drop_zero];exact R.symm);clear R;have d3:wrap64 ((l.length:Int) - (m.length:Int))=(q:Int):=by have:=f.o;rw[IntWalk.wrap64_in _ qo];omega
   go_wp2;go_loopw [38] (fun i wr=>∃k:Nat,k<=m.length/\i=.int .i64 k/\Hid ((l.drop (q+k)=m.drop k)=res)/\wr=w2) (fun i _=>m.length - (intOf i).toNat)
   case atStart=>exact⟨0,Nat.zero_le _,rfl,V,rfl⟩
   case round=>
    clear V;obtain⟨k,hk,rfl,x,rfl⟩:=hrel;by_cases Z:k<m.length
    .have ai:(k:Int)<(m.length:Int):=qo;obtain⟨j,hj⟩:=xE (q+k);have ah:j<l.length:=qA f.o;have aq:(j:Int)<(l.length:Int):=qo;have ao:(0:Int)<=(j:Int):=qo;have e1:IntKind.i64.wrap ((q:Int)+(k:Int))=(j:Int):=by rw[IntWalk.i64_in _ qo];omega
     obtain⟨b,off,r,rfl,_,ak,⟨rfl,_⟩,X⟩:=aH.at jV y.o Z qe;have y0:=X 0 _ rfl;rw[Nat.add_zero,Nat.mul_one] at y0;obtain⟨b',aw,r,rfl,_,al,⟨rfl,_⟩,Y⟩:=aH.at jV af.o ah qe;have z0:=Y 0 _ rfl;rw[Nat.add_zero,Nat.mul_one] at z0;have s:=aA (En (l:=l) (m:=m) (a:=q) (k:=k) (qA f.o) Z);have U:=aA (fun (hx:q+k<l.length)=>(by subst hj;rfl:l[q+k]=l[j]));clear X Y;rw[U.o _] at s;clear U;generalize l[j]=u at *;generalize m[k]=t at *;by_cases S:u=t
     .subst S;have ae:Hid ((l.drop (q+(k+1))=m.drop (k+1))=res):=aA (by rw[<-x.o];exact propext ⟨fun h=>s.o.2 ⟨rfl,h⟩,fun h=>(s.o.1 h).2⟩);clear s x hj
      cases u
      all_goals
       go_wp2;go_roundw
       case rel=>exact⟨k+1,qo,by go_num,ae,by trivial⟩
       case measure=>simp[intOf];omega
     .have HE:=aA (E.o (by rw[<-x.o];exact fun h=>S (s.o.1 h).1));clear s x hj E H
      cases u<;>cases t
      all_goals first
       |exact absurd rfl S
       |(go_wp2
         go_returns;rw[HE.o];exact⟨_,rfl,HB.o.mono hbase,aM.nil⟩)
    .have ai:¬(k:Int)<(m.length:Int):=qo;have hr:res:=by rw[<-x.o,List.drop_eq_nil_of_le (qA f.o),List.drop_eq_nil_of_le qo]
     have HE:=aA (H.o hr);clear x hr E H;obtain⟨aj,ar,an⟩:=G.o.place;have HC:=aA ((G.o.on jV HB.o).cut jV q (qA f.o));have g:=aA ((aB wr (.cells #[.bool (n.op==2)] 4)).drew);have W:Hid ((wr.alloc (.cells #[.bool (n.op==2)] 4)).drew.heap[wr.heap.size]? =some (.cells #[.bool (n.op==2)] 4 (0,0))):=aA (aK wr (.cells #[.bool (n.op==2)] 4) _ rfl);have F:=aA (HC.o.on jV g.o);have I:base<=wr.heap.size:=lT hbase HB.o.size;have aa:(l.take q).length=q:=by have:=f.o;rw[List.length_take];omega
     have q0:(0:Int)<=(q:Int):=qo;have q1:(q:Int)<=(c:Int):=qA f.o;have q2:(q:Int)<=(l.length:Int):=qA f.o;have T:=aA ((aC HB.o g.o).mono hbase)
     rcases aj with ⟨rfl,rfl⟩|⟨ga,rfl⟩
     .obtain rfl:l=[]:=List.eq_nil_of_length_eq_zero qo;obtain rfl:q=0:=by have:=f.o;simp only[List.length_nil] at this;omega
      have z:=qK D g.o;have M:Hid (some w.heap.size≠(Value.slice none 0 0).ownBlock):=aA (fun h=>(by cases (show some w.heap.size=none from h)));go_wp2;go_region_held3 (fun w'=>w'.cell? ⟨w.heap.size,0,none⟩=some (.int .i64 n.op)) (first|go_keep|assumption) ((refine jC Ty jV (by rfl) (.tmp 54) (.tmp 58) (by rfl) _ (([]:List Bool).take 0) (by rfl) F.o wr.heap.size 1 _ _ _ (n.op==2) (by rfl) W.o ⟨rfl,trivial⟩ (by rw[aa];omega) qe (lT I g.o.size) ?_;intro l' P A' c' w9 A p O;have L:=aA A;have J:=aA (F.o.below T.o p (lR _) (lT I g.o.size));have x9:=(bI ((p.block w.heap.size (aD z.o) M.o).trans z.o)).1.1;clear A p O))
      go_wp2;go_returns;rw[HE.o,<-NN,<-P.o];exact⟨_,rfl,J.o,L.o⟩
     .have z:=qK D g.o;have M:Hid (some w.heap.size≠(Value.slice (some ⟨ga,0,none⟩) q c).ownBlock):=aA (fun h=>qA ((G.o.lt w.heap.size h.symm).2));go_wp2;go_region_held3 (fun w'=>w'.cell? ⟨w.heap.size,0,none⟩=some (.int .i64 n.op)) (first|go_keep|assumption) ((refine jC Ty jV (by rfl) (.tmp 54) (.tmp 58) (by rfl) _ (l.take q) (by rfl) F.o wr.heap.size 1 _ _ _ (n.op==2) (by rfl) W.o ⟨rfl,trivial⟩ (by rw[aa];omega) qe (lT I g.o.size) ?_;intro l' P A' c' w9 A p O;have L:=aA A;have J:=aA (F.o.below T.o p (lR _) (lT I g.o.size));have x9:=(bI ((p.block w.heap.size (aD z.o) M.o).trans z.o)).1.1;clear A p O))
      go_wp2;go_returns;rw[HE.o,<-NN,<-P.o];exact⟨_,rfl,J.o,L.o⟩
end Go.Proofs.YtjlkljmickcacaaGreatDoor
