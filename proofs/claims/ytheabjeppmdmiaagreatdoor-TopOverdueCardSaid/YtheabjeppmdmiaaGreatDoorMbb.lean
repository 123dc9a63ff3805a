/- Lemmas. -/
import Derived.Test.YtheabjeppmdmiaaGreatDoorMba
namespace Go.Proofs.YtheabjeppmdmiaaGreatDoor
open Go.RowKit
set_option linter.unusedVariables false
set_option linter.unusedSimpArgs false
set_option maxHeartbeats 16000000
open _root_.Go.Proofs.Tryz
set_option maxRecDepth 20000
theorem QCw{p:Prop}(h:p:=by
 exact((((((((HP.o.set qo).set qo).set qo).set qo).set qo).set qo).set qo).set qo)):p:=h
theorem QCo{p:Prop}(h:p:=by
 exact cZ.end (((((((((HK.o.set qo).set qo).set qo).set qo).set qo).set qo).set qo).set qo))):p:=h
theorem QAQ{p:Prop}(h:p:=by
 exact aH.more aO (aH.set aO (aH.set aO (aH.set aO (aH.set aO (aH.set aO (aH.set aO (aH.set aO (aH.set aO (HSo.o) qh) qh) qh) qh) qh) qh) qh) qh) (fun b hb=>by have:=hb.1;show w.heap.size<=b;omega)):p:=h
theorem QAP{p:Prop}(h:p:=by
 exact aH.more aS (aH.set aS (aH.set aS (aH.set aS (aH.set aS (aH.set aS (aH.set aS (aH.set aS (aH.set aS (HSt.o) qh) qh) qh) qh) qh) qh) qh) qh) (fun b hb=>by have:=hb.1;show w.heap.size<=b;omega)):p:=h
def vI(L:List Tok):Nat->PS->List Po×PS
 |0,p=>gP L (fun q=>(mJ,q)) true L.length [] p
 |n+1,p=>gP L (cP L n) false L.length [] p
theorem Es(L:List Tok)(n:Nat)(p:PS)(h:(aZ L [str "policy",str "set"] p).1=2):cP L n p=
 (.mk (bT L (aZ L [str "policy",str "set"] p).2).1 true (aZ L dH (bT L (aZ L [str "policy",str "set"] p).2).2).1 (bU L (aZ L dH (bT L (aZ L [str "policy",str "set"] p).2).2).2).1 [] (vI L n (eM L rH (bU L (aZ L dH (bT L (aZ L [str "policy",str "set"] p).2).2).2).2)).1 (gO L (eM L yM (vI L n (eM L rH (bU L (aZ L dH (bT L (aZ L [str "policy",str "set"] p).2).2).2).2)).2)).1,
  (gO L (eM L yM (vI L n (eM L rH (bU L (aZ L dH (bT L (aZ L [str "policy",str "set"] p).2).2).2).2)).2)).2):=by
 cases n with
 |zero=>
  unfold cP vI;dsimp only;rw[dX h,iP rfl]
 |succ n=>
  unfold cP vI;dsimp only;rw[dX h,iP rfl]
theorem VV(L:List Tok)(n:Nat)(p:PS)(h:(aZ L [str "policy",str "set"] p).1≠2):cP L n p=
 (.mk (bT L (aZ L [str "policy",str "set"] p).2).1 false (aZ L dH (bT L (aZ L [str "policy",str "set"] p).2).2).1 (bU L (aZ L dH (bT L (aZ L [str "policy",str "set"] p).2).2).2).1 (iO L L.length [] (eM L rH (bU L (aZ L dH (bT L (aZ L [str "policy",str "set"] p).2).2).2).2)).1 [] (gO L (eM L yM (iO L L.length [] (eM L rH (bU L (aZ L dH (bT L (aZ L [str "policy",str "set"] p).2).2).2).2)).2)).1,
  (gO L (eM L yM (iO L L.length [] (eM L rH (bU L (aZ L dH (bT L (aZ L [str "policy",str "set"] p).2).2).2).2)).2)).2):=by
 cases n with
 |zero=>
  unfold cP;dsimp only;rw[dF h,iN qe]
 |succ n=>
  unfold cP;dsimp only;rw[dF h,iN qe]
theorem Kh{L:List Tok}(T:Toks L)(n:Nat){p:PS}(h:p.at_<L.length):dL L p (vI L n p).2:=by
 cases n with
 |zero=>exact rA (one:=fun q=>(mJ,q)) (fun h=>dL.refl h) true L.length [] h
 |succ n=>exact rA (one:=cP L n) (rY T n) false L.length [] h
def Qt(L:List Tok)(n:Nat):Prop:=∀(d:Int),d=5 - (n:Int)->∀p g w,p.at_<L.length->p.aDK<=64->PW L w g p->
 Calls prog 122 #[.pointer (some ⟨g,0,none⟩),.int .i64 d] w (iQ (qM n) L g w (vI L n p).1 (vI L n p).2)
abbrev alW:Array Value:=#[.string ⟨#[100,101,110,121,111,118,101,114]⟩,.string ⟨#[112,101,114,109,105,116,111,118,101,114]⟩,.string ⟨#[102,105,114,115,116]⟩,.string ⟨#[111,110,108,121]⟩,.string ⟨#[100,101,110,121,117,110,108,101,115,115]⟩,.string ⟨#[112,101,114,109,105,116,117,110,108,101,115,115]⟩]
theorem IA{L:List Tok}{n:Nat}(hn:n<=3)(T:Toks L)(S:Qt L n){p:PS}(d:Int)(hd:d=4 - (n:Int))(hp:p.at_<L.length)(af:p.aDK<=64)(g:Nat)(w:World)(h:PW L w g p)(Q:(aZ L [str "policy",str "set"] p).1=2):
 Calls prog 60 #[.pointer (some ⟨g,0,none⟩),.int .i64 d] w (wP n L g w (cP L n p).1 (cP L n p).2):=by
 have hL:=T.len;have aq:=h.lt;have HP:=aA h;have m1:=dV T [str "policy",str "set"] hp;have m2:=jI T m1.lt;have m3:=dV T dH m2.lt;have m4:=mA T m3.lt;have m5:=gB T rH m4.lt;have m15:=m1.trans (m2.trans (m3.trans (m4.trans m5)));have U:=m15.aEt af;have m6:=Kh T n m5.lt;have m7:=gB T yM m6.lt;have I:=aA (fun a c w h hw=>nJ T [str "policy",str "set"] a c 2 rfl qe hp g w h hw);have R:=aA (fun w h=>rL T m1.lt g w h);have J:=aA (fun a c w h hw=>nJ T dH a c 6 rfl qe m2.lt g w h hw);have P:=aA (fun w h=>tT T m3.lt g w h);have O:=aA (fun w h=>mN T rH m4.lt g w h);have K:=aA (fun w h=>S (d+1) qo (eM L rH (bU L (aZ L dH (bT L (aZ L [str "policy",str "set"] p).2).2).2).2) g w m5.lt U h);have N:=aA (fun w h=>mN T yM m6.lt g w h);have M:=aA (fun w h=>vG T m7.lt g w h);have ab:=aA (rP T m1.lt);have aa:=aA (nU (L:=L) dH (bT L (aZ L [str "policy",str "set"] p).2).2);have d1:1<=d:=qo;have d2:d<=4:=qo;rw[Es L n p Q];unfold wP;unfold iQ at P M K;clear h m1 m2 m3 m4 m5 m6 m7 m15 U S hd;generalize aZ L [str "policy",str "set"] p=V at *;generalize bT L V.2=W at *;generalize aZ L dH W.2=H at *;generalize bU L H.2=X at *;generalize eM L rH X.2=p5 at *;generalize vI L n p5=Y at *;generalize eM L yM Y.2=p7 at *;generalize gO L p7=r8 at *;rw[vZ,KJ] at I;rw[show dH=[⟨#[100,101,110,121,111,118,101,114]⟩,⟨#[112,101,114,109,105,116,111,118,101,114]⟩,⟨#[102,105,114,115,116]⟩,⟨#[111,110,108,121]⟩,⟨#[100,101,110,121,117,110,108,101,115,115]⟩,⟨#[112,101,114,109,105,116,117,110,108,101,115,115]⟩] from by kernel_rfl] at J
 rw[TP] at O;rw[TQ] at N;have ao:(V.1==2)=true:=bQ.2 Q;clear Q;dsimp only;go_enter func60,ntmps60;have HK:=aA (cZ.refl w.heap.size g w);go_wp2_with fail;refine(I.o _ _ _ (HP.o.alloc.alloc.alloc) (nK _ _ _ _ _ qs rfl)).mono ?_;rintro e w1 ⟨rfl,k,f⟩;obtain⟨j,i,l,HK,HP⟩:=gG (aF (aE (aE (aK _ _ _ qs) (aB _ _)) (aB _ _)) f qo:w1.heap[w.heap.size]? =some (.cells wJ 50 (0,0))) (aF (aE (aK _ _ _ qs) (aB _ _)) f qo:w1.heap[w.heap.size+1]? =some (.cells wJ 50 (0,0))) (aF (aK _ _ _ qs) f qo:w1.heap[w.heap.size+2]? =some (.cells #[.string ⟨#[112,111,108,105,99,121]⟩,.string ⟨#[115,101,116]⟩] 9 (0,0))) (HK.o.alloc.alloc.alloc.aDY f) k;clear k f;have bf:=aD j.o;have bp:=aD i.o;have ar:=aD l.o;have bz:=HP.o.lt;clear I;obtain⟨⟨o,q,r,s,t,v,x⟩,y,z,A,B,C,D,E⟩:=bI i.o;go_wp2_with fail;refine(R.o _ ((HP.o.set qo))).mono ?_;rintro e w2 ⟨rfl,k,f⟩;obtain⟨j,i,l,HK,HP⟩:=gG (aF (bE (j.o) qo) f qo) (aF (Ti (i.o) _) f qo) (aF (bE (l.o) qo) f qo) ((HK.o.set qo).aDY f) k;clear k f o q r s t v x y z A B C D E;have bg:=aD j.o;have bq:=aD i.o;have au:=aD l.o;have b0:=HP.o.lt;clear R;obtain⟨⟨o,q,r,s,t,v,x⟩,y,z,A,B,C,D,E⟩:=bI i.o;go_wp2_with fail;refine(J.o _ _ _ ((HP.o.set qo).alloc) (nK _ _ _ _ _ qs rfl)).mono ?_;rintro e w3 ⟨rfl,k,f⟩;obtain⟨j,i,l,m,HK,HP⟩:=hD6 (aF (aE (bE (j.o) qo) (aB _ _)) f qo) (aF (aE (Th (i.o) _) (aB _ _)) f qo) (aF (aE (bE (l.o) qo) (aB _ _)) f qo) (aF (aK _ _ _ qs) f qo:w3.heap[w2.heap.size]? =some (.cells alW 9 (0,0))) ((HK.o.set qo).alloc.aDY f) k;clear k f o q r s t v x y z A B C D E
 have bh:=aD j.o;have br:=aD i.o;have av:=aD l.o;have a6:=aD m.o;have b1:=HP.o.lt;clear J;obtain⟨⟨o,q,r,s,t,v,x⟩,y,z,A,B,C,D,E⟩:=bI i.o;go_wp2_with fail;refine(P.o _ ((HP.o.set qo))).mono ?_;rintro e w4 ⟨Z,rfl,F,k,f⟩;obtain⟨ta,tc,rfl,tl⟩:=F.slice;obtain⟨j,i,l,m,HK,HP⟩:=hD6 (aF (bE (j.o) qo) f qo) (aF (Tj (i.o) _) f qo) (aF (bE (l.o) qo) f qo) (aF (bE (m.o) qo) f qo) ((HK.o.set qo).aDY f) k;clear k f o q r s t v x y z A B C D E;have bj:=aD j.o;have bs:=aD i.o;have aw:=aD l.o;have a7:=aD m.o;have b2:=HP.o.lt;have HSt:=aA (aH.more aS (aH.inb aS F) (ok':=fun b=>w.heap.size<b/\b≠w.heap.size+1) (fun b hb=>by have h1:=hb.1;(try simp only[World.setCell,Array.size_modify] at h1);have h3:w3.heap.size<=b:=h1;exact⟨by show w.heap.size<b;omega,by show b≠w.heap.size+1;omega⟩));clear F;clear P;obtain⟨⟨o,q,r,s,t,v,x⟩,y,z,A,B,C,D,E⟩:=bI i.o;go_wp2_with fail;refine(O.o _ ((HP.o.set qo))).mono ?_;rintro e w5 ⟨rfl,k,f⟩;obtain⟨j,i,l,m,HK,HP⟩:=hD6 (aF (bE (j.o) qo) f qo) (aF (KM (i.o) _) f qo) (aF (bE (l.o) qo) f qo) (aF (bE (m.o) qo) f qo) ((HK.o.set qo).aDY f) k;have HSt:=aA (aH.aDY aS (aH.set aS (HSt.o) qh) f qh);clear k f o q r s t v x y z A B C D E;have bk:=aD j.o;have bt:=aD i.o;have ax:=aD l.o;have a8:=aD m.o;have b3:=HP.o.lt;clear O;obtain⟨⟨o,q,r,s,t,v,x⟩,y,z,A,B,C,D,E⟩:=bI i.o;go_wp2_with fail;refine(K.o _ (HP.o)).mono ?_;rintro e w6 ⟨Z,rfl,F,k,f⟩;obtain⟨ba,bc,rfl,bl⟩:=F.slice;obtain⟨j,i,l,m,HK,HP⟩:=hD6 (aF (j.o) f qo) (aF (i.o) f qo) (aF (l.o) f qo) (aF (m.o) f qo) (HK.o.aDY f) k
 have HSt:=aA (aH.aDY aS (HSt.o) f qh);clear k f o q r s t v x y z A B C D E;have bm:=aD j.o;have bu:=aD i.o;have ay:=aD l.o;have bb:=aD m.o;have b4:=HP.o.lt;have G:=aA (aH.more (bB n) (aH.inb (bB n) F) (ok':=fun b=>w.heap.size<b/\b≠w.heap.size+1) (fun b hb=>by have h1:=hb.1;(try simp only[World.setCell,Array.size_modify] at h1);have h3:w5.heap.size<=b:=h1;exact⟨by show w.heap.size<b;omega,by show b≠w.heap.size+1;omega⟩));clear F;clear K;obtain⟨⟨o,q,r,s,t,v,x⟩,y,z,A,B,C,D,E⟩:=bI i.o;go_wp2_with fail;refine(N.o _ ((HP.o.set qo))).mono ?_;rintro e w7 ⟨rfl,k,f⟩;obtain⟨j,i,l,m,HK,HP⟩:=hD6 (aF (bE (j.o) qo) f qo) (aF (aAT (i.o) _) f qo) (aF (bE (l.o) qo) f qo) (aF (bE (m.o) qo) f qo) ((HK.o.set qo).aDY f) k;have HSt:=aA (aH.aDY aS (aH.set aS (HSt.o) qh) f qh);have G:=aA (aH.aDY (bB n) (aH.set (bB n) (G.o) qh) f qh);clear k f o q r s t v x y z A B C D E;have bn:=aD j.o;have bw:=aD i.o;have az:=aD l.o;have bd:=aD m.o;have b5:=HP.o.lt;clear N;go_wp2_with fail;refine(M.o _ (HP.o)).mono ?_;rintro e w8 ⟨Z,rfl,F,k,f⟩;obtain⟨oa,oc,rfl,ol⟩:=F.slice;obtain⟨j,i,l,m,HK,HP⟩:=hD6 (aF (j.o) f qo) (aF (i.o) f qo) (aF (l.o) f qo) (aF (m.o) f qo) (HK.o.aDY f) k;have HSt:=aA (aH.aDY aS (HSt.o) f qh);have G:=aA (aH.aDY (bB n) (G.o) f qh)
 clear k f;have bo:=aD j.o;have bx:=aD i.o;have a1:=aD l.o;have be:=aD m.o;have b6:=HP.o.lt;have HSo:=aA (aH.more aO (aH.inb aO F) (ok':=fun b=>w.heap.size<b/\b≠w.heap.size+1) (fun b hb=>by have h1:=hb.1;(try simp only[World.setCell,Array.size_modify] at h1);have h3:w7.heap.size<=b:=h1;exact⟨by show w.heap.size<b;omega,by show b≠w.heap.size+1;omega⟩));clear F;clear M;obtain⟨⟨o,q,r,s,t,v,x⟩,y,z,A,B,C,D,E⟩:=bI i.o;obtain⟨⟨R0,R1,R2,R3,R4,R5,R6⟩,ag,ah,ai,aj,ak,al,an⟩:=bI j.o;go_wp2;refine bR (.agg #[.string W.1,.bool true,.int .i64 H.1,.slice ta X.1.length tc,.slice none 0 0,.slice ba Y.1.length bc,.slice oa r8.1.length oc]) ?_;have ae:=aa.o;have ad:dH.length=6:=rfl;rw[ad] at ae;refine⟨_,_,_,_,rfl,⟨lT ab.o (by unfold cQ;omega),by unfold bJ;show _<=H.1/\H.1<=_;omega,?_,?_,?_,?_⟩,?_,?_⟩
 .exact QAP
 .exact aH.nil
 .exact aH.more (bB n) (aH.set (bB n) (aH.set (bB n) (aH.set (bB n) (aH.set (bB n) (aH.set (bB n) (aH.set (bB n) (aH.set (bB n) (aH.set (bB n) (G.o) qh) qh) qh) qh) qh) qh) qh) qh) (fun b hb=>by have:=hb.1;show w.heap.size<=b;omega)
 .exact QAQ
 .exact QCw
 .exact QCo
theorem BZ{L:List Tok}{n:Nat}(hn:n<=3)(T:Toks L){p:PS}(d:Int)(hd:d=4 - (n:Int))(hp:p.at_<L.length)(af:p.aDK<=64)(g:Nat)(w:World)(h:PW L w g p)(Q:(aZ L [str "policy",str "set"] p).1≠2):
 Calls prog 60 #[.pointer (some ⟨g,0,none⟩),.int .i64 d] w (wP n L g w (cP L n p).1 (cP L n p).2):=by
 have hL:=T.len;have aq:=h.lt;have HP:=aA h;have m1:=dV T [str "policy",str "set"] hp;have m2:=jI T m1.lt;have m3:=dV T dH m2.lt;have m4:=mA T m3.lt;have m5:=gB T rH m4.lt;have m15:=m1.trans (m2.trans (m3.trans (m4.trans m5)));have S:=m15.aEt af;have m6:=tA T L.length [] m5.lt;have m7:=gB T yM m6.lt;have I:=aA (fun a c w h hw=>nJ T [str "policy",str "set"] a c 2 rfl qe hp g w h hw);have R:=aA (fun w h=>rL T m1.lt g w h);have J:=aA (fun a c w h hw=>nJ T dH a c 6 rfl qe m2.lt g w h hw);have P:=aA (fun w h=>tT T m3.lt g w h);have O:=aA (fun w h=>mN T rH m4.lt g w h);have K:=aA (fun w h=>Qs T m5.lt S g w h);have N:=aA (fun w h=>mN T yM m6.lt g w h);have M:=aA (fun w h=>vG T m7.lt g w h);have ab:=aA (rP T m1.lt);have aa:=aA (nU (L:=L) dH (bT L (aZ L [str "policy",str "set"] p).2).2);have d1:1<=d:=qo;have d2:d<=4:=qo;rw[VV L n p Q];unfold wP;unfold iQ at P M K;clear h m1 m2 m3 m4 m5 m6 m7 m15 S hd;generalize aZ L [str "policy",str "set"] p=U at *;generalize bT L U.2=V at *;generalize aZ L dH V.2=H at *;generalize bU L H.2=W at *;generalize eM L rH W.2=p5 at *;generalize iO L L.length [] p5=X at *;generalize eM L yM X.2=p7 at *;generalize gO L p7=r8 at *;rw[vZ,KJ] at I;rw[show dH=[⟨#[100,101,110,121,111,118,101,114]⟩,⟨#[112,101,114,109,105,116,111,118,101,114]⟩,⟨#[102,105,114,115,116]⟩,⟨#[111,110,108,121]⟩,⟨#[100,101,110,121,117,110,108,101,115,115]⟩,⟨#[112,101,114,109,105,116,117,110,108,101,115,115]⟩] from by kernel_rfl] at J;rw[TP] at O;rw[TQ] at N;have ao:(U.1==2)=false:=bN.2 Q;clear Q
 dsimp only;go_enter func60,ntmps60;have HK:=aA (cZ.refl w.heap.size g w);go_wp2_with fail;refine(I.o _ _ _ (HP.o.alloc.alloc.alloc) (nK _ _ _ _ _ qs rfl)).mono ?_;rintro e w1 ⟨rfl,k,f⟩;obtain⟨j,i,l,HK,HP⟩:=gG (aF (aE (aE (aK _ _ _ qs) (aB _ _)) (aB _ _)) f qo:w1.heap[w.heap.size]? =some (.cells wJ 50 (0,0))) (aF (aE (aK _ _ _ qs) (aB _ _)) f qo:w1.heap[w.heap.size+1]? =some (.cells wJ 50 (0,0))) (aF (aK _ _ _ qs) f qo:w1.heap[w.heap.size+2]? =some (.cells #[.string ⟨#[112,111,108,105,99,121]⟩,.string ⟨#[115,101,116]⟩] 9 (0,0))) (HK.o.alloc.alloc.alloc.aDY f) k;clear k f;have bf:=aD j.o;have bp:=aD i.o;have ar:=aD l.o;have bz:=HP.o.lt;clear I;obtain⟨⟨o,q,r,s,t,v,x⟩,y,z,A,B,C,D,E⟩:=bI i.o;go_wp2_with fail;refine(R.o _ ((HP.o.set qo))).mono ?_;rintro e w2 ⟨rfl,k,f⟩;obtain⟨j,i,l,HK,HP⟩:=gG (aF (bE (j.o) qo) f qo) (aF (Ti (i.o) _) f qo) (aF (bE (l.o) qo) f qo) ((HK.o.set qo).aDY f) k;clear k f o q r s t v x y z A B C D E;have bg:=aD j.o;have bq:=aD i.o;have au:=aD l.o;have b0:=HP.o.lt;clear R;obtain⟨⟨o,q,r,s,t,v,x⟩,y,z,A,B,C,D,E⟩:=bI i.o;go_wp2_with fail;refine(J.o _ _ _ ((HP.o.set qo).alloc) (nK _ _ _ _ _ qs rfl)).mono ?_;rintro e Z ⟨rfl,k,f⟩;obtain⟨j,i,l,m,HK,HP⟩:=hD6 (aF (aE (bE (j.o) qo) (aB _ _)) f qo) (aF (aE (Th (i.o) _) (aB _ _)) f qo) (aF (aE (bE (l.o) qo) (aB _ _)) f qo) (aF (aK _ _ _ qs) f qo:Z.heap[w2.heap.size]? =some (.cells alW 9 (0,0))) ((HK.o.set qo).alloc.aDY f) k;clear k f o q r s t v x y z A B C D E;have bh:=aD j.o;have br:=aD i.o;have av:=aD l.o;have a6:=aD m.o
 have b1:=HP.o.lt;clear J;obtain⟨⟨o,q,r,s,t,v,x⟩,y,z,A,B,C,D,E⟩:=bI i.o;go_wp2_with fail;refine(P.o _ ((HP.o.set qo))).mono ?_;rintro e w4 ⟨Y,rfl,F,k,f⟩;obtain⟨ta,tc,rfl,tl⟩:=F.slice;obtain⟨j,i,l,m,HK,HP⟩:=hD6 (aF (bE (j.o) qo) f qo) (aF (Tj (i.o) _) f qo) (aF (bE (l.o) qo) f qo) (aF (bE (m.o) qo) f qo) ((HK.o.set qo).aDY f) k;clear k f o q r s t v x y z A B C D E;have bj:=aD j.o;have bs:=aD i.o;have aw:=aD l.o;have a7:=aD m.o;have b2:=HP.o.lt;have HSt:=aA (aH.more aS (aH.inb aS F) (ok':=fun b=>w.heap.size<b/\b≠w.heap.size+1) (fun b hb=>by have h1:=hb.1;(try simp only[World.setCell,Array.size_modify] at h1);have h3:Z.heap.size<=b:=h1;exact⟨by show w.heap.size<b;omega,by show b≠w.heap.size+1;omega⟩));clear F;clear P;obtain⟨⟨o,q,r,s,t,v,x⟩,y,z,A,B,C,D,E⟩:=bI i.o;go_wp2_with fail;refine(O.o _ ((HP.o.set qo))).mono ?_;rintro e w5 ⟨rfl,k,f⟩;obtain⟨j,i,l,m,HK,HP⟩:=hD6 (aF (bE (j.o) qo) f qo) (aF (KM (i.o) _) f qo) (aF (bE (l.o) qo) f qo) (aF (bE (m.o) qo) f qo) ((HK.o.set qo).aDY f) k;have HSt:=aA (aH.aDY aS (aH.set aS (HSt.o) qh) f qh);clear k f o q r s t v x y z A B C D E;have bk:=aD j.o;have bt:=aD i.o;have ax:=aD l.o;have a8:=aD m.o;have b3:=HP.o.lt;clear O;obtain⟨⟨o,q,r,s,t,v,x⟩,y,z,A,B,C,D,E⟩:=bI i.o;go_wp2_with fail;refine(K.o _ (HP.o)).mono ?_;rintro e w6 ⟨Y,rfl,F,k,f⟩;obtain⟨ba,bc,rfl,bl⟩:=F.slice;obtain⟨j,i,l,m,HK,HP⟩:=hD6 (aF (j.o) f qo) (aF (i.o) f qo) (aF (l.o) f qo) (aF (m.o) f qo) (HK.o.aDY f) k
 have HSt:=aA (aH.aDY aS (HSt.o) f qh);clear k f o q r s t v x y z A B C D E;have bm:=aD j.o;have bu:=aD i.o;have ay:=aD l.o;have bb:=aD m.o;have b4:=HP.o.lt;have G:=aA (aH.more bL (aH.inb bL F) (ok':=fun b=>w.heap.size<b/\b≠w.heap.size+1) (fun b hb=>by have h1:=hb.1;(try simp only[World.setCell,Array.size_modify] at h1);have h3:w5.heap.size<=b:=h1;exact⟨by show w.heap.size<b;omega,by show b≠w.heap.size+1;omega⟩));clear F;clear K;obtain⟨⟨o,q,r,s,t,v,x⟩,y,z,A,B,C,D,E⟩:=bI i.o;go_wp2_with fail;refine(N.o _ ((HP.o.set qo))).mono ?_;rintro e w7 ⟨rfl,k,f⟩;obtain⟨j,i,l,m,HK,HP⟩:=hD6 (aF (bE (j.o) qo) f qo) (aF (aAS (i.o) _) f qo) (aF (bE (l.o) qo) f qo) (aF (bE (m.o) qo) f qo) ((HK.o.set qo).aDY f) k;have HSt:=aA (aH.aDY aS (aH.set aS (HSt.o) qh) f qh);have G:=aA (aH.aDY bL (aH.set bL (G.o) qh) f qh);clear k f o q r s t v x y z A B C D E;have bn:=aD j.o;have bw:=aD i.o;have az:=aD l.o;have bd:=aD m.o;have b5:=HP.o.lt;clear N;go_wp2_with fail;refine(M.o _ (HP.o)).mono ?_;rintro e w8 ⟨Y,rfl,F,k,f⟩;obtain⟨oa,oc,rfl,ol⟩:=F.slice;obtain⟨j,i,l,m,HK,HP⟩:=hD6 (aF (j.o) f qo) (aF (i.o) f qo) (aF (l.o) f qo) (aF (m.o) f qo) (HK.o.aDY f) k;have HSt:=aA (aH.aDY aS (HSt.o) f qh);have G:=aA (aH.aDY bL (G.o) f qh);clear k f
 have bo:=aD j.o;have bx:=aD i.o;have a1:=aD l.o;have be:=aD m.o;have b6:=HP.o.lt;have HSo:=aA (aH.more aO (aH.inb aO F) (ok':=fun b=>w.heap.size<b/\b≠w.heap.size+1) (fun b hb=>by have h1:=hb.1;(try simp only[World.setCell,Array.size_modify] at h1);have h3:w7.heap.size<=b:=h1;exact⟨by show w.heap.size<b;omega,by show b≠w.heap.size+1;omega⟩));clear F;clear M;obtain⟨⟨o,q,r,s,t,v,x⟩,y,z,A,B,C,D,E⟩:=bI i.o;obtain⟨⟨R0,R1,R2,R3,R4,R5,R6⟩,ag,ah,ai,aj,ak,al,an⟩:=bI j.o;go_wp2;refine bR (.agg #[.string V.1,.bool false,.int .i64 H.1,.slice ta W.1.length tc,.slice ba X.1.length bc,.slice none 0 0,.slice oa r8.1.length oc]) ?_;have ae:=aa.o;have ad:dH.length=6:=rfl;rw[ad] at ae;refine⟨_,_,_,_,rfl,⟨lT ab.o (by unfold cQ;omega),by unfold bJ;show _<=H.1/\H.1<=_;omega,?_,?_,?_,?_⟩,?_,?_⟩
 .exact QAP
 .exact aH.more bL (aH.set bL (aH.set bL (aH.set bL (aH.set bL (aH.set bL (aH.set bL (aH.set bL (aH.set bL (G.o) qh) qh) qh) qh) qh) qh) qh) qh) (fun b hb=>by have:=hb.1;show w.heap.size<=b;omega)
 .exact aH.nil
 .exact QAQ
 .exact QCw
 .exact QCo
theorem LM{L:List Tok}(T:Toks L)(M:AY L):∀n,n<=3->aAc L n
 |0,hn=>fun d a p g w hp b h=>by
  have e:Qt L 0:=fun d a p g w hp b h=>Ke T M d (by simpa using a) hp b g w h
  by_cases c:(aZ L [str "policy",str "set"] p).1=2
  .exact IA (n:=0) qo T e d a hp b g w h c
  .exact BZ (n:=0) qo T d a hp b g w h c
 |n+1,hn=>fun d a p g w hp b h=>by
  have e:Qt L (n+1):=fun d a p g w hp b h=>Kf T M (n:=n) qo (LM T M n qo) d (by rw[a];omega) hp b g w h
  by_cases c:(aZ L [str "policy",str "set"] p).1=2
  .exact IA hn T e d a hp b g w h c
  .exact BZ hn T d a hp b g w h c
theorem QCE{p:Prop}(h:p:=by
 go_enter func265,ntmps265;go_wp2;go_ret;exact⟨rfl,rfl⟩):p:=h
theorem IB(a:At)(d:CG a)(w:World):Calls prog 282 #[oM a] w (aP (.bool (yN a)) w):=by
 unfold aP oM yN;have c:=aA (fun w=>oV a.name (by have:=d.2;unfold cQ at this;unfold maxLen;omega) w);generalize eL a.name=b at *;go_enter func282,ntmps282;go_wp2_with (go_at_call 96;refine(c.o _).mono ?_;rintro e w' ⟨rfl,rfl⟩)
 all_goals go_returns
 all_goals exact⟨bH (by rw[Bool.eq_iff_iff];simp[*]<;>(intros;omega)),by go_grown⟩
theorem VW(n:Nat)(w:World):Calls prog 265 #[.int .i64 n] w (fun e w'=>e=.returned (.int .i64 (oL n))/\w=w'):=by
 unfold oL;by_cases h0:n=0
 .rw[iP h0];have d:((n:Int)==0)=true:=bQ.2 qo;clear h0;exact QCE
 .rw[iN h0];have d:((n:Int)==0)=false:=bN.2 qo;by_cases h8:8<n
  .rw[iP h8];have d8:decide ((n:Int) > 8)=true:=dX qo;clear h0 h8;exact QCE
  .rw[iN h8];have d8:decide ((n:Int) > 8)=false:=dF qo;clear h0 h8;exact QCE
theorem VX(m:Ma)(g:tZ m)(w:World):Calls prog 281 #[kU m] w (aP (.bool (sX m)) w):=by
 unfold aP kU sX;have a:=aA (fun w=>IB m.aD7 g.1 w);have j:=aA (fun w=>nQ m.val.1 m.val.2.1 m.val.2.2 (by have:=g.2.2.2.2;unfold cQ at this;unfold maxLen;omega) w);unfold aP oM at a;unfold lK at j;generalize yN m.aD7=b at *;have e:aT m.val=aT (m.val.1,m.val.2.1,m.val.2.2):=rfl;rw[e];generalize aT (m.val.1,m.val.2.1,m.val.2.2)=c at *;clear e g;obtain⟨q,o⟩:=xE (w.alloc (.cells (KN m) 262));have l:=aA (aK w (.cells (KN m) 262) _ rfl);clear o;go_enter func281,ntmps281;go_wp2_with fail;refine(a.o _).mono ?_;rintro e w1 ⟨rfl,f⟩;have i:=qK l f;have d:=aA (aC (aB w _) f);obtain⟨⟨r,s,t,v,x,y,z⟩,_⟩:=bI i.o;have p:=aD i.o;clear f a
 cases b
 .go_wp2;go_returns;exact⟨rfl,d.o⟩
 .go_wp2_with (go_at_call 99;refine(j.o _).mono ?_;rintro e w2 ⟨rfl,k⟩;have n:=qB d k;clear k)
  all_goals go_returns
  all_goals first
   |exact⟨bH (by rw[Bool.eq_iff_iff];simp[*]<;>(intros;omega)),n.o⟩
   |exact⟨bH (by rw[Bool.eq_iff_iff];simp[*]<;>(intros;omega)),d.o⟩
theorem Ue{p:Prop}(h:p:=by
 go_wp2;go_roundw
 case rel=>exact⟨k+1,qo,by go_num,HR2,HB2⟩
 case measure=>simp[intOf];omega):p:=h
theorem Uf{p:Prop}(h:p:=by
 have hk1:¬(k:Int)<(l.length:Int):=qo;obtain rfl:k=l.length:=qo;have HE:=aA (Ki HR.o);clear HR;go_wp2;go_returns;exact⟨by rw[HE.o];rfl,HB.o⟩):p:=h
theorem LN{α:Type}(f:α->Int)(l:List α)(k:Nat)(a:k<l.length):gI f (l.drop k)=if f l[k]≠0 then f l[k] else gI f (l.drop (k+1)):=by
 rw[List.drop_eq_getElem_cons a];rfl
theorem xR{α:Type}{f:α->Int}{l:List α}{k:Nat}{R:Int}(a:k<l.length)(h:gI f (l.drop k)=R)(h1:f l[k]≠0):R=f l[k]:=by
 rw[<-h,LN f l k a,iP h1]
theorem AZ{α:Type}{f:α->Int}{l:List α}{k:Nat}{R:Int}(b:k<l.length)(h:gI f (l.drop k)=R)(h1:f l[k]=0):gI f (l.drop (k+1))=R:=by
 rw[<-h,LN f l k b,iN (fun a=>a h1)]
theorem Ki{α:Type}{f:α->Int}{l:List α}{R:Int}(h:gI f (l.drop l.length)=R):R=0:=by
 rw[<-h,List.drop_length];rfl
theorem Kj{ok:nP}(v:Value)(l:List Ma)(w:World)(h:aH rV w ok v l):Calls prog 266 #[v] w (aP (.int .i64 (rR l)) w):=by
 obtain⟨a,c,rfl,I⟩:=h.slice;have y:=aA h;clear h;unfold aP rR;have o:=aA (VW l.length w);by_cases h0:oL l.length≠0
 .rw[iP h0];have d:(oL l.length != 0)=true:=bne_iff_ne.2 h0;clear h0;generalize oL l.length=F at *;go_enter func266,ntmps266;go_wp2_with fail;refine o.o.mono ?_;rintro e w1 ⟨rfl,rfl⟩;exact GS
 rw[iN h0];have h0:oL l.length=0:=by simpa using h0
 rw[h0] at o;clear h0;obtain⟨res,q⟩:=xE (gI (fun m=>if sX m then 0 else 1) l);rw[<-q];have HR0:Hid (gI (fun m=>if sX m then 0 else 1) (l.drop 0)=res):=aA (by rw[List.drop_zero];exact q.symm);clear q;go_enter func266,ntmps266;go_wp2_with fail;refine o.o.mono ?_;rintro e w1 ⟨rfl,rfl⟩;clear o;go_wp2;go_loopw [14] (fun i wr=>∃k:Nat,k<=l.length/\i=.int .i64 k/\Hid (gI (fun m=>if sX m then 0 else 1) (l.drop k)=res)/\Hid (Below w.heap.size w wr)) (fun i _=>l.length - (intOf i).toNat)
 case atStart=>exact Ak
 case round=>
  clear HR0;obtain⟨k,H,rfl,HR,HB⟩:=hrel;by_cases p:k<l.length
  .have hk1:(k:Int)<(l.length:Int):=qo;obtain⟨b,off,r,rfl,_,G,⟨rfl,t⟩,s⟩:=aH.at eS (y.o.on eS HB.o) p qe;obtain⟨x,z,A,B,C,D,E⟩:=CR s;rw[Nat.add_zero] at x;have n:=aA (fun h1=>xR p HR.o h1);have j:=aA (fun h1=>AZ p HR.o h1);have f:=aA (fun w=>VX l[k] t w);unfold aP kU at f;clear s HR t;generalize l[k]=m at *
   cases hm:sX m
   .rw[hm] at f n;have HE:=aA (n.o qe);clear n j hm;go_wp2_with fail;refine(f.o _).mono ?_;rintro e w2 ⟨rfl,g⟩;have HB2:=aA (aC (aC HB.o (aB _ _)) g);clear g f;exact GU
   .rw[hm] at f j;have HR2:=aA (j.o qe);clear n j hm;go_wp2_with fail;refine(f.o _).mono ?_;rintro e w2 ⟨rfl,g⟩;have HB2:=aA (aC (aC HB.o (aB _ _)) g);clear g f x z A B C D E;exact Ue
  .exact Uf
theorem Kk{ok:nP}(v:Value)(l:List (List Ma))(w:World)(h:aH (rows rV) w ok v l):Calls prog 242 #[v] w (aP (.int .i64 (rS l)) w):=by
 obtain⟨a,c,rfl,C⟩:=h.slice;have y:=aA h;clear h;unfold aP rS;have j:=aA (VW l.length w);by_cases h0:oL l.length≠0
 .rw[iP h0];have d:(oL l.length != 0)=true:=bne_iff_ne.2 h0;clear h0;generalize oL l.length=z at *;go_enter func242,ntmps242;go_wp2_with fail;refine j.o.mono ?_;rintro e w1 ⟨rfl,rfl⟩;exact GS
 rw[iN h0];have h0:oL l.length=0:=by simpa using h0
 rw[h0] at j;clear h0;obtain⟨res,q⟩:=xE (gI rR l);rw[<-q];have HR0:Hid (gI rR (l.drop 0)=res):=aA (by rw[List.drop_zero];exact q.symm);clear q;go_enter func242,ntmps242;go_wp2_with fail;refine j.o.mono ?_;rintro e w1 ⟨rfl,rfl⟩;clear j;go_wp2;go_loopw [15] (fun i wr=>∃k:Nat,k<=l.length/\i=.int .i64 k/\Hid (gI rR (l.drop k)=res)/\Hid (Below w.heap.size w wr)) (fun i _=>l.length - (intOf i).toNat)
 case atStart=>exact Ak
 case round=>
  clear HR0;obtain⟨k,B,rfl,HR,HB⟩:=hrel;by_cases p:k<l.length
  .have hk1:(k:Int)<(l.length:Int):=qo;obtain⟨b,off,r,rfl,_,A,⟨D,rfl,s⟩,x⟩:=aH.at dR (y.o.on dR HB.o) p qe;obtain⟨E,F,rfl,_⟩:=s.slice;have t:=x 0 _ rfl;rw[Nat.add_zero,Nat.mul_one] at t;have o:=aA (fun h1=>xR p HR.o h1);have n:=aA (fun h1=>AZ p HR.o h1);have f:=aA (Kj _ l[k] wr s);unfold aP at f;clear x HR s;by_cases he:rR l[k]=0
   .have HR2:=aA (n.o he);rw[he] at f;clear o n he;generalize l[k]=m at *;go_wp2_with fail;refine f.o.mono ?_;rintro e w2 ⟨rfl,g⟩;have HB2:=qB HB g;clear g f t;exact Ue
   .have HE:=aA (o.o he);have d2:(rR l[k] != 0)=true:=bne_iff_ne.2 he;clear o n he;generalize l[k]=m at *;generalize rR m=em at *;go_wp2_with fail;refine f.o.mono ?_;rintro e w2 ⟨rfl,g⟩;have HB2:=qB HB g;clear g f t;exact GU
  .exact Uf
theorem LO{ok:nP}(v:Value)(l:List (List (List Ma)))(w:World)(h:aH (rows (rows rV)) w ok v l):Calls prog 210 #[v] w (aP (.int .i64 (fA l)) w):=by
 obtain⟨a,c,rfl,A⟩:=h.slice;have x:=aA h;clear h;unfold aP fA;by_cases h0:8<l.length
 .rw[iP h0];have d:decide ((l.length:Int) > 8)=true:=dX qo;clear h0;go_enter func210,ntmps210;exact GS
 rw[iN h0];have d:decide ((l.length:Int) > 8)=false:=dF qo;clear h0;obtain⟨res,p⟩:=xE (gI rS l);rw[<-p];have HR0:Hid (gI rS (l.drop 0)=res):=aA (by rw[List.drop_zero];exact p.symm);clear p;go_enter func210,ntmps210;go_wp2;go_loopw [11] (fun i wr=>∃k:Nat,k<=l.length/\i=.int .i64 k/\Hid (gI rS (l.drop k)=res)/\Hid (Below w.heap.size w wr)) (fun i _=>l.length - (intOf i).toNat)
 case atStart=>exact Ak
 case round=>
  clear HR0;obtain⟨k,z,rfl,HR,HB⟩:=hrel;by_cases o:k<l.length
  .have hk1:(k:Int)<(l.length:Int):=qo;obtain⟨b,off,r,rfl,_,y,⟨B,rfl,q⟩,t⟩:=aH.at aS (x.o.on aS HB.o) o qe;obtain⟨C,D,rfl,_⟩:=q.slice;have s:=t 0 _ rfl;rw[Nat.add_zero,Nat.mul_one] at s;have n:=aA (fun h1=>xR o HR.o h1);have j:=aA (fun h1=>AZ o HR.o h1);have f:=aA (Kk _ l[k] wr q);unfold aP at f;clear t HR q;by_cases he:rS l[k]=0
   .have HR2:=aA (j.o he);rw[he] at f;clear n j he;generalize l[k]=m at *;go_wp2_with fail;refine f.o.mono ?_;rintro e w2 ⟨rfl,g⟩;have HB2:=qB HB g;clear g f s;exact Ue
   .have HE:=aA (n.o he);have d2:(rS l[k] != 0)=true:=bne_iff_ne.2 he;clear n j he;generalize l[k]=m at *;generalize rS m=em at *;go_wp2_with fail;refine f.o.mono ?_;rintro e w2 ⟨rfl,g⟩;have HB2:=qB HB g;clear g f s;exact GU
  .exact Uf
theorem Kl{p:Prop}(h:p:=by
 go_wp2;go_returns;exact⟨by rw[HE.o];rfl,aC HB.o (aB _ _)⟩):p:=h
theorem VY{ok:nP}(v:Value)(l:List Ob)(w:World)(h:aH kB w ok v l):Calls prog 211 #[v] w (aP (.int .i64 (lI l)) w):=by
 obtain⟨a,c,rfl,N⟩:=h.slice;have D:=aA h;clear h;unfold aP lI;by_cases h0:8<l.length
 .rw[iP h0];have d:decide ((l.length:Int) > 8)=true:=dX qo;clear h0;go_enter func211,ntmps211;exact GS
 rw[iN h0];have d:decide ((l.length:Int) > 8)=false:=dF qo;clear h0;obtain⟨f,t⟩:∃f:Ob->Int,f=(fun o:Ob=>if (1<=o.on/\o.on<=2)/\(1<=o.aDG/\o.aDG<=4)/\eL o.arg=true then (0:Int) else 1):=⟨_,rfl⟩;rw[<-t];have j:Hid (∀o:Ob,¬((1<=o.on/\o.on<=2)/\(1<=o.aDG/\o.aDG<=4)/\eL o.arg=true)->f o=1):=aA (fun o h=>by rw[t];exact iN h);have n:Hid (∀o:Ob,((1<=o.on/\o.on<=2)/\(1<=o.aDG/\o.aDG<=4)/\eL o.arg=true)->f o=0):=aA (fun o h=>by rw[t];exact iP h);clear t;obtain⟨res,z⟩:=xE (gI f l);rw[<-z];have HR0:Hid (gI f (l.drop 0)=res):=aA (by rw[List.drop_zero];exact z.symm);clear z;go_enter func211,ntmps211;go_wp2;go_loopw [10] (fun i wr=>∃k:Nat,k<=l.length/\i=.int .i64 k/\Hid (gI f (l.drop k)=res)/\Hid (Below w.heap.size w wr)) (fun i _=>l.length - (intOf i).toNat)
 case atStart=>exact Ak
 case round=>
  clear HR0;obtain⟨k,M,rfl,HR,HB⟩:=hrel;by_cases y:k<l.length
  .have hk1:(k:Int)<(l.length:Int):=qo;obtain⟨b,off,r,rfl,_,L,⟨rfl,B⟩,A⟩:=aH.at aO (D.o.on aO HB.o) y qe;obtain⟨C,J,K⟩:=cR3 A;rw[Nat.add_zero] at C;have m:=aA (fun h1=>xR y HR.o h1);have p:=aA (fun h1=>AZ y HR.o h1);have s:=aA (fun w=>oV l[k].arg (by have:=B.2.2;unfold cQ at this;unfold maxLen;omega) w);clear A HR B;generalize l[k]=o at *;by_cases h1:o.on<1
   .have HE:Hid (res=1):=aA (by
     have g:=j.o o (by rintro⟨x,a2,_⟩;omega);rw[m.o (by rw[g];decide),g])
    clear m p n j;have E:decide (o.on<1)=true:=dX qo;clear h1;exact Kl
   have E:decide (o.on<1)=false:=dF qo;by_cases h2:2<o.on
   .have HE:Hid (res=1):=aA (by
     have g:=j.o o (by rintro⟨x,a2,_⟩;omega);rw[m.o (by rw[g];decide),g])
    clear m p n j;have F:decide (o.on > 2)=true:=dX qo;clear h2;exact Kl
   have F:decide (o.on > 2)=false:=dF qo;by_cases h3:o.aDG<1
   .have HE:Hid (res=1):=aA (by
     have g:=j.o o (by rintro⟨x,a2,_⟩;omega);rw[m.o (by rw[g];decide),g])
    clear m p n j;have G:decide (o.aDG<1)=true:=dX qo;clear h3;exact Kl
   have G:decide (o.aDG<1)=false:=dF qo;by_cases h4:4<o.aDG
   .have HE:Hid (res=1):=aA (by
     have g:=j.o o (by rintro⟨x,a2,_⟩;omega);rw[m.o (by rw[g];decide),g])
    clear m p n j;have H:decide (o.aDG > 4)=true:=dX qo;clear h4;exact Kl
   have H:decide (o.aDG > 4)=false:=dF qo
   cases q:eL o.arg
   .have I:=q;rw[q] at s;have HE:Hid (res=1):=aA (by
     have g:=j.o o (by rintro⟨_,_,a3⟩;rw[q] at a3;cases a3);rw[m.o (by rw[g];decide),g])
    clear m p n j;clear q I h1 h2 h3 h4;go_wp2_with fail;refine(s.o _).mono ?_;rintro e w2 ⟨rfl,rfl⟩;clear s;exact Kl
   .rw[q] at s;have HR2:=aA (p.o (n.o o ⟨⟨qo,qo⟩,⟨qo,qo⟩,q⟩));have HB2:=qB HB (aB _ (.cells #[.int .i64 o.on,.int .i64 o.aDG,.string o.arg] 167));clear q h1 h2 h3 h4 m p n j;go_wp2_with fail;refine(s.o _).mono ?_;rintro e w2 ⟨rfl,rfl⟩;clear s C J K;exact Ue
  .exact Uf
theorem QDf{p:Prop}(h:p:=by
 go_wp2
 all_goals go_returns
 all_goals exact⟨bH (by rw[Bool.eq_iff_iff];simp[*]),HB.o⟩):p:=h
theorem IC(b:bY):b=ByteArray.empty↔b.toList=[]:=by
 rw[Lib.toList_data];constructor
 .rintro rfl;rfl
 .intro h
  apply ByteArray.ext
  apply Array.ext'
  rw[h];rfl
theorem VZ(v:V3):(decide (v=bD))=decide (v.1=0/\v.2.1=0/\v.2.2.toList=[]):=by
 obtain⟨a,b,c⟩:=v;rw[Bool.eq_iff_iff];simp[bD,<-IC]
theorem WA(v:At):(decide (v=uS))=decide (v.cat=0/\v.name.toList=[]/\v.aEe=false):=by
 obtain⟨a,b,c⟩:=v;rw[Bool.eq_iff_iff];simp[uS,<-IC]
theorem Et(n:No)(i:oU n)(w:World):Calls prog 268 #[jP n] w (aP (.bool (qZ n)) w):=by
 unfold aP jP qZ;have f:=aA (fun w=>IB n.aD7 i.2.2 w);have g:=aA (fun w=>nQ n.val.1 n.val.2.1 n.val.2.2 (by have:=i.2.1.2.2;unfold cQ at this;unfold maxLen;omega) w);unfold aP oM at f;unfold lK at g;generalize yN n.aD7=b at *;have e:aT n.val=aT (n.val.1,n.val.2.1,n.val.2.2):=rfl;rw[e];generalize aT (n.val.1,n.val.2.1,n.val.2.2)=c at *;clear e i;have j:=aA (aK w (.cells (iW n) 274) _ rfl);have k:=aA (aB w (.cells (iW n) 274));by_cases h1:n.op=1
 .rw[iP h1];have d1:(n.op==1)=true:=bQ.2 h1;clear h1 f;rw[WA];go_enter func268,ntmps268;go_wp2_with fail;refine(g.o _).mono ?_;rintro e w1 ⟨rfl,a⟩;have d:=qK j a;have HB:=qB k a;obtain⟨⟨m,o,p,q,r,s,t⟩,_⟩:=bI d.o;have l:=aD d.o;clear a g
  cases c
  .go_wp2;go_returns;exact⟨rfl,HB.o⟩
  .exact QDf
 rw[iN h1];have d1:(n.op==1)=false:=bN.2 h1;clear h1 g;by_cases h2:n.op=2
 .rw[iP h2];have d2:(n.op==2)=true:=bQ.2 h2;clear h2;rw[VZ];go_enter func268,ntmps268;go_wp2_with fail;refine(f.o _).mono ?_;rintro e w1 ⟨rfl,a⟩;have d:=qK j a;have HB:=qB k a;obtain⟨⟨m,o,p,q,r,s,t⟩,_⟩:=bI d.o;have l:=aD d.o;clear a f
  cases b
  .go_wp2;go_returns;exact⟨rfl,HB.o⟩
  .exact QDf
 rw[iN h2];have d2:(n.op==2)=false:=bN.2 h2;clear h2 f;rw[VZ,WA];go_enter func268,ntmps268;go_wp2
 all_goals go_returns
 all_goals exact⟨bH (by rw[Bool.eq_iff_iff];simp[*]),aB _ _⟩
theorem QBI{p:Prop}(h:p:=by
 have B0:=aA (aK w (.cells #[.bool true] 4) _ rfl);have HB0:=aA (aB w (.cells #[.bool true] 4));go_enter func267,ntmps267;go_wp2;go_returns;exact⟨_,rfl,HB0.o,xS (l:=[true]) B0.o (lR _) rfl rfl qe⟩):p:=h
theorem Ug{p:Prop}(h:p:=by
 go_enter func267,ntmps267;go_wp2;go_returns;exact⟨_,rfl,Below.refl _ _,aH.nil⟩):p:=h
theorem ID(w:World)(ok:nP):∀l:List Bool,aX (DP w ok) (l.map Value.bool) l
 | []=>rfl
 |x::l=>⟨[.bool x],l.map Value.bool,rfl,⟨rfl,trivial⟩,ID w ok l⟩
theorem xS{w:World}{ok:nP}{b:Nat}{cs:Array Value}{e:TypeId}{fr:Nat×Nat}{l:List Bool}{c n:Nat}(d:w.heap[b]? =some (.cells cs e fr))(j:ok b)(f:cs.toList=l.map Value.bool)(g:l.length=n)(k:n<=1000000):aH DP w ok (.slice (some ⟨b,0,none⟩) n c) l:=by
 refine⟨_,c,l.map Value.bool,by rw[g],fun _=>⟨b,0,rfl,j,fun i x a=> ?_⟩,ID w ok l,qo⟩;rw[<-f] at a;simp only[World.cell?,d,Nat.zero_add];simpa using a
def DZ(op:Int)(w:World)(e:Ending)(w':World):Prop:=
 ∃v,e=.returned (.tuple #[v,.bool (mW op).isSome])/\Below w.heap.size w w'/\aH DP w' (fun b=>w.heap.size<=b) v ((mW op).getD [])
theorem Km(op:Int)(w:World):Calls prog 267 #[.int .i64 op] w (DZ op w):=by
 unfold DZ mW;by_cases h1:op=1
 .subst h1;rw[iP (.inl rfl)];exact Ug
 by_cases h2:op=2
 .subst h2;rw[iP (.inr rfl)];exact Ug
 rw[iN qo];have d1:(op==1)=false:=bN.2 h1;have d2:(op==2)=false:=bN.2 h2;clear h1 h2;by_cases h1:op=3
 .subst h1;rw[iP (.inl rfl)];exact QBI
 by_cases h2:op=4
 .subst h2;rw[iP (.inr rfl)];exact QBI
 rw[iN qo];have d3:(op==3)=false:=bN.2 h1;have d4:(op==4)=false:=bN.2 h2;clear h1 h2;by_cases h1:op=5
 .subst h1;rw[iP rfl];have B0:=aA (aK w (.cells #[.bool true,.bool false] 4) _ rfl);have HB0:=aA (aB w (.cells #[.bool true,.bool false] 4));go_enter func267,ntmps267;go_wp2;go_returns;exact⟨_,rfl,HB0.o,xS (l:=[true,false]) B0.o (lR _) rfl rfl qe⟩
 rw[iN h1];have d5:(op==5)=false:=bN.2 h1;clear h1;by_cases h1:op=11
 .subst h1;rw[iP rfl];have B0:=aA (aK w (.cells #[.bool false] 4) _ rfl);have HB0:=aA (aB w (.cells #[.bool false] 4));go_enter func267,ntmps267;go_wp2;go_returns;exact⟨_,rfl,HB0.o,xS (l:=[false]) B0.o (lR _) rfl rfl qe⟩
 rw[iN h1];have d11:(op==11)=false:=bN.2 h1;clear h1;by_cases h1:6<=op
 .have d6:decide (op ≥ 6)=true:=dX h1;by_cases h2:op<=13
  .rw[iP ⟨h1,h2⟩];have d7:decide (op<=13)=true:=dX h2;clear h1 h2;have B0:=aA (aK w (.cells #[.bool false,.bool false] 4) _ rfl);have HB0:=aA (aB w (.cells #[.bool false,.bool false] 4));go_enter func267,ntmps267;go_wp2;go_returns;exact⟨_,rfl,HB0.o,xS (l:=[false,false]) B0.o (lR _) rfl rfl qe⟩
  .rw[iN (fun h=>h2 h.2)];have d7:decide (op<=13)=false:=dF h2;clear h1 h2;exact Ug
 .rw[iN (fun h=>h1 h.1)];have d6:decide (op ≥ 6)=false:=dF h1;clear h1;exact Ug
end Go.Proofs.YtheabjeppmdmiaaGreatDoor
