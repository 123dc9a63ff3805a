/- Lemmas. -/
import Derived.Test.YtheabjeppmdmiaaGreatDoorMam
namespace Go.Proofs.YtheabjeppmdmiaaGreatDoor
open Go.RowKit
set_option linter.unusedVariables false
set_option linter.unusedSimpArgs false
set_option maxHeartbeats 16000000
open _root_.Go.Proofs.Tryz
set_option maxRecDepth 20000
theorem Tu{p:Prop}(h:p:=by
 refine⟨rfl,?_,?_⟩
 .exact((((((((((HP.o.set qo).set qo).set qo).set qo).set qo).set qo).set qo).set qo).set qo).set qo)
 .exact cZ.end (((((((((((HK.o.set qo).set qo).set qo).set qo).set qo).set qo).set qo).set qo).set qo).set qo))):p:=h
theorem cZ.refl(B g:Nat)(w:World):cZ B g w w:=aN.refl _ _
theorem mO{L:List Tok}{s:bY}{p:PS}(h:cM L s p=true):kS L s p=(true,{p with at_:=p.at_+1}):=by unfold kS;rw[iP h]
theorem kE{L:List Tok}{s:bY}{p:PS}(h:cM L s p=false):kS L s p=(false,p):=by unfold kS;rw[iN (by rw[h];decide)]
abbrev Av:Array Value:=#[.int .i64 0,.string ⟨#[]⟩,.bool false,.int .i64 0,.int .i64 0,.int .i64 0,.string ⟨#[]⟩]
theorem Wd{L:List Tok}{p:PS}(T:Toks L)(hp:p.at_<L.length)(g:Nat)(w:World)(h:PW L w g p)(h0:cM L (str "=") (cE L p).2=true):
 Calls prog 240 #[.pointer (some ⟨g,0,none⟩)] w (eU L g w (kU (eH L p).1) (eH L p).2):=by
 have Z:=T.len;have aa:=h.lt;have HP:=aA h;have m1:=nO T hp;have m2:=yQ T m1.lt;have j:=aA (fun w h=>wI T hp g w h);have k:=aA (fun w h=>eP T (str "=") m1.lt g w h);rw[mO h0,Cw] at k;have l:sP L (cE L p).2=(1,{(cE L p).2 with at_:=(cE L p).2.at_+1}):=by unfold sP;rw[iP h0]
 rw[l] at m2;have i:=aA (fun w h=>sB T m2.lt g w h);have hm:eH L p=(⟨(cE L p).1,1,(dC L {(cE L p).2 with at_:=(cE L p).2.at_+1}).1⟩,(dC L {(cE L p).2 with at_:=(cE L p).2.at_+1}).2):=by unfold eH;dsimp only;rw[l]
 rw[hm];clear hm l m1 m2 h h0;unfold eU;unfold oM at j;unfold dE at i;dsimp only at i ⊢;generalize cE L p=ra at *;generalize dC L {ra.2 with at_:=ra.2.at_+1}=m at *;go_enter func240,ntmps240;have HK:=aA (cZ.refl w.heap.size g w);go_wp2_with fail;refine(j.o _ (HP.o.alloc)).mono ?_;rintro e w1 ⟨rfl,c,a⟩;obtain⟨b,HK,HP⟩:=aY (aF (aK _ _ _ qs) a qo:w1.heap[w.heap.size]? =some (.cells Av 262 (0,0))) (HK.o.alloc.aDY a) c;clear c a;have ae:=aD b.o;have aj:=HP.o.lt;clear j;go_wp2;refine wp_loop_rounds 4 ?_;rw[rounds_succ];go_wp2_with fail;refine(k.o _ (HP.o.alloc.alloc)).mono ?_;rintro e w2 ⟨rfl,c,a⟩;obtain⟨b,d,f,HK,HP⟩:=gG (aF (aE (aE (b.o) (aB _ _)) (aB _ _)) a qo) (aF (aE (aK _ _ _ qs) (aB _ _)) a qo:w2.heap[w1.heap.size]? =some (.cells #[.int .i64 ra.1.cat,.string ra.1.name,.bool ra.1.aEe,.int .i64 0,.int .i64 0,.int .i64 0,.string ⟨#[]⟩] 262 (0,0))) (aF (aK _ _ _ qs) a qo:w2.heap[w1.heap.size+1]? =some (.cells #[.string ⟨#[61]⟩,.string ⟨#[60]⟩,.string ⟨#[62]⟩] 9 (0,0))) (HK.o.alloc.alloc.aDY a) c;clear c a;have af:=aD b.o;have ab:=aD d.o;have ah:=aD f.o;have ak:=HP.o.lt;clear k;obtain⟨⟨n,o,q,r,s,t,v⟩,x,y,z,A,B,C,D⟩:=bI d.o;obtain⟨⟨W0,E,F⟩,G,H,I⟩:=cG f.o;go_wp2_with fail;refine(i.o _ ((HP.o.set qo))).mono ?_;rintro e w3 ⟨rfl,c,a⟩;obtain⟨b,d,f,HK,HP⟩:=gG (aF (bE (b.o) qo) a qo) (aF (KM (d.o) _) a qo) (aF (bE (f.o) qo) a qo) ((HK.o.set qo).aDY a) c;clear c a n o q r s t v x y z A B C D W0 E F G H I;have ag:=aD b.o;have ad:=aD d.o;have ai:=aD f.o;have al:=HP.o.lt;clear i;obtain⟨⟨n,o,q,r,s,t,v⟩,x,y,z,A,B,C,D⟩:=bI d.o
 obtain⟨⟨J,K,M,N,O,P,Q⟩,R,S,U,V,W,X,Y⟩:=bI b.o;go_wp2;refine bR (.agg #[.int .i64 ra.1.cat,.string ra.1.name,.bool ra.1.aEe,.int .i64 1,.int .i64 m.1.1,.int .i64 m.1.2.1,.string m.1.2.2]) ?_;exact Tu
theorem We{L:List Tok}{p:PS}(T:Toks L)(hp:p.at_<L.length)(g:Nat)(w:World)(h:PW L w g p)(h0:cM L (str "=") (cE L p).2=false)(h1:cM L (str "<") (cE L p).2=true):
 Calls prog 240 #[.pointer (some ⟨g,0,none⟩)] w (eU L g w (kU (eH L p).1) (eH L p).2):=by
 have hL:=T.len;have aa:=h.lt;have HP:=aA h;have m1:=nO T hp;have m2:=yQ T m1.lt;have A:=aA (fun w h=>wI T hp g w h);have B:=aA (fun w h=>eP T (str "=") m1.lt g w h);rw[kE h0,Cw] at B;have C:=aA (fun w h=>eP T (str "<") m1.lt g w h);rw[mO h1,Oy] at C;have I:sP L (cE L p).2=(2,{(cE L p).2 with at_:=(cE L p).2.at_+1}):=by unfold sP;rw[iN (by rw[h0];decide),iP h1]
 rw[I] at m2;have i:=aA (fun w h=>sB T m2.lt g w h);have hm:eH L p=(⟨(cE L p).1,2,(dC L {(cE L p).2 with at_:=(cE L p).2.at_+1}).1⟩,(dC L {(cE L p).2 with at_:=(cE L p).2.at_+1}).2):=by unfold eH;dsimp only;rw[I]
 rw[hm];clear hm I m1 m2 h h0 h1;unfold eU;unfold oM at A;unfold dE at i;dsimp only at i ⊢;generalize cE L p=ra at *;generalize dC L {ra.2 with at_:=ra.2.at_+1}=J at *;go_enter func240,ntmps240;have HK:=aA (cZ.refl w.heap.size g w);go_wp2_with fail;refine(A.o _ (HP.o.alloc)).mono ?_;rintro e w1 ⟨rfl,c,a⟩;obtain⟨b,HK,HP⟩:=aY (aF (aK _ _ _ qs) a qo:w1.heap[w.heap.size]? =some (.cells Av 262 (0,0))) (HK.o.alloc.aDY a) c;clear c a;have af:=aD b.o;have an:=HP.o.lt;clear A;go_wp2;refine wp_loop_rounds 4 ?_;rw[rounds_succ];go_wp2_with fail;refine(B.o _ (HP.o.alloc.alloc)).mono ?_;rintro e w2 ⟨rfl,c,a⟩;obtain⟨b,d,f,HK,HP⟩:=gG (aF (aE (aE (b.o) (aB _ _)) (aB _ _)) a qo) (aF (aE (aK _ _ _ qs) (aB _ _)) a qo:w2.heap[w1.heap.size]? =some (.cells #[.int .i64 ra.1.cat,.string ra.1.name,.bool ra.1.aEe,.int .i64 0,.int .i64 0,.int .i64 0,.string ⟨#[]⟩] 262 (0,0))) (aF (aK _ _ _ qs) a qo:w2.heap[w1.heap.size+1]? =some (.cells #[.string ⟨#[61]⟩,.string ⟨#[60]⟩,.string ⟨#[62]⟩] 9 (0,0))) (HK.o.alloc.alloc.aDY a) c;clear c a;have ag:=aD b.o;have ab:=aD d.o;have aj:=aD f.o;have ao:=HP.o.lt;clear B;obtain⟨⟨j,k,l,m,n,o,q⟩,r,s,t,v,x,y,z⟩:=bI d.o;obtain⟨⟨W0,D,E⟩,F,G,H⟩:=cG f.o;go_wp2;rw[rounds_succ];go_wp2_with fail;refine(C.o _ (HP.o)).mono ?_;rintro e w3 ⟨rfl,c,a⟩;obtain⟨b,d,f,HK,HP⟩:=gG (aF (b.o) a qo) (aF (d.o) a qo) (aF (f.o) a qo) (HK.o.aDY a) c;clear c a j k l m n o q r s t v x y z W0 D E F G H;have ah:=aD b.o;have ad:=aD d.o;have ak:=aD f.o;have aq:=HP.o.lt;clear C;obtain⟨⟨j,k,l,m,n,o,q⟩,r,s,t,v,x,y,z⟩:=bI d.o
 obtain⟨⟨W0,D,E⟩,F,G,H⟩:=cG f.o;go_wp2_with fail;refine(i.o _ ((HP.o.set qo))).mono ?_;rintro e w4 ⟨rfl,c,a⟩;obtain⟨b,d,f,HK,HP⟩:=gG (aF (bE (b.o) qo) a qo) (aF (KM (d.o) _) a qo) (aF (bE (f.o) qo) a qo) ((HK.o.set qo).aDY a) c;clear c a j k l m n o q r s t v x y z W0 D E F G H;have ai:=aD b.o;have ae:=aD d.o;have al:=aD f.o;have ar:=HP.o.lt;clear i;obtain⟨⟨j,k,l,m,n,o,q⟩,r,s,t,v,x,y,z⟩:=bI d.o;obtain⟨⟨K,M,N,O,P,Q,R⟩,S,U,V,W,X,Y,Z⟩:=bI b.o;go_wp2;refine bR (.agg #[.int .i64 ra.1.cat,.string ra.1.name,.bool ra.1.aEe,.int .i64 2,.int .i64 J.1.1,.int .i64 J.1.2.1,.string J.1.2.2]) ?_;exact Tu
theorem Wf{L:List Tok}{p:PS}(T:Toks L)(hp:p.at_<L.length)(g:Nat)(w:World)(h:PW L w g p)(h0:cM L (str "=") (cE L p).2=false)(h1:cM L (str "<") (cE L p).2=false)(h2:cM L (str ">") (cE L p).2=true):
 Calls prog 240 #[.pointer (some ⟨g,0,none⟩)] w (eU L g w (kU (eH L p).1) (eH L p).2):=by
 have hL:=T.len;have ab:=h.lt;have HP:=aA h;have m1:=nO T hp;have m2:=yQ T m1.lt;have F:=aA (fun w h=>wI T hp g w h);have G:=aA (fun w h=>eP T (str "=") m1.lt g w h);rw[kE h0,Cw] at G;have H:=aA (fun w h=>eP T (str "<") m1.lt g w h);rw[kE h1,Oy] at H;have I:=aA (fun w h=>eP T (str ">") m1.lt g w h);rw[mO h2,Yw] at I;have J:sP L (cE L p).2=(3,{(cE L p).2 with at_:=(cE L p).2.at_+1}):=by unfold sP;rw[iN (by rw[h0];decide),iN (by rw[h1];decide),iP h2]
 rw[J] at m2;have E:=aA (fun w h=>sB T m2.lt g w h);have hm:eH L p=(⟨(cE L p).1,3,(dC L {(cE L p).2 with at_:=(cE L p).2.at_+1}).1⟩,(dC L {(cE L p).2 with at_:=(cE L p).2.at_+1}).2):=by unfold eH;dsimp only;rw[J]
 rw[hm];clear hm J m1 m2 h h0 h1 h2;unfold eU;unfold oM at F;unfold dE at E;dsimp only at E ⊢;generalize cE L p=ra at *;generalize dC L {ra.2 with at_:=ra.2.at_+1}=K at *;go_enter func240,ntmps240;have HK:=aA (cZ.refl w.heap.size g w);go_wp2_with fail;refine(F.o _ (HP.o.alloc)).mono ?_;rintro e w1 ⟨rfl,d,a⟩;obtain⟨c,HK,HP⟩:=aY (aF (aK _ _ _ qs) a qo:w1.heap[w.heap.size]? =some (.cells Av 262 (0,0))) (HK.o.alloc.aDY a) d;clear d a;have ah:=aD c.o;have au:=HP.o.lt;clear F;go_wp2;refine wp_loop_rounds 4 ?_;rw[rounds_succ];go_wp2_with fail;refine(G.o _ (HP.o.alloc.alloc)).mono ?_;rintro e w2 ⟨rfl,d,a⟩;obtain⟨c,b,f,HK,HP⟩:=gG (aF (aE (aE (c.o) (aB _ _)) (aB _ _)) a qo) (aF (aE (aK _ _ _ qs) (aB _ _)) a qo:w2.heap[w1.heap.size]? =some (.cells #[.int .i64 ra.1.cat,.string ra.1.name,.bool ra.1.aEe,.int .i64 0,.int .i64 0,.int .i64 0,.string ⟨#[]⟩] 262 (0,0))) (aF (aK _ _ _ qs) a qo:w2.heap[w1.heap.size+1]? =some (.cells #[.string ⟨#[61]⟩,.string ⟨#[60]⟩,.string ⟨#[62]⟩] 9 (0,0))) (HK.o.alloc.alloc.aDY a) d;clear d a;have ai:=aD c.o;have ad:=aD b.o;have an:=aD f.o;have av:=HP.o.lt;clear G;obtain⟨⟨i,j,k,l,m,n,o⟩,q,r,s,t,v,x,y⟩:=bI b.o;obtain⟨⟨W0,z,A⟩,B,C,D⟩:=cG f.o;go_wp2;rw[rounds_succ];go_wp2_with fail;refine(H.o _ (HP.o)).mono ?_;rintro e w3 ⟨rfl,d,a⟩;obtain⟨c,b,f,HK,HP⟩:=gG (aF (c.o) a qo) (aF (b.o) a qo) (aF (f.o) a qo) (HK.o.aDY a) d;clear d a i j k l m n o q r s t v x y W0 z A B C D;have aj:=aD c.o;have ae:=aD b.o;have ao:=aD f.o;have aw:=HP.o.lt;clear H;obtain⟨⟨i,j,k,l,m,n,o⟩,q,r,s,t,v,x,y⟩:=bI b.o
 obtain⟨⟨W0,z,A⟩,B,C,D⟩:=cG f.o;go_wp2;rw[rounds_succ];go_wp2_with fail;refine(I.o _ (HP.o)).mono ?_;rintro e w4 ⟨rfl,d,a⟩;obtain⟨c,b,f,HK,HP⟩:=gG (aF (c.o) a qo) (aF (b.o) a qo) (aF (f.o) a qo) (HK.o.aDY a) d;clear d a i j k l m n o q r s t v x y W0 z A B C D;have ak:=aD c.o;have af:=aD b.o;have aq:=aD f.o;have ax:=HP.o.lt;clear I;obtain⟨⟨i,j,k,l,m,n,o⟩,q,r,s,t,v,x,y⟩:=bI b.o;obtain⟨⟨W0,z,A⟩,B,C,D⟩:=cG f.o;go_wp2_with fail;refine(E.o _ ((HP.o.set qo))).mono ?_;rintro e w5 ⟨rfl,d,a⟩;obtain⟨c,b,f,HK,HP⟩:=gG (aF (bE (c.o) qo) a qo) (aF (KM (b.o) _) a qo) (aF (bE (f.o) qo) a qo) ((HK.o.set qo).aDY a) d;clear d a i j k l m n o q r s t v x y W0 z A B C D;have al:=aD c.o;have ag:=aD b.o;have ar:=aD f.o;have ay:=HP.o.lt;clear E;obtain⟨⟨i,j,k,l,m,n,o⟩,q,r,s,t,v,x,y⟩:=bI b.o;obtain⟨⟨M,N,O,P,Q,R,S⟩,U,V,W,X,Y,Z,aa⟩:=bI c.o;go_wp2;refine bR (.agg #[.int .i64 ra.1.cat,.string ra.1.name,.bool ra.1.aEe,.int .i64 3,.int .i64 K.1.1,.int .i64 K.1.2.1,.string K.1.2.2]) ?_;exact Tu
theorem Wg{L:List Tok}{p:PS}(T:Toks L)(hp:p.at_<L.length)(g:Nat)(w:World)(h:PW L w g p)(h0:cM L (str "=") (cE L p).2=false)(h1:cM L (str "<") (cE L p).2=false)(h2:cM L (str ">") (cE L p).2=false):
 Calls prog 240 #[.pointer (some ⟨g,0,none⟩)] w (eU L g w (kU (eH L p).1) (eH L p).2):=by
 have O:=T.len;have af:=h.lt;have HP:=aA h;have m1:=nO T hp;have m2:=yQ T m1.lt;have G:=aA (fun w h=>wI T hp g w h);have H:=aA (fun w h=>eP T (str "=") m1.lt g w h);rw[kE h0,Cw] at H;have I:=aA (fun w h=>eP T (str "<") m1.lt g w h);rw[kE h1,Oy] at I;have J:=aA (fun w h=>eP T (str ">") m1.lt g w h);rw[kE h2,Yw] at J;have K:sP L (cE L p).2=(0,dM L (cE L p).2):=by unfold sP;rw[iN (by rw[h0];decide),iN (by rw[h1];decide),iN (by rw[h2];decide)]
 rw[K] at m2;have F:=aA (fun w h=>sB T m2.lt g w h);have N:=aA (fun w h=>mB m1.lt O g w h);have hm:eH L p=(⟨(cE L p).1,0,(dC L (dM L (cE L p).2)).1⟩,(dC L (dM L (cE L p).2)).2):=by unfold eH;dsimp only;rw[K]
 rw[hm];clear hm K m1 m2 h h0 h1 h2;unfold eU;unfold oM at G;unfold dE at F;dsimp only at F ⊢;generalize cE L p=ra at *;generalize dM L ra.2=q at *;generalize dC L q=M at *;go_enter func240,ntmps240;have HK:=aA (cZ.refl w.heap.size g w);go_wp2_with fail;refine(G.o _ (HP.o.alloc)).mono ?_;rintro e w1 ⟨rfl,d,a⟩;obtain⟨c,HK,HP⟩:=aY (aF (aK _ _ _ qs) a qo:w1.heap[w.heap.size]? =some (.cells Av 262 (0,0))) (HK.o.alloc.aDY a) d;clear d a;have al:=aD c.o;have a1:=HP.o.lt;clear G;go_wp2;refine wp_loop_rounds 4 ?_;rw[rounds_succ];go_wp2_with fail;refine(H.o _ (HP.o.alloc.alloc)).mono ?_;rintro e w2 ⟨rfl,d,a⟩;obtain⟨c,b,f,HK,HP⟩:=gG (aF (aE (aE (c.o) (aB _ _)) (aB _ _)) a qo) (aF (aE (aK _ _ _ qs) (aB _ _)) a qo:w2.heap[w1.heap.size]? =some (.cells #[.int .i64 ra.1.cat,.string ra.1.name,.bool ra.1.aEe,.int .i64 0,.int .i64 0,.int .i64 0,.string ⟨#[]⟩] 262 (0,0))) (aF (aK _ _ _ qs) a qo:w2.heap[w1.heap.size+1]? =some (.cells #[.string ⟨#[61]⟩,.string ⟨#[60]⟩,.string ⟨#[62]⟩] 9 (0,0))) (HK.o.alloc.alloc.aDY a) d;clear d a;have an:=aD c.o;have ag:=aD b.o;have av:=aD f.o;have a6:=HP.o.lt;clear H;obtain⟨⟨i,j,k,l,m,n,o⟩,r,s,t,v,x,y,z⟩:=bI b.o;obtain⟨⟨W0,A,B⟩,C,D,E⟩:=cG f.o;go_wp2;rw[rounds_succ];go_wp2_with fail;refine(I.o _ (HP.o)).mono ?_;rintro e w3 ⟨rfl,d,a⟩;obtain⟨c,b,f,HK,HP⟩:=gG (aF (c.o) a qo) (aF (b.o) a qo) (aF (f.o) a qo) (HK.o.aDY a) d;clear d a i j k l m n o r s t v x y z W0 A B C D E;have ao:=aD c.o;have ah:=aD b.o;have aw:=aD f.o;have a7:=HP.o.lt;clear I;obtain⟨⟨i,j,k,l,m,n,o⟩,r,s,t,v,x,y,z⟩:=bI b.o
 obtain⟨⟨W0,A,B⟩,C,D,E⟩:=cG f.o;go_wp2;rw[rounds_succ];go_wp2_with fail;refine(J.o _ (HP.o)).mono ?_;rintro e w4 ⟨rfl,d,a⟩;obtain⟨c,b,f,HK,HP⟩:=gG (aF (c.o) a qo) (aF (b.o) a qo) (aF (f.o) a qo) (HK.o.aDY a) d;clear d a i j k l m n o r s t v x y z W0 A B C D E;have aq:=aD c.o;have ai:=aD b.o;have ax:=aD f.o;have a8:=HP.o.lt;clear J;obtain⟨⟨i,j,k,l,m,n,o⟩,r,s,t,v,x,y,z⟩:=bI b.o;obtain⟨⟨W0,A,B⟩,C,D,E⟩:=cG f.o;go_wp2;rw[rounds_succ];go_wp2_with fail;refine(N.o _ (HP.o)).mono ?_;rintro e w5 ⟨rfl,d,a⟩;obtain⟨c,b,f,HK,HP⟩:=gG (aF (c.o) a qo) (aF (b.o) a qo) (aF (f.o) a qo) (HK.o.aDY a) d;clear d a i j k l m n o r s t v x y z W0 A B C D E;have ar:=aD c.o;have aj:=aD b.o;have ay:=aD f.o;have ba:=HP.o.lt;clear N;obtain⟨⟨i,j,k,l,m,n,o⟩,r,s,t,v,x,y,z⟩:=bI b.o;go_wp2_with fail;refine(F.o _ (HP.o)).mono ?_;rintro e w6 ⟨rfl,d,a⟩;obtain⟨c,b,f,HK,HP⟩:=gG (aF (c.o) a qo) (aF (b.o) a qo) (aF (f.o) a qo) (HK.o.aDY a) d;clear d a i j k l m n o r s t v x y z;have au:=aD c.o;have ak:=aD b.o;have az:=aD f.o;have bb:=HP.o.lt;clear F;obtain⟨⟨i,j,k,l,m,n,o⟩,r,s,t,v,x,y,z⟩:=bI b.o;obtain⟨⟨P,Q,R,S,U,V,W⟩,X,Y,Z,aa,ab,ad,ae⟩:=bI c.o;go_wp2;refine bR (.agg #[.int .i64 ra.1.cat,.string ra.1.name,.bool ra.1.aEe,.int .i64 0,.int .i64 M.1.1,.int .i64 M.1.2.1,.string M.1.2.2]) ?_;exact Tu
theorem Iv{L:List Tok}{p:PS}(T:Toks L)(hp:p.at_<L.length)(g:Nat)(w:World)(h:PW L w g p):
 Calls prog 240 #[.pointer (some ⟨g,0,none⟩)] w (eU L g w (kU (eH L p).1) (eH L p).2):=by
 cases h0:cM L (str "=") (cE L p).2
 .cases h1:cM L (str "<") (cE L p).2
  .cases h2:cM L (str ">") (cE L p).2
   .exact Wg T hp g w h h0 h1 h2
   .exact Wf T hp g w h h0 h1 h2
  .exact We T hp g w h h0 h1
 .exact Wd T hp g w h h0
section
variable {L:List Tok} (T:Toks L)
include T
theorem PY{p:PS}(h:p.at_<L.length):(aU L p).str.size<=4096/\bJ (aU L p).num/\0<=(aU L p).at_/\(aU L p).at_<=4096:=by
 rw[EV h];have hm:=List.getElem_mem h;exact⟨T.size _ hm,T.num _ hm,T.place _ hm⟩
theorem rP{p:PS}(h:p.at_<L.length):(bT L p).1.size<=4096:=by
 unfold bT;dsimp only;generalize (if (aU L p).aDG≠1 then dM L p else p)=q;by_cases a:q.bad≠0
 .rw[iP a];show ByteArray.empty.size<=4096;decide
 .rw[iN a];exact(PY T h).1
omit T in
theorem nU(words:List ByteArray)(p:PS):0<=(aZ L words p).1/\(aZ L words p).1<=words.length:=by
 unfold aZ;dsimp only;split
 .rename_i h;have:=h.2.1;exact⟨by simp only;omega,by simp only;omega⟩
 .exact⟨by simp only;omega,by simp only;omega⟩
theorem PZ{p:PS}(h:p.at_<L.length):CG (cE L p).1:=by
 unfold cE;dsimp only;have h1:=dV T [str "subject",str "action",str "case",str "env"] h;have h2:=gB T (str ".") h1.lt;have h3:=rP T h2.lt;have h4:=nU (L:=L) [str "subject",str "action",str "case",str "env"] p;simp only[List.length_cons,List.length_nil] at h4;exact⟨by unfold bJ;show _<=(aZ L _ p).1/\(aZ L _ p).1<=_;omega,lT h3 (by unfold cQ;omega)⟩
theorem KZ{p:PS}(h:p.at_<L.length):cR (dC L p).1:=by
 have b:=PY T h;have d:(aU L p).str.size<=cQ:=lT b.1 (by unfold cQ;omega);have h0:cR bD:=⟨by unfold bD bJ;simp,by unfold bD bJ;simp,Nat.zero_le _⟩;have a:∀k:Int,0<=k->k<=5->cR (k,(aU L p).num,(aU L p).str):=fun k h1 h2=>⟨by unfold bJ;show _<=k/\k<=_;omega,b.2.1,d⟩
 have c:∀n:Int,0<=n->n<=1->cR (1,n,ByteArray.empty):=fun n h1 h2=>⟨by unfold bJ;show _<=(1:Int)/\(1:Int)<=_;omega,by unfold bJ;show _<=n/\n<=_;omega,Nat.zero_le _⟩
 have e:cR (eT L p).1:=by
  unfold eT;dsimp only;split
  .exact a 2 qo qo
  split
  .exact a 4 qo qo
  split
  .exact a 5 qo qo
  split
  .exact a 3 qo qo
  split
  .exact c 1 qo qo
  split
  .exact c 0 qo qo
  .exact a 0 qo qo
 rw[zO];split
 .exact h0
 .exact e
omit T in
theorem Wh(p:PS):0<=(sP L p).1/\(sP L p).1<=3:=by
 unfold sP
 repeat' split
 all_goals exact⟨by simp only;omega,by simp only;omega⟩
theorem Dk{p:PS}(h:p.at_<L.length):tZ (eH L p).1:=by
 unfold eH;dsimp only;have h1:=nO T h;have h2:=yQ T h1.lt;have h3:=Wh (L:=L) (cE L p).2;exact⟨PZ T h,by unfold bJ;show _<=(sP L _).1/\(sP L _).1<=_;omega,KZ T h2.lt⟩
theorem Iw{p:PS}(h:p.at_<L.length):yO (tQ L p).1:=by
 unfold tQ;dsimp only;have h1:=dV T [str "permit",str "deny"] h;have h2:=dV T [str "log",str "redact",str "review",str "notify"] h1.lt;have h3:=rP T h2.lt;have h4:=nU (L:=L) [str "permit",str "deny"] p;have h5:=nU (L:=L) [str "log",str "redact",str "review",str "notify"] (aZ L [str "permit",str "deny"] p).2;simp only[List.length_cons,List.length_nil] at h4 h5;exact⟨by unfold bJ;show _<=(aZ L _ _).1/\(aZ L _ _).1<=_;omega,by unfold bJ;show _<=(aZ L _ _).1/\(aZ L _ _).1<=_;omega,lT h3 (by unfold cQ;omega)⟩
end
theorem YU(s:bY)(k:s.size<=4096)(l:0<s.size)(h1:(s[0].toNat:Int)=34)(w:World)(m:iA w):
 Calls prog 117 #[.string s] w (qH (bX s.data.toList).1 (bX s.data.toList).2 w):=by
 have a:=aA (iV s[0]);have g:bA s[0]=false:=by rw[Bool.eq_false_iff];intro h;have:=(eV s[0]).1 h;omega
 rw[g] at a;have d1:decide ((s[0].toNat:Int) ≥ 97)=false:=dF qo;have d:=aA (YA s k);have c:Hid (bX s.data.toList=(⟨5,0,0,bs (jX s.data.toList).1⟩,(jX s.data.toList).2)):=aA (by rw[oX s l,Cr h1]);have d45:((s[0].toNat:Int)==45)=false:=bN.2 qo;have d64:((s[0].toNat:Int)==64)=false:=bN.2 qo;have d35:((s[0].toNat:Int)==35)=false:=bN.2 qo;have d34:((s[0].toNat:Int)==34)=true:=bQ.2 h1;unfold qH;rw[c.o];clear c g h1;generalize jX s.data.toList=i at *;go_enter func117,ntmps117;go_wp2_with fail;refine(a.o _).mono ?_;rintro e w' ⟨rfl,rfl⟩;go_wp2_with fail;refine(d.o _).mono ?_;rintro e w1 ⟨rfl,f⟩;obtain⟨b0,b1,n,b⟩:=rN f;obtain⟨⟨o,p,q,r⟩,f0,f1,f2,f3⟩:=nR b1;obtain⟨⟨t,v,x,y⟩,g0,g1,g2,g3⟩:=nR b0;have j:=aA b;clear b0 b1 b f d a;go_wp2;refine bR (.tuple #[.agg #[.int .i64 5,.int .i64 0,.int .i64 0,.string (bs i.1)],.int .i64 i.2]) ?_;exact⟨rfl,by have b:=j.o;go_grown⟩
theorem Wi(c:UInt8)(w:World):Calls prog 162 #[.string ⟨#[123,125,40,41,46,44,59,61,60,62,33]⟩,.int .u8 (c.toNat:Int)] w fun e w'=>e=.returned (.int .i64 (Lib.indexByte [123,125,40,41,46,44,59,61,60,62,33] c))/\w=w':=by
 refine(strings_IndexByte _ (c.toNat:Int) w).mono ?_;rintro e w' ⟨rfl,rfl⟩;refine⟨?_,rfl⟩;have:((c.toNat:Int)).toNat.toUInt8=c:=by simp
 rw[this]
theorem UO(s:bY)(l:s.size<=4096)(i:0<s.size)(h1:Te s[0])(w:World)(k:iA w):
 Calls prog 117 #[.string s] w (qH (bX s.data.toList).1 (bX s.data.toList).2 w):=by
 have a:=aA (iV s[0]);rw[h1.dig] at a;have d:=aA (Wi s[0]);have b:Hid (bX s.data.toList=if ER s[0] then (⟨6,0,0,s.extract 0 1⟩,1) else (⟨0,0,0,bs []⟩,0)):=aA (by
  rw[EW s 1];rw[oX s i,YB h1];rfl)
 have d45:((s[0].toNat:Int)==45)=false:=bN.2 h1.n45;have d64:((s[0].toNat:Int)==64)=false:=bN.2 h1.n64;have d35:((s[0].toNat:Int)==35)=false:=bN.2 h1.n35;have d34:((s[0].toNat:Int)==34)=false:=bN.2 h1.n34;have c:=aA (Cs s[0]);have m:(1:Int)<=(s.size:Int):=qo;have g:((s[0].toNat:Int) ≥ 97/\¬(s[0].toNat:Int)<=122)\/¬(s[0].toNat:Int) ≥ 97:=qA h1.low;unfold qH;rw[b.o];clear b h1;generalize Lib.indexByte [123,125,40,41,46,44,59,61,60,62,33] s[0]=n at *;generalize ER s[0]=mk at *;have j:=c.o
 rcases g with ⟨q1,f⟩|q1
 all_goals
  first|(have d1:decide ((s[0].toNat:Int) ≥ 97)=true:=dX q1;have d2:decide ((s[0].toNat:Int)<=122)=false:=dF f;clear f)|(have d1:decide ((s[0].toNat:Int) ≥ 97)=false:=dF q1)
  clear q1 c
  cases mk
  .rw[iN qe];go_enter func117,ntmps117;go_wp2_with fail;refine(a.o _).mono ?_;rintro e w' ⟨rfl,rfl⟩;go_wp2_with fail;refine(d.o _).mono ?_;rintro e w' ⟨rfl,rfl⟩;go_wp2;go_returns;exact⟨rfl,by go_grown⟩
  .rw[iP rfl];go_enter func117,ntmps117;go_wp2_with fail;refine(a.o _).mono ?_;rintro e w' ⟨rfl,rfl⟩;go_wp2_with fail;refine(d.o _).mono ?_;rintro e w' ⟨rfl,rfl⟩;go_wp2;go_region
   all_goals
    go_wp2;go_returns;exact⟨rfl,by go_grown⟩
theorem Dl(s:bY)(b:s.size<=4096)(c:0<s.size)(w:World)(a:iA w):
 Calls prog 117 #[.string s] w (qH (bX s.data.toList).1 (bX s.data.toList).2 w):=by
 by_cases h1:97<=(s[0].toNat:Int)/\(s[0].toNat:Int)<=122
 .exact Ct s b c h1.1 h1.2 w a
 by_cases h2:bA s[0]=true
 .exact Cu s b c h2 w a
 by_cases h3:(s[0].toNat:Int)=45
 .exact Cv s b c h3 w a
 by_cases h4:(s[0].toNat:Int)=64
 .exact Hu s b c h4 w a
 by_cases h5:(s[0].toNat:Int)=35
 .exact Hv s b c h5 w a
 by_cases h6:(s[0].toNat:Int)=34
 .exact YU s b c h6 w a
 exact UO s b c ⟨h1,by simpa using h2,h3,h4,h5,h6⟩ w a
theorem QBC{p:Prop}(h:p:=by
 go_wp2;go_step3
 exact⟨rfl,⟨k+1,out,A,c,t0,t1,t2,t3,_,_,_,_,_,_,_,_,_,_,_,_,_,_,_,_,_,_,_,_,_,_,_,_,_,_,_,_,_,_,_,_,_,_,_,_,_,_,_,_,_,_,_,_,_,_,_,_,_,rfl,by go_num,qo,HR2,HO,HA2,HT,HB⟩,by simp[intOf];omega⟩):p:=h
abbrev gT(a:Act)(k:Nat):Value:=a.tmps.getD k undef
def pF(s:bY)(k:Nat)(out:List Tok):Prop:=jR s.data.toList=jN ((s.data.toList.drop k).length+1) (s.data.toList.drop k) k out
theorem vF:∀(f g:Nat) (l:lU) (k:Nat) (out:List Tok),l.length<f->l.length<g->l.length<=4096->jN f l k out=jN g l k out
 |0,_,l,_,_,h,_,_=>absurd h qo
 |_,0,l,_,_,_,h,_=>absurd h qo
 |f+1,g+1,[],k,out,_,_,_=>rfl
 |f+1,g+1,c::r,k,out,hf,hg,hl=>by
  simp only[List.length_cons] at hf hg hl;unfold jN;dsimp only;by_cases h1:c.toNat=32\/c.toNat=10
  .rw[iP h1,iP h1];exact vF f g r _ _ qo qo qo
  .rw[iN h1,iN h1];by_cases h2:(bX (c::r)).2=0
   .rw[iP h2,iP h2]
   .rw[iN h2,iN h2];have a:(List.drop (bX (c::r)).2 (c::r)).length<=r.length:=by rw[List.length_drop];simp only[List.length_cons];omega
    exact vF f g _ _ _ qo qo qo
theorem Ix(s:bY)(b:s.size<=4096):pF s 0 []:=by
 have a:s.data.toList.length=s.size:=by rw[Array.length_toList];rfl
 unfold pF jR;rw[iN qo];rfl
theorem Wj{s:bY}{out:List Tok}(h:pF s s.size out):jR s.data.toList=(out++[⟨7,s.size,0,bs []⟩],0,0):=by
 have a:s.data.toList.length=s.size:=by rw[Array.length_toList];rfl
 unfold pF at h;rw[h,List.drop_of_length_le qo];rfl
structure Pp (s:ByteArray) (k:Nat) (out:List Tok) (c:UInt8):Prop where
 blank:c.toNat=32\/c.toNat=10->pF s (k+1) out
 no:¬(c.toNat=32\/c.toNat=10)->(bX (s.extract k s.size).data.toList).2=0->jR s.data.toList=([],5,(k:Int))
 tok:¬(c.toNat=32\/c.toNat=10)->(bX (s.extract k s.size).data.toList).2≠0->pF s (k+(bX (s.extract k s.size).data.toList).2) (out++[{(bX (s.extract k s.size).data.toList).1 with at_:=(k:Int)}])/\k+(bX (s.extract k s.size).data.toList).2<=s.size
theorem Pq{s:bY}{k:Nat}{out:List Tok}(f:s.size<=4096)(d:k<s.size)(h:pF s k out):Pp s k out s[k]:=by
 have b:s.data.toList.length=s.size:=by rw[Array.length_toList];rfl
 have e:k<s.data.toList.length:=by rw[b];exact d
 have a:s.data.toList.drop k=s[k] ::s.data.toList.drop (k+1):=List.drop_eq_getElem_cons e;have c:(s.extract k s.size).data.toList=s[k] ::s.data.toList.drop (k+1):=by rw[yR s k qo,a]
 have h3:=h;unfold pF at h3;rw[a] at h3;have hle:=(qN (s[k] ::s.data.toList.drop (k+1)) (by rw[<-a,List.length_drop];omega)).le;rw[<-a,List.length_drop,b] at hle;unfold jN at h3;dsimp only at h3;refine⟨fun h1=> ?_,fun h1 h2=> ?_,fun h1 h2=> ?_⟩
 .rw[iP h1] at h3;unfold pF;rw[h3];exact vF _ _ _ _ _ qs qo (by rw[List.length_drop];omega)
 .rw[c] at h2;rw[iN h1,iP h2] at h3;exact h3
 .rw[c] at h2 ⊢;rw[iN h1,iN h2] at h3;rw[<-a] at h3 h2 ⊢;have h4:(bX (s.data.toList.drop k)).2≠0:=h2;refine⟨?_,qo⟩;unfold pF;rw[h3,List.drop_drop];exact vF _ _ _ _ _ (by rw[List.length_drop,List.length_drop];omega) qo (by rw[List.length_drop];omega)
theorem Aw(s:bY)(k:Nat)(a:k<=s.size):(s.extract k s.size).data.toList.length=s.size - k:=by
 rw[yR s k a,List.length_drop,Array.length_toList];rfl
theorem Zp:eF prog 132 140 4 40:=fZ (z:= .agg #[.int .i64 0,.int .i64 0,.int .i64 0,.string ByteArray.empty]) underlying132 (by kernel_rfl) rfl qe
def yU(l:lU)(w:World)(e:Ending)(w':World):Prop:=∃v,e=.returned (.tuple #[v,.int .i64 (jR l).2.1,.int .i64 (jR l).2.2])/\aH TE w' (fun b=>w.heap.size<=b) v (jR l).1/\Below w.heap.size w w'
theorem uU{P:Program}{c c1:Code}{Q:Exit->Act->World->Prop}{a:Act}{w:World}(l:Nat)(J:Act->World->Prop)(μ:Act->World->Nat)(d:findLabel c l=some (.seq .skip c1))
 (pass:∀a w,J a w->c1.wp P (Exit.jump l (fun b w'=>J b w'/\μ b w'<μ a w) Q) a w)
 (first:(∀a w,J a w->c1.wp P (Exit.jump l J Q) a w)->c.wp P (Exit.jump l J Q) a w):(Code.scope c).wp P Q a w:=
 wp_scope_jumps l J μ d (first fun a w h=>Code.wp_mono (fun e b w' q=>by
  cases e<;>first|exact q|exact⟨q.1,q.2.1⟩) (pass a w h)) fun a w h=>wp_seq (wp_skip (pass a w h))
def aDf(w:World)(s:bY)(d:Act)(w':World):Prop:=
 ∃(k:Nat) (out:List Tok) (A:oD) (c:Nat) (t0 t1 t2:Int) (t3:bY) (a:Value) (u1 u2 u3 u4 u8 u9 u10 u11 u12 u13 u14 u15 u16 u17 u18 u19 u20 u21 u22 u23 u24 u25 u26 u27 u28 u29 u30 u31 u32 u33 u34 u35 u36 u37 u38 u39 u40 u41 u42 u43 u44 u45 u46 u47 u48 u49 u50 u51:Value),d={tmps:=#[.string s,u1,u2,u3,u4,.slice A out.length c,.pointer (some ⟨w.heap.size,0,none⟩),a,u8,u9,u10,u11,u12,u13,u14,u15,u16,u17,u18,u19,u20,u21,u22,u23,u24,u25,u26,u27,u28,u29,u30,u31,u32,u33,u34,u35,u36,u37,u38,u39,u40,u41,u42,u43,u44,u45,u46,u47,u48,u49,u50,u51],defers:=[]}/\
  a=.int .i64 k/\k<=s.size/\Hid (pF s k out)/\Hid (aM TE 4 140 w' (w.heap.size+1) (fun b=>w.heap.size<b) (.slice A out.length c) out)/\Hid (pQ out k)/\Hid (w'.heap[w.heap.size]? =some (.cells #[.int .i64 t0,.int .i64 t1,.int .i64 t2,.string t3] 140 (0,0)))/\Hid (Below w.heap.size w w')
theorem Ax(s:bY)(W:s.size<=4096)(w:World)(hg:iA w):Calls prog 59 #[.string s] w (yU s.data.toList w):=by
 go_enter func59,ntmps59;go_wp2;refine uU 0 (fun x w'=>aDf w s x w') (fun x _=>s.size - (intOf (gT x 7)).toNat) rfl ?_ ?_
 .rintro x wr ⟨k,out,A,c,t0,t1,t2,t3,_,u1,u2,u3,u4,u8,u9,u10,u11,u12,u13,u14,u15,u16,u17,u18,u19,u20,u21,u22,u23,u24,u25,u26,u27,u28,u29,u30,u31,u32,u33,u34,u35,u36,u37,u38,u39,u40,u41,u42,u43,u44,u45,u46,u47,u48,u49,u50,u51,rfl,rfl,U,t,HO,d,HT,HB⟩;by_cases ad:k<s.size
  .have f:=aA (Pq W ad t.o);have dk:((k:Int)==(s.size:Int))=false:=bN.2 qo;clear t;by_cases h32:s[k].toNat=32
   .have d32:((s[k].toNat:Int)==32)=true:=bQ.2 qo;have HR2:=aA (f.o.blank (.inl h32));have HA2:Hid (pQ out (k+1)):=aA ⟨qA d.o.len,d.o.size,d.o.num,d.o.place,d.o.aDG⟩;clear f h32 d;exact QBC
   by_cases h10:s[k].toNat=10
   .have d32:((s[k].toNat:Int)==32)=false:=bN.2 qo;have d10:((s[k].toNat:Int)==10)=true:=bQ.2 qo;have HR2:=aA (f.o.blank (.inr h10));have HA2:Hid (pQ out (k+1)):=aA ⟨qA d.o.len,d.o.size,d.o.num,d.o.place,d.o.aDG⟩;clear f h32 h10 d;exact QBC
   .have d32:((s[k].toNat:Int)==32)=false:=bN.2 qo;have d10:((s[k].toNat:Int)==10)=false:=bN.2 qo;have R:¬(s[k].toNat=32\/s[k].toNat=10):=fun h=>h.elim h32 h10
    obtain⟨r,N,O⟩:=aY (Dl (s.extract k s.size) (by rw[ByteArray.size_extract];omega) (by rw[ByteArray.size_extract];omega) wr (hg.on HB.o)) (f.o.no R) (f.o.tok R);have G:=aA (fun h=>d.o.snoc (k:=k) (l:=(s.extract k s.size).data.toList) (by rw[Aw s k U];omega) h);have i1:(0:Int)<=(k:Int):=qo;have i2:(k:Int)<=(s.size:Int):=qo;have L:=aA (qN (s.extract k s.size).data.toList (by rw[Aw s k U];omega));clear f h32 h10 R;generalize bX (s.extract k s.size).data.toList=a at *;unfold qH at r;unfold iE at r;go_wp2_with fail;refine r.o.mono ?_;rintro e w1 ⟨rfl,y⟩;obtain⟨S,H,v⟩:=aY (HO.o.on iD y) (aC HB.o y) ((y.block _ (Array.getElem?_eq_some_iff.1 HT.o).1).trans HT.o);have X:w.heap.size<w1.heap.size:=(Array.getElem?_eq_some_iff.1 v.o).1;obtain⟨⟨x0,x1,x2,x3⟩,f0,f1,f2,f3⟩:=nR v.o;clear r y HO HB HT;by_cases m:a.2=0
    .have dn:((a.2:Int)==0)=true:=bQ.2 qo;have n:=aA (N.o m);clear N O G m;go_wp2;simp only[Exit.jump];go_ret3
     exact⟨.slice none 0 0,by rw[n.o];rfl,by rw[n.o];exact aH.nil,by have hb:=H.o;go_grown⟩
    .have dn:((a.2:Int)==0)=false:=bN.2 qo;obtain⟨V,hle⟩:=O.o m;have HR2:=aA V;have HA2:=aA (G.o m);have ae:=L.o.aDG m;have ai:0<a.2:=qo;clear N O G m V;go_upto_region 14 with (fail)
     obtain⟨w2,D⟩:=xE (((((w1.setCell ⟨w.heap.size,0,none⟩ (.int .i64 a.1.aDG)).setCell ⟨w.heap.size,1,none⟩ (.int .i64 a.1.at_)).setCell ⟨w.heap.size,2,none⟩ (.int .i64 a.1.num)).setCell ⟨w.heap.size,3,none⟩ (.string a.1.str)).setCell ⟨w.heap.size,1,none⟩ (.int .i64 k));rw[<-D];have C:aN (fun b=>b≠w.heap.size) w1 w2:=by
      rw[D];exact(aI _).trans ((aI _).trans ((aI _).trans ((aI _).trans (aI _))))
     have T:Hid (w2.heap[w.heap.size]? =some (.cells #[.int .i64 a.1.aDG,.int .i64 k,.int .i64 a.1.num,.string a.1.str] 140 (0,0))):=aA (by
      rw[D,aG (aG (aG (aG (aG v.o 0 _) 1 _) 2 _) 3 _) 1 _];rfl)
     have Z:=aA (S.o.aDQ iD C (fun b h _=>by have:w.heap.size<b:=h;show b≠w.heap.size;omega) (fun b h _=>by show b≠w.heap.size;omega));have Y:=aA (H.o.trans (C.below (B:=w.heap.size) (fun b h=>⟨qo,qo⟩)));have ah:w.heap.size<w2.heap.size:=lL X C.size;obtain⟨⟨y0,y1,y2,y3⟩,_⟩:=nR T.o;have q:Hid (NI {a.1 with at_:=(k:Int)}):=aA ⟨by unfold bJ;show -9223372036854775808<=a.1.aDG/\a.1.aDG<=9223372036854775807;omega,by unfold bJ;show -9223372036854775808<=(k:Int)/\(k:Int)<=9223372036854775807;omega,L.o.num,lT L.o.size (by unfold cQ;omega)⟩;have af:out.length<=1000000:=by have:=HA2.o.len;rw[aL,List.length_singleton] at this;omega
     clear S H v x0 x1 x2 x3 f0 f1 f2 f3 C D;have g:=aB w2 (.cells #[.int .i64 a.1.aDG,.int .i64 k,.int .i64 a.1.num,.string a.1.str] 140);obtain⟨i,p,M⟩:=aY (Z.o.on iD g) g (heap_alloc_new w2 (.cells #[.int .i64 a.1.aDG,.int .i64 k,.int .i64 a.1.num,.string a.1.str] 140));clear g;go_wp2_with (at_builtin;refine cB Zp iD rfl (.tmp 45) (.tmp 47) rfl _ out rfl i.o w2.heap.size 1 _ _ _ {a.1 with at_:=(k:Int)} rfl M.o ⟨rfl,q.o⟩ qo qo (by rw[World.size_alloc];omega) ?_;intro E z F P w3 o j Q;have J:=aA o;have ab:=aA ((i.o.block j qo (by rw[World.size_alloc];omega)).trans ((p.o.block _ ah).trans T.o));have I:=aA (i.o.below (aC Y.o p.o) j qo (by rw[World.size_alloc];omega));clear o j Q)
     rw[<-z.o] at HR2 HA2;clear y0 y1 y2 y3 ae;go_step3
     exact⟨rfl,⟨k+a.2,E,F,P,_,_,_,_,_,_,_,_,_,_,_,_,_,_,_,_,_,_,_,_,_,_,_,_,_,_,_,_,_,_,_,_,_,_,_,_,_,_,_,_,_,_,_,_,_,_,_,_,_,_,_,_,_,rfl,by go_num,hle,HR2,J,HA2,ab,I⟩,by simp[intOf];omega⟩
  .obtain rfl:k=s.size:=qo;have n:=aA (Wj t.o);have q:Hid (NI ⟨7,s.size,0,bs []⟩):=aA ⟨by unfold bJ;show -9223372036854775808<=(7:Int)/\(7:Int)<=9223372036854775807;omega,by unfold bJ;show -9223372036854775808<=(s.size:Int)/\(s.size:Int)<=9223372036854775807;omega,by unfold bJ;show -9223372036854775808<=(0:Int)/\(0:Int)<=9223372036854775807;omega,Nat.zero_le _⟩;have af:out.length<=999999:=qA d.o.len;have X:w.heap.size<wr.heap.size:=(Array.getElem?_eq_some_iff.1 HT.o).1;have g:=aB wr (.cells #[.int .i64 7,.int .i64 s.size,.int .i64 0,.string ⟨#[]⟩] 140);obtain⟨i,p,M⟩:=aY (HO.o.on iD g) g (heap_alloc_new wr (.cells #[.int .i64 7,.int .i64 s.size,.int .i64 0,.string ⟨#[]⟩] 140));clear g t d HO;go_wp2_with (at_builtin;refine cB Zp iD rfl (.tmp 16) (.tmp 19) rfl _ out rfl i.o wr.heap.size 1 _ _ _ ⟨7,s.size,0,bs []⟩ rfl M.o ⟨rfl,q.o⟩ qo qo (by rw[World.size_alloc];omega) ?_;intro E z F P w3 o j Q;have J:=aA o;have I:=aA (i.o.below (aC HB.o p.o) j qo (by rw[World.size_alloc];omega));have ag:E.length<=1000000:=(by rw[z.o,aL,List.length_singleton];have:=q.o;omega);clear o j Q)
   simp only[Exit.jump];go_ret3
   refine⟨.slice F E.length P,by rw[n.o];rfl,?_,I.o⟩;rw[n.o,<-z.o];exact J.o.sl ag _ (fun b h _=>by have:w.heap.size<b:=h;show w.heap.size<=b;omega) (fun b h _=>by show w.heap.size<=b;omega) iD
 .intro hp;have HP:=aA hp;clear hp;have aa:=aA (Ix s W);go_upto_region 6 with (fail)
  rename_i K hK;refine wp_label (hK _ _ (HP.o _ _ ⟨0,[],none,0,0,0,0,⟨#[]⟩,_,_,_,_,_,_,_,_,_,_,_,_,_,_,_,_,_,_,_,_,_,_,_,_,_,_,_,_,_,_,_,_,_,_,_,_,_,_,_,_,_,_,_,_,_,_,_,_,_,rfl,rfl,Nat.zero_le _,aa,aA aM.nil,aA (pQ.nil 0),aA (heap_alloc_new w _),aA (aB w _)⟩))
end Go.Proofs.YtheabjeppmdmiaaGreatDoor
