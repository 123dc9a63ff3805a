/- Lemmas. -/
import Derived.Test.YthcgdgkpgdjahaaGreatDoorMau
import Derived.Test.YthcgdgkpgdjahaaGreatDoorMav
namespace Go.Proofs.YthcgdgkpgdjahaaGreatDoor
open Go.RowKit
set_option linter.unusedVariables false
set_option linter.unusedSimpArgs false
set_option maxHeartbeats 16000000
open _root_.Go.Proofs.Tryz
set_option maxRecDepth 20000
def VT(ok:nP)(s:Sto)(w:World)(e:Ending)(w':World):Prop:=∃(vc vr vn vo vt vu vk vb:Value) (L:List Mix) (m m2:Nat),e=.returned (.agg (aX s vc vr vn vo vt vu vk vb))/\uN L s.aDO s.aDO.length/\w.heap.size<=m/\m<=m2/\m2<=w'.heap.size/\
 aM (eC m (fun b=>ok b/\b<w.heap.size)) 5 113 w' w.heap.size (fun b=>(ok b/\b<w.heap.size)\/m<=b) vc L/\aM tG 7 166 w' w.heap.size (fun _=>False) vr s.aDQ/\aM wK 3 169 w' w.heap.size (fun _=>False) vn s.aDV/\aM rH 2 157 w' w.heap.size (fun _=>False) vo s.aD1/\
 (∀b,vc.ownBlock=some b->b<m)/\(∀b,vr.ownBlock=some b->m<=b/\b<m2)/\(∀b,vn.ownBlock=some b->m<=b/\b<m2)/\(∀b,vo.ownBlock=some b->m<=b/\b<m2)/\fO 3 w' (fun b=>(ok b/\b<w.heap.size)\/m2<=b) s.aDP vt vu vk vb/\Below w.heap.size w w'/\(∀j (hj:j<L.length),(∀a b,L[j].2.1=some a->a.ownBlock=some b->b<m2)/\(∀a b,L[j].2.2=some a->a.ownBlock=some b->b<m2))
theorem ZN{ok:nP}(s:Sto)(vc vr vn vo vt vu vk vb:Value)(w:World)(h:fM w ok s vc vr vn vo vt vu vk vb):Calls prog 89 #[.agg (aX s vc vr vn vo vt vu vk vb)] w (VT ok s w):=by
 obtain⟨ca,cc,ra,rc,na,nc,oa,oc,ta,tc,ua,uc,ka,kc,ba,bc,rfl,_,rfl,_,rfl,_,rfl,_,rfl,_,rfl,_,rfl,_,rfl,_⟩:=h.sl;obtain⟨O1,b9⟩:∃O:Obj,O=.cells (fU s ca cc ra rc na nc oa oc ta tc ua uc ka kc ba bc) 62:=⟨_,rfl⟩;obtain⟨O2,du⟩:∃O:Obj,O=.cells xQ 62:=⟨_,rfl⟩;obtain⟨W0,bf⟩:=xE ((w.alloc O1).alloc O2);have ai:=aA (bf▸LB w O1 O2:Kq w w.heap.size (w.heap.size+1) O1 O2 W0);have bx:Hid (∀w',Kq w w.heap.size (w.heap.size+1) O1 O2 w'->(w'.cell? ⟨w.heap.size,0,none⟩=some (.int .i64 s.aDX)/\w'.cell? ⟨w.heap.size,1,none⟩=some (.slice ca s.aDO.length cc)/\w'.cell? ⟨w.heap.size,2,none⟩=some (.slice ra s.aDQ.length rc)/\w'.cell? ⟨w.heap.size,3,none⟩=some (.slice na s.aDV.length nc)/\w'.cell? ⟨w.heap.size,4,none⟩=some (.slice oa s.aD1.length oc)/\w'.cell? ⟨w.heap.size,5,none⟩=some (.string s.aDP.id)/\w'.cell? ⟨w.heap.size,6,none⟩=some (.bool s.aDP.set)/\w'.cell? ⟨w.heap.size,7,none⟩=some (.int .i64 s.aDP.alg)/\w'.cell? ⟨w.heap.size,8,none⟩=some (.slice ta s.aDP.aDY.length tc)/\w'.cell? ⟨w.heap.size,9,none⟩=some (.slice ua s.aDP.aDR.length uc)/\w'.cell? ⟨w.heap.size,10,none⟩=some (.slice ka s.aDP.aD2.length kc)/\w'.cell? ⟨w.heap.size,11,none⟩=some (.slice ba s.aDP.aD4.length bc)/\w'.cell? ⟨w.heap.size,12,none⟩=some (.int .i64 s.aD0))/\w'.frozen? ⟨w.heap.size,1,none⟩=false/\w.heap.size<w'.heap.size):=aA (fun w' hk=>by
  have h:=hk.2.1;rw[b9] at h;exact⟨(bW h).1,aR h 1,aD h⟩)
 have db:Hid (∀w',Kq w w.heap.size (w.heap.size+1) O1 O2 w'->w.heap.size+1+1<=w'.heap.size):=aA (fun w' hk=>qA (aD hk.2.2));have hs:=h.inb;obtain⟨HS,HC,dj⟩:=aZ hs (DK _ s.aDO W0 (aH.on dW hs.aDO ai.o.1)) bf;have ew:s.aDO.length<=1000000:=by obtain⟨_,_,_,h4⟩:=h.aDO.slice;exact h4
 unfold bV at HC;unfold aX;obtain⟨⟨c0,c1,c2,c3,c4,c5,A,C,D,c9,y,z,c12⟩,d1,dz⟩:=bx.o _ ai.o;clear h hs bf;subst b9 du;go_enter func89,ntmps89;go_upto_region 1 with (fail)
 rw[<-dj.o];go_wp2_with fail;refine HC.o.mono ?_;rintro e wc ⟨v_,rfl,t,f⟩;obtain⟨H,G,rfl⟩:=t.slice;have aq:=aA (aM.less t (db.o _ ai.o));have HK:=aA (Kq.on ai.o f);clear f t HC c0 c1 c2 c3 c4 c5 A C D c9 y z c12 d1 dz;obtain⟨⟨c0,c1,c2,c3,c4,c5,A,C,D,c9,y,z,c12⟩,d1,dz⟩:=bx.o _ HK.o;obtain⟨o,af⟩:=xE (wc.setCell ⟨w.heap.size,1,none⟩ (.slice H s.aDO.length G));have A1:Hid (o.heap[w.heap.size]? =some (.cells (fU s H G ra rc na nc oa oc ta tc ua uc ka kc ba bc) 62 (0,0))):=aA (by rw[af];exact aG HK.o.2.1 1 _);have R1:Hid (o.heap[w.heap.size+1]? =some (.cells xQ 62 (0,0))):=aA (by rw[af];exact bE HK.o.2.2 qo);have GC:Hid (aM qN 5 113 o (w.heap.size+1+1) (fun b=>ok b/\b<w.heap.size) (.slice H s.aDO.length G) s.aDO):=aA (by rw[af];exact aM.off dW aq.o (fun h=>qA h.2) (fun h=>qA ((aq.o.lt _ h).1)));have bt:Hid (Below w.heap.size w o):=aA (by rw[af];exact HK.o.1.setCell (by first|exact lR _|exact Nat.le_succ _) _);have dk:=aA af;go_upto_region 2 with (fail)
 rw[<-dk.o];clear af c0 c1 c2 c3 c4 c5 A C D c9 y z c12 d1 dz aq;have fe:w.heap.size+1<o.heap.size:=aD R1.o;obtain⟨Y,b8⟩:∃Y:Option Nat,Y=(Value.slice H s.aDO.length G).ownBlock:=⟨_,rfl⟩;have Z:=aA b8;have M:Hid (∀b,Y=some b->w.heap.size+1+1<=b/\b<o.heap.size):=aA (fun b d=>GC.o.lt b (Z.o▸d));have bs:=aA (show ∀wr,aN (fun b=>some b≠Y) o wr->wr.heap[w.heap.size]? =_ from fun wr h=>aF A1.o h (fun e=>qA ((M.o _ e.symm).1)));have de:=aA (QB (b2:=o.heap.size) GC.o (fun b d=>⟨qA d.2,fun e=>qD ((M.o b (Z.o.trans e.symm)).1) d.2⟩));obtain⟨⟨c0,c1,c2,c3,c4,c5,A,C,D,c9,y,z,c12⟩,_⟩:=bW A1.o;have cz:=aD A1.o;clear b8;go_wp2;clear c0 c1 c2 c3 c4 c5 A C D c9 y z c12 cz;go_loopw [3,4,12] (fun _ _ i wr=>∃(k:Nat) (L:List Mix),k<=s.aDO.length/\i=.int .i64 k/\Hid (uN L s.aDO k)/\Hid (aM (eC o.heap.size (fun b=>ok b/\b<w.heap.size)) 5 113 wr (w.heap.size+1+1) (fun b=>(ok b/\b<w.heap.size)\/o.heap.size<=b) (.slice H s.aDO.length G) L)/\Hid (aN (fun b=>some b≠Y) o wr)) (fun _ _ i _=>s.aDO.length - (intOf i).toNat)
 case atStart=>exact⟨0,_,Nat.zero_le _,rfl,aA (SJ s.aDO),aA (de.o.aEC (dP _ _) (fun b d=> .inl d)),aA (aN.refl _ _)⟩
 case round=>
  obtain⟨k,L,hk,rfl,aj,J,P⟩:=hrel;have dd:=aA aj.o.len;by_cases ee:k<s.aDO.length
  .have ed:(k:Int)<(s.aDO.length:Int):=qo;have bd:k<L.length:=by rw[dd.o];exact ee
   obtain⟨g,r0,e0,ev,E,ef,cd,ec⟩:=J.o.at (dP _ _) bd qe;subst e0;obtain⟨vf,vl,rfl,al⟩:=ef;obtain⟨fa,fc,rfl,cf⟩:=al.2.2.2.1.slice bS;obtain⟨la,lc,rfl,cg⟩:=al.2.2.2.2.slice cE;obtain⟨y0,y1,y2,y3,y4⟩:=KP cd;rw[Nat.add_zero] at y0;have cr:Hid (Y=some g):=aA Z.o;have aa:=aA al;have b0:=aA (LC J.o);have b7:=aA (fun (u v:Value) (hu:∀b,u.ownBlock=some b->wr.heap.size<=b) (hv:∀b,v.ownBlock=some b->wr.heap.size<=b)=>aj.o.step bd b0.o hu hv);have b6:=aA (fun (wq:World) (d:Below wr.heap.size wr wq) (u v:Value) (hu:fD lO 4 185 o.heap.size (fun b=>ok b/\b<w.heap.size) wq (fun b=>((ok b/\b<w.heap.size)\/o.heap.size<=b)/\b<wq.heap.size/\b≠g) (some u) u L[k].1.aDT) (hv:fD nB 3 173 o.heap.size (fun b=>ok b/\b<w.heap.size) wq (fun b=>((ok b/\b<w.heap.size)\/o.heap.size<=b)/\b<wq.heap.size/\b≠g) (some v) v L[k].1.log)=>Wz (J.o.on (dP _ _) d) bd hu hv);clear cd al J aj;generalize L[k]=x at *;obtain⟨c,xf,xl⟩:=x;dsimp only at y0 y1 y2 y3 y4 cg cf;obtain⟨F,an⟩:=xE (wr.alloc (.cells (pH c fa fc la lc) 113));have a8:Below wr.heap.size wr F:=by rw[an];exact aB _ _
   have X:Hid (F.heap[wr.heap.size]? =some (.cells (pH c fa fc la lc) 113 (0,0))):=aA (by rw[an];exact aK _ _ _ rfl);have di:=aA an;have ey:¬w.heap.size=g:=qo;have ez:¬wr.heap.size=g:=qo;have AV:=aA (aE (bs.o wr P.o) a8);have m:=aA a8;have ax:Hid (∀w':World,w'.heap[w.heap.size]? =F.heap[w.heap.size]? ->w'.heap[wr.heap.size]? =F.heap[wr.heap.size]? ->w'.cell? ⟨w.heap.size,1,none⟩=some (.slice (some ⟨g,0,none⟩) s.aDO.length G)/\w'.cell? ⟨wr.heap.size,0,none⟩=some (.string c.id)/\w'.cell? ⟨wr.heap.size,1,none⟩=some (.string c.aEg)/\w'.cell? ⟨wr.heap.size,2,none⟩=some (.string c.aD9)/\w'.cell? ⟨wr.heap.size,3,none⟩=some (.slice fa c.aDT.length fc)/\w'.cell? ⟨wr.heap.size,4,none⟩=some (.slice la c.log.length lc)):=aA (fun w' h1 h2=>by
    rw[AV.o] at h1;rw[X.o] at h2;exact⟨aQ h1 1 _ rfl,aQ h2 0 _ rfl,aQ h2 1 _ rfl,aQ h2 2 _ rfl,aQ h2 3 _ rfl,aQ h2 4 _ rfl⟩)
   have zA:=aD AV.o;have zX:=aD X.o;have q:Hid (Below F.heap.size F F.drew):=aA (Below.refl _ _).drew;have ct:Hid (pD wr (fun _=>True) c (.slice fa c.aDT.length fc) (.slice la c.log.length lc)):=aA ⟨aa.o.1,aa.o.2.1,aa.o.2.2.1,aH.more bS (aa.o.2.2.2.1.sl bS) (fun _ _=>trivial),aH.more cE (aa.o.2.2.2.2.sl cE) (fun _ _=>trivial)⟩;have ar:=aA (fun w' (d:Below F.heap.size F w')=>GW c _ _ w' (ct.o.aDW (aJ (aC m.o d))));unfold yB UY at ar;obtain⟨el,en,eo,ep,er,et⟩:=ax.o F rfl rfl;obtain⟨dp,dq,dc,cu⟩:=dH zA zX cg cf;clear a8 an;go_upto_region 5 with (fail)
   rw[<-di.o];go_region_law
    ((go_simp;go_at_call 95;refine(ar.o _ q.o).mono ?_;rintro e wo ⟨fk,fm,rfl,bb,I,cb⟩;obtain⟨a6,a7,rfl⟩:=bb.slice;obtain⟨bj,bk,rfl⟩:=I.slice;have au:=aA (aM.less (eO (enc:=uJ) (good:=FF) (ok':=fun _=>False) bb) q.o.size);have av:=aA (aM.less (eO (enc:=CZ) (good:=vW) (ok':=fun _=>False) I) q.o.size);replace q:=qB q cb;obtain⟨u1,u2,u3,u4,u5,u6⟩:=ax.o _ (q.o.block _ dp.o) (q.o.block _ dq.o);have ad:=xJ ec m.o E q.o;have fb:=lL (lL E m.o.size) q.o.size;have q0:=((q.o.cell (p:=⟨g,k * 5,none⟩) (lL E m.o.size)).trans (m.o.cell (p:=⟨g,k * 5,none⟩) E)).trans y0;have dw:=ad (k * 5);have q1:=((q.o.cell (p:=⟨g,k * 5+1,none⟩) (lL E m.o.size)).trans (m.o.cell (p:=⟨g,k * 5+1,none⟩) E)).trans y1;have dx:=ad (k * 5+1);have q2:=((q.o.cell (p:=⟨g,k * 5+2,none⟩) (lL E m.o.size)).trans (m.o.cell (p:=⟨g,k * 5+2,none⟩) E)).trans y2;have dy:=ad (k * 5+2);have q3:=((q.o.cell (p:=⟨g,k * 5+3,none⟩) (lL E m.o.size)).trans (m.o.cell (p:=⟨g,k * 5+3,none⟩) E)).trans y3;have ea:=ad (k * 5+3);have q4:=((q.o.cell (p:=⟨g,k * 5+4,none⟩) (lL E m.o.size)).trans (m.o.cell (p:=⟨g,k * 5+4,none⟩) E)).trans y4;have eb:=ad (k * 5+4);clear cb I bb))
   all_goals
    obtain⟨bw,ay,cx⟩:=aZ (aC m.o q.o) P.o.size E;have be:∀v:Value,(∀b,v.ownBlock=some b->F.heap.size<=b/\b<wo.heap.size)->∀b,v.ownBlock=some b->((ok b/\b<w.heap.size)\/o.heap.size<=b)/\b<wo.heap.size/\b≠g:=fun v hv b d=>by
     have h6:=hv b d;have h7:=m.o.size;have h8:=ay.o;have h9:=cx.o;exact⟨.inr qo,h6.2,qo⟩
    have HGN:=aA (b6.o wo bw.o (.slice a6 c.aDT.length a7) (.slice bj c.log.length bk) ⟨rfl,aM.less au.o (lT ay.o m.o.size),be _ au.o.lt,cu.o⟩ ⟨rfl,aM.less av.o (lT ay.o m.o.size),be _ av.o.lt,dc.o⟩);have HMN:=aA (b7.o (.slice a6 c.aDT.length a7) (.slice bj c.log.length bk) (fun b d=>lT m.o.size (au.o.lt b d).1) (fun b d=>lT m.o.size (av.o.lt b d).1));have I:¬(some g≠Y):=fun h=>h cr.o.symm
    have HSN:=aA ((((((P.o.trans (aJ bw.o)).trans (fI (i:=k * 5) (v:= .string c.id) I)).trans (fI (i:=k * 5+1) (v:= .string c.aEg) I)).trans (fI (i:=k * 5+2) (v:= .string c.aD9) I)).trans (fI (i:=k * 5+3) (v:= .slice a6 c.aDT.length a7) I)).trans (fI (i:=k * 5+4) (v:= .slice bj c.log.length bk) I));clear I be u1 u2 u3 u4 u5 u6 q0 q1 q2 q3 q4 ad dw dx dy ea eb y0 y1 y2 y3 y4 el en eo ep er et q ar ax X AV b6 b7 aa b0;exact QCM
  .have ed:¬(k:Int)<(s.aDO.length:Int):=qo;obtain rfl:k=s.aDO.length:=qo;obtain⟨n,cj⟩:=xE wr;rw[<-cj] at J P ⊢;clear cj;have W:=aA (bs.o n P.o);have R3:=qS R1 P.o (fun e=>qA ((M.o _ e.symm).1));have r:=aA P.o.size;have ag:=aA (bt.o.trans (P.o.below (B:=w.heap.size) (fun b d=>⟨qo,fun e=>qA ((M.o _ e.symm).1)⟩)));have b4:=aA (fun w' (d:Below n.heap.size n w')=>DL _ s.aDQ w' (aH.on cV HS.o.aDQ (aC ag.o d)));have b1:=aA (fun w' (d:Below n.heap.size n w')=>DM _ s.aDV w' (aH.on eD HS.o.aDV (aC ag.o d)));have b3:=aA (fun w' (d:Below n.heap.size n w')=>US _ s.aD1 w' (aH.on dB HS.o.aD1 (aC ag.o d)));have ah:Hid (∀w',Below n.heap.size n w'->(w'.cell? ⟨w.heap.size,0,none⟩=some (.int .i64 s.aDX)/\w'.cell? ⟨w.heap.size,1,none⟩=some (.slice H s.aDO.length G)/\w'.cell? ⟨w.heap.size,2,none⟩=some (.slice ra s.aDQ.length rc)/\w'.cell? ⟨w.heap.size,3,none⟩=some (.slice na s.aDV.length nc)/\w'.cell? ⟨w.heap.size,4,none⟩=some (.slice oa s.aD1.length oc)/\w'.cell? ⟨w.heap.size,5,none⟩=some (.string s.aDP.id)/\w'.cell? ⟨w.heap.size,6,none⟩=some (.bool s.aDP.set)/\w'.cell? ⟨w.heap.size,7,none⟩=some (.int .i64 s.aDP.alg)/\w'.cell? ⟨w.heap.size,8,none⟩=some (.slice ta s.aDP.aDY.length tc)/\w'.cell? ⟨w.heap.size,9,none⟩=some (.slice ua s.aDP.aDR.length uc)/\w'.cell? ⟨w.heap.size,10,none⟩=some (.slice ka s.aDP.aD2.length kc)/\w'.cell? ⟨w.heap.size,11,none⟩=some (.slice ba s.aDP.aD4.length bc)/\w'.cell? ⟨w.heap.size,12,none⟩=some (.int .i64 s.aD0))/\w'.frozen? ⟨w.heap.size,2,none⟩=false/\w'.frozen? ⟨w.heap.size,3,none⟩=false/\w'.frozen? ⟨w.heap.size,4,none⟩=false/\w.heap.size<w'.heap.size):=aA (fun w' d=>by
    have h:=aE W.o d;exact⟨(bW h).1,aR h 2,aR h 3,aR h 4,aD h⟩)
   unfold bV at b4 b1 b3;have cy:=aA (Below.refl n.heap.size n);go_upto_region 7 with (fail)
   go_cut [2] from 24 to 35 (fun v w'=>∃(U Q S:oD) (V R T:Nat),v=.pointer (some ⟨w.heap.size+1,0,none⟩)/\Hid (w'.heap[w.heap.size]? =some (.cells (fU s H G U V Q R S T ta tc ua uc ka kc ba bc) 62 (0,0)))/\Hid (w'.heap[w.heap.size+1]? =some (.cells xQ 62 (0,0)))/\Hid (aM tG 7 166 w' n.heap.size (fun _=>False) (.slice U s.aDQ.length V) s.aDQ)/\Hid (aM wK 3 169 w' n.heap.size (fun _=>False) (.slice Q s.aDV.length R) s.aDV)/\Hid (aM rH 2 157 w' n.heap.size (fun _=>False) (.slice S s.aD1.length T) s.aD1)/\Hid (aN (fun b=>b≠w.heap.size) n w'))
   case first=>
    obtain⟨⟨c0,c1,c2,c3,c4,c5,A,C,D,c9,y,z,c12⟩,d2,d3,d4,dz⟩:=ah.o _ cy.o;have l:=aA (Below.refl n.heap.size n).drew;go_region_law
     ((first
     |(go_simp;go_at_call 85;refine(b4.o _ l.o).mono ?_;rintro e w_ ⟨v_,rfl,t,f⟩;obtain⟨U,V,rfl⟩:=t.slice;have GR:=aA (aM.less (eO (enc:=KT) (good:=FG) (ok':=fun _=>False) t) l.o.size);replace l:=qB l f;obtain⟨⟨c0,c1,c2,c3,c4,c5,A,C,D,c9,y,z,c12⟩,d2,d3,d4,dz⟩:=ah.o _ l.o;clear f t)
     |(go_simp;go_at_call 86;refine(b1.o _ l.o).mono ?_;rintro e w_ ⟨v_,rfl,t,f⟩;obtain⟨Q,R,rfl⟩:=t.slice;have GN:=aA (aM.less (eO (enc:=KU) (good:=FH) (ok':=fun _=>False) t) l.o.size);replace GR:=aA (GR.o.on cV f);replace l:=qB l f;obtain⟨⟨c0,c1,c2,c3,c4,c5,A,C,D,c9,y,z,c12⟩,d2,d3,d4,dz⟩:=ah.o _ l.o;clear f t)
     |(go_simp;go_at_call 145;refine(b3.o _ l.o).mono ?_;rintro e w_ ⟨v_,rfl,t,f⟩;obtain⟨S,T,rfl⟩:=t.slice;have K:=aA (aM.less (eO (enc:=UE) (good:=NP) (ok':=fun _=>False) t) l.o.size);replace GR:=aA (GR.o.on cV f);replace GN:=aA (GN.o.on eD f);replace l:=qB l f;obtain⟨⟨c0,c1,c2,c3,c4,c5,A,C,D,c9,y,z,c12⟩,d2,d3,d4,dz⟩:=ah.o _ l.o;clear f t)))
    all_goals
     go_wp2;go_meet;have eu:w.heap.size+1<n.heap.size:=qA r.o;refine⟨U,Q,S,V,R,T,rfl,aA ?_,aA ?_,aA ?_,aA ?_,aA ?_,aA ?_⟩
     .first
      |exact aG (aG (aG (aE W.o l.o) 2 _) 3 _) 4 _
      |exact aG (aG (aG (aE W.o l.o) 2 _) 4 _) 3 _
      |exact aG (aG (aG (aE W.o l.o) 3 _) 2 _) 4 _
      |exact aG (aG (aG (aE W.o l.o) 3 _) 4 _) 2 _
      |exact aG (aG (aG (aE W.o l.o) 4 _) 2 _) 3 _
      |exact aG (aG (aG (aE W.o l.o) 4 _) 3 _) 2 _
     .exact bE (bE (bE (aE R3.o l.o) qo) qo) qo
     .exact QCR
     .exact QCS
     .repeat (refine aM.off dB ?_ (fun h=>h) (fun h=>qA ((K.o.lt _ h).1)))
      exact K.o
     .exact(aJ l.o).trans (((aI _).trans (aI _)).trans (aI _))
   case rest=>
    obtain⟨U,Q,S,V,R,T,hv,A4,R4,GR,GN,K,ak⟩:=hcut;subst hv;obtain⟨W4,ck⟩:=xE wc;rw[<-ck] at A4 R4 GR GN K ak ⊢;clear ck;have ab:=aA ak.o.size;have bu:=aA (ag.o.trans (ak.o.below (B:=w.heap.size) (fun b d=>⟨qA r.o,fun e=>by omega⟩)));have bz:=aA (J.o.stays (dP _ _) ak.o (fun b d (e:b=w.heap.size)=>qA ((M.o _ (Z.o.trans d)).1)) (fun b d _ (e:b=w.heap.size)=>by rcases d with h|h<;>omega));have ch:fO 3 W4 (fun b=>ok b/\b<w.heap.size) s.aDP (.slice ta s.aDP.aDY.length tc) (.slice ua s.aDP.aDR.length uc) (.slice ka s.aDP.aD2.length kc) (.slice ba s.aDP.aD4.length bc):=HS.o.aDP.aDW (aJ bu.o);have aw:=aA (BY 3 _ s.aDP _ _ _ _ W4 ch);unfold EB at aw;have da:=aA (fun j (hj:j<L.length)=>(⟨fun a b h1 h2=>lL ((LC J.o j hj).1 a b h1 h2) ab.o,fun a b h1 h2=>lL ((LC J.o j hj).2 a b h1 h2) ab.o⟩:(∀a b,L[j].2.1=some a->a.ownBlock=some b->b<W4.heap.size)/\(∀a b,L[j].2.2=some a->a.ownBlock=some b->b<W4.heap.size)));clear ch J;obtain⟨⟨c0,c1,c2,c3,c4,c5,A,C,D,c9,y,z,c12⟩,_⟩:=bW A4.o;have cz:=aD A4.o;go_wp2_with fail;refine aw.o.mono ?_;rintro e w5 ⟨fo,fp,fl,fj,rfl,ae,f⟩;obtain⟨bl,bm,rfl,_⟩:=ae.2.2.1.slice;obtain⟨bn,bo,rfl,_⟩:=ae.2.2.2.1.slice;obtain⟨bg,bh,rfl,_⟩:=ae.2.2.2.2.1.slice;obtain⟨az,a1,rfl,_⟩:=ae.2.2.2.2.2.slice;obtain⟨df,cp,A5,R5,br,bp,bq,cv⟩:=TH ae (aC bu.o f) (aE A4.o f) (aE R4.o f) (GR.o.on cV f) (GN.o.on eD f) (K.o.on dB f) (bz.o.on (dP _ _) f);have b5:=aA f.size;clear f ae aw bz c0 c1 c2 c3 c4 c5 A C D c9 y z c12 cz;obtain⟨⟨c0,c1,c2,c3,c4,c5,A,C,D,c9,y,z,c12⟩,e0,e1,e2,e3,e4,e5,e6,e7,e8,e9,dr,ds,dt⟩:=bW A5.o
    have cz:=aD A5.o;obtain⟨W6,ao⟩:=xE (((((((w5.setCell ⟨w.heap.size,5,none⟩ (.string s.aDP.id)).setCell ⟨w.heap.size,6,none⟩ (.bool s.aDP.set)).setCell ⟨w.heap.size,7,none⟩ (.int .i64 s.aDP.alg)).setCell ⟨w.heap.size,8,none⟩ (.slice bl s.aDP.aDY.length bm)).setCell ⟨w.heap.size,9,none⟩ (.slice bn s.aDP.aDR.length bo)).setCell ⟨w.heap.size,10,none⟩ (.slice bg s.aDP.aD2.length bh)).setCell ⟨w.heap.size,11,none⟩ (.slice az s.aDP.aD4.length a1));have dm:=aA ao;have A6:Hid (W6.heap[w.heap.size]? =some (.cells (fU s H G U V Q R S T bl bm bn bo bg bh az a1) 62 (0,0))):=aA (by rw[ao];exact aG (aG (aG (aG (aG (aG (aG A5.o 5 _) 6 _) 7 _) 8 _) 9 _) 10 _) 11 _);have N:Hid (aN (fun b=>b≠w.heap.size) w5 W6):=aA (by rw[ao];exact((((((aI _).trans (aI _)).trans (aI _)).trans (aI _)).trans (aI _)).trans (aI _)).trans (aI _));have R6:=qS R5 N.o qo;have cn:=aA (br.o.stays cV N.o (fun b d (e:b=w.heap.size)=>qD ((br.o.lt b d).1) r.o) (fun b d _=>d.elim));have cl:=aA (bp.o.stays eD N.o (fun b d (e:b=w.heap.size)=>qD ((bp.o.lt b d).1) r.o) (fun b d _=>d.elim));have cm:=aA (bq.o.stays dB N.o (fun b d (e:b=w.heap.size)=>qD ((bq.o.lt b d).1) r.o) (fun b d _=>d.elim));have cw:=aA (cv.o.stays (dP _ _) N.o (fun b d (e:b=w.heap.size)=>qA ((M.o _ (Z.o.trans d)).1)) (fun b d _ (e:b=w.heap.size)=>by rcases d with h|h<;>omega));have cq:=aA (cp.o.trans (N.o.below (B:=w.heap.size) (fun b d=>⟨by have h1:=r.o;have h2:=ab.o;have h3:=b5.o;omega,fun e=>by omega⟩)));have dn:=aA N.o.size;have dh:=aA (fO.aDW (df.o.more (ok':=fun b=>(ok b/\b<w.heap.size)\/W4.heap.size<=b) (fun b d=>d)) (N.o.mono (fun b _ d (e:b=w.heap.size)=>by have h1:=r.o;have h2:=ab.o;rcases d with h|h<;>omega)))
    go_upto_region 9 with (fail)
    rw[<-dm.o];clear ao c0 c1 c2 c3 c4 c5 A C D c9 y z c12 e0 e1 e2 e3 e4 e5 e6 e7 e8 e9 dr ds dt cz;obtain⟨⟨c0,c1,c2,c3,c4,c5,A,C,D,c9,y,z,c12⟩,_⟩:=bW A6.o;have cz:=aD A6.o;obtain⟨⟨r0,r1,r2,r3,r4,r5,r6,r7,r8,r9,ff,fg,fh⟩,f0,f1,f2,f3,f4,f5,f6,f7,f8,f9,f10,f11,f12⟩:=bW R6.o;have rz:=aD R6.o;go_wp2;refine bR (.agg #[.int .i64 s.aDX,.slice H s.aDO.length G,.slice U s.aDQ.length V,.slice Q s.aDV.length R,.slice S s.aD1.length T,.string s.aDP.id,.bool s.aDP.set,.int .i64 s.aDP.alg,.slice bl s.aDP.aDY.length bm,.slice bn s.aDP.aDR.length bo,.slice bg s.aDP.aD2.length bh,.slice az s.aDP.aD4.length a1,.int .i64 s.aD0]) ?_;have eh:¬((ok (w.heap.size+1)/\w.heap.size+1<w.heap.size)\/o.heap.size<=w.heap.size+1):=fun h=>by
     rcases h with h|h
     .have:=h.2;omega
     .omega
    have ej:¬((ok (w.heap.size+1)/\w.heap.size+1<w.heap.size)\/W4.heap.size<=w.heap.size+1):=fun h=>by
     rcases h with h|h
     .have:=h.2;omega
     .have h1:=r.o;have h2:=ab.o;omega
    have dv:(Value.slice H s.aDO.length G).ownBlock≠some (w.heap.size+1):=fun h=>qA ((M.o _ (Z.o.trans h)).1)
    have ek:(Value.slice U s.aDQ.length V).ownBlock≠some (w.heap.size+1):=fun h=>qD ((GR.o.lt _ h).1) r.o
    have eg:(Value.slice Q s.aDV.length R).ownBlock≠some (w.heap.size+1):=fun h=>qD ((GN.o.lt _ h).1) r.o
    have ei:(Value.slice S s.aD1.length T).ownBlock≠some (w.heap.size+1):=fun h=>qD ((K.o.lt _ h).1) r.o
    have hle:w.heap.size<=n.heap.size:=qA r.o;refine⟨_,_,_,_,_,_,_,_,L,o.heap.size,W4.heap.size,rfl,aj.o,bt.o.size,lT r.o ab.o,?_,?_,aM.less ?_ hle,aM.less ?_ hle,aM.less ?_ hle,fun b d=>(M.o _ (Z.o.trans d)).2,fun b d=>⟨lT r.o (GR.o.lt b d).1,(GR.o.lt b d).2⟩,fun b d=>⟨lT r.o (GN.o.lt b d).1,(GN.o.lt b d).2⟩,fun b d=>⟨lT r.o (K.o.lt b d).1,(K.o.lt b d).2⟩,?_,?_,da.o⟩
    .simp only[jT];exact lT b5.o dn.o
    .refine aM.less (base:=w.heap.size+1+1) ?_ qo
     repeat (refine aM.off (dP _ _) ?_ eh dv)
     exact cw.o
    .repeat (refine aM.off cV ?_ (fun h=>h) ek)
     exact cn.o
    .repeat (refine aM.off eD ?_ (fun h=>h) eg)
     exact cl.o
    .repeat (refine aM.off dB ?_ (fun h=>h) ei)
     exact cm.o
    .repeat (refine fO.aDW ?_ (fI ej))
     exact dh.o
    .repeat (refine Below.setCell ?_ (by first|exact lR _|exact Nat.le_succ _) _)
     exact cq.o
theorem AR{w:World}{base b2:Nat}{N:nP}{ok:nP}{e:TypeId}{v:Value}{L:List Mix}(h:aM (eC b2 N) 5 e w base ok v L):∀j (hj:j<L.length),(∀b,bP L[j].2.1=some b->b2<=b/\b<w.heap.size)/\(∀b,bP L[j].2.2=some b->b2<=b/\b<w.heap.size):=fun j hj=>
 ⟨fun b a=>by obtain⟨u,hu,c⟩:=cN.1 a;exact((kO h hj).1 u hu).1.lt b c,fun b a=>by obtain⟨u,hu,c⟩:=cN.1 a;exact((kO h hj).2 u hu).1.lt b c⟩
theorem LL{w:World}{base b2:Nat}{N N':nP}{ok ok':nP}{e:TypeId}{v:Value}{L:List Mix}(h:aM (eC b2 N) 5 e w base ok v L)(a:base<=b2)(d:∀b,N b->N' b)(hm:∀b,ok b->ok' b)(c:∀b,N' b->ok' b/\b<w.heap.size/\some b≠v.ownBlock):aM (eC base N') 5 e w base ok' v L:=by
 obtain⟨cs,h1,h2⟩:=h;exact⟨cs,h1,h2.mono fun r x f=>QD ((dP _ _).more f fun b a=>⟨hm b a.1,a.2⟩) a d (fun b a=>⟨c b a,(c b a).2.1⟩)⟩
theorem Xa{ok:nP}{s:Sto}{vc vr vn vo vt vu vk vb:Value}{w w':World}{e:Ending}(h:fM w ok s vc vr vn vo vt vu vk vb)(hp:VP ok s vo vt vu vk vb w e w'):∃c f d L,e=.returned (.agg (aX s c f d vo vt vu vk vb))/\bD (fun b=>ok b/\b<w.heap.size) w.heap.size w' s L none c f d vo vt vu vk vb/\Below w.heap.size w w':=by
 obtain⟨c,f,d,L,m,he,hm,h1,h2,g,n,l,c1,c2,c3,a⟩:=hp;have o:=h.inb.on a;have k:∀(v:Value),(∀b,v.ownBlock=some b->w.heap.size<=b)->∀b,b<w.heap.size->some b≠v.ownBlock:=fun v q b a e=>qA (q b e.symm)
 have p:=k c (fun b a=>(g.lt b a).1);refine⟨c,f,d,L,he,?_,a⟩;exact {aEq:=h.aEP.2.2,aDX:=h.aDX,aD0:=h.aD0,all:=hm.all,aEf:=fun j hj=>hm.done j hj (by rw[<-hm.len];exact hj),apart:=hm.apart,aDO:=LL g h1 (fun b a=>a) (fun b a=>a.imp id (fun h=>lT h1 h)) (fun b a=>⟨.inl a,lL a.2 (lT h1 h2),p b a.2⟩),aDQ:=n,aDV:=l,aD1:=⟨o.aD1,fun b a=>⟨.inl a,lL a.2 (lT h1 h2)⟩⟩,aDP:=o.aDP,kept:=fun b a=>⟨lL a.2 (lT h1 h2),p b a.2,k f (fun b a=>(n.lt b a).1) b a.2,k d (fun b a=>(l.lt b a).1) b a.2,by simp[bP]⟩,aEi:=fun j hj=>⟨fun b a i=>qD (((AR g j hj).1 b a).1) i.2,fun b a i=>qD (((AR g j hj).2 b a).1) i.2⟩,size:=lT h1 h2}
theorem Xb{ok:nP}{s:Sto}{w w':World}{e:Ending}(x:bL s.aDX)(k:bL s.aD0)(r:s.aD1.length<=1000000)(hp:VT ok s w e w'):∃vc vr vn vo vt vu vk vb L m,e=.returned (.agg (aX s vc vr vn vo vt vu vk vb))/\w.heap.size<=m/\bD (fun b=>(ok b/\b<w.heap.size)\/(m<=b/\b<w'.heap.size)) w.heap.size w' s L (some vo) vc vr vn vo vt vu vk vb/\(∀j (hj:j<L.length),L[j].2.1.isSome=true)/\Below w.heap.size w w':=by
 obtain⟨vc,vr,vn,vo,vt,vu,vk,vb,L,m,m2,he,hm,h1,h2,h3,d,p,o,g,c1,c2,c3,c4,hp,a,l⟩:=hp;have t:=a.size;have f:∀(v:Value),(∀b,v.ownBlock=some b->w.heap.size<=b/\b<m2)->∀b,((ok b/\b<w.heap.size)\/(m2<=b/\b<w'.heap.size))->some b≠v.ownBlock:=fun v k b a e=>by
  have h5:=k b e.symm
  rcases a with h|h
  .have:=h.2;omega
  .omega
 have n:∀b,((ok b/\b<w.heap.size)\/(m2<=b/\b<w'.heap.size))->b<w'.heap.size:=fun b a=>by
  rcases a with h|h
  .have:=h.2;omega
  .exact h.2
 have q:=f vc (fun b a=>⟨(d.lt b a).1,lL (c1 b a) h2⟩);have y:=f vo (fun b a=>⟨(g.lt b a).1,(c4 b a).2⟩);refine⟨vc,vr,vn,vo,vt,vu,vk,vb,L,m2,he,lT h1 h2,?_,fun j hj=>(hm.done j hj (by rw[<-hm.len];exact hj)).1,a⟩
 exact {aEq:=FO g,aDX:=x,aD0:=k,all:=hm.all,aEf:=fun j hj=>(hm.done j hj (by rw[<-hm.len];exact hj)).2,apart:=hm.apart,aDO:=LL d h1 (fun b a=> .inl a) (fun b a=>a.imp .inl (fun h=>lT h1 h)) (fun b a=>⟨.inl a,n b a,q b a⟩),aDQ:=p,aDV:=o,aD1:=⟨rfl,g,fun b a=> .inr (g.lt b a).1,r⟩,aDP:=(hp.inb).more (fun b a=>a.1.elim .inl (fun h=> .inr ⟨h,a.2⟩)),kept:=fun b a=>⟨n b a,q b a,f vr (fun b a=>⟨(p.lt b a).1,(c2 b a).2⟩) b a,f vn (fun b a=>⟨(o.lt b a).1,(c3 b a).2⟩) b a,fun e=>by obtain⟨u,hu,c⟩:=cN.1 e;injection hu with hu;subst hu;exact y b a c.symm⟩,aEi:=fun j hj=>⟨fun b a i=>by
  obtain⟨u,hu,c⟩:=cN.1 a;have h5:=(l j hj).1 u b hu c;have h6:=((AR d j hj).1 b a).1
  rcases i with h|h
  .have:=h.2;omega
  .omega,fun b a i=>by
  obtain⟨u,hu,c⟩:=cN.1 a;have h5:=(l j hj).2 u b hu c;have h6:=((AR d j hj).2 b a).1
  rcases i with h|h
  .have:=h.2;omega
  .omega⟩,size:=t}
section
variable {K K':nP} {base:Nat} {w w':World} {s:Sto} {L:List Mix} {ro:Option Value} {vc vr vn vo vt vu vk vb:Value}
theorem bD.aE0(h:bD K base w s L ro vc vr vn vo vt vu vk vb){q:nP}(a:aN q w w')(d:∀b,K b->q b)(f:∀b,vc.ownBlock=some b->q b)(k:∀b,vr.ownBlock=some b->q b)(g:∀b,vn.ownBlock=some b->q b)(i:∀b,bP ro=some b->q b)(e:∀j (hj:j<L.length),(∀b,bP L[j].2.1=some b->q b)/\(∀b,bP L[j].2.2=some b->q b)):bD K base w' s L ro vc vr vn vo vt vu vk vb:={
 aDX:=h.aDX
 aD0:=h.aD0
 all:=h.all
 aEf:=h.aEf
 apart:=h.apart
 aDO:=yT h.aDO a f d e
 aDQ:=h.aDQ.stays cV a k (fun _ h _=>h.elim)
 aDV:=h.aDV.stays eD a g (fun _ h _=>h.elim)
 aD1:=h.aD1.aEr dB a d i (fun _ h _=>h)
 aDP:=h.aDP.aDW (a.mono fun b _ c=>d b c)
 kept:=fun b c=>⟨lL (h.kept b c).1 a.size,(h.kept b c).2⟩
 aEi:=h.aEi
 aEq:=h.aEq
 size:=lT h.size a.size}
theorem bD.aE6(h:bD K' base w s L ro vc vr vn vo vt vu vk vb)(p:∀j (hj:j<L.length),L[j].2.1.isSome=true)(x:ro.isSome=true)(hp:fO 3 w K s.aDP vt vu vk vb)(g:∀b,K b->K' b)(l:∀b,K' b->K b\/base<=b):bD K base w s L ro vc vr vn vo vt vu vk vb:=by
 refine {aEq:=h.aEq,aDX:=h.aDX,aD0:=h.aD0,all:=h.all,aEf:=h.aEf,apart:=h.apart,aDO:= ?_,aDQ:=h.aDQ,aDV:=h.aDV,aD1:= ?_,aDP:=hp,kept:=fun b a=>h.kept b (g b a),aEi:=fun j hj=>⟨fun b a k=>(h.aEi j hj).1 b a (g b k),fun b a k=>(h.aEi j hj).2 b a (g b k)⟩,size:=h.size}
 .obtain⟨cs,h1,h2⟩:=h.aDO;refine⟨cs,h1,aW.aEu (fun i m r v=> ?_) h2⟩;obtain⟨B,C,e,y,z,A,o,p5⟩:=v;obtain⟨D,q⟩:=Option.isSome_iff_exists.1 (p i m);obtain⟨ul,t⟩:=Option.isSome_iff_exists.1 (h.aEf i m);have n:∀b,(K' b\/base<=b)/\b<w.heap.size/\some b≠vc.ownBlock->(K b\/base<=b)/\b<w.heap.size/\some b≠vc.ownBlock:=fun b a=>⟨a.1.elim (l b) .inr,a.2⟩
  refine⟨B,C,e,y,z,A,?_,?_⟩
  .rw[q] at o ⊢;obtain⟨q1,c,d,f⟩:=o;exact⟨q1,c,fun b a=>n b (d b a),f⟩
  .rw[t] at p5 ⊢;obtain⟨q1,c,d,f⟩:=p5;exact⟨q1,c,fun b a=>n b (d b a),f⟩
 .have h1:=h.aD1;obtain⟨u,hu⟩:=Option.isSome_iff_exists.1 x;subst hu;obtain⟨q1,c,d,f⟩:=h1;exact⟨q1,c,fun b a=>(d b a).elim (l b) .inr,f⟩
theorem bD.aEF(h:bD K' base w s L ro vc vr vn vo vt vu vk vb)(l:∀j (hj:j<L.length),L[j].2.1.isSome=true)(m:ro.isSome=true)(hp:fO 3 w K s.aDP vt vu vk vb)(k:∀b,K b->K' b)(i:∀b,K' b->K b\/base<=b){B:Nat}(f:K' B)(g:¬K B){q:nP}(n:aN q w w')(c:∀b,b≠B->q b):bD K base w' s L ro vc vr vn vo vt vu vk vb:=by
 have d:=h.kept B f;exact(h.aE6 l m hp k i).aE0 n (fun b a=>c b (fun e=>g (e▸a))) (fun b a=>c b (fun e=>d.2.1 (by rw[<-e,a]))) (fun b a=>c b (fun e=>d.2.2.1 (by rw[<-e,a]))) (fun b a=>c b (fun e=>d.2.2.2.1 (by rw[<-e,a]))) (fun b a=>c b (fun e=>d.2.2.2.2 (by rw[<-e,a])))
  (fun j hj=>⟨fun b a=>c b (fun e=>(h.aEi j hj).1 b a (e▸f)),fun b a=>c b (fun e=>(h.aEi j hj).2 b a (e▸f))⟩)
end
def VU(ok:nP)(a:Sto)(w:World)(e:Ending)(w':World):Prop:=∃(K:nP) (base:Nat) (L:List Mix) (ro:Option Value) (vc vr vn vo vt vu vk vb:Value),e=.returned (.agg (aX a vc vr vn vo vt vu vk vb))/\(∀b,K b->(ok b/\b<w.heap.size)\/w.heap.size<=b)/\w.heap.size<=base/\bD K base w' a L ro vc vr vn vo vt vu vk vb/\Below w.heap.size w w'
def Xc(ok:nP)(base R B:Nat)(O:Obj)(w w':World)(a:Sto):Prop:=∃(K:nP) (L:List Mix) (ro:Option Value) (vc vr vn vo vt vu vk vb:Value),w'.heap[B]? =some (.cells (aX a vc vr vn vo vt vu vk vb) 62 (0,0))/\w'.heap[R]? =some O/\(∀b,K b->(ok b/\b<w.heap.size)\/base<=b)/\bD K base w' a L ro vc vr vn vo vt vu vk vb/\Below w.heap.size w w'
theorem VV{ok K:nP}{base R:Nat}{w wc:World}{a:Sto}{L:List Mix}{ro:Option Value}{vc vr vn vo vt vu vk vb i j n o p q r s t v k l m:Value}(e:bD K base wc a L ro vc vr vn vo vt vu vk vb)(c:∀b,K b->(ok b/\b<w.heap.size)\/base<=b)(h1:w.heap.size<=R)(h2:R<base)(d:Below w.heap.size w wc):
 VU ok a w (.returned (.agg (aX a vc vr vn vo vt vu vk vb))) (((((((((((((wc.setCell ⟨R,0,none⟩ i).setCell ⟨R,1,none⟩ j).setCell ⟨R,2,none⟩ n).setCell ⟨R,3,none⟩ o).setCell ⟨R,4,none⟩ p).setCell ⟨R,5,none⟩ q).setCell ⟨R,6,none⟩ r).setCell ⟨R,7,none⟩ s).setCell ⟨R,8,none⟩ t).setCell ⟨R,9,none⟩ v).setCell ⟨R,10,none⟩ k).setCell ⟨R,11,none⟩ l).setCell ⟨R,12,none⟩ m):=by
 have g:¬K R:=fun h=>(c R h).elim (fun h=>qA h.2) (fun h=>by omega)
 refine⟨K,base,L,ro,vc,vr,vn,vo,vt,vu,vk,vb,rfl,fun b f=>(c b f).imp id (fun h=>by omega),qo,?_,?_⟩
 .repeat (refine bD.off ?_ g h2)
  exact e
 .repeat (refine Below.setCell ?_ h1 _)
  exact d
theorem BZ{K:nP}{base:Nat}{w w':World}{s:Sto}{L:List Mix}{ro:Option Value}{g n i:Nat}{vr vn vo vt vu vk vb:Value}{k:Nat}(c:bD K base w s L ro (.slice (some ⟨g,0,none⟩) n i) vr vn vo vt vu vk vb)(d:k<L.length){v:Value}(f:L[k].2.2=some v){h:uI}{log:List uI}(r:L[k].1.log=log)(y:log.length<=900000)(hp:OA nB 3 173 base v (log++[h]) ⟨g,k * 5+4,none⟩ w w'):
 ∃v',bD K base w' {s with aDO:=s.aDO.set k {L[k].1 with log:=L[k].1.log++[h]}} (L.set k ({L[k].1 with log:=L[k].1.log++[h]},L[k].2.1,some v')) ro (.slice (some ⟨g,0,none⟩) n i) vr vn vo vt vu vk vb/\aN (fun b=>b<base\/K b) w w':=by
 subst r;obtain⟨A,l,w1,m,j,o,rfl⟩:=hp;have t:=(kO c.aDO d).2 v f;have x:=c.aDO.lt g rfl;have p:∀b,(Value.slice A (L[k].1.log++[h]).length l).ownBlock=some b->v.ownBlock=some b\/w.heap.size<=b:=fun b a=>by
  rcases o with h1|⟨q,h1,h2⟩
  .exact .inl (h1▸a)
  .rw[h1] at a;injection a with a;exact .inr (a▸h2)
 have hlen:(L[k].1.log++[h]).length<=1000000:=by rw[aL,List.length_singleton];omega
 exact⟨_,c.log d f j m p hlen,((cX j).mono (fun b _ a e=>a.elim (fun h=>qA ((t.1.lt b e.symm).1)) (fun h=>(c.aEi k d).2 b (cN.2 ⟨v,f,e.symm⟩) h))).trans ((aI _).mono (fun b _ a e=>a.elim (fun h=>by omega) (fun h=>(c.kept b h).2.1 (by rw[e];rfl))))⟩
end Go.Proofs.YthcgdgkpgdjahaaGreatDoor
