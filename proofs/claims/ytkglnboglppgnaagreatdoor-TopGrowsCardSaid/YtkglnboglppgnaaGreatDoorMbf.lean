/- Lemmas. -/
import Derived.Test.YtkglnboglppgnaaGreatDoorMat
namespace Go.Proofs.YtkglnboglppgnaaGreatDoor
open Go.RowKit
set_option linter.unusedVariables false
set_option linter.unusedSimpArgs false
set_option maxHeartbeats 16000000
open _root_.Go.Proofs.Tryz
set_option maxRecDepth 20000
theorem QCy{p:Prop}(h:p:=by
 go_wp2;go_roundw
 case rel=>exact⟨k+1,qo,by go_num,aA (by rw[HFX.o,HDU.o];exact HBV.o)⟩
 case measure=>simp[intOf];omega):p:=h
theorem QBE{p:Prop}(h:p:=by
 rintro e w2 ⟨rfl,hb2⟩;have HB2:=aA hb2;clear b0 b1 b2 b3 b4 b5 b6 b7 b8 b9 b10 b11 y0 y1 y2 hb2 bz yz;go_wp2;go_roundw
 case rel=>exact⟨k+1,qo,by go_num,aA (by rw[HFX.o,HDU.o];exact HBV.o.trans HB2.o)⟩
 case measure=>simp[intOf];omega):p:=h
def Yx(K:nP)(base B:Nat)(w w':World)(s:Sto):Prop:=∃K':nP,(∀b,K b->K' b)/\(∀b,K' b->K b\/base<=b)/\iD K' base B w w' s
theorem YP{K aj:nP}{base B:Nat}(o:Op)(ho:kJ o)(s:Sto)(va:Value)(l:List Ob)(done:Bool)(w:World)(g:¬K B)(M:B<base)(hl:aI jX w aj va l)(av:∀b,aj b->b<base/\b≠B)(n:Nat)(hn:kI n s)(ai:n+l.length<=980000)(h:iD K base B w w s):
 Calls prog 53 #[.pointer (some ⟨B,0,none⟩),fI o,va,.bool done] w (fun e w'=>e=.returned (.tuple #[])/\Yx K base B w w' (l.foldl (cY o done) s)):=by
 obtain⟨a,c,rfl,br⟩:=hl.slice;obtain⟨O2,ag⟩:∃O:Obj,O=.cells (cC o) 66:=⟨_,rfl⟩;obtain⟨W0,A⟩:=xE (w.alloc O2);have N:Below w.heap.size w W0:=by rw[A];exact aB _ _
 have bq:=h.size;have bm:W0.heap.size=w.heap.size+1:=by rw[A];simp
 have aw:W0.heap[w.heap.size]? =some O2:=by rw[A];exact aM _ _ _ rfl
 obtain⟨K',af⟩:∃K':nP,K'=fun b=>K b\/(w.heap.size<=b/\b<W0.heap.size):=⟨_,rfl⟩
 have ay:Hid (iD K' base B W0 W0 s):=aA (af▸h.aDU N);have j:Hid ((∀b,K b->K' b)/\(∀b,K' b->K b\/base<=b)/\¬K' B/\K' w.heap.size):=aA (by
  subst af;exact⟨fun b f=> .inl f,fun b f=>f.imp id (fun h=>by omega),fun f=>f.elim g (fun h=>by omega),.inr ⟨lR _,qo⟩⟩)
 have a6:=aA (fun k (q:k<l.length)=>Iu (cY o done) l s q);have a8:Hid (∀k,k<=l.length->kI (n+k) ((l.take k).foldl (cY o done) s)):=aA (fun k q=>by
  have:=xX o done (l.take k) n s hn;rwa [List.length_take,Nat.min_eq_left q] at this)
 have H:=aA ai;have bf:=aA (show ∀wr,aO (fun b=>(b<base/\b≠B)\/K' b) W0 wr->aI jX wr aj (.slice a l.length c) l from fun wr hs=>(hl.on aQ N).aDc aQ (hs.mono fun b _ f=> .inl (av b f)));have bc:=aA (show ∀wr,aO (fun b=>(b<base/\b≠B)\/K' b) W0 wr->wr.heap[w.heap.size]? =some (.cells (cC o) 66 (0,0)) from fun wr hs=>ag▸aG aw hs (.inr j.o.2.2.2));have az:Hid (∀wr,iD K' base B W0 wr (l.foldl (cY o done) s)->Yx K base B w wr (l.foldl (cY o done) s)):=aA (fun wr f=>by
  obtain⟨L,ro,vc,vr,vn,vo,vt,vu,vk,vb,h1,h2,h3⟩:=f;exact⟨K',j.o.1,j.o.2.1,L,ro,vc,vr,vn,vo,vt,vu,vk,vb,h1,h2,(aK N).trans h3⟩)
 have aa:=aA ho;rw[ag] at A;unfold fI cC at *;have bj:=aA A;clear A N aw h hl av hn af g ho ag bm ai;go_enter func53,ntmps53;go_upto_region 1 with (fail)
 rw[<-bj.o];go_wp2;go_loopw [9,12] (fun _ i wr=>∃(k:Nat),k<=l.length/\i=.int .i64 k/\Hid (iD K' base B W0 wr ((l.take k).foldl (cY o done) s))) (fun _ i _=>l.length - (intOf i).toNat)
 case atStart=>exact⟨0,Nat.zero_le _,rfl,aA ay.o⟩
 case round=>
  obtain⟨k,q,rfl,y⟩:=hrel;by_cases S:k<l.length
  .have bl:(k:Int)<(l.length:Int):=qo;obtain⟨b,off,r,rfl,_,bp,⟨rfl,ar⟩,p⟩:=aI.at aQ (bf.o wr y.o.stays) S qe;obtain⟨x0,x1,x2⟩:=cR3 p;rw[Nat.add_zero] at x0;have HFX:Hid ((l.take (k+1)).foldl (cY o done) s=cY o done ((l.take k).foldl (cY o done) s) l[k]):=aA (a6.o k S);obtain⟨Z,G,bo,bd⟩:=dJ ar (a8.o k (Nat.le_of_lt S)) S (bc.o wr y.o.stays);clear p ar;generalize l[k]=x at *;generalize (l.take k).foldl (cY o done) s=t at *;obtain⟨d,T⟩:=xE (wr.alloc (.cells #[.int .i64 x.on,.int .i64 x.aC3,.string x.arg] 188));have Q:Below wr.heap.size wr d:=by rw[T];exact aB _ _
   have X:Hid (d.heap[wr.heap.size]? =some (.cells #[.int .i64 x.on,.int .i64 x.aC3,.string x.arg] 188 (0,0))):=aA (by rw[T];exact aM _ _ _ rfl);obtain⟨D,HBV,bh,Y⟩:=dJ (aF bd.o Q) (y.o.more Q) T Q;clear T Q;go_upto_region 4 with (fail)
   rw[<-bh.o];obtain⟨⟨b0,b1,b2,b3,b4,b5,b6,b7,b8,b9,b10,b11⟩,_⟩:=bS D.o;have bz:=aE D.o;obtain⟨⟨y0,y1,y2⟩,_⟩:=cF X.o;have yz:=aE X.o;have ab:=aA (fun (p:x.arg.size<=cV)=>Pc o aa.o t x.arg p d j.o.2.2.1 M (qD G.o.aC2 H.o) (fun c p=>qD (G.o.aDu c p) H.o) HBV.o.here);have ad:=aA (fun (p:x.arg.size<=cV)=>UF o aa.o t x.arg p d j.o.2.2.1 M (qD G.o.aC5 H.o) HBV.o.here);unfold fI cC at ab ad;clear x0 x1 x2;by_cases h1:x.aC3=1
   .have e1:(x.aC3==(1:Int))=true:=bQ.2 h1;have e3:(x.aC3==(3:Int))=false:=bN.2 qo;have e4:(x.aC3==(4:Int))=false:=bN.2 qo;have H1:=aA h1;clear h1
    cases aq:done
    .subst aq;have HDU:Hid (cY o false t x=t):=aA (by unfold cY;rw[iN (fun h=>by cases h.2),iN (qA H1.o),iN (qA H1.o)]);exact QCy
    .subst aq;have HDU:Hid (cY o true t x=lW t o x.arg):=aA (by unfold cY;rw[iP ⟨H1.o,rfl⟩]);go_wp2_with fail;refine(ab.o Z.o.2.2).mono ?_;exact QBE
   .have e1:(x.aC3==(1:Int))=false:=bN.2 h1;have H1:=aA h1;clear h1;by_cases h3:x.aC3=3
    .have e3:(x.aC3==(3:Int))=true:=bQ.2 h3;have E:=aA h3;clear h3;have HDU:Hid (cY o done t x=eJ t o x.arg):=aA (by unfold cY;rw[iN (fun h=>H1.o h.1),iP E.o]);go_wp2_with fail;refine(ad.o Z.o.2.2).mono ?_;exact QBE
    .have e3:(x.aC3==(3:Int))=false:=bN.2 h3;have E:=aA h3;clear h3;by_cases h4:x.aC3=4
     .have e4:(x.aC3==(4:Int))=true:=bQ.2 h4;have H4:=aA h4;clear h4;have HDU:Hid (cY o done t x={t with aC8:=t.aC8++[⟨t.aDb,o.aDa,x.arg⟩]}):=aA (by unfold cY;rw[iN (fun h=>H1.o h.1),iN E.o,iP H4.o]);go_upto_region 9 with (fail)
      obtain⟨L,ro,vc,vr,vn,vo,vt,vu,vk,vb,ah,z,ax⟩:=y.o;obtain⟨U,V,rfl⟩:=z.aC8.slice;obtain⟨J,P⟩:∃O:Obj,O=.cells (aX t vc vr (.slice U t.aC8.length V) vo vt vu vk vb) 40:=⟨_,rfl⟩;rw[<-P] at ah;have F:Hid (∀(w':World),(w'.heap[B]? =some J/\w'.heap[w.heap.size]? =d.heap[w.heap.size]? /\w'.heap[wr.heap.size]? =d.heap[wr.heap.size]?)->w'.cell? ⟨B,0,none⟩=some (.int .i64 t.aDb)/\w'.cell? ⟨B,3,none⟩=some (.slice U t.aC8.length V)/\w'.frozen? ⟨B,3,none⟩=false/\B<w'.heap.size/\w'.cell? ⟨w.heap.size,2,none⟩=some (.string o.aDa)/\w.heap.size<w'.heap.size/\w'.cell? ⟨wr.heap.size,2,none⟩=some (.string x.arg)/\wr.heap.size<w'.heap.size):=aA (fun w' q=>by
       have h1:=q.1;have h2:=q.2.1.trans D.o;have h3:=q.2.2.trans X.o;rw[P] at h1;exact⟨aR h1 0 _ rfl,aR h1 3 _ rfl,aS h1 3,aE h1,aR h2 2 _ rfl,aE h2,aR h3 2 _ rfl,aE h3⟩)
      have ba:=aA P;have ae:=aA (z.on Y.o);have I:Hid (d.heap[B]? =some J/\d.heap[w.heap.size]? =d.heap[w.heap.size]? /\d.heap[wr.heap.size]? =d.heap[wr.heap.size]?):=aA ⟨aF ah Y.o,rfl,rfl⟩;have al:Hid (some w.heap.size≠(Value.slice U t.aC8.length V).ownBlock/\some wr.heap.size≠(Value.slice U t.aC8.length V).ownBlock):=aA ⟨(z.kept _ j.o.2.2.2).2.2.2.1,fun e=>qA ((z.aC8.lt _ e.symm).2)⟩;have bg:=aA ax;have ai:t.aC8.length<=990000:=qD G.o.aC8 H.o;have bk:EU ⟨t.aDb,o.aDa,x.arg⟩:=⟨z.aDb,aa.o.2.2.1,Z.o.2.2⟩;clear z P ah ax b0 b1 b2 b3 b4 b5 b6 b7 b8 b9 b10 b11 bz y0 y1 y2 yz ad ab;obtain⟨c0,c3,f3,v,b2,bz,y2,yz⟩:=F.o _ I.o;refine cB 18 [(0,false),(1,false),(2,false),(3,false),(4,false),(5,false),(6,false),(7,false),(8,false),(9,false),(10,false),(11,false),(12,false),(13,false),(14,true),(15,true),(16,false),(17,false)] [(18,true)] (fun w'=>w'.heap[B]? =some J/\w'.heap[w.heap.size]? =d.heap[w.heap.size]? /\w'.heap[wr.heap.size]? =d.heap[wr.heap.size]?) (by kernel_rfl) (by kernel_rfl) I.o ?_;simp only[List.cons_append,List.nil_append]
      repeat (refine dA rfl (fun K g=> ?_);unfold rd;go_simp;refine g _ (fun bn h1=> ?_) ?_;(· clear g K c0 c3 f3 v b2 bz y2 yz;obtain⟨c0,c3,f3,v,b2,bz,y2,yz⟩:=F.o _ h1;unfold rd;go_simp);clear g K)
      refine bI rfl (fun C m=> ?_);unfold mv;go_simp;refine m _ _ (fun _=>⟨aF I.o.1 (aB _ _).drew,(aB _ _).drew.block _ bz,(aB _ _).drew.block _ yz⟩) ?_;clear m C;refine bI rfl (fun C m=> ?_);unfold mv;refine iZ (base:=base) Sk cU rfl (.tmp 45) (.tmp 55) rfl _ t.aC8 rfl (ae.o.aC8.on cU (aB _ _).drew) d.heap.size 1 _ _ _ ⟨t.aDb,o.aDa,x.arg⟩ rfl (aM _ _ _ rfl) ⟨rfl,bk⟩ qo qe (lT ae.o.size (aB _ _).drew.size) ?_;intro l' au A' c' W hG R ao;obtain⟨ak,bb,be⟩:=UL (w:=d) (ae.o.on (aB _ _).drew) (aF I.o.1 (aB _ _).drew) M (aB _ _).drew R hG ao;have an:Hid (W.heap[B]? =some J/\W.heap[w.heap.size]? =d.heap[w.heap.size]? /\W.heap[wr.heap.size]? =d.heap[wr.heap.size]?):=aA ⟨ak.o,(gM D.o (aB _ _).drew R al.o.1).trans D.o.symm,(gM X.o (aB _ _).drew R al.o.2).trans X.o.symm⟩;have a7:=aA au.o;refine m _ _ (fun _=>an.o) ?_;clear m C hG R ao au c0 c3 f3 v b2 bz y2 yz;obtain⟨c0,c3,f3,v,b2,bz,y2,yz⟩:=F.o _ an.o
      repeat (refine dA rfl (fun K g=> ?_);unfold rd;go_simp;refine g _ (fun bn h1=> ?_) ?_;(· clear g K c0 c3 f3 v b2 bz y2 yz;obtain⟨c0,c3,f3,v,b2,bz,y2,yz⟩:=F.o _ h1;unfold rd;go_simp);clear g K)
      refine bI rfl (fun C m=> ?_);unfold mv;go_simp;refine m _ _ (fun h=>absurd h qe) ?_;clear m C c0 c3 f3 v b2 bz y2 yz;unfold cH;have a1:Hid (iD K' base B W0 (W.setCell ⟨B,3,none⟩ (.slice A' l'.length c')) (cY o done t x)):=aA (by
       rw[HDU.o,<-a7.o];exact⟨L,ro,vc,vr,_,vo,vt,vu,vk,vb,aH (ba.o▸ak.o) 3 _,bE.off bb.o j.o.2.2.1 M,((bg.o.trans (aK Y.o)).trans be.o).trans ((aJ _).mono (fun b _ f=>f.elim (fun h=>h.2) (fun h e=>j.o.2.2.1 (e▸h))))⟩)
      go_wp2;go_roundw
      case rel=>exact⟨k+1,qo,by go_num,aA (by rw[HFX.o];exact a1.o)⟩
      case measure=>simp[intOf];omega
     .have e4:(x.aC3==(4:Int))=false:=bN.2 h4;have HDU:Hid (cY o done t x=t):=aA (by unfold cY;rw[iN (fun h=>H1.o h.1),iN E.o,iN h4]);clear h4;exact QCy
  .have bl:¬(k:Int)<(l.length:Int):=qo;obtain rfl:k=l.length:=qo;have HE:Hid (iD K' base B W0 wr (l.foldl (cY o done) s)):=aA (by have:=y.o;rwa [List.take_of_length_le (lR _)] at this);clear y;go_wp2;go_returns;exact⟨rfl,az.o wr HE.o⟩
def eM(lo:Nat)(w:World)(L:List (Nat×V3)):Prop:=lo<=w.heap.size/\∀x∈L,lo<=x.1/\w.heap[x.1]? =some (.cells (IL x.2).toArray 64 (0,0))
theorem eM.nil{lo:Nat}{w:World}(h:lo<=w.heap.size):eM lo w []:=⟨h,fun x a=>by cases a⟩
theorem eM.on{lo:Nat}{w w':World}{L:List (Nat×V3)}(h:eM lo w L)(a:Below w.heap.size w w'):eM lo w' L:=⟨lT h.1 a.size,fun x b=>⟨(h.2 x b).1,aF (h.2 x b).2 a⟩⟩
theorem eM.push{lo:Nat}{w w':World}{L:List (Nat×V3)}{a b:Int}{c:bY}(h:eM lo w L)(e:Below (w.alloc (.cells #[.int .i64 a,.int .i64 b,.string c] 64)).heap.size (w.alloc (.cells #[.int .i64 a,.int .i64 b,.string c] 64)) w'):eM lo w' (L++[(w.heap.size,(a,b,c))]):=by
 have h2:=eM.on (h.on (aB w (.cells #[.int .i64 a,.int .i64 b,.string c] 64))) e;refine⟨h2.1,fun x d=> ?_⟩
 rcases List.mem_append.1 d with d|d
 .exact h2.2 x d
 .rw[List.mem_singleton] at d;subst d;exact⟨h.1,aF (aM w _ _ rfl) e⟩
theorem eM.aD4{lo:Nat}{w w':World}{L:List (Nat×V3)}{a b:Int}{c:bY}{a2 b2:Int}{c2:bY}(h:eM lo w L)(d:Below ((w.alloc (.cells #[.int .i64 a,.int .i64 b,.string c] 64)).alloc (.cells #[.int .i64 a2,.int .i64 b2,.string c2] 64)).heap.size ((w.alloc (.cells #[.int .i64 a,.int .i64 b,.string c] 64)).alloc (.cells #[.int .i64 a2,.int .i64 b2,.string c2] 64)) w'):eM lo w' ((L++[(w.heap.size,(a,b,c))])++[(w.heap.size+1,(a2,b2,c2))]):=by
 have h1:=eM.push (a:=a) (b:=b) (c:=c) h (Below.refl _ _);have h2:=eM.push h1 d;rw[World.size_alloc] at h2;exact h2
theorem Vy{w:World}{ok:nP}{b:Nat}{v:V3}(a:w.heap[b]? =some (.cells (IL v).toArray 64 (0,0)))(d:ok b)(c:cZ v):aI VR w ok (.slice (some ⟨b,0,none⟩) 1 1) [v]:=by
 refine⟨some ⟨b,0,none⟩,1,IL v,rfl,fun _=>⟨b,0,rfl,d,fun i x e=> ?_⟩,aZ.one ⟨rfl,c⟩,qs⟩;have h:=aR a i x (by simpa using e);rw[Nat.zero_add];exact h
theorem aN.many{α:Type}{R:Rep α}{s:Nat}{e:TypeId}{w:World}{base:Nat}{ok:nP}{b n:Nat}{cs:Array Value}{l:List α}(F:Firm R s)(j:0<s)(g:l.length=n)(i:0<n)(d:w.heap[b]? =some (.cells cs e (0,0)))(f:base<=b)(c:aZ (R w (fun x=>ok x/\x<w.heap.size/\x≠b)) cs.toList l)(k:n<=1000):aN R s e w base ok (.slice (some ⟨b,0,none⟩) n n) l:=by
 subst g;have hlen:=c.len (fun _ _ a=>F.len a);rw[Array.length_toList] at hlen;refine⟨cs.toList,⟨by rw[Array.length_toList,hlen],.inr ⟨b,l.length,cs,rfl,f,d,lR _,by unfold maxLen;omega,hlen,?_⟩⟩,c.mono fun r x a=>F.more a fun x h=>⟨h.1,h.2.1,fun e=>h.2.2 (by injection e)⟩⟩;exact List.take_of_length_le (by rw[Array.length_toList];omega)
theorem vP(s:bY)(w:World):Calls prog 92 #[.string s] w (aP (.agg #[.int .i64 5,.int .i64 0,.string s]) w):=by
 unfold aP;go_enter func92,ntmps92;go_wp2;refine bR (.agg #[.int .i64 5,.int .i64 0,.string s]) ?_;exact⟨rfl,aB _ _⟩
theorem nH(cat:Int)(n:bY)(a:oD)(l c:Nat)(w:World):Calls prog 93 #[.int .i64 cat,.string n,.slice a l c] w (aP (.agg #[.int .i64 cat,.string n,.slice a l c]) w):=by
 unfold aP;go_enter func93,ntmps93;go_wp2;refine bR (.agg #[.int .i64 cat,.string n,.slice a l c]) ?_;exact⟨rfl,aB _ _⟩
theorem Ke{ok:nP}(c:cI)(j k:Value)(N:bY)(w:World)(h:oW w ok c j k):Calls prog 150 #[.agg #[.string c.id,.string c.aDv,.string c.aDo,j,k],.string N] w (aP (dH (cK (c.log.any (fun h=>decide (h.aDC=N))))) w):=by
 obtain⟨g,i,rfl,_⟩:=h.2.2.2.1.slice;obtain⟨la,lc,rfl,_⟩:=h.2.2.2.2.slice;obtain⟨W0,a⟩:=xE ((((w.alloc (.cells (oZ c g i la lc) 128)).alloc (.cells #[.string N] 9)).alloc (.cells fX 64)).alloc (.cells #[.int .i64 1,.int .i64 0,.string ⟨#[]⟩] 64));have d:Hid (Below w.heap.size w W0):=aA (by rw[a];exact aC (aC (aC (aB _ _) (aB _ _)) (aB _ _)) (aB _ _));have A:Hid (W0.heap[w.heap.size]? =some (.cells (oZ c g i la lc) 128 (0,0))):=aA (by rw[a];exact aF (aF (aF (aM _ _ _ rfl) (aB _ _)) (aB _ _)) (aB _ _));have B:Hid (W0.heap[w.heap.size+1]? =some (.cells #[.string N] 9 (0,0))):=aA (by rw[a];exact aF (aF (aM _ _ _ qs) (aB _ _)) (aB _ _));have R:Hid (W0.heap[w.heap.size+1+1]? =some (.cells fX 64 (0,0))):=aA (by rw[a];exact aF (aM _ _ _ qs) (aB _ _));have V:Hid (W0.heap[w.heap.size+1+1+1]? =some (.cells #[.int .i64 1,.int .i64 0,.string ⟨#[]⟩] 64 (0,0))):=aA (by rw[a];exact aM _ _ _ qs);have l:=aA a;have f:=aA (YB _ c.log N (w.heap.size+1) W0 (aI.on cE h.2.2.2.2 d.o) ⟨aR B.o 0 _ rfl,aE B.o⟩);generalize c.log.any (fun h=>decide (h.aDC=N))=t at *;unfold aP at *;clear h a;go_enter func150,ntmps150;go_wp2_with fail;rw[<-l.o];refine f.o.mono ?_;rintro e w1 ⟨rfl,b⟩;have HB1:=qB d b;replace A:=qK A b;obtain⟨⟨m,n,o,p,q⟩,_⟩:=dO A.o;have C:=aE A.o;replace R:=qK R b;obtain⟨⟨r,s,v⟩,_⟩:=cF R.o;have D:=aE R.o;replace V:=qK V b;obtain⟨⟨x,y,z⟩,_⟩:=cF V.o;have E:=aE V.o;have f0:=aS R.o 0;have f1:=aS R.o 1;have f2:=aS R.o 2;have g1:=aS V.o 1;clear b f
 cases t
 .go_wp2;refine bR (.agg #[.int .i64 1,.int .i64 0,.string ⟨#[]⟩]) ?_;exact QBU
 .go_wp2;refine bR (.agg #[.int .i64 1,.int .i64 1,.string ⟨#[]⟩]) ?_;exact⟨rfl,(((HB1.o.setCell (show w.heap.size<=w.heap.size+1+1+1 by omega) _).setCell (show w.heap.size<=w.heap.size+1+1 by omega) _).setCell (show w.heap.size<=w.heap.size+1+1 by omega) _).setCell (show w.heap.size<=w.heap.size+1+1 by omega) _⟩
theorem Ep{ok:nP}(v:Value)(l:List V3)(x:V3)(w:World)(h:aI VR w ok v l):Calls prog 297 #[v,.agg #[.int .i64 x.1,.int .i64 x.2.1,.string x.2.2]] w (aP (.int .i64 (eW (fun y=>decide (x=y)) l)) w):=by
 obtain⟨a,c,rfl,F⟩:=h.slice;have HB0:=aA (aB w (.cells #[.int .i64 x.1,.int .i64 x.2.1,.string x.2.2] 64));have j:=aA (aM w (.cells #[.int .i64 x.1,.int .i64 x.2.1,.string x.2.2] 64) _ rfl);have n:=aA (h.on bJ HB0.o);obtain⟨w1,f⟩:=xE (w.alloc (.cells #[.int .i64 x.1,.int .i64 x.2.1,.string x.2.2] 64));rw[<-f] at n HB0 j;have z:=aA f;clear h f;obtain⟨d,e⟩:∃d:V3->Bool,d=(fun y=>decide (x=y)):=⟨_,rfl⟩;have t:=aA e;rw[<-e];clear e;unfold aP;go_enter func297,ntmps297;go_wp2;rw[<-z.o];go_loopw [5,8] (fun _ i wr=>∃k:Nat,k<=l.length/\i=.int .i64 k/\Hid (∀i (hi:i<l.length),i<k->d l[i]=false)/\Hid (Below w1.heap.size w1 wr)) (fun _ i _=>l.length - (intOf i).toNat)
 case atStart=>exact BM
 case round=>
  obtain⟨k,E,rfl,HR,HB⟩:=hrel;by_cases q:k<l.length
  .have hk1:(k:Int)<(l.length:Int):=qo;obtain⟨b,off,r,rfl,_,D,⟨rfl,A⟩,o⟩:=aI.at bJ (n.o.on bJ HB.o) q qe;obtain⟨C,G,H⟩:=cR3 o;rw[Nat.add_zero] at C;have m:=qK j HB.o;obtain⟨⟨I,J,K⟩,_⟩:=cF m.o;have L:=aE m.o;have p:=FD x l[k];have HL:Hid (∀g,d l[k]=g->((if g=true then eW d l=(k:Int) else ∀i (hi:i<l.length),i<k+1->d l[i]=false):Prop)):=aA (fun g hg=>by
    cases g
    .exact Xj
    .rw[iP rfl];exact IW q HR.o hg)
   have s:d l[k]=decide (x=l[k]):=by rw[t.o]
   rw[<-s] at p;clear HR o A s;generalize B:l[k]=y at *;generalize d y=g at *;clear B;go_wp2;go_quiet (fail)
   have HB':=aA (fL HB.o ⟨nq,rfl⟩);clear p
   cases g
   .exact Xk
   .exact QCe
  .exact QBM
theorem RP{ok:nP}(v:Value)(l:List V3)(x:V3)(w:World)(h:aI VR w ok v l):Calls prog 289 #[v,.agg #[.int .i64 x.1,.int .i64 x.2.1,.string x.2.2]] w (aP (.bool (l.any (fun y=>decide (x=y)))) w):=by
 have HB0:=aA (aB w (.cells #[.int .i64 x.1,.int .i64 x.2.1,.string x.2.2] 64));have HI:=aA (Ep v l x _ (h.on bJ HB0.o));have HA:=aA (sY (fun y=>decide (x=y)) l);obtain⟨a,c,rfl,b⟩:=h.slice;unfold aP at *;generalize eW (fun y=>decide (x=y)) l=n at *;clear h;go_enter func289,ntmps289;exact QCg
theorem Vz{ok:nP}(v:Value)(l:List V3)(x:V3)(w:World)(h:aI VR w ok v l):Calls prog 286 #[v,dH x] w (aP (.bool (l.any (fun y=>decide (y=x)))) w):=by
 have HB0:=aA (aB w (.cells #[.int .i64 x.1,.int .i64 x.2.1,.string x.2.2] 64));have HI:=aA (RP v l x _ (h.on bJ HB0.o));have e:l.any (fun y=>decide (y=x))=l.any (fun y=>decide (x=y)):=by congr 1;funext y;rw[Bool.eq_iff_iff];simp[eq_comm]
 rw[e];obtain⟨a,c,rfl,b⟩:=h.slice;unfold aP dH at *;generalize l.any (fun y=>decide (x=y))=n at *;clear h e;go_enter func286,ntmps286;go_wp2_with fail;exact Sp
theorem tC(f:oD)(i g:Nat)(l:List V3)(v:V3)(e m:Int)(w:World):Calls prog 252 #[.agg #[.slice f i g,.int .i64 v.1,.int .i64 v.2.1,.string v.2.2,.int .i64 e],.int .i64 m] w (aP (.bool (It.is ⟨l,v,e⟩ m)) w):=by
 obtain⟨t,a⟩:∃t:Bool,decide (v=(1,m,ByteArray.empty))=t:=⟨_,rfl⟩;have j:∀w,Sem.run prog (binOp .eql 64 (.agg #[.int .i64 v.1,.int .i64 v.2.1,.string v.2.2]) (.agg #[.int .i64 1,.int .i64 m,.string ⟨#[]⟩])) w=.ok (.bool t) w:=by rw[<-a];exact FD v (1,m,ByteArray.empty)
 have c:Hid (It.is ⟨l,v,e⟩ m=(decide (e=0)&&t)):=aA (by unfold It.is;rw[<-a]);have b:=aA (fun o:Obj=>aB w o);unfold aP;rw[c.o];clear a c;by_cases he:e=0
 .have d:(e==0)=true:=bQ.2 he;rw[dX he,Bool.true_and];clear he;go_enter func252,ntmps252;go_wp2;go_returns;exact⟨rfl,b.o _⟩
 .have d:(e==0)=false:=bN.2 he;rw[dF he,Bool.false_and];clear he;go_enter func252,ntmps252;go_wp2;go_returns;exact⟨rfl,b.o _⟩
theorem GV(b:Bool)(n:Int)(a:(if b=true then (1:Int) else 0)=n)(w:World):Calls prog 285 #[.bool b] w (aP (.agg #[.slice none 0 0,.int .i64 1,.int .i64 n,.string ByteArray.empty,.int .i64 0]) w):=by
 have c:=aA (fun d e:Obj=>aC (aB w d) (aB _ e));unfold aP
 cases b
 .obtain rfl:n=0:=by rw[<-a];rfl
  clear a;go_enter func285,ntmps285;go_wp2;refine bR (.agg #[.slice none 0 0,.int .i64 1,.int .i64 0,.string ⟨#[]⟩,.int .i64 0]) ?_;exact⟨rfl,c.o _ _⟩
 .obtain rfl:n=1:=by rw[<-a];rfl
  clear a;go_enter func285,ntmps285;go_wp2;refine bR (.agg #[.slice none 0 0,.int .i64 1,.int .i64 1,.string ⟨#[]⟩,.int .i64 0]) ?_;exact⟨rfl,c.o _ _⟩
theorem Kf(op:Int)(w:World):Calls prog 271 #[.int .i64 op] w (fun e w'=>e=.returned (.int .i64 (jM op))/\w=w'):=by
 obtain⟨n,a⟩:∃n:Nat,jM op=n:=⟨_,rfl⟩;rw[a];have b:=aA a;clear a;go_enter func271,ntmps271;go_wp2
 all_goals go_returns
 all_goals
  refine⟨?_,rfl⟩;rw[<-b.o];clear b;unfold jM
  simp_all
def vG(op:Int):List V3->V3×Int
 | [a]=>nV op a
 | [a,b]=>dL op a b
 |_=>(bF,1)
theorem Kg{ok:nP}(op:Int)(v:Value)(l:List V3)(w:World)(h:aI VR w ok v l)(g:(op=11/\l.length=1)\/(6<=op/\op<=13/\op≠11/\l.length=2)):Calls prog 287 #[.int .i64 op,v] w (eB (vG op l) w):=by
 rcases g with ⟨rfl,f⟩|⟨h6,h13,h11,f⟩
 .obtain⟨a,rfl⟩:=List.length_eq_one_iff.1 f;by_cases c:aU a=true
  .exact Dn v a w h c
  .have d:aU a=false:=by simpa using c
   have e:vG 11 [a]=(bF,1):=by show nV 11 a=_;unfold nV;rw[iP d]
   rw[e];exact GH 11 v [a] w h qe qe rfl (by simp[d])
 .obtain⟨a,b,rfl⟩:∃a b,l=[a,b]:=by
   match l,f with
   | [a,b],_=>exact⟨a,b,rfl⟩
  by_cases c:aU a=true/\aU b=true
  .show Calls _ _ _ _ (eB (dL op a b) w);have:op=6\/op=7\/op=8\/op=9\/op=10\/op=12\/op=13:=qo
   rcases this with rfl|rfl|rfl|rfl|rfl|rfl|rfl
   .exact Iv v a b w h c
   .exact Iw v a b w h c
   .exact Ix v a b w h c
   .exact Iy v a b w h c
   .exact Dk v a b w h c
   .exact Dl v a b w h c
   .exact Dm v a b w h c
  .have d:aU a=false\/aU b=false:=by
    by_cases h1:aU a=true
    .exact .inr (by simpa using fun h2=>c ⟨h1,h2⟩)
    .exact .inl (by simpa using h1)
   have e:vG op [a,b]=(bF,1):=by show dL op a b=_;unfold dL;rw[iP d]
   rw[e];refine GH op v [a,b] w h h6 h13 (by unfold SD;rw[iN h11];rfl) ?_
   rcases d with d|d<;>simp[d]
theorem oL:bO 0:=by unfold bO;decide
theorem LA:bO 1:=by unfold bO;decide
theorem LB:bO 2:=by unfold bO;decide
theorem aAq:bO 3:=by unfold bO;decide
theorem kD:cZ bF:=⟨oL,oL,qe⟩
theorem nU(b:Bool):cZ (cK b):=by
 cases b
 .exact⟨LA,oL,qe⟩
 .exact⟨LA,LA,qe⟩
theorem Qc(a b:V3):bO (jW a b).2:=by
 unfold jW;split
 .exact LA
 split
 .exact LB
 split<;>exact oL
theorem yC{f:Int->Int->Int×Int}(c:∀a b,bO (f a b).1/\bO (f a b).2)(a b:V3):cZ (eG f a b).1/\bO (eG f a b).2:=by
 unfold eG;split
 .exact⟨kD,LB⟩
 split
 .exact⟨kD,(c _ _).2⟩
 .exact⟨⟨LB,(c _ _).1,show ByteArray.empty.size<=cV by decide⟩,oL⟩
theorem NL(x:Int):bO (if kE<=x/\x<=lH then (x,(0:Int)) else (0,3)).1/\bO (if kE<=x/\x<=lH then (x,(0:Int)) else (0,3)).2:=by
 split
 .rename_i h;exact⟨h,oL⟩
 .exact⟨oL,aAq⟩
theorem Kh(op:Int)(l:List V3):cZ (vG op l).1/\bO (vG op l).2:=by
 have one:=LA;have two:=LB;have zero:=oL;unfold vG;split
 .unfold nV;split
  .exact⟨kD,one⟩
  split
  .exact⟨kD,two⟩
  .exact⟨nU _,zero⟩
 .unfold dL;split
  .exact⟨kD,one⟩
  split
  .split
   .exact⟨kD,two⟩
   .exact⟨nU _,zero⟩
  split
  .split
   .exact⟨kD,Qc _ _⟩
   .exact⟨nU _,zero⟩
  split
  .exact yC (fun a b=>NL (a+b)) _ _
  split
  .exact yC (fun a b=>NL (a - b)) _ _
  split
  .exact yC (fun a b=>NL (a * b)) _ _
  split
  .exact⟨kD,two⟩
  split<;>exact⟨nU _,zero⟩
 .exact⟨kD,one⟩
def BW(w:World)(ok:nP)(x:It)(vb:Value):Prop:=aI VR w ok vb x.bag/\cZ x.val/\bO x.err
def sL:Rep It:=fun w ok cs x=>∃vb,cs=[vb,.int .i64 x.val.1,.int .i64 x.val.2.1,.string x.val.2.2,.int .i64 x.err]/\BW w ok x vb
theorem iK:Firm sL 5:={
 aDc:=fun⟨vb,e,h1,h2,h3⟩ b=>⟨vb,e,aI.aDc bJ h1 b,h2,h3⟩
 more:=fun⟨vb,e,h1,h2,h3⟩ c=>⟨vb,e,aI.more bJ h1 c,h2,h3⟩
 len:=fun⟨vb,e,h⟩=>by rw[e];rfl
 one:=fun⟨vb,e,h⟩=>by
  intro v a;rw[e] at a;simp only[List.mem_cons,List.not_mem_nil,or_false] at a
  rcases a with rfl|rfl|rfl|rfl|rfl
  .exact kW h.1
  .rfl
  .rfl
  .rfl
  .rfl
 inb:=fun⟨vb,e,h1,h2,h3⟩=>⟨vb,e,aI.inb bJ h1,h2,h3⟩}
def pG(x:It)(w:World)(e:Ending)(w':World):Prop:=∃vb,e=.returned (.agg #[vb,.int .i64 x.val.1,.int .i64 x.val.2.1,.string x.val.2.2,.int .i64 x.err])/\BW w' (fun b=>w.heap.size<=b) x vb/\Below w.heap.size w w'
theorem mA{x:It}{v:V3}{e:Int}{w w':World}(c:x=jK v e)(b:cZ v)(he:bO e)(a:Below w.heap.size w w'):pG x w (.returned (.agg #[.slice none 0 0,.int .i64 v.1,.int .i64 v.2.1,.string v.2.2,.int .i64 e])) w':=by
 subst c;exact⟨_,rfl,⟨aI.nil,b,he⟩,a⟩
theorem Er{w:World}{g:Nat}{a b c d e:Value}:aO (fun k=>k≠g) w (((((w.setCell ⟨g,0,none⟩ a).setCell ⟨g,1,none⟩ b).setCell ⟨g,2,none⟩ c).setCell ⟨g,3,none⟩ d).setCell ⟨g,4,none⟩ e):=
 ((((aJ a).trans (aJ b)).trans (aJ c)).trans (aJ d)).trans (aJ e)
theorem uD{W w:World}{g:Nat}{a b c d e:Value}(h:Below W.heap.size W w)(f:W.heap.size<=g):Below W.heap.size W (((((w.setCell ⟨g,0,none⟩ a).setCell ⟨g,1,none⟩ b).setCell ⟨g,2,none⟩ c).setCell ⟨g,3,none⟩ d).setCell ⟨g,4,none⟩ e):=
 ((((h.setCell f _).setCell f _).setCell f _).setCell f _).setCell f _
abbrev nI:Array Value:=#[.slice none 0 0,.int .i64 0,.int .i64 0,.string ⟨#[]⟩,.int .i64 0]
theorem Ki{ok ok':nP}(n:No)(a:oQ n)(d:Value)(l:List It)(c:Value)(g:List Gv)(w:World)(b:aI sL w ok' d l)(h:aI jQ w ok c g)(h1:n.op=1)(i:l=[]):Calls prog 272 #[jN n,d,c] w (pG (iR g n l) w):=by
 obtain⟨o,gc,rfl,_⟩:=h.slice;obtain⟨la,lc,rfl,p⟩:=b.slice;have j:=aA (aC (aB w (.cells (iT n) 294)) (aB _ (.cells nI 353)));have k:=aA (aF (aM w (.cells (iT n) 294) _ rfl) (aB (w.alloc (.cells (iT n) 294)) (.cells nI 353)));have m:Hid (((w.alloc (.cells (iT n) 294)).alloc (.cells nI 353)).heap[w.heap.size+1]? =some (.cells nI 353 (0,0))):=aA (aM (w.alloc (.cells (iT n) 294)) (.cells nI 353) _ qs);subst i;have d1:(n.op==1)=true:=bQ.2 h1;have f:Hid (iR g n []=jK n.val 0):=aA (iP h1);have e:=aA a.2.1;rw[f.o];unfold jN;clear b h a h1;go_enter func272,ntmps272;go_wp2;refine bR (.agg #[.slice none 0 0,.int .i64 n.val.1,.int .i64 n.val.2.1,.string n.val.2.2,.int .i64 0]) ?_;exact mA rfl e.o oL (aC (aB _ _) (aB _ _))
theorem Kj{ok ok':nP}(n:No)(C:oQ n)(t:Value)(l:List It)(s:Value)(g:List Gv)(w:World)(q:aI sL w ok' t l)(h:aI jQ w ok s g)(h1:n.op=2)(E:l=[]):Calls prog 272 #[jN n,t,s] w (pG (iR g n l) w):=by
 obtain⟨R,gc,rfl,_⟩:=h.slice;obtain⟨la,lc,rfl,S⟩:=q.slice;have m:=aA (aC (aB w (.cells (iT n) 294)) (aB _ (.cells nI 353)));have c:=aA (aF (aM w (.cells (iT n) 294) _ rfl) (aB (w.alloc (.cells (iT n) 294)) (.cells nI 353)));have d:Hid (((w.alloc (.cells (iT n) 294)).alloc (.cells nI 353)).heap[w.heap.size+1]? =some (.cells nI 353 (0,0))):=aA (aM (w.alloc (.cells (iT n) 294)) (.cells nI 353) _ qs);subst E;have d1:(n.op==1)=false:=bN.2 qo;have d2:(n.op==2)=true:=bQ.2 h1;have p:Hid (iR g n []=⟨(rK g n.aDs).1,bF,(rK g n.aDs).2⟩):=aA (iN qo);have a:=aA (TP _ g n.aDs _ (h.on cA m.o));rw[p.o];unfold jN;unfold sZ oI at a;have o:Hid (bO (rK g n.aDs).2):=aA (by unfold rK;split;exact(by unfold bO;decide);exact oL);generalize rK g n.aDs=r at *;obtain⟨bag,B⟩:=r;simp only at a o;clear q h C h1 p;go_enter func272,ntmps272;go_wp2_with fail;refine a.o.mono ?_;rintro e w1 ⟨v,rfl,j,f⟩;obtain⟨z,A,rfl,_⟩:=j.slice;have y:=aA (j.more bJ (ok':=fun b=>w.heap.size<=b/\b≠w.heap.size+1) (fun b i=>by simp only[World.size_alloc] at i;exact⟨qo,qo⟩));have x:=qB m f;replace c:=qK c f;obtain⟨⟨F,G,H,I,J,K,L⟩,_⟩:=bL c.o;have T:=aE c.o;replace d:=qK d f;obtain⟨⟨M,N,O,P,Q⟩,_⟩:=dO d.o;have U:=aE d.o;clear j f a;go_wp2;refine bR (.agg #[.slice z bag.length A,.int .i64 0,.int .i64 0,.string ⟨#[]⟩,.int .i64 B]) ?_;refine⟨_,rfl,⟨?_,kD,o.o⟩,uD x.o (Nat.le_succ _)⟩;exact aI.more bJ (aI.aDc bJ y.o (Er.mono fun k _ D=>D.2)) (fun b i=>i.1)
theorem Kk{w:World}{ok:nP}{v:Value}{l:List It}(h:aI sL w ok v l){k:Nat}(b:k<l.length):cZ l[k].val/\bO l[k].err/\l[k].bag.length<=1000000:=by
 obtain⟨a,c,rfl,_⟩:=h.slice;obtain⟨b',i,r,e,_,f,⟨vb,rfl,hp⟩,g⟩:=aI.at iK h b qe;obtain⟨_,_,_,d⟩:=hp.1.slice;exact⟨hp.2.1,hp.2.2,d⟩
theorem tO{w:World}{ok:nP}{b off n c k:Nat}{l:List It}(h:aI sL w ok (.slice (some ⟨b,off,none⟩) n c) l)(m:k<l.length):
 ∃d f,w.cell? ⟨b,off+k * 5,none⟩=some (.slice d l[k].bag.length f)/\w.cell? ⟨b,off+k * 5+1,none⟩=some (.int .i64 l[k].val.1)/\w.cell? ⟨b,off+k * 5+2,none⟩=some (.int .i64 l[k].val.2.1)/\w.cell? ⟨b,off+k * 5+3,none⟩=some (.string l[k].val.2.2)/\w.cell? ⟨b,off+k * 5+4,none⟩=some (.int .i64 l[k].err)/\
  BW w ok l[k] (.slice d l[k].bag.length f)/\b<w.heap.size:=by
 obtain⟨b',o,r,e,_,j,⟨vb,rfl,hp⟩,a⟩:=aI.at iK h m qe;injection e with e;injection e with g i _;subst g i;obtain⟨d,f,rfl,_⟩:=hp.1.slice;exact⟨d,f,by have:=a 0 _ rfl;rwa [Nat.add_zero] at this,a 1 _ rfl,a 2 _ rfl,a 3 _ rfl,a 4 _ rfl,hp,j⟩
theorem AY{w:World}{ok:nP}{a:oD}{n c:Nat}{l:List It}(h:aI sL w ok (.slice a n c) l)(d:0<l.length):∃b off,a=some ⟨b,off,none⟩:=by
 obtain⟨b',f,r,e,_⟩:=aI.at iK h d qe;exact⟨_,_,e⟩
theorem Qd(l:List It)(k:Nat)(a:k<l.length):(l.take k).map (·.val)++[l[k].val]=(l.take (k+1)).map (·.val):=by
 rw[List.take_succ_eq_append_getElem a,List.map_append];rfl
def xO(n:No)(l:List It):Prop:=(n.op=3/\l.length=1)\/(n.op=4/\l.length=1)\/(n.op=5/\l.length=2)\/((n.op=11/\l.length=1)\/(6<=n.op/\n.op<=13/\n.op≠11/\l.length=2))
def xP(n:No)(l:List It):Prop:=(n.op=12\/n.op=13)/\∃a b,l=[a,b]/\(a.is (n.op - 12)=true\/b.is (n.op - 12)=true)
theorem YQ{g:List Gv}{n:No}{l:List It}(h:xP n l):iR g n l=jK (cK (decide (n.op=13))) 0:=by
 obtain⟨h1,a,b,rfl,h2⟩:=h;show (if (n.op=12\/n.op=13)/\(a.is (n.op - 12)=true\/b.is (n.op - 12)=true) then jK (cK (decide (n.op=13))) 0 else _)=_;rw[iP ⟨h1,h2⟩]
theorem uE{g:List Gv}{n:No}{a:It}:iR g n [a]=if a.err≠0 then jK bF a.err else if n.op=3 then (match a.bag with | [v]=>jK v 0|_=>jK bF 4) else if n.op=4 then jK (2,a.bag.length,ByteArray.empty) 0 else jK (nV n.op a.val).1 (nV n.op a.val).2:=rfl
theorem EA{g:List Gv}{n:No}{a b:It}(h:¬xP n [a,b]):iR g n [a,b]=if a.err≠0 then jK bF a.err else if b.err≠0 then jK bF b.err else if n.op=5 then jK (cK (a.bag.any (fun v=>decide (v=b.val)))) 0 else jK (dL n.op a.val b.val).1 (dL n.op a.val b.val).2:=by
 show (if (n.op=12\/n.op=13)/\(a.is (n.op - 12)=true\/b.is (n.op - 12)=true) then _ else _)=_;rw[iN (fun h2=>h ⟨h2.1,a,b,rfl,h2.2⟩)]
theorem PU{g:List Gv}{n:No}{l:List It}(d:l.length=1\/l.length=2)(he:¬xP n l){k:Nat}(c:k<l.length)(h0:∀i (e:i<l.length),i<k->l[i].err=0)(h1:l[k].err≠0):iR g n l=jK bF l[k].err:=by
 match l,d with
 | [a],_=>
   obtain rfl:k=0:=by simp at c;omega
   rw[uE,iP (show a.err≠0 from h1)];rfl
 | [a,b],_=>
   rw[EA he]
   match k,c with
   |0,_=>rw[iP (show a.err≠0 from h1)];rfl
   |1,_=>
    have h2:a.err=0:=h0 0 qs qo;rw[iN (fun h=>h h2),iP (show b.err≠0 from h1)];rfl
theorem Es{g:List Gv}{n:No}{l:List It}(d:(n.op=11/\l.length=1)\/(6<=n.op/\n.op<=13/\n.op≠11/\l.length=2))(he:¬xP n l)(h0:∀i (e:i<l.length),l[i].err=0):iR g n l=jK (vG n.op (l.map (·.val))).1 (vG n.op (l.map (·.val))).2:=by
 rcases d with ⟨f,c⟩|⟨h6,h13,h11,c⟩
 .match l,c with
  | [a],_=>
    rw[uE,iN (fun h=>h (h0 0 qs)),iN qo,iN qo];rfl
 .match l,c with
  | [a,b],_=>
    rw[EA he,iN (fun h=>h (h0 0 qs)),iN (fun h=>h (h0 1 qs)),iN qo];rfl
end Go.Proofs.YtkglnboglppgnaaGreatDoor
