/- Lemmas. -/
import Derived.Test.YtheabjeppmdmiaaGreatDoorMat
namespace Go.Proofs.YtheabjeppmdmiaaGreatDoor
open Go.RowKit
set_option linter.unusedVariables false
set_option linter.unusedSimpArgs false
set_option maxHeartbeats 16000000
open _root_.Go.Proofs.Tryz
set_option maxRecDepth 20000
theorem QCy{p:Prop}(h:p:=by
 go_wp2;go_roundw
 case rel=>exact⟨k+1,qo,by go_num,aA (by rw[HFX.o,HDU.o];exact HBV.o)⟩
 case measure=>simp[intOf];omega):p:=h
theorem QBG{p:Prop}(h:p:=by
 rintro e w2 ⟨rfl,hb2⟩;have HB2:=aA hb2;clear b0 b1 b2 b3 b4 b5 b6 b7 b8 b9 b10 b11 y0 y1 y2 hb2 bz yz;go_wp2;go_roundw
 case rel=>exact⟨k+1,qo,by go_num,aA (by rw[HFX.o,HDU.o];exact HBV.o.trans HB2.o)⟩
 case measure=>simp[intOf];omega):p:=h
def aAg(K:nP)(base B:Nat)(w w':World)(s:Sto):Prop:=∃K':nP,(∀b,K b->K' b)/\(∀b,K' b->K b\/base<=b)/\iG K' base B w w' s
theorem ZH{K aj:nP}{base B:Nat}(o:Op)(ho:iF o)(s:Sto)(va:Value)(l:List Ob)(done:Bool)(w:World)(g:¬K B)(M:B<base)(hl:aH kB w aj va l)(av:∀b,aj b->b<base/\b≠B)(n:Nat)(hn:kL n s)(ai:n+l.length<=980000)(h:iG K base B w w s):
 Calls prog 33 #[.pointer (some ⟨B,0,none⟩),eY o,va,.bool done] w (fun e w'=>e=.returned (.tuple #[])/\aAg K base B w w' (l.foldl (dB o done) s)):=by
 obtain⟨a,c,rfl,br⟩:=hl.slice;obtain⟨O2,ag⟩:∃O:Obj,O=.cells (bW o) 39:=⟨_,rfl⟩;obtain⟨W0,A⟩:=xE (w.alloc O2);have N:Below w.heap.size w W0:=by rw[A];exact aB _ _
 have bq:=h.size;have bm:W0.heap.size=w.heap.size+1:=by rw[A];simp
 have aw:W0.heap[w.heap.size]? =some O2:=by rw[A];exact aK _ _ _ rfl
 obtain⟨K',af⟩:∃K':nP,K'=fun b=>K b\/(w.heap.size<=b/\b<W0.heap.size):=⟨_,rfl⟩
 have ay:Hid (iG K' base B W0 W0 s):=aA (af▸h.aEy N);have j:Hid ((∀b,K b->K' b)/\(∀b,K' b->K b\/base<=b)/\¬K' B/\K' w.heap.size):=aA (by
  subst af;exact⟨fun b f=> .inl f,fun b f=>f.imp id (fun h=>by omega),fun f=>f.elim g (fun h=>by omega),.inr ⟨lR _,qo⟩⟩)
 have a6:=aA (fun k (q:k<l.length)=>Jm (dB o done) l s q);have a8:Hid (∀k,k<=l.length->kL (n+k) ((l.take k).foldl (dB o done) s)):=aA (fun k q=>by
  have:=yC o done (l.take k) n s hn;rwa [List.length_take,Nat.min_eq_left q] at this)
 have H:=aA ai;have bf:=aA (show ∀wr,aN (fun b=>(b<base/\b≠B)\/K' b) W0 wr->aH kB wr aj (.slice a l.length c) l from fun wr hs=>(hl.on aO N).aDQ aO (hs.mono fun b _ f=> .inl (av b f)));have bc:=aA (show ∀wr,aN (fun b=>(b<base/\b≠B)\/K' b) W0 wr->wr.heap[w.heap.size]? =some (.cells (bW o) 39 (0,0)) from fun wr hs=>ag▸aF aw hs (.inr j.o.2.2.2));have az:Hid (∀wr,iG K' base B W0 wr (l.foldl (dB o done) s)->aAg K base B w wr (l.foldl (dB o done) s)):=aA (fun wr f=>by
  obtain⟨L,ro,vc,vr,vn,vo,vt,vu,vk,vb,h1,h2,h3⟩:=f;exact⟨K',j.o.1,j.o.2.1,L,ro,vc,vr,vn,vo,vt,vu,vk,vb,h1,h2,(aJ N).trans h3⟩)
 have aa:=aA ho;rw[ag] at A;unfold eY bW at *;have bj:=aA A;clear A N aw h hl av hn af g ho ag bm ai;go_enter func33,ntmps33;go_upto_region 1 with (fail)
 rw[<-bj.o];go_wp2;go_loopw [9,12] (fun _ i wr=>∃(k:Nat),k<=l.length/\i=.int .i64 k/\Hid (iG K' base B W0 wr ((l.take k).foldl (dB o done) s))) (fun _ i _=>l.length - (intOf i).toNat)
 case atStart=>exact⟨0,Nat.zero_le _,rfl,aA ay.o⟩
 case round=>
  obtain⟨k,q,rfl,y⟩:=hrel;by_cases S:k<l.length
  .have bl:(k:Int)<(l.length:Int):=qo;obtain⟨b,off,r,rfl,_,bp,⟨rfl,ar⟩,p⟩:=aH.at aO (bf.o wr y.o.stays) S qe;obtain⟨x0,x1,x2⟩:=cR3 p;rw[Nat.add_zero] at x0;have HFX:Hid ((l.take (k+1)).foldl (dB o done) s=dB o done ((l.take k).foldl (dB o done) s) l[k]):=aA (a6.o k S);obtain⟨Z,G,bo,bd⟩:=dI ar (a8.o k (Nat.le_of_lt S)) S (bc.o wr y.o.stays);clear p ar;generalize l[k]=x at *;generalize (l.take k).foldl (dB o done) s=t at *;obtain⟨d,T⟩:=xE (wr.alloc (.cells #[.int .i64 x.on,.int .i64 x.aDG,.string x.arg] 167));have Q:Below wr.heap.size wr d:=by rw[T];exact aB _ _
   have X:Hid (d.heap[wr.heap.size]? =some (.cells #[.int .i64 x.on,.int .i64 x.aDG,.string x.arg] 167 (0,0))):=aA (by rw[T];exact aK _ _ _ rfl);obtain⟨D,HBV,bh,Y⟩:=dI (aE bd.o Q) (y.o.more Q) T Q;clear T Q;go_upto_region 4 with (fail)
   rw[<-bh.o];obtain⟨⟨b0,b1,b2,b3,b4,b5,b6,b7,b8,b9,b10,b11⟩,_⟩:=bM D.o;have bz:=aD D.o;obtain⟨⟨y0,y1,y2⟩,_⟩:=cG X.o;have yz:=aD X.o;have ab:=aA (fun (p:x.arg.size<=cQ)=>Qc o aa.o t x.arg p d j.o.2.2.1 M (qD G.o.aDH H.o) (fun c p=>qD (G.o.aD9 c p) H.o) HBV.o.here);have ad:=aA (fun (p:x.arg.size<=cQ)=>UW o aa.o t x.arg p d j.o.2.2.1 M (qD G.o.aDJ H.o) HBV.o.here);unfold eY bW at ab ad;clear x0 x1 x2;by_cases h1:x.aDG=1
   .have e1:(x.aDG==(1:Int))=true:=bQ.2 h1;have e3:(x.aDG==(3:Int))=false:=bN.2 qo;have e4:(x.aDG==(4:Int))=false:=bN.2 qo;have H1:=aA h1;clear h1
    cases aq:done
    .subst aq;have HDU:Hid (dB o false t x=t):=aA (by unfold dB;rw[iN (fun h=>by cases h.2),iN (qA H1.o),iN (qA H1.o)]);exact QCy
    .subst aq;have HDU:Hid (dB o true t x=mC t o x.arg):=aA (by unfold dB;rw[iP ⟨H1.o,rfl⟩]);go_wp2_with fail;refine(ab.o Z.o.2.2).mono ?_;exact QBG
   .have e1:(x.aDG==(1:Int))=false:=bN.2 h1;have H1:=aA h1;clear h1;by_cases h3:x.aDG=3
    .have e3:(x.aDG==(3:Int))=true:=bQ.2 h3;have E:=aA h3;clear h3;have HDU:Hid (dB o done t x=fT t o x.arg):=aA (by unfold dB;rw[iN (fun h=>H1.o h.1),iP E.o]);go_wp2_with fail;refine(ad.o Z.o.2.2).mono ?_;exact QBG
    .have e3:(x.aDG==(3:Int))=false:=bN.2 h3;have E:=aA h3;clear h3;by_cases h4:x.aDG=4
     .have e4:(x.aDG==(4:Int))=true:=bQ.2 h4;have H4:=aA h4;clear h4;have HDU:Hid (dB o done t x={t with aDO:=t.aDO++[⟨t.aDP,o.aDN,x.arg⟩]}):=aA (by unfold dB;rw[iN (fun h=>H1.o h.1),iN E.o,iP H4.o]);go_upto_region 9 with (fail)
      obtain⟨L,ro,vc,vr,vn,vo,vt,vu,vk,vb,ah,z,ax⟩:=y.o;obtain⟨U,V,rfl⟩:=z.aDO.slice;obtain⟨J,P⟩:∃O:Obj,O=.cells (aV t vc vr (.slice U t.aDO.length V) vo vt vu vk vb) 52:=⟨_,rfl⟩;rw[<-P] at ah;have F:Hid (∀(w':World),(w'.heap[B]? =some J/\w'.heap[w.heap.size]? =d.heap[w.heap.size]? /\w'.heap[wr.heap.size]? =d.heap[wr.heap.size]?)->w'.cell? ⟨B,0,none⟩=some (.int .i64 t.aDP)/\w'.cell? ⟨B,3,none⟩=some (.slice U t.aDO.length V)/\w'.frozen? ⟨B,3,none⟩=false/\B<w'.heap.size/\w'.cell? ⟨w.heap.size,2,none⟩=some (.string o.aDN)/\w.heap.size<w'.heap.size/\w'.cell? ⟨wr.heap.size,2,none⟩=some (.string x.arg)/\wr.heap.size<w'.heap.size):=aA (fun w' q=>by
       have h1:=q.1;have h2:=q.2.1.trans D.o;have h3:=q.2.2.trans X.o;rw[P] at h1;exact⟨aQ h1 0 _ rfl,aQ h1 3 _ rfl,aR h1 3,aD h1,aQ h2 2 _ rfl,aD h2,aQ h3 2 _ rfl,aD h3⟩)
      have ba:=aA P;have ae:=aA (z.on Y.o);have I:Hid (d.heap[B]? =some J/\d.heap[w.heap.size]? =d.heap[w.heap.size]? /\d.heap[wr.heap.size]? =d.heap[wr.heap.size]?):=aA ⟨aE ah Y.o,rfl,rfl⟩;have al:Hid (some w.heap.size≠(Value.slice U t.aDO.length V).ownBlock/\some wr.heap.size≠(Value.slice U t.aDO.length V).ownBlock):=aA ⟨(z.kept _ j.o.2.2.2).2.2.2.1,fun e=>qA ((z.aDO.lt _ e.symm).2)⟩;have bg:=aA ax;have ai:t.aDO.length<=990000:=qD G.o.aDO H.o;have bk:FB ⟨t.aDP,o.aDN,x.arg⟩:=⟨z.aDP,aa.o.2.2.1,Z.o.2.2⟩;clear z P ah ax b0 b1 b2 b3 b4 b5 b6 b7 b8 b9 b10 b11 bz y0 y1 y2 yz ad ab;obtain⟨c0,c3,f3,v,b2,bz,y2,yz⟩:=F.o _ I.o;refine cF 18 [(0,false),(1,false),(2,false),(3,false),(4,false),(5,false),(6,false),(7,false),(8,false),(9,false),(10,false),(11,false),(12,false),(13,false),(14,true),(15,true),(16,false),(17,false)] [(18,true)] (fun w'=>w'.heap[B]? =some J/\w'.heap[w.heap.size]? =d.heap[w.heap.size]? /\w'.heap[wr.heap.size]? =d.heap[wr.heap.size]?) (by kernel_rfl) (by kernel_rfl) I.o ?_;simp only[List.cons_append,List.nil_append]
      repeat (refine dK rfl (fun K g=> ?_);unfold rd;go_simp;refine g _ (fun bn h1=> ?_) ?_;(· clear g K c0 c3 f3 v b2 bz y2 yz;obtain⟨c0,c3,f3,v,b2,bz,y2,yz⟩:=F.o _ h1;unfold rd;go_simp);clear g K)
      refine bK rfl (fun C m=> ?_);unfold mv;go_simp;refine m _ _ (fun _=>⟨aE I.o.1 (aB _ _).drew,(aB _ _).drew.block _ bz,(aB _ _).drew.block _ yz⟩) ?_;clear m C;refine bK rfl (fun C m=> ?_);unfold mv;refine jT (base:=base) Tn eD rfl (.tmp 45) (.tmp 55) rfl _ t.aDO rfl (ae.o.aDO.on eD (aB _ _).drew) d.heap.size 1 _ _ _ ⟨t.aDP,o.aDN,x.arg⟩ rfl (aK _ _ _ rfl) ⟨rfl,bk⟩ qo qe (lT ae.o.size (aB _ _).drew.size) ?_;intro l' au A' c' W hG R ao;obtain⟨ak,bb,be⟩:=VC (w:=d) (ae.o.on (aB _ _).drew) (aE I.o.1 (aB _ _).drew) M (aB _ _).drew R hG ao;have an:Hid (W.heap[B]? =some J/\W.heap[w.heap.size]? =d.heap[w.heap.size]? /\W.heap[wr.heap.size]? =d.heap[wr.heap.size]?):=aA ⟨ak.o,(gM D.o (aB _ _).drew R al.o.1).trans D.o.symm,(gM X.o (aB _ _).drew R al.o.2).trans X.o.symm⟩;have a7:=aA au.o;refine m _ _ (fun _=>an.o) ?_;clear m C hG R ao au c0 c3 f3 v b2 bz y2 yz;obtain⟨c0,c3,f3,v,b2,bz,y2,yz⟩:=F.o _ an.o
      repeat (refine dK rfl (fun K g=> ?_);unfold rd;go_simp;refine g _ (fun bn h1=> ?_) ?_;(· clear g K c0 c3 f3 v b2 bz y2 yz;obtain⟨c0,c3,f3,v,b2,bz,y2,yz⟩:=F.o _ h1;unfold rd;go_simp);clear g K)
      refine bK rfl (fun C m=> ?_);unfold mv;go_simp;refine m _ _ (fun h=>absurd h qe) ?_;clear m C c0 c3 f3 v b2 bz y2 yz;unfold cK;have a1:Hid (iG K' base B W0 (W.setCell ⟨B,3,none⟩ (.slice A' l'.length c')) (dB o done t x)):=aA (by
       rw[HDU.o,<-a7.o];exact⟨L,ro,vc,vr,_,vo,vt,vu,vk,vb,aG (ba.o▸ak.o) 3 _,bC.off bb.o j.o.2.2.1 M,((bg.o.trans (aJ Y.o)).trans be.o).trans ((aI _).mono (fun b _ f=>f.elim (fun h=>h.2) (fun h e=>j.o.2.2.1 (e▸h))))⟩)
      go_wp2;go_roundw
      case rel=>exact⟨k+1,qo,by go_num,aA (by rw[HFX.o];exact a1.o)⟩
      case measure=>simp[intOf];omega
     .have e4:(x.aDG==(4:Int))=false:=bN.2 h4;have HDU:Hid (dB o done t x=t):=aA (by unfold dB;rw[iN (fun h=>H1.o h.1),iN E.o,iN h4]);clear h4;exact QCy
  .have bl:¬(k:Int)<(l.length:Int):=qo;obtain rfl:k=l.length:=qo;have HE:Hid (iG K' base B W0 wr (l.foldl (dB o done) s)):=aA (by have:=y.o;rwa [List.take_of_length_le (lR _)] at this);clear y;go_wp2;go_returns;exact⟨rfl,az.o wr HE.o⟩
def eO(lo:Nat)(w:World)(L:List (Nat×V3)):Prop:=lo<=w.heap.size/\∀x∈L,lo<=x.1/\w.heap[x.1]? =some (.cells (IZ x.2).toArray 34 (0,0))
theorem eO.nil{lo:Nat}{w:World}(h:lo<=w.heap.size):eO lo w []:=⟨h,fun x a=>by cases a⟩
theorem eO.on{lo:Nat}{w w':World}{L:List (Nat×V3)}(h:eO lo w L)(a:Below w.heap.size w w'):eO lo w' L:=⟨lT h.1 a.size,fun x b=>⟨(h.2 x b).1,aE (h.2 x b).2 a⟩⟩
theorem eO.push{lo:Nat}{w w':World}{L:List (Nat×V3)}{a b:Int}{c:bY}(h:eO lo w L)(e:Below (w.alloc (.cells #[.int .i64 a,.int .i64 b,.string c] 34)).heap.size (w.alloc (.cells #[.int .i64 a,.int .i64 b,.string c] 34)) w'):eO lo w' (L++[(w.heap.size,(a,b,c))]):=by
 have h2:=eO.on (h.on (aB w (.cells #[.int .i64 a,.int .i64 b,.string c] 34))) e;refine⟨h2.1,fun x d=> ?_⟩
 rcases List.mem_append.1 d with d|d
 .exact h2.2 x d
 .rw[List.mem_singleton] at d;subst d;exact⟨h.1,aE (aK w _ _ rfl) e⟩
theorem eO.aEH{lo:Nat}{w w':World}{L:List (Nat×V3)}{a b:Int}{c:bY}{a2 b2:Int}{c2:bY}(h:eO lo w L)(d:Below ((w.alloc (.cells #[.int .i64 a,.int .i64 b,.string c] 34)).alloc (.cells #[.int .i64 a2,.int .i64 b2,.string c2] 34)).heap.size ((w.alloc (.cells #[.int .i64 a,.int .i64 b,.string c] 34)).alloc (.cells #[.int .i64 a2,.int .i64 b2,.string c2] 34)) w'):eO lo w' ((L++[(w.heap.size,(a,b,c))])++[(w.heap.size+1,(a2,b2,c2))]):=by
 have h1:=eO.push (a:=a) (b:=b) (c:=c) h (Below.refl _ _);have h2:=eO.push h1 d;rw[World.size_alloc] at h2;exact h2
theorem Xb{w:World}{ok:nP}{b:Nat}{v:V3}(a:w.heap[b]? =some (.cells (IZ v).toArray 34 (0,0)))(d:ok b)(c:cR v):aH VR w ok (.slice (some ⟨b,0,none⟩) 1 1) [v]:=by
 refine⟨some ⟨b,0,none⟩,1,IZ v,rfl,fun _=>⟨b,0,rfl,d,fun i x e=> ?_⟩,aX.one ⟨rfl,c⟩,qs⟩;have h:=aQ a i x (by simpa using e);rw[Nat.zero_add];exact h
theorem aM.many{α:Type}{R:Rep α}{s:Nat}{e:TypeId}{w:World}{base:Nat}{ok:nP}{b n:Nat}{cs:Array Value}{l:List α}(F:Firm R s)(j:0<s)(g:l.length=n)(i:0<n)(d:w.heap[b]? =some (.cells cs e (0,0)))(f:base<=b)(c:aX (R w (fun x=>ok x/\x<w.heap.size/\x≠b)) cs.toList l)(k:n<=1000):aM R s e w base ok (.slice (some ⟨b,0,none⟩) n n) l:=by
 subst g;have hlen:=c.len (fun _ _ a=>F.len a);rw[Array.length_toList] at hlen;refine⟨cs.toList,⟨by rw[Array.length_toList,hlen],.inr ⟨b,l.length,cs,rfl,f,d,lR _,by unfold maxLen;omega,hlen,?_⟩⟩,c.mono fun r x a=>F.more a fun x h=>⟨h.1,h.2.1,fun e=>h.2.2 (by injection e)⟩⟩;exact List.take_of_length_le (by rw[Array.length_toList];omega)
theorem vV(s:bY)(w:World):Calls prog 67 #[.string s] w (aP (.agg #[.int .i64 5,.int .i64 0,.string s]) w):=by
 unfold aP;go_enter func67,ntmps67;go_wp2;refine bR (.agg #[.int .i64 5,.int .i64 0,.string s]) ?_;exact⟨rfl,aB _ _⟩
theorem nL(cat:Int)(n:bY)(a:oD)(l c:Nat)(w:World):Calls prog 68 #[.int .i64 cat,.string n,.slice a l c] w (aP (.agg #[.int .i64 cat,.string n,.slice a l c]) w):=by
 unfold aP;go_enter func68,ntmps68;go_wp2;refine bR (.agg #[.int .i64 cat,.string n,.slice a l c]) ?_;exact⟨rfl,aB _ _⟩
theorem Ky{ok:nP}(c:cH)(j k:Value)(N:bY)(w:World)(h:pA w ok c j k):Calls prog 128 #[.agg #[.string c.id,.string c.aEa,.string c.aD2,j,k],.string N] w (aP (dE (cJ (c.log.any (fun h=>decide (h.aEg=N))))) w):=by
 obtain⟨g,i,rfl,_⟩:=h.2.2.2.1.slice;obtain⟨la,lc,rfl,_⟩:=h.2.2.2.2.slice;obtain⟨W0,a⟩:=xE ((((w.alloc (.cells (pE c g i la lc) 99)).alloc (.cells #[.string N] 9)).alloc (.cells fW 34)).alloc (.cells #[.int .i64 1,.int .i64 0,.string ⟨#[]⟩] 34));have d:Hid (Below w.heap.size w W0):=aA (by rw[a];exact aC (aC (aC (aB _ _) (aB _ _)) (aB _ _)) (aB _ _));have A:Hid (W0.heap[w.heap.size]? =some (.cells (pE c g i la lc) 99 (0,0))):=aA (by rw[a];exact aE (aE (aE (aK _ _ _ rfl) (aB _ _)) (aB _ _)) (aB _ _));have B:Hid (W0.heap[w.heap.size+1]? =some (.cells #[.string N] 9 (0,0))):=aA (by rw[a];exact aE (aE (aK _ _ _ qs) (aB _ _)) (aB _ _));have R:Hid (W0.heap[w.heap.size+1+1]? =some (.cells fW 34 (0,0))):=aA (by rw[a];exact aE (aK _ _ _ qs) (aB _ _));have V:Hid (W0.heap[w.heap.size+1+1+1]? =some (.cells #[.int .i64 1,.int .i64 0,.string ⟨#[]⟩] 34 (0,0))):=aA (by rw[a];exact aK _ _ _ qs);have l:=aA a;have f:=aA (YR _ c.log N (w.heap.size+1) W0 (aH.on cD h.2.2.2.2 d.o) ⟨aQ B.o 0 _ rfl,aD B.o⟩);generalize c.log.any (fun h=>decide (h.aEg=N))=t at *;unfold aP at *;clear h a;go_enter func128,ntmps128;go_wp2_with fail;rw[<-l.o];refine f.o.mono ?_;rintro e w1 ⟨rfl,b⟩;have HB1:=qB d b;replace A:=qK A b;obtain⟨⟨m,n,o,p,q⟩,_⟩:=dN A.o;have C:=aD A.o;replace R:=qK R b;obtain⟨⟨r,s,v⟩,_⟩:=cG R.o;have D:=aD R.o;replace V:=qK V b;obtain⟨⟨x,y,z⟩,_⟩:=cG V.o;have E:=aD V.o;have f0:=aR R.o 0;have f1:=aR R.o 1;have f2:=aR R.o 2;have g1:=aR V.o 1;clear b f
 cases t
 .go_wp2;refine bR (.agg #[.int .i64 1,.int .i64 0,.string ⟨#[]⟩]) ?_;exact QBU
 .go_wp2;refine bR (.agg #[.int .i64 1,.int .i64 1,.string ⟨#[]⟩]) ?_;exact⟨rfl,(((HB1.o.setCell (show w.heap.size<=w.heap.size+1+1+1 by omega) _).setCell (show w.heap.size<=w.heap.size+1+1 by omega) _).setCell (show w.heap.size<=w.heap.size+1+1 by omega) _).setCell (show w.heap.size<=w.heap.size+1+1 by omega) _⟩
theorem Fh{ok:nP}(v:Value)(l:List V3)(x:V3)(w:World)(h:aH VR w ok v l):Calls prog 295 #[v,.agg #[.int .i64 x.1,.int .i64 x.2.1,.string x.2.2]] w (aP (.int .i64 (eX (fun y=>decide (x=y)) l)) w):=by
 obtain⟨a,c,rfl,F⟩:=h.slice;have HB0:=aA (aB w (.cells #[.int .i64 x.1,.int .i64 x.2.1,.string x.2.2] 34));have j:=aA (aK w (.cells #[.int .i64 x.1,.int .i64 x.2.1,.string x.2.2] 34) _ rfl);have n:=aA (h.on bG HB0.o);obtain⟨w1,f⟩:=xE (w.alloc (.cells #[.int .i64 x.1,.int .i64 x.2.1,.string x.2.2] 34));rw[<-f] at n HB0 j;have z:=aA f;clear h f;obtain⟨d,e⟩:∃d:V3->Bool,d=(fun y=>decide (x=y)):=⟨_,rfl⟩;have t:=aA e;rw[<-e];clear e;unfold aP;go_enter func295,ntmps295;go_wp2;rw[<-z.o];go_loopw [5,8] (fun _ i wr=>∃k:Nat,k<=l.length/\i=.int .i64 k/\Hid (∀i (hi:i<l.length),i<k->d l[i]=false)/\Hid (Below w1.heap.size w1 wr)) (fun _ i _=>l.length - (intOf i).toNat)
 case atStart=>exact BS
 case round=>
  obtain⟨k,E,rfl,HR,HB⟩:=hrel;by_cases q:k<l.length
  .have hk1:(k:Int)<(l.length:Int):=qo;obtain⟨b,off,r,rfl,_,D,⟨rfl,A⟩,o⟩:=aH.at bG (n.o.on bG HB.o) q qe;obtain⟨C,G,H⟩:=cR3 o;rw[Nat.add_zero] at C;have m:=qK j HB.o;obtain⟨⟨I,J,K⟩,_⟩:=cG m.o;have L:=aD m.o;have p:=FM x l[k];have HL:Hid (∀g,d l[k]=g->((if g=true then eX d l=(k:Int) else ∀i (hi:i<l.length),i<k+1->d l[i]=false):Prop)):=aA (fun g hg=>by
    cases g
    .exact Yr
    .rw[iP rfl];exact JI q HR.o hg)
   have s:d l[k]=decide (x=l[k]):=by rw[t.o]
   rw[<-s] at p;clear HR o A s;generalize B:l[k]=y at *;generalize d y=g at *;clear B;go_wp2;go_quiet (fail)
   have HB':=aA (gA HB.o ⟨nq,rfl⟩);clear p
   cases g
   .exact Ys
   .exact QCf
  .exact QBN
theorem SJ{ok:nP}(v:Value)(l:List V3)(x:V3)(w:World)(h:aH VR w ok v l):Calls prog 287 #[v,.agg #[.int .i64 x.1,.int .i64 x.2.1,.string x.2.2]] w (aP (.bool (l.any (fun y=>decide (x=y)))) w):=by
 have HB0:=aA (aB w (.cells #[.int .i64 x.1,.int .i64 x.2.1,.string x.2.2] 34));have HI:=aA (Fh v l x _ (h.on bG HB0.o));have HA:=aA (tF (fun y=>decide (x=y)) l);obtain⟨a,c,rfl,b⟩:=h.slice;unfold aP at *;generalize eX (fun y=>decide (x=y)) l=n at *;clear h;go_enter func287,ntmps287;exact QCh
theorem Xc{ok:nP}(v:Value)(l:List V3)(x:V3)(w:World)(h:aH VR w ok v l):Calls prog 284 #[v,dE x] w (aP (.bool (l.any (fun y=>decide (y=x)))) w):=by
 have HB0:=aA (aB w (.cells #[.int .i64 x.1,.int .i64 x.2.1,.string x.2.2] 34));have HI:=aA (SJ v l x _ (h.on bG HB0.o));have e:l.any (fun y=>decide (y=x))=l.any (fun y=>decide (x=y)):=by congr 1;funext y;rw[Bool.eq_iff_iff];simp[eq_comm]
 rw[e];obtain⟨a,c,rfl,b⟩:=h.slice;unfold aP dE at *;generalize l.any (fun y=>decide (x=y))=n at *;clear h e;go_enter func284,ntmps284;go_wp2_with fail;exact Tq
theorem tJ(f:oD)(i g:Nat)(l:List V3)(v:V3)(e m:Int)(w:World):Calls prog 245 #[.agg #[.slice f i g,.int .i64 v.1,.int .i64 v.2.1,.string v.2.2,.int .i64 e],.int .i64 m] w (aP (.bool (It.is ⟨l,v,e⟩ m)) w):=by
 obtain⟨t,a⟩:∃t:Bool,decide (v=(1,m,ByteArray.empty))=t:=⟨_,rfl⟩;have j:∀w,Sem.run prog (binOp .eql 34 (.agg #[.int .i64 v.1,.int .i64 v.2.1,.string v.2.2]) (.agg #[.int .i64 1,.int .i64 m,.string ⟨#[]⟩])) w=.ok (.bool t) w:=by rw[<-a];exact FM v (1,m,ByteArray.empty)
 have c:Hid (It.is ⟨l,v,e⟩ m=(decide (e=0)&&t)):=aA (by unfold It.is;rw[<-a]);have b:=aA (fun o:Obj=>aB w o);unfold aP;rw[c.o];clear a c;by_cases he:e=0
 .have d:(e==0)=true:=bQ.2 he;rw[dX he,Bool.true_and];clear he;go_enter func245,ntmps245;go_wp2;go_returns;exact⟨rfl,b.o _⟩
 .have d:(e==0)=false:=bN.2 he;rw[dF he,Bool.false_and];clear he;go_enter func245,ntmps245;go_wp2;go_returns;exact⟨rfl,b.o _⟩
theorem IG(b:Bool)(n:Int)(a:(if b=true then (1:Int) else 0)=n)(w:World):Calls prog 283 #[.bool b] w (aP (.agg #[.slice none 0 0,.int .i64 1,.int .i64 n,.string ByteArray.empty,.int .i64 0]) w):=by
 have c:=aA (fun d e:Obj=>aC (aB w d) (aB _ e));unfold aP
 cases b
 .obtain rfl:n=0:=by rw[<-a];rfl
  clear a;go_enter func283,ntmps283;go_wp2;refine bR (.agg #[.slice none 0 0,.int .i64 1,.int .i64 0,.string ⟨#[]⟩,.int .i64 0]) ?_;exact⟨rfl,c.o _ _⟩
 .obtain rfl:n=1:=by rw[<-a];rfl
  clear a;go_enter func283,ntmps283;go_wp2;refine bR (.agg #[.slice none 0 0,.int .i64 1,.int .i64 1,.string ⟨#[]⟩,.int .i64 0]) ?_;exact⟨rfl,c.o _ _⟩
theorem Kz(op:Int)(w:World):Calls prog 269 #[.int .i64 op] w (fun e w'=>e=.returned (.int .i64 (jO op))/\w=w'):=by
 obtain⟨n,a⟩:∃n:Nat,jO op=n:=⟨_,rfl⟩;rw[a];have b:=aA a;clear a;go_enter func269,ntmps269;go_wp2
 all_goals go_returns
 all_goals
  refine⟨?_,rfl⟩;rw[<-b.o];clear b;unfold jO
  simp_all
def vL(op:Int):List V3->V3×Int
 | [a]=>nY op a
 | [a,b]=>dJ op a b
 |_=>(bD,1)
theorem Lb{ok:nP}(op:Int)(v:Value)(l:List V3)(w:World)(h:aH VR w ok v l)(g:(op=11/\l.length=1)\/(6<=op/\op<=13/\op≠11/\l.length=2)):Calls prog 285 #[.int .i64 op,v] w (eE (vL op l) w):=by
 rcases g with ⟨rfl,f⟩|⟨h6,h13,h11,f⟩
 .obtain⟨a,rfl⟩:=List.length_eq_one_iff.1 f;by_cases c:aT a=true
  .exact Ee v a w h c
  .have d:aT a=false:=by simpa using c
   have e:vL 11 [a]=(bD,1):=by show nY 11 a=_;unfold nY;rw[iP d]
   rw[e];exact GV 11 v [a] w h qe qe rfl (by simp[d])
 .obtain⟨a,b,rfl⟩:∃a b,l=[a,b]:=by
   match l,f with
   | [a,b],_=>exact⟨a,b,rfl⟩
  by_cases c:aT a=true/\aT b=true
  .show Calls _ _ _ _ (eE (dJ op a b) w);have:op=6\/op=7\/op=8\/op=9\/op=10\/op=12\/op=13:=qo
   rcases this with rfl|rfl|rfl|rfl|rfl|rfl|rfl
   .exact Jn v a b w h c
   .exact Jo v a b w h c
   .exact Jp v a b w h c
   .exact Jq v a b w h c
   .exact Eb v a b w h c
   .exact Ec v a b w h c
   .exact Ed v a b w h c
  .have d:aT a=false\/aT b=false:=by
    by_cases h1:aT a=true
    .exact .inr (by simpa using fun h2=>c ⟨h1,h2⟩)
    .exact .inl (by simpa using h1)
   have e:vL op [a,b]=(bD,1):=by show dJ op a b=_;unfold dJ;rw[iP d]
   rw[e];refine GV op v [a,b] w h h6 h13 (by unfold SV;rw[iN h11];rfl) ?_
   rcases d with d|d<;>simp[d]
theorem oP:bJ 0:=by unfold bJ;decide
theorem LQ:bJ 1:=by unfold bJ;decide
theorem LR:bJ 2:=by unfold bJ;decide
theorem aA1:bJ 3:=by unfold bJ;decide
theorem kH:cR bD:=⟨oP,oP,qe⟩
theorem nX(b:Bool):cR (cJ b):=by
 cases b
 .exact⟨LQ,oP,qe⟩
 .exact⟨LQ,LQ,qe⟩
theorem Qz(a b:V3):bJ (jZ a b).2:=by
 unfold jZ;split
 .exact LQ
 split
 .exact LR
 split<;>exact oP
theorem yF{f:Int->Int->Int×Int}(c:∀a b,bJ (f a b).1/\bJ (f a b).2)(a b:V3):cR (eJ f a b).1/\bJ (eJ f a b).2:=by
 unfold eJ;split
 .exact⟨kH,LR⟩
 split
 .exact⟨kH,(c _ _).2⟩
 .exact⟨⟨LR,(c _ _).1,show ByteArray.empty.size<=cQ by decide⟩,oP⟩
theorem OJ(x:Int):bJ (if kI<=x/\x<=lO then (x,(0:Int)) else (0,3)).1/\bJ (if kI<=x/\x<=lO then (x,(0:Int)) else (0,3)).2:=by
 split
 .rename_i h;exact⟨h,oP⟩
 .exact⟨oP,aA1⟩
theorem Ld(op:Int)(l:List V3):cR (vL op l).1/\bJ (vL op l).2:=by
 have one:=LQ;have two:=LR;have zero:=oP;unfold vL;split
 .unfold nY;split
  .exact⟨kH,one⟩
  split
  .exact⟨kH,two⟩
  .exact⟨nX _,zero⟩
 .unfold dJ;split
  .exact⟨kH,one⟩
  split
  .split
   .exact⟨kH,two⟩
   .exact⟨nX _,zero⟩
  split
  .split
   .exact⟨kH,Qz _ _⟩
   .exact⟨nX _,zero⟩
  split
  .exact yF (fun a b=>OJ (a+b)) _ _
  split
  .exact yF (fun a b=>OJ (a - b)) _ _
  split
  .exact yF (fun a b=>OJ (a * b)) _ _
  split
  .exact⟨kH,two⟩
  split<;>exact⟨nX _,zero⟩
 .exact⟨kH,one⟩
def CC(w:World)(ok:nP)(x:It)(vb:Value):Prop:=aH VR w ok vb x.bag/\cR x.val/\bJ x.err
def sR:Rep It:=fun w ok cs x=>∃vb,cs=[vb,.int .i64 x.val.1,.int .i64 x.val.2.1,.string x.val.2.2,.int .i64 x.err]/\CC w ok x vb
theorem iM:Firm sR 5:={
 aDQ:=fun⟨vb,e,h1,h2,h3⟩ b=>⟨vb,e,aH.aDQ bG h1 b,h2,h3⟩
 more:=fun⟨vb,e,h1,h2,h3⟩ c=>⟨vb,e,aH.more bG h1 c,h2,h3⟩
 len:=fun⟨vb,e,h⟩=>by rw[e];rfl
 one:=fun⟨vb,e,h⟩=>by
  intro v a;rw[e] at a;simp only[List.mem_cons,List.not_mem_nil,or_false] at a
  rcases a with rfl|rfl|rfl|rfl|rfl
  .exact lA h.1
  .rfl
  .rfl
  .rfl
  .rfl
 inb:=fun⟨vb,e,h1,h2,h3⟩=>⟨vb,e,aH.inb bG h1,h2,h3⟩}
end Go.Proofs.YtheabjeppmdmiaaGreatDoor
