/- Lemmas. -/
import Derived.Test.YtbinmcabjnoliaaGreatDoorMat
namespace Go.Proofs.YtbinmcabjnoliaaGreatDoor
open Go.RowKit
set_option linter.unusedVariables false
set_option linter.unusedSimpArgs false
set_option maxHeartbeats 16000000
open _root_.Go.Proofs.Tryz
set_option maxRecDepth 20000
theorem QCy{p:Prop}(h:p:=by
 go_wp2;go_roundw
 case rel=>exact⟨k+1,qo,by go_num,aA (by rw[HFX.o,HDU.o];exact HBV.o)⟩
 case measure=>simp[intOf];omega):p:=h
theorem QBE{p:Prop}(h:p:=by
 rintro e w2 ⟨rfl,hb2⟩;have HB2:=aA hb2;clear b0 b1 b2 b3 b4 b5 b6 b7 b8 b9 b10 b11 y0 y1 y2 hb2 bz yz;go_wp2;go_roundw
 case rel=>exact⟨k+1,qo,by go_num,aA (by rw[HFX.o,HDU.o];exact HBV.o.trans HB2.o)⟩
 case measure=>simp[intOf];omega):p:=h
def Ym(K:nP)(base B:Nat)(w w':World)(s:Sto):Prop:=∃K':nP,(∀b,K b->K' b)/\(∀b,K' b->K b\/base<=b)/\iB K' base B w w' s
theorem YG{K aj:nP}{base B:Nat}(o:Op)(ho:kF o)(s:Sto)(va:Value)(l:List Ob)(done:Bool)(w:World)(g:¬K B)(M:B<base)(hl:aH jU w aj va l)(av:∀b,aj b->b<base/\b≠B)(n:Nat)(hn:kE n s)(ai:n+l.length<=980000)(h:iB K base B w w s):
 Calls prog 60 #[.pointer (some ⟨B,0,none⟩),fF o,va,.bool done] w (fun e w'=>e=.returned (.tuple #[])/\Ym K base B w w' (l.foldl (cZ o done) s)):=by
 obtain⟨a,c,rfl,br⟩:=hl.slice;obtain⟨O2,ag⟩:∃O:Obj,O=.cells (cB o) 71:=⟨_,rfl⟩;obtain⟨W0,A⟩:=xE (w.alloc O2);have N:Below w.heap.size w W0:=by rw[A];exact aB _ _
 have bq:=h.size;have bm:W0.heap.size=w.heap.size+1:=by rw[A];simp
 have aw:W0.heap[w.heap.size]? =some O2:=by rw[A];exact aK _ _ _ rfl
 obtain⟨K',af⟩:∃K':nP,K'=fun b=>K b\/(w.heap.size<=b/\b<W0.heap.size):=⟨_,rfl⟩
 have ay:Hid (iB K' base B W0 W0 s):=aA (af▸h.aDH N);have j:Hid ((∀b,K b->K' b)/\(∀b,K' b->K b\/base<=b)/\¬K' B/\K' w.heap.size):=aA (by
  subst af;exact⟨fun b f=> .inl f,fun b f=>f.imp id (fun h=>by omega),fun f=>f.elim g (fun h=>by omega),.inr ⟨lR _,qo⟩⟩)
 have a6:=aA (fun k (q:k<l.length)=>Ig (cZ o done) l s q);have a8:Hid (∀k,k<=l.length->kE (n+k) ((l.take k).foldl (cZ o done) s)):=aA (fun k q=>by
  have:=xW o done (l.take k) n s hn;rwa [List.length_take,Nat.min_eq_left q] at this)
 have H:=aA ai;have bf:=aA (show ∀wr,aN (fun b=>(b<base/\b≠B)\/K' b) W0 wr->aH jU wr aj (.slice a l.length c) l from fun wr hs=>(hl.on aP N).aC0 aP (hs.mono fun b _ f=> .inl (av b f)));have bc:=aA (show ∀wr,aN (fun b=>(b<base/\b≠B)\/K' b) W0 wr->wr.heap[w.heap.size]? =some (.cells (cB o) 71 (0,0)) from fun wr hs=>ag▸aF aw hs (.inr j.o.2.2.2));have az:Hid (∀wr,iB K' base B W0 wr (l.foldl (cZ o done) s)->Ym K base B w wr (l.foldl (cZ o done) s)):=aA (fun wr f=>by
  obtain⟨L,ro,vc,vr,vn,vo,vt,vu,vk,vb,h1,h2,h3⟩:=f;exact⟨K',j.o.1,j.o.2.1,L,ro,vc,vr,vn,vo,vt,vu,vk,vb,h1,h2,(aJ N).trans h3⟩)
 have aa:=aA ho;rw[ag] at A;unfold fF cB at *;have bj:=aA A;clear A N aw h hl av hn af g ho ag bm ai;go_enter func60,ntmps60;go_upto_region 1 with (fail)
 rw[<-bj.o];go_wp2;go_loopw [9,12] (fun _ i wr=>∃(k:Nat),k<=l.length/\i=.int .i64 k/\Hid (iB K' base B W0 wr ((l.take k).foldl (cZ o done) s))) (fun _ i _=>l.length - (intOf i).toNat)
 case atStart=>exact⟨0,Nat.zero_le _,rfl,aA ay.o⟩
 case round=>
  obtain⟨k,q,rfl,y⟩:=hrel;by_cases S:k<l.length
  .have bl:(k:Int)<(l.length:Int):=qo;obtain⟨b,off,r,rfl,_,bp,⟨rfl,ar⟩,p⟩:=aH.at aP (bf.o wr y.o.stays) S qe;obtain⟨x0,x1,x2⟩:=cR3 p;rw[Nat.add_zero] at x0;have HFX:Hid ((l.take (k+1)).foldl (cZ o done) s=cZ o done ((l.take k).foldl (cZ o done) s) l[k]):=aA (a6.o k S);obtain⟨Z,G,bo,bd⟩:=dG ar (a8.o k (Nat.le_of_lt S)) S (bc.o wr y.o.stays);clear p ar;generalize l[k]=x at *;generalize (l.take k).foldl (cZ o done) s=t at *;obtain⟨d,T⟩:=xE (wr.alloc (.cells #[.int .i64 x.on,.int .i64 x.aCR,.string x.arg] 194));have Q:Below wr.heap.size wr d:=by rw[T];exact aB _ _
   have X:Hid (d.heap[wr.heap.size]? =some (.cells #[.int .i64 x.on,.int .i64 x.aCR,.string x.arg] 194 (0,0))):=aA (by rw[T];exact aK _ _ _ rfl);obtain⟨D,HBV,bh,Y⟩:=dG (aE bd.o Q) (y.o.more Q) T Q;clear T Q;go_upto_region 4 with (fail)
   rw[<-bh.o];obtain⟨⟨b0,b1,b2,b3,b4,b5,b6,b7,b8,b9,b10,b11⟩,_⟩:=bO D.o;have bz:=aD D.o;obtain⟨⟨y0,y1,y2⟩,_⟩:=cE X.o;have yz:=aD X.o;have ab:=aA (fun (p:x.arg.size<=cQ)=>Ol o aa.o t x.arg p d j.o.2.2.1 M (qD G.o.aCQ H.o) (fun c p=>qD (G.o.aDi c p) H.o) HBV.o.here);have ad:=aA (fun (p:x.arg.size<=cQ)=>TX o aa.o t x.arg p d j.o.2.2.1 M (qD G.o.aCU H.o) HBV.o.here);unfold fF cB at ab ad;clear x0 x1 x2;by_cases h1:x.aCR=1
   .have e1:(x.aCR==(1:Int))=true:=bQ.2 h1;have e3:(x.aCR==(3:Int))=false:=bN.2 qo;have e4:(x.aCR==(4:Int))=false:=bN.2 qo;have H1:=aA h1;clear h1
    cases aq:done
    .subst aq;have HDU:Hid (cZ o false t x=t):=aA (by unfold cZ;rw[iN (fun h=>by cases h.2),iN (qA H1.o),iN (qA H1.o)]);exact QCy
    .subst aq;have HDU:Hid (cZ o true t x=lV t o x.arg):=aA (by unfold cZ;rw[iP ⟨H1.o,rfl⟩]);go_wp2_with fail;refine(ab.o Z.o.2.2).mono ?_;exact QBE
   .have e1:(x.aCR==(1:Int))=false:=bN.2 h1;have H1:=aA h1;clear h1;by_cases h3:x.aCR=3
    .have e3:(x.aCR==(3:Int))=true:=bQ.2 h3;have E:=aA h3;clear h3;have HDU:Hid (cZ o done t x=gB t o x.arg):=aA (by unfold cZ;rw[iN (fun h=>H1.o h.1),iP E.o]);go_wp2_with fail;refine(ad.o Z.o.2.2).mono ?_;exact QBE
    .have e3:(x.aCR==(3:Int))=false:=bN.2 h3;have E:=aA h3;clear h3;by_cases h4:x.aCR=4
     .have e4:(x.aCR==(4:Int))=true:=bQ.2 h4;have H4:=aA h4;clear h4;have HDU:Hid (cZ o done t x={t with aCY:=t.aCY++[⟨t.aCZ,o.aCX,x.arg⟩]}):=aA (by unfold cZ;rw[iN (fun h=>H1.o h.1),iN E.o,iP H4.o]);go_upto_region 9 with (fail)
      obtain⟨L,ro,vc,vr,vn,vo,vt,vu,vk,vb,ah,z,ax⟩:=y.o;obtain⟨U,V,rfl⟩:=z.aCY.slice;obtain⟨J,P⟩:∃O:Obj,O=.cells (aV t vc vr (.slice U t.aCY.length V) vo vt vu vk vb) 40:=⟨_,rfl⟩;rw[<-P] at ah;have F:Hid (∀(w':World),(w'.heap[B]? =some J/\w'.heap[w.heap.size]? =d.heap[w.heap.size]? /\w'.heap[wr.heap.size]? =d.heap[wr.heap.size]?)->w'.cell? ⟨B,0,none⟩=some (.int .i64 t.aCZ)/\w'.cell? ⟨B,3,none⟩=some (.slice U t.aCY.length V)/\w'.frozen? ⟨B,3,none⟩=false/\B<w'.heap.size/\w'.cell? ⟨w.heap.size,2,none⟩=some (.string o.aCX)/\w.heap.size<w'.heap.size/\w'.cell? ⟨wr.heap.size,2,none⟩=some (.string x.arg)/\wr.heap.size<w'.heap.size):=aA (fun w' q=>by
       have h1:=q.1;have h2:=q.2.1.trans D.o;have h3:=q.2.2.trans X.o;rw[P] at h1;exact⟨aQ h1 0 _ rfl,aQ h1 3 _ rfl,aR h1 3,aD h1,aQ h2 2 _ rfl,aD h2,aQ h3 2 _ rfl,aD h3⟩)
      have ba:=aA P;have ae:=aA (z.on Y.o);have I:Hid (d.heap[B]? =some J/\d.heap[w.heap.size]? =d.heap[w.heap.size]? /\d.heap[wr.heap.size]? =d.heap[wr.heap.size]?):=aA ⟨aE ah Y.o,rfl,rfl⟩;have al:Hid (some w.heap.size≠(Value.slice U t.aCY.length V).ownBlock/\some wr.heap.size≠(Value.slice U t.aCY.length V).ownBlock):=aA ⟨(z.kept _ j.o.2.2.2).2.2.2.1,fun e=>qA ((z.aCY.lt _ e.symm).2)⟩;have bg:=aA ax;have ai:t.aCY.length<=990000:=qD G.o.aCY H.o;have bk:EO ⟨t.aCZ,o.aCX,x.arg⟩:=⟨z.aCZ,aa.o.2.2.1,Z.o.2.2⟩;clear z P ah ax b0 b1 b2 b3 b4 b5 b6 b7 b8 b9 b10 b11 bz y0 y1 y2 yz ad ab;obtain⟨c0,c3,f3,v,b2,bz,y2,yz⟩:=F.o _ I.o;refine cA 18 [(0,false),(1,false),(2,false),(3,false),(4,false),(5,false),(6,false),(7,false),(8,false),(9,false),(10,false),(11,false),(12,false),(13,false),(14,true),(15,true),(16,false),(17,false)] [(18,true)] (fun w'=>w'.heap[B]? =some J/\w'.heap[w.heap.size]? =d.heap[w.heap.size]? /\w'.heap[wr.heap.size]? =d.heap[wr.heap.size]?) (by kernel_rfl) (by kernel_rfl) I.o ?_;simp only[List.cons_append,List.nil_append]
      repeat (refine cU rfl (fun K g=> ?_);unfold rd;go_simp;refine g _ (fun bn h1=> ?_) ?_;(· clear g K c0 c3 f3 v b2 bz y2 yz;obtain⟨c0,c3,f3,v,b2,bz,y2,yz⟩:=F.o _ h1;unfold rd;go_simp);clear g K)
      refine bG rfl (fun C m=> ?_);unfold mv;go_simp;refine m _ _ (fun _=>⟨aE I.o.1 (aB _ _).drew,(aB _ _).drew.block _ bz,(aB _ _).drew.block _ yz⟩) ?_;clear m C;refine bG rfl (fun C m=> ?_);unfold mv;refine iX (base:=base) Ry dZ rfl (.tmp 45) (.tmp 55) rfl _ t.aCY rfl (ae.o.aCY.on dZ (aB _ _).drew) d.heap.size 1 _ _ _ ⟨t.aCZ,o.aCX,x.arg⟩ rfl (aK _ _ _ rfl) ⟨rfl,bk⟩ qo qe (lT ae.o.size (aB _ _).drew.size) ?_;intro l' au A' c' W hG R ao;obtain⟨ak,bb,be⟩:=UD (w:=d) (ae.o.on (aB _ _).drew) (aE I.o.1 (aB _ _).drew) M (aB _ _).drew R hG ao;have an:Hid (W.heap[B]? =some J/\W.heap[w.heap.size]? =d.heap[w.heap.size]? /\W.heap[wr.heap.size]? =d.heap[wr.heap.size]?):=aA ⟨ak.o,(gJ D.o (aB _ _).drew R al.o.1).trans D.o.symm,(gJ X.o (aB _ _).drew R al.o.2).trans X.o.symm⟩;have a7:=aA au.o;refine m _ _ (fun _=>an.o) ?_;clear m C hG R ao au c0 c3 f3 v b2 bz y2 yz;obtain⟨c0,c3,f3,v,b2,bz,y2,yz⟩:=F.o _ an.o
      repeat (refine cU rfl (fun K g=> ?_);unfold rd;go_simp;refine g _ (fun bn h1=> ?_) ?_;(· clear g K c0 c3 f3 v b2 bz y2 yz;obtain⟨c0,c3,f3,v,b2,bz,y2,yz⟩:=F.o _ h1;unfold rd;go_simp);clear g K)
      refine bG rfl (fun C m=> ?_);unfold mv;go_simp;refine m _ _ (fun h=>absurd h qe) ?_;clear m C c0 c3 f3 v b2 bz y2 yz;unfold cG;have a1:Hid (iB K' base B W0 (W.setCell ⟨B,3,none⟩ (.slice A' l'.length c')) (cZ o done t x)):=aA (by
       rw[HDU.o,<-a7.o];exact⟨L,ro,vc,vr,_,vo,vt,vu,vk,vb,aG (ba.o▸ak.o) 3 _,bC.off bb.o j.o.2.2.1 M,((bg.o.trans (aJ Y.o)).trans be.o).trans ((aI _).mono (fun b _ f=>f.elim (fun h=>h.2) (fun h e=>j.o.2.2.1 (e▸h))))⟩)
      go_wp2;go_roundw
      case rel=>exact⟨k+1,qo,by go_num,aA (by rw[HFX.o];exact a1.o)⟩
      case measure=>simp[intOf];omega
     .have e4:(x.aCR==(4:Int))=false:=bN.2 h4;have HDU:Hid (cZ o done t x=t):=aA (by unfold cZ;rw[iN (fun h=>H1.o h.1),iN E.o,iN h4]);clear h4;exact QCy
  .have bl:¬(k:Int)<(l.length:Int):=qo;obtain rfl:k=l.length:=qo;have HE:Hid (iB K' base B W0 wr (l.foldl (cZ o done) s)):=aA (by have:=y.o;rwa [List.take_of_length_le (lR _)] at this);clear y;go_wp2;go_returns;exact⟨rfl,az.o wr HE.o⟩
def eK(lo:Nat)(w:World)(L:List (Nat×V3)):Prop:=lo<=w.heap.size/\∀x∈L,lo<=x.1/\w.heap[x.1]? =some (.cells (IJ x.2).toArray 55 (0,0))
theorem eK.nil{lo:Nat}{w:World}(h:lo<=w.heap.size):eK lo w []:=⟨h,fun x a=>by cases a⟩
theorem eK.on{lo:Nat}{w w':World}{L:List (Nat×V3)}(h:eK lo w L)(a:Below w.heap.size w w'):eK lo w' L:=⟨lT h.1 a.size,fun x b=>⟨(h.2 x b).1,aE (h.2 x b).2 a⟩⟩
theorem eK.push{lo:Nat}{w w':World}{L:List (Nat×V3)}{a b:Int}{c:bY}(h:eK lo w L)(e:Below (w.alloc (.cells #[.int .i64 a,.int .i64 b,.string c] 55)).heap.size (w.alloc (.cells #[.int .i64 a,.int .i64 b,.string c] 55)) w'):eK lo w' (L++[(w.heap.size,(a,b,c))]):=by
 have h2:=eK.on (h.on (aB w (.cells #[.int .i64 a,.int .i64 b,.string c] 55))) e;refine⟨h2.1,fun x d=> ?_⟩
 rcases List.mem_append.1 d with d|d
 .exact h2.2 x d
 .rw[List.mem_singleton] at d;subst d;exact⟨h.1,aE (aK w _ _ rfl) e⟩
theorem eK.aDS{lo:Nat}{w w':World}{L:List (Nat×V3)}{a b:Int}{c:bY}{a2 b2:Int}{c2:bY}(h:eK lo w L)(d:Below ((w.alloc (.cells #[.int .i64 a,.int .i64 b,.string c] 55)).alloc (.cells #[.int .i64 a2,.int .i64 b2,.string c2] 55)).heap.size ((w.alloc (.cells #[.int .i64 a,.int .i64 b,.string c] 55)).alloc (.cells #[.int .i64 a2,.int .i64 b2,.string c2] 55)) w'):eK lo w' ((L++[(w.heap.size,(a,b,c))])++[(w.heap.size+1,(a2,b2,c2))]):=by
 have h1:=eK.push (a:=a) (b:=b) (c:=c) h (Below.refl _ _);have h2:=eK.push h1 d;rw[World.size_alloc] at h2;exact h2
theorem Vm{w:World}{ok:nP}{b:Nat}{v:V3}(a:w.heap[b]? =some (.cells (IJ v).toArray 55 (0,0)))(d:ok b)(c:cS v):aH VR w ok (.slice (some ⟨b,0,none⟩) 1 1) [v]:=by
 refine⟨some ⟨b,0,none⟩,1,IJ v,rfl,fun _=>⟨b,0,rfl,d,fun i x e=> ?_⟩,aX.one ⟨rfl,c⟩,qs⟩;have h:=aQ a i x (by simpa using e);rw[Nat.zero_add];exact h
theorem aM.many{α:Type}{R:Rep α}{s:Nat}{e:TypeId}{w:World}{base:Nat}{ok:nP}{b n:Nat}{cs:Array Value}{l:List α}(F:Firm R s)(j:0<s)(g:l.length=n)(i:0<n)(d:w.heap[b]? =some (.cells cs e (0,0)))(f:base<=b)(c:aX (R w (fun x=>ok x/\x<w.heap.size/\x≠b)) cs.toList l)(k:n<=1000):aM R s e w base ok (.slice (some ⟨b,0,none⟩) n n) l:=by
 subst g;have hlen:=c.len (fun _ _ a=>F.len a);rw[Array.length_toList] at hlen;refine⟨cs.toList,⟨by rw[Array.length_toList,hlen],.inr ⟨b,l.length,cs,rfl,f,d,lR _,by unfold maxLen;omega,hlen,?_⟩⟩,c.mono fun r x a=>F.more a fun x h=>⟨h.1,h.2.1,fun e=>h.2.2 (by injection e)⟩⟩;exact List.take_of_length_le (by rw[Array.length_toList];omega)
theorem vO(s:bY)(w:World):Calls prog 98 #[.string s] w (aO (.agg #[.int .i64 5,.int .i64 0,.string s]) w):=by
 unfold aO;go_enter func98,ntmps98;go_wp2;refine bR (.agg #[.int .i64 5,.int .i64 0,.string s]) ?_;exact⟨rfl,aB _ _⟩
theorem nD(cat:Int)(n:bY)(a:oD)(l c:Nat)(w:World):Calls prog 99 #[.int .i64 cat,.string n,.slice a l c] w (aO (.agg #[.int .i64 cat,.string n,.slice a l c]) w):=by
 unfold aO;go_enter func99,ntmps99;go_wp2;refine bR (.agg #[.int .i64 cat,.string n,.slice a l c]) ?_;exact⟨rfl,aB _ _⟩
theorem Jr{ok:nP}(c:cF)(j k:Value)(N:bY)(w:World)(h:oT w ok c j k):Calls prog 151 #[.agg #[.string c.id,.string c.aDj,.string c.aDa,j,k],.string N] w (aO (dD (cI (c.log.any (fun h=>decide (h.aDo=N))))) w):=by
 obtain⟨g,i,rfl,_⟩:=h.2.2.2.1.slice;obtain⟨la,lc,rfl,_⟩:=h.2.2.2.2.slice;obtain⟨W0,a⟩:=xE ((((w.alloc (.cells (oW c g i la lc) 46)).alloc (.cells #[.string N] 9)).alloc (.cells fV 55)).alloc (.cells #[.int .i64 1,.int .i64 0,.string ⟨#[]⟩] 55));have d:Hid (Below w.heap.size w W0):=aA (by rw[a];exact aC (aC (aC (aB _ _) (aB _ _)) (aB _ _)) (aB _ _));have A:Hid (W0.heap[w.heap.size]? =some (.cells (oW c g i la lc) 46 (0,0))):=aA (by rw[a];exact aE (aE (aE (aK _ _ _ rfl) (aB _ _)) (aB _ _)) (aB _ _));have B:Hid (W0.heap[w.heap.size+1]? =some (.cells #[.string N] 9 (0,0))):=aA (by rw[a];exact aE (aE (aK _ _ _ qs) (aB _ _)) (aB _ _));have R:Hid (W0.heap[w.heap.size+1+1]? =some (.cells fV 55 (0,0))):=aA (by rw[a];exact aE (aK _ _ _ qs) (aB _ _));have V:Hid (W0.heap[w.heap.size+1+1+1]? =some (.cells #[.int .i64 1,.int .i64 0,.string ⟨#[]⟩] 55 (0,0))):=aA (by rw[a];exact aK _ _ _ qs);have l:=aA a;have f:=aA (XS _ c.log N (w.heap.size+1) W0 (aH.on bS h.2.2.2.2 d.o) ⟨aQ B.o 0 _ rfl,aD B.o⟩);generalize c.log.any (fun h=>decide (h.aDo=N))=t at *;unfold aO at *;clear h a;go_enter func151,ntmps151;go_wp2_with fail;rw[<-l.o];refine f.o.mono ?_;rintro e w1 ⟨rfl,b⟩;have HB1:=qB d b;replace A:=qK A b;obtain⟨⟨m,n,o,p,q⟩,_⟩:=cP A.o;have C:=aD A.o;replace R:=qK R b;obtain⟨⟨r,s,v⟩,_⟩:=cE R.o;have D:=aD R.o;replace V:=qK V b;obtain⟨⟨x,y,z⟩,_⟩:=cE V.o;have E:=aD V.o;have f0:=aR R.o 0;have f1:=aR R.o 1;have f2:=aR R.o 2;have g1:=aR V.o 1;clear b f
 cases t
 .go_wp2;refine bR (.agg #[.int .i64 1,.int .i64 0,.string ⟨#[]⟩]) ?_;exact QBU
 .go_wp2;refine bR (.agg #[.int .i64 1,.int .i64 1,.string ⟨#[]⟩]) ?_;exact⟨rfl,(((HB1.o.setCell (show w.heap.size<=w.heap.size+1+1+1 by omega) _).setCell (show w.heap.size<=w.heap.size+1+1 by omega) _).setCell (show w.heap.size<=w.heap.size+1+1 by omega) _).setCell (show w.heap.size<=w.heap.size+1+1 by omega) _⟩
theorem Ee{ok:nP}(v:Value)(l:List V3)(x:V3)(w:World)(h:aH VR w ok v l):Calls prog 297 #[v,.agg #[.int .i64 x.1,.int .i64 x.2.1,.string x.2.2]] w (aO (.int .i64 (eU (fun y=>decide (x=y)) l)) w):=by
 obtain⟨a,c,rfl,F⟩:=h.slice;have HB0:=aA (aB w (.cells #[.int .i64 x.1,.int .i64 x.2.1,.string x.2.2] 55));have j:=aA (aK w (.cells #[.int .i64 x.1,.int .i64 x.2.1,.string x.2.2] 55) _ rfl);have n:=aA (h.on bH HB0.o);obtain⟨w1,f⟩:=xE (w.alloc (.cells #[.int .i64 x.1,.int .i64 x.2.1,.string x.2.2] 55));rw[<-f] at n HB0 j;have z:=aA f;clear h f;obtain⟨d,e⟩:∃d:V3->Bool,d=(fun y=>decide (x=y)):=⟨_,rfl⟩;have t:=aA e;rw[<-e];clear e;unfold aO;go_enter func297,ntmps297;go_wp2;rw[<-z.o];go_loopw [5,8] (fun _ i wr=>∃k:Nat,k<=l.length/\i=.int .i64 k/\Hid (∀i (hi:i<l.length),i<k->d l[i]=false)/\Hid (Below w1.heap.size w1 wr)) (fun _ i _=>l.length - (intOf i).toNat)
 case atStart=>exact BI
 case round=>
  obtain⟨k,E,rfl,HR,HB⟩:=hrel;by_cases q:k<l.length
  .have hk1:(k:Int)<(l.length:Int):=qo;obtain⟨b,off,r,rfl,_,D,⟨rfl,A⟩,o⟩:=aH.at bH (n.o.on bH HB.o) q qe;obtain⟨C,G,H⟩:=cR3 o;rw[Nat.add_zero] at C;have m:=qK j HB.o;obtain⟨⟨I,J,K⟩,_⟩:=cE m.o;have L:=aD m.o;have p:=EX x l[k];have HL:Hid (∀g,d l[k]=g->((if g=true then eU d l=(k:Int) else ∀i (hi:i<l.length),i<k+1->d l[i]=false):Prop)):=aA (fun g hg=>by
    cases g
    .exact Wy
    .rw[iP rfl];exact IU q HR.o hg)
   have s:d l[k]=decide (x=l[k]):=by rw[t.o]
   rw[<-s] at p;clear HR o A s;generalize B:l[k]=y at *;generalize d y=g at *;clear B;go_wp2;go_quiet (fail)
   have HB':=aA (fJ HB.o ⟨nq,rfl⟩);clear p
   cases g
   .exact Wz
   .exact QCe
  .exact QBM
theorem RG{ok:nP}(v:Value)(l:List V3)(x:V3)(w:World)(h:aH VR w ok v l):Calls prog 289 #[v,.agg #[.int .i64 x.1,.int .i64 x.2.1,.string x.2.2]] w (aO (.bool (l.any (fun y=>decide (x=y)))) w):=by
 have HB0:=aA (aB w (.cells #[.int .i64 x.1,.int .i64 x.2.1,.string x.2.2] 55));have HI:=aA (Ee v l x _ (h.on bH HB0.o));have HA:=aA (sY (fun y=>decide (x=y)) l);obtain⟨a,c,rfl,b⟩:=h.slice;unfold aO at *;generalize eU (fun y=>decide (x=y)) l=n at *;clear h;go_enter func289,ntmps289;exact QCg
theorem Vn{ok:nP}(v:Value)(l:List V3)(x:V3)(w:World)(h:aH VR w ok v l):Calls prog 286 #[v,dD x] w (aO (.bool (l.any (fun y=>decide (y=x)))) w):=by
 have HB0:=aA (aB w (.cells #[.int .i64 x.1,.int .i64 x.2.1,.string x.2.2] 55));have HI:=aA (RG v l x _ (h.on bH HB0.o));have e:l.any (fun y=>decide (y=x))=l.any (fun y=>decide (x=y)):=by congr 1;funext y;rw[Bool.eq_iff_iff];simp[eq_comm]
 rw[e];obtain⟨a,c,rfl,b⟩:=h.slice;unfold aO dD at *;generalize l.any (fun y=>decide (x=y))=n at *;clear h e;go_enter func286,ntmps286;go_wp2_with fail;exact Sb
theorem tC(f:oD)(i g:Nat)(l:List V3)(v:V3)(e m:Int)(w:World):Calls prog 252 #[.agg #[.slice f i g,.int .i64 v.1,.int .i64 v.2.1,.string v.2.2,.int .i64 e],.int .i64 m] w (aO (.bool (It.is ⟨l,v,e⟩ m)) w):=by
 obtain⟨t,a⟩:∃t:Bool,decide (v=(1,m,ByteArray.empty))=t:=⟨_,rfl⟩;have j:∀w,Sem.run prog (binOp .eql 55 (.agg #[.int .i64 v.1,.int .i64 v.2.1,.string v.2.2]) (.agg #[.int .i64 1,.int .i64 m,.string ⟨#[]⟩])) w=.ok (.bool t) w:=by rw[<-a];exact EX v (1,m,ByteArray.empty)
 have c:Hid (It.is ⟨l,v,e⟩ m=(decide (e=0)&&t)):=aA (by unfold It.is;rw[<-a]);have b:=aA (fun o:Obj=>aB w o);unfold aO;rw[c.o];clear a c;by_cases he:e=0
 .have d:(e==0)=true:=bQ.2 he;rw[dX he,Bool.true_and];clear he;go_enter func252,ntmps252;go_wp2;go_returns;exact⟨rfl,b.o _⟩
 .have d:(e==0)=false:=bN.2 he;rw[dF he,Bool.false_and];clear he;go_enter func252,ntmps252;go_wp2;go_returns;exact⟨rfl,b.o _⟩
theorem GQ(b:Bool)(n:Int)(a:(if b=true then (1:Int) else 0)=n)(w:World):Calls prog 285 #[.bool b] w (aO (.agg #[.slice none 0 0,.int .i64 1,.int .i64 n,.string ByteArray.empty,.int .i64 0]) w):=by
 have c:=aA (fun d e:Obj=>aC (aB w d) (aB _ e));unfold aO
 cases b
 .obtain rfl:n=0:=by rw[<-a];rfl
  clear a;go_enter func285,ntmps285;go_wp2;refine bR (.agg #[.slice none 0 0,.int .i64 1,.int .i64 0,.string ⟨#[]⟩,.int .i64 0]) ?_;exact⟨rfl,c.o _ _⟩
 .obtain rfl:n=1:=by rw[<-a];rfl
  clear a;go_enter func285,ntmps285;go_wp2;refine bR (.agg #[.slice none 0 0,.int .i64 1,.int .i64 1,.string ⟨#[]⟩,.int .i64 0]) ?_;exact⟨rfl,c.o _ _⟩
theorem Js(op:Int)(w:World):Calls prog 271 #[.int .i64 op] w (fun e w'=>e=.returned (.int .i64 (jI op))/\w=w'):=by
 obtain⟨n,a⟩:∃n:Nat,jI op=n:=⟨_,rfl⟩;rw[a];have b:=aA a;clear a;go_enter func271,ntmps271;go_wp2
 all_goals go_returns
 all_goals
  refine⟨?_,rfl⟩;rw[<-b.o];clear b;unfold jI
  simp_all
def vF(op:Int):List V3->V3×Int
 | [a]=>nS op a
 | [a,b]=>dJ op a b
 |_=>(bD,1)
theorem Jt{ok:nP}(op:Int)(v:Value)(l:List V3)(w:World)(h:aH VR w ok v l)(g:(op=11/\l.length=1)\/(6<=op/\op<=13/\op≠11/\l.length=2)):Calls prog 287 #[.int .i64 op,v] w (eA (vF op l) w):=by
 rcases g with ⟨rfl,f⟩|⟨h6,h13,h11,f⟩
 .obtain⟨a,rfl⟩:=List.length_eq_one_iff.1 f;by_cases c:aT a=true
  .exact Dc v a w h c
  .have d:aT a=false:=by simpa using c
   have e:vF 11 [a]=(bD,1):=by show nS 11 a=_;unfold nS;rw[iP d]
   rw[e];exact GA 11 v [a] w h qe qe rfl (by simp[d])
 .obtain⟨a,b,rfl⟩:∃a b,l=[a,b]:=by
   match l,f with
   | [a,b],_=>exact⟨a,b,rfl⟩
  by_cases c:aT a=true/\aT b=true
  .show Calls _ _ _ _ (eA (dJ op a b) w);have:op=6\/op=7\/op=8\/op=9\/op=10\/op=12\/op=13:=qo
   rcases this with rfl|rfl|rfl|rfl|rfl|rfl|rfl
   .exact Ih v a b w h c
   .exact Ii v a b w h c
   .exact Ij v a b w h c
   .exact Ik v a b w h c
   .exact Cz v a b w h c
   .exact Da v a b w h c
   .exact Db v a b w h c
  .have d:aT a=false\/aT b=false:=by
    by_cases h1:aT a=true
    .exact .inr (by simpa using fun h2=>c ⟨h1,h2⟩)
    .exact .inl (by simpa using h1)
   have e:vF op [a,b]=(bD,1):=by show dJ op a b=_;unfold dJ;rw[iP d]
   rw[e];refine GA op v [a,b] w h h6 h13 (by unfold RV;rw[iN h11];rfl) ?_
   rcases d with d|d<;>simp[d]
theorem oJ:bK 0:=by unfold bK;decide
theorem KY:bK 1:=by unfold bK;decide
theorem KZ:bK 2:=by unfold bK;decide
theorem aAf:bK 3:=by unfold bK;decide
theorem jZ:cS bD:=⟨oJ,oJ,qe⟩
theorem nR(b:Bool):cS (cI b):=by
 cases b
 .exact⟨KY,oJ,qe⟩
 .exact⟨KY,KY,qe⟩
theorem Pn(a b:V3):bK (jT a b).2:=by
 unfold jT;split
 .exact KY
 split
 .exact KZ
 split<;>exact oJ
theorem xZ{f:Int->Int->Int×Int}(c:∀a b,bK (f a b).1/\bK (f a b).2)(a b:V3):cS (eE f a b).1/\bK (eE f a b).2:=by
 unfold eE;split
 .exact⟨jZ,KZ⟩
 split
 .exact⟨jZ,(c _ _).2⟩
 .exact⟨⟨KZ,(c _ _).1,show ByteArray.empty.size<=cQ by decide⟩,oJ⟩
theorem NF(x:Int):bK (if kA<=x/\x<=lF then (x,(0:Int)) else (0,3)).1/\bK (if kA<=x/\x<=lF then (x,(0:Int)) else (0,3)).2:=by
 split
 .rename_i h;exact⟨h,oJ⟩
 .exact⟨oJ,aAf⟩
theorem Ju(op:Int)(l:List V3):cS (vF op l).1/\bK (vF op l).2:=by
 have one:=KY;have two:=KZ;have zero:=oJ;unfold vF;split
 .unfold nS;split
  .exact⟨jZ,one⟩
  split
  .exact⟨jZ,two⟩
  .exact⟨nR _,zero⟩
 .unfold dJ;split
  .exact⟨jZ,one⟩
  split
  .split
   .exact⟨jZ,two⟩
   .exact⟨nR _,zero⟩
  split
  .split
   .exact⟨jZ,Pn _ _⟩
   .exact⟨nR _,zero⟩
  split
  .exact xZ (fun a b=>NF (a+b)) _ _
  split
  .exact xZ (fun a b=>NF (a - b)) _ _
  split
  .exact xZ (fun a b=>NF (a * b)) _ _
  split
  .exact⟨jZ,two⟩
  split<;>exact⟨nR _,zero⟩
 .exact⟨jZ,one⟩
def BQ(w:World)(ok:nP)(x:It)(vb:Value):Prop:=aH VR w ok vb x.bag/\cS x.val/\bK x.err
def sK:Rep It:=fun w ok cs x=>∃vb,cs=[vb,.int .i64 x.val.1,.int .i64 x.val.2.1,.string x.val.2.2,.int .i64 x.err]/\BQ w ok x vb
theorem iI:Firm sK 5:={
 aC0:=fun⟨vb,e,h1,h2,h3⟩ b=>⟨vb,e,aH.aC0 bH h1 b,h2,h3⟩
 more:=fun⟨vb,e,h1,h2,h3⟩ c=>⟨vb,e,aH.more bH h1 c,h2,h3⟩
 len:=fun⟨vb,e,h⟩=>by rw[e];rfl
 one:=fun⟨vb,e,h⟩=>by
  intro v a;rw[e] at a;simp only[List.mem_cons,List.not_mem_nil,or_false] at a
  rcases a with rfl|rfl|rfl|rfl|rfl
  .exact kT h.1
  .rfl
  .rfl
  .rfl
  .rfl
 inb:=fun⟨vb,e,h1,h2,h3⟩=>⟨vb,e,aH.inb bH h1,h2,h3⟩}
end Go.Proofs.YtbinmcabjnoliaaGreatDoor
