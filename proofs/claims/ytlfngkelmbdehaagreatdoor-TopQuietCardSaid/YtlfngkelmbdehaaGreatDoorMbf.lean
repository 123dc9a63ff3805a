/- Lemmas. -/
import Derived.Test.YtlfngkelmbdehaaGreatDoorMas
namespace Go.Proofs.YtlfngkelmbdehaaGreatDoor
open Go.RowKit
set_option linter.unusedVariables false
set_option linter.unusedSimpArgs false
set_option maxHeartbeats 16000000
open _root_.Go.Proofs.Tryz
set_option maxRecDepth 20000
theorem QCw{p:Prop}(h:p:=by
 go_wp2;go_roundw
 case rel=>exact⟨k+1,qo,by go_num,aA (by rw[HFX.o,HDU.o];exact HBV.o)⟩
 case measure=>simp[intOf];omega):p:=h
theorem QBD{p:Prop}(h:p:=by
 rintro e w2 ⟨rfl,hb2⟩;have HB2:=aA hb2;clear b0 b1 b2 b3 b4 b5 b6 b7 b8 b9 b10 b11 y0 y1 y2 hb2 bz yz;go_wp2;go_roundw
 case rel=>exact⟨k+1,qo,by go_num,aA (by rw[HFX.o,HDU.o];exact HBV.o.trans HB2.o)⟩
 case measure=>simp[intOf];omega):p:=h
def Ya(K:nP)(base B:Nat)(w w':World)(s:Sto):Prop:=∃K':nP,(∀b,K b->K' b)/\(∀b,K' b->K b\/base<=b)/\gZ K' base B w w' s
theorem YB{K aj:nP}{base B:Nat}(o:Op)(ho:kE o)(s:Sto)(va:Value)(l:List Ob)(done:Bool)(w:World)(g:¬K B)(M:B<base)(hl:aH jT w aj va l)(av:∀b,aj b->b<base/\b≠B)(n:Nat)(hn:kD n s)(ai:n+l.length<=980000)(h:gZ K base B w w s):
 Calls prog 69 #[.pointer (some ⟨B,0,none⟩),eT o,va,.bool done] w (fun e w'=>e=.returned (.tuple #[])/\Ya K base B w w' (l.foldl (cW o done) s)):=by
 obtain⟨a,c,rfl,br⟩:=hl.slice;obtain⟨O2,ag⟩:∃O:Obj,O=.cells (bW o) 46:=⟨_,rfl⟩;obtain⟨W0,A⟩:=xE (w.alloc O2);have N:Below w.heap.size w W0:=by rw[A];exact aB _ _
 have bq:=h.size;have bm:W0.heap.size=w.heap.size+1:=by rw[A];simp
 have aw:W0.heap[w.heap.size]? =some O2:=by rw[A];exact aK _ _ _ rfl
 obtain⟨K',af⟩:∃K':nP,K'=fun b=>K b\/(w.heap.size<=b/\b<W0.heap.size):=⟨_,rfl⟩
 have ay:Hid (gZ K' base B W0 W0 s):=aA (af▸h.aDu N);have j:Hid ((∀b,K b->K' b)/\(∀b,K' b->K b\/base<=b)/\¬K' B/\K' w.heap.size):=aA (by
  subst af;exact⟨fun b f=> .inl f,fun b f=>f.imp id (fun h=>by omega),fun f=>f.elim g (fun h=>by omega),.inr ⟨lR _,qo⟩⟩)
 have a6:=aA (fun k (q:k<l.length)=>Hv (cW o done) l s q);have a8:Hid (∀k,k<=l.length->kD (n+k) ((l.take k).foldl (cW o done) s)):=aA (fun k q=>by
  have:=xQ o done (l.take k) n s hn;rwa [List.length_take,Nat.min_eq_left q] at this)
 have H:=aA ai;have bf:=aA (show ∀wr,aN (fun b=>(b<base/\b≠B)\/K' b) W0 wr->aH jT wr aj (.slice a l.length c) l from fun wr hs=>(hl.on aO N).aCM aO (hs.mono fun b _ f=> .inl (av b f)));have bc:=aA (show ∀wr,aN (fun b=>(b<base/\b≠B)\/K' b) W0 wr->wr.heap[w.heap.size]? =some (.cells (bW o) 46 (0,0)) from fun wr hs=>ag▸aF aw hs (.inr j.o.2.2.2));have az:Hid (∀wr,gZ K' base B W0 wr (l.foldl (cW o done) s)->Ya K base B w wr (l.foldl (cW o done) s)):=aA (fun wr f=>by
  obtain⟨L,ro,vc,vr,vn,vo,vt,vu,vk,vb,h1,h2,h3⟩:=f;exact⟨K',j.o.1,j.o.2.1,L,ro,vc,vr,vn,vo,vt,vu,vk,vb,h1,h2,(aJ N).trans h3⟩)
 have aa:=aA ho;rw[ag] at A;unfold eT bW at *;have bj:=aA A;clear A N aw h hl av hn af g ho ag bm ai;go_enter func69,ntmps69;go_upto_region 1 with (fail)
 rw[<-bj.o];go_wp2;go_loopw [9,12] (fun _ i wr=>∃(k:Nat),k<=l.length/\i=.int .i64 k/\Hid (gZ K' base B W0 wr ((l.take k).foldl (cW o done) s))) (fun _ i _=>l.length - (intOf i).toNat)
 case atStart=>exact⟨0,Nat.zero_le _,rfl,aA ay.o⟩
 case round=>
  obtain⟨k,q,rfl,y⟩:=hrel;by_cases S:k<l.length
  .have bl:(k:Int)<(l.length:Int):=qo;obtain⟨b,off,r,rfl,_,bp,⟨rfl,ar⟩,p⟩:=aH.at aO (bf.o wr y.o.stays) S qe;obtain⟨x0,x1,x2⟩:=cR3 p;rw[Nat.add_zero] at x0;have HFX:Hid ((l.take (k+1)).foldl (cW o done) s=cW o done ((l.take k).foldl (cW o done) s) l[k]):=aA (a6.o k S);obtain⟨Z,G,bo,bd⟩:=dC ar (a8.o k (Nat.le_of_lt S)) S (bc.o wr y.o.stays);clear p ar;generalize l[k]=x at *;generalize (l.take k).foldl (cW o done) s=t at *;obtain⟨d,T⟩:=xE (wr.alloc (.cells #[.int .i64 x.on,.int .i64 x.aCF,.string x.arg] 200));have Q:Below wr.heap.size wr d:=by rw[T];exact aB _ _
   have X:Hid (d.heap[wr.heap.size]? =some (.cells #[.int .i64 x.on,.int .i64 x.aCF,.string x.arg] 200 (0,0))):=aA (by rw[T];exact aK _ _ _ rfl);obtain⟨D,HBV,bh,Y⟩:=dC (aE bd.o Q) (y.o.more Q) T Q;clear T Q;go_upto_region 4 with (fail)
   rw[<-bh.o];obtain⟨⟨b0,b1,b2,b3,b4,b5,b6,b7,b8,b9,b10,b11⟩,_⟩:=bL D.o;have bz:=aD D.o;obtain⟨⟨y0,y1,y2⟩,_⟩:=cE X.o;have yz:=aD X.o;have ab:=aA (fun (p:x.arg.size<=cP)=>Nz o aa.o t x.arg p d j.o.2.2.1 M (qD G.o.aCD H.o) (fun c p=>qD (G.o.aC5 c p) H.o) HBV.o.here);have ad:=aA (fun (p:x.arg.size<=cP)=>TQ o aa.o t x.arg p d j.o.2.2.1 M (qD G.o.aCG H.o) HBV.o.here);unfold eT bW at ab ad;clear x0 x1 x2;by_cases h1:x.aCF=1
   .have e1:(x.aCF==(1:Int))=true:=bQ.2 h1;have e3:(x.aCF==(3:Int))=false:=bN.2 qo;have e4:(x.aCF==(4:Int))=false:=bN.2 qo;have H1:=aA h1;clear h1
    cases aq:done
    .subst aq;have HDU:Hid (cW o false t x=t):=aA (by unfold cW;rw[iN (fun h=>by cases h.2),iN (qA H1.o),iN (qA H1.o)]);exact QCw
    .subst aq;have HDU:Hid (cW o true t x=lO t o x.arg):=aA (by unfold cW;rw[iP ⟨H1.o,rfl⟩]);go_wp2_with fail;refine(ab.o Z.o.2.2).mono ?_;exact QBD
   .have e1:(x.aCF==(1:Int))=false:=bN.2 h1;have H1:=aA h1;clear h1;by_cases h3:x.aCF=3
    .have e3:(x.aCF==(3:Int))=true:=bQ.2 h3;have E:=aA h3;clear h3;have HDU:Hid (cW o done t x=gA t o x.arg):=aA (by unfold cW;rw[iN (fun h=>H1.o h.1),iP E.o]);go_wp2_with fail;refine(ad.o Z.o.2.2).mono ?_;exact QBD
    .have e3:(x.aCF==(3:Int))=false:=bN.2 h3;have E:=aA h3;clear h3;by_cases h4:x.aCF=4
     .have e4:(x.aCF==(4:Int))=true:=bQ.2 h4;have H4:=aA h4;clear h4;have HDU:Hid (cW o done t x={t with aCL:=t.aCL++[⟨t.aCN,o.aCK,x.arg⟩]}):=aA (by unfold cW;rw[iN (fun h=>H1.o h.1),iN E.o,iP H4.o]);go_upto_region 9 with (fail)
      obtain⟨L,ro,vc,vr,vn,vo,vt,vu,vk,vb,ah,z,ax⟩:=y.o;obtain⟨U,V,rfl⟩:=z.aCL.slice;obtain⟨J,P⟩:∃O:Obj,O=.cells (aV t vc vr (.slice U t.aCL.length V) vo vt vu vk vb) 40:=⟨_,rfl⟩;rw[<-P] at ah;have F:Hid (∀(w':World),(w'.heap[B]? =some J/\w'.heap[w.heap.size]? =d.heap[w.heap.size]? /\w'.heap[wr.heap.size]? =d.heap[wr.heap.size]?)->w'.cell? ⟨B,0,none⟩=some (.int .i64 t.aCN)/\w'.cell? ⟨B,3,none⟩=some (.slice U t.aCL.length V)/\w'.frozen? ⟨B,3,none⟩=false/\B<w'.heap.size/\w'.cell? ⟨w.heap.size,2,none⟩=some (.string o.aCK)/\w.heap.size<w'.heap.size/\w'.cell? ⟨wr.heap.size,2,none⟩=some (.string x.arg)/\wr.heap.size<w'.heap.size):=aA (fun w' q=>by
       have h1:=q.1;have h2:=q.2.1.trans D.o;have h3:=q.2.2.trans X.o;rw[P] at h1;exact⟨aQ h1 0 _ rfl,aQ h1 3 _ rfl,aR h1 3,aD h1,aQ h2 2 _ rfl,aD h2,aQ h3 2 _ rfl,aD h3⟩)
      have ba:=aA P;have ae:=aA (z.on Y.o);have I:Hid (d.heap[B]? =some J/\d.heap[w.heap.size]? =d.heap[w.heap.size]? /\d.heap[wr.heap.size]? =d.heap[wr.heap.size]?):=aA ⟨aE ah Y.o,rfl,rfl⟩;have al:Hid (some w.heap.size≠(Value.slice U t.aCL.length V).ownBlock/\some wr.heap.size≠(Value.slice U t.aCL.length V).ownBlock):=aA ⟨(z.kept _ j.o.2.2.2).2.2.2.1,fun e=>qA ((z.aCL.lt _ e.symm).2)⟩;have bg:=aA ax;have ai:t.aCL.length<=990000:=qD G.o.aCL H.o;have bk:EI ⟨t.aCN,o.aCK,x.arg⟩:=⟨z.aCN,aa.o.2.2.1,Z.o.2.2⟩;clear z P ah ax b0 b1 b2 b3 b4 b5 b6 b7 b8 b9 b10 b11 bz y0 y1 y2 yz ad ab;obtain⟨c0,c3,f3,v,b2,bz,y2,yz⟩:=F.o _ I.o;refine cB 18 [(0,false),(1,false),(2,false),(3,false),(4,false),(5,false),(6,false),(7,false),(8,false),(9,false),(10,false),(11,false),(12,false),(13,false),(14,true),(15,true),(16,false),(17,false)] [(18,true)] (fun w'=>w'.heap[B]? =some J/\w'.heap[w.heap.size]? =d.heap[w.heap.size]? /\w'.heap[wr.heap.size]? =d.heap[wr.heap.size]?) (by kernel_rfl) (by kernel_rfl) I.o ?_;simp only[List.cons_append,List.nil_append]
      repeat (refine dG rfl (fun K g=> ?_);unfold rd;go_simp;refine g _ (fun bn h1=> ?_) ?_;(· clear g K c0 c3 f3 v b2 bz y2 yz;obtain⟨c0,c3,f3,v,b2,bz,y2,yz⟩:=F.o _ h1;unfold rd;go_simp);clear g K)
      refine bJ rfl (fun C m=> ?_);unfold mv;go_simp;refine m _ _ (fun _=>⟨aE I.o.1 (aB _ _).drew,(aB _ _).drew.block _ bz,(aB _ _).drew.block _ yz⟩) ?_;clear m C;refine bJ rfl (fun C m=> ?_);unfold mv;refine iV (base:=base) Rm dZ rfl (.tmp 45) (.tmp 55) rfl _ t.aCL rfl (ae.o.aCL.on dZ (aB _ _).drew) d.heap.size 1 _ _ _ ⟨t.aCN,o.aCK,x.arg⟩ rfl (aK _ _ _ rfl) ⟨rfl,bk⟩ qo qe (lT ae.o.size (aB _ _).drew.size) ?_;intro l' au A' c' W hG R ao;obtain⟨ak,bb,be⟩:=TW (w:=d) (ae.o.on (aB _ _).drew) (aE I.o.1 (aB _ _).drew) M (aB _ _).drew R hG ao;have an:Hid (W.heap[B]? =some J/\W.heap[w.heap.size]? =d.heap[w.heap.size]? /\W.heap[wr.heap.size]? =d.heap[wr.heap.size]?):=aA ⟨ak.o,(gI D.o (aB _ _).drew R al.o.1).trans D.o.symm,(gI X.o (aB _ _).drew R al.o.2).trans X.o.symm⟩;have a7:=aA au.o;refine m _ _ (fun _=>an.o) ?_;clear m C hG R ao au c0 c3 f3 v b2 bz y2 yz;obtain⟨c0,c3,f3,v,b2,bz,y2,yz⟩:=F.o _ an.o
      repeat (refine dG rfl (fun K g=> ?_);unfold rd;go_simp;refine g _ (fun bn h1=> ?_) ?_;(· clear g K c0 c3 f3 v b2 bz y2 yz;obtain⟨c0,c3,f3,v,b2,bz,y2,yz⟩:=F.o _ h1;unfold rd;go_simp);clear g K)
      refine bJ rfl (fun C m=> ?_);unfold mv;go_simp;refine m _ _ (fun h=>absurd h qe) ?_;clear m C c0 c3 f3 v b2 bz y2 yz;unfold cI;have a1:Hid (gZ K' base B W0 (W.setCell ⟨B,3,none⟩ (.slice A' l'.length c')) (cW o done t x)):=aA (by
       rw[HDU.o,<-a7.o];exact⟨L,ro,vc,vr,_,vo,vt,vu,vk,vb,aG (ba.o▸ak.o) 3 _,bC.off bb.o j.o.2.2.1 M,((bg.o.trans (aJ Y.o)).trans be.o).trans ((aI _).mono (fun b _ f=>f.elim (fun h=>h.2) (fun h e=>j.o.2.2.1 (e▸h))))⟩)
      go_wp2;go_roundw
      case rel=>exact⟨k+1,qo,by go_num,aA (by rw[HFX.o];exact a1.o)⟩
      case measure=>simp[intOf];omega
     .have e4:(x.aCF==(4:Int))=false:=bN.2 h4;have HDU:Hid (cW o done t x=t):=aA (by unfold cW;rw[iN (fun h=>H1.o h.1),iN E.o,iN h4]);clear h4;exact QCw
  .have bl:¬(k:Int)<(l.length:Int):=qo;obtain rfl:k=l.length:=qo;have HE:Hid (gZ K' base B W0 wr (l.foldl (cW o done) s)):=aA (by have:=y.o;rwa [List.take_of_length_le (lR _)] at this);clear y;go_wp2;go_returns;exact⟨rfl,az.o wr HE.o⟩
def eI(lo:Nat)(w:World)(L:List (Nat×V3)):Prop:=lo<=w.heap.size/\∀x∈L,lo<=x.1/\w.heap[x.1]? =some (.cells (IB x.2).toArray 44 (0,0))
theorem eI.nil{lo:Nat}{w:World}(h:lo<=w.heap.size):eI lo w []:=⟨h,fun x a=>by cases a⟩
theorem eI.on{lo:Nat}{w w':World}{L:List (Nat×V3)}(h:eI lo w L)(a:Below w.heap.size w w'):eI lo w' L:=⟨lT h.1 a.size,fun x b=>⟨(h.2 x b).1,aE (h.2 x b).2 a⟩⟩
theorem eI.push{lo:Nat}{w w':World}{L:List (Nat×V3)}{a b:Int}{c:bY}(h:eI lo w L)(e:Below (w.alloc (.cells #[.int .i64 a,.int .i64 b,.string c] 44)).heap.size (w.alloc (.cells #[.int .i64 a,.int .i64 b,.string c] 44)) w'):eI lo w' (L++[(w.heap.size,(a,b,c))]):=by
 have h2:=eI.on (h.on (aB w (.cells #[.int .i64 a,.int .i64 b,.string c] 44))) e;refine⟨h2.1,fun x d=> ?_⟩
 rcases List.mem_append.1 d with d|d
 .exact h2.2 x d
 .rw[List.mem_singleton] at d;subst d;exact⟨h.1,aE (aK w _ _ rfl) e⟩
theorem eI.aDE{lo:Nat}{w w':World}{L:List (Nat×V3)}{a b:Int}{c:bY}{a2 b2:Int}{c2:bY}(h:eI lo w L)(d:Below ((w.alloc (.cells #[.int .i64 a,.int .i64 b,.string c] 44)).alloc (.cells #[.int .i64 a2,.int .i64 b2,.string c2] 44)).heap.size ((w.alloc (.cells #[.int .i64 a,.int .i64 b,.string c] 44)).alloc (.cells #[.int .i64 a2,.int .i64 b2,.string c2] 44)) w'):eI lo w' ((L++[(w.heap.size,(a,b,c))])++[(w.heap.size+1,(a2,b2,c2))]):=by
 have h1:=eI.push (a:=a) (b:=b) (c:=c) h (Below.refl _ _);have h2:=eI.push h1 d;rw[World.size_alloc] at h2;exact h2
theorem Vc{w:World}{ok:nP}{b:Nat}{v:V3}(a:w.heap[b]? =some (.cells (IB v).toArray 44 (0,0)))(d:ok b)(c:cR v):aH VR w ok (.slice (some ⟨b,0,none⟩) 1 1) [v]:=by
 refine⟨some ⟨b,0,none⟩,1,IB v,rfl,fun _=>⟨b,0,rfl,d,fun i x e=> ?_⟩,aX.one ⟨rfl,c⟩,qs⟩;have h:=aQ a i x (by simpa using e);rw[Nat.zero_add];exact h
theorem aM.many{α:Type}{R:Rep α}{s:Nat}{e:TypeId}{w:World}{base:Nat}{ok:nP}{b n:Nat}{cs:Array Value}{l:List α}(F:Firm R s)(j:0<s)(g:l.length=n)(i:0<n)(d:w.heap[b]? =some (.cells cs e (0,0)))(f:base<=b)(c:aX (R w (fun x=>ok x/\x<w.heap.size/\x≠b)) cs.toList l)(k:n<=1000):aM R s e w base ok (.slice (some ⟨b,0,none⟩) n n) l:=by
 subst g;have hlen:=c.len (fun _ _ a=>F.len a);rw[Array.length_toList] at hlen;refine⟨cs.toList,⟨by rw[Array.length_toList,hlen],.inr ⟨b,l.length,cs,rfl,f,d,lR _,by unfold maxLen;omega,hlen,?_⟩⟩,c.mono fun r x a=>F.more a fun x h=>⟨h.1,h.2.1,fun e=>h.2.2 (by injection e)⟩⟩;exact List.take_of_length_le (by rw[Array.length_toList];omega)
theorem vJ(s:bY)(w:World):Calls prog 104 #[.string s] w (aP (.agg #[.int .i64 5,.int .i64 0,.string s]) w):=by
 unfold aP;go_enter func104,ntmps104;go_wp2;refine bR (.agg #[.int .i64 5,.int .i64 0,.string s]) ?_;exact⟨rfl,aB _ _⟩
theorem nB(cat:Int)(n:bY)(a:oD)(l c:Nat)(w:World):Calls prog 105 #[.int .i64 cat,.string n,.slice a l c] w (aP (.agg #[.int .i64 cat,.string n,.slice a l c]) w):=by
 unfold aP;go_enter func105,ntmps105;go_wp2;refine bR (.agg #[.int .i64 cat,.string n,.slice a l c]) ?_;exact⟨rfl,aB _ _⟩
theorem Jj{ok:nP}(c:cF)(j k:Value)(N:bY)(w:World)(h:oR w ok c j k):Calls prog 161 #[.agg #[.string c.id,.string c.aC6,.string c.aCZ,j,k],.string N] w (aP (dA (cH (c.log.any (fun h=>decide (h.aDd=N))))) w):=by
 obtain⟨g,i,rfl,_⟩:=h.2.2.2.1.slice;obtain⟨la,lc,rfl,_⟩:=h.2.2.2.2.slice;obtain⟨W0,a⟩:=xE ((((w.alloc (.cells (oU c g i la lc) 113)).alloc (.cells #[.string N] 9)).alloc (.cells fT 44)).alloc (.cells #[.int .i64 1,.int .i64 0,.string ⟨#[]⟩] 44));have d:Hid (Below w.heap.size w W0):=aA (by rw[a];exact aC (aC (aC (aB _ _) (aB _ _)) (aB _ _)) (aB _ _));have A:Hid (W0.heap[w.heap.size]? =some (.cells (oU c g i la lc) 113 (0,0))):=aA (by rw[a];exact aE (aE (aE (aK _ _ _ rfl) (aB _ _)) (aB _ _)) (aB _ _));have B:Hid (W0.heap[w.heap.size+1]? =some (.cells #[.string N] 9 (0,0))):=aA (by rw[a];exact aE (aE (aK _ _ _ qs) (aB _ _)) (aB _ _));have R:Hid (W0.heap[w.heap.size+1+1]? =some (.cells fT 44 (0,0))):=aA (by rw[a];exact aE (aK _ _ _ qs) (aB _ _));have V:Hid (W0.heap[w.heap.size+1+1+1]? =some (.cells #[.int .i64 1,.int .i64 0,.string ⟨#[]⟩] 44 (0,0))):=aA (by rw[a];exact aK _ _ _ qs);have l:=aA a;have f:=aA (XM _ c.log N (w.heap.size+1) W0 (aH.on cC h.2.2.2.2 d.o) ⟨aQ B.o 0 _ rfl,aD B.o⟩);generalize c.log.any (fun h=>decide (h.aDd=N))=t at *;unfold aP at *;clear h a;go_enter func161,ntmps161;go_wp2_with fail;rw[<-l.o];refine f.o.mono ?_;rintro e w1 ⟨rfl,b⟩;have HB1:=qB d b;replace A:=qK A b;obtain⟨⟨m,n,o,p,q⟩,_⟩:=dL A.o;have C:=aD A.o;replace R:=qK R b;obtain⟨⟨r,s,v⟩,_⟩:=cE R.o;have D:=aD R.o;replace V:=qK V b;obtain⟨⟨x,y,z⟩,_⟩:=cE V.o;have E:=aD V.o;have f0:=aR R.o 0;have f1:=aR R.o 1;have f2:=aR R.o 2;have g1:=aR V.o 1;clear b f
 cases t
 .go_wp2;refine bR (.agg #[.int .i64 1,.int .i64 0,.string ⟨#[]⟩]) ?_;exact QBS
 .go_wp2;refine bR (.agg #[.int .i64 1,.int .i64 1,.string ⟨#[]⟩]) ?_;exact⟨rfl,(((HB1.o.setCell (show w.heap.size<=w.heap.size+1+1+1 by omega) _).setCell (show w.heap.size<=w.heap.size+1+1 by omega) _).setCell (show w.heap.size<=w.heap.size+1+1 by omega) _).setCell (show w.heap.size<=w.heap.size+1+1 by omega) _⟩
end Go.Proofs.YtlfngkelmbdehaaGreatDoor
