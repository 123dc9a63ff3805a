/- Lemmas. -/
import Derived.Test.YtbpimcljljlbnaaGreatDoorMat
namespace Go.Proofs.YtbpimcljljlbnaaGreatDoor
open Go.RowKit
set_option linter.unusedVariables false
set_option linter.unusedSimpArgs false
set_option maxHeartbeats 16000000
open _root_.Go.Proofs.Tryz
set_option maxRecDepth 20000
theorem QCz{p:Prop}(h:p:=by
 go_wp2;go_roundw
 case rel=>exact⟨k+1,qo,by go_num,aA (by rw[HFX.o,HDU.o];exact HBV.o)⟩
 case measure=>simp[intOf];omega):p:=h
theorem QBF{p:Prop}(h:p:=by
 rintro e w2 ⟨rfl,hb2⟩;have HB2:=aA hb2;clear b0 b1 b2 b3 b4 b5 b6 b7 b8 b9 b10 b11 y0 y1 y2 hb2 bz yz;go_wp2;go_roundw
 case rel=>exact⟨k+1,qo,by go_num,aA (by rw[HFX.o,HDU.o];exact HBV.o.trans HB2.o)⟩
 case measure=>simp[intOf];omega):p:=h
def Zc(K:nP)(base B:Nat)(w w':World)(s:Sto):Prop:=∃K':nP,(∀b,K b->K' b)/\(∀b,K' b->K b\/base<=b)/\iB K' base B w w' s
theorem YQ{K aj:nP}{base B:Nat}(o:Op)(ho:kG o)(s:Sto)(va:Value)(l:List Ob)(done:Bool)(w:World)(g:¬K B)(M:B<base)(hl:aH jU w aj va l)(av:∀b,aj b->b<base/\b≠B)(n:Nat)(hn:kF n s)(ai:n+l.length<=980000)(h:iB K base B w w s):
 Calls prog 61 #[.pointer (some ⟨B,0,none⟩),fG o,va,.bool done] w (fun e w'=>e=.returned (.tuple #[])/\Zc K base B w w' (l.foldl (dB o done) s)):=by
 obtain⟨a,c,rfl,br⟩:=hl.slice;obtain⟨O2,ag⟩:∃O:Obj,O=.cells (cB o) 58:=⟨_,rfl⟩;obtain⟨W0,A⟩:=xE (w.alloc O2);have N:Below w.heap.size w W0:=by rw[A];exact aB _ _
 have bq:=h.size;have bm:W0.heap.size=w.heap.size+1:=by rw[A];simp
 have aw:W0.heap[w.heap.size]? =some O2:=by rw[A];exact aK _ _ _ rfl
 obtain⟨K',af⟩:∃K':nP,K'=fun b=>K b\/(w.heap.size<=b/\b<W0.heap.size):=⟨_,rfl⟩
 have ay:Hid (iB K' base B W0 W0 s):=aA (af▸h.aD3 N);have j:Hid ((∀b,K b->K' b)/\(∀b,K' b->K b\/base<=b)/\¬K' B/\K' w.heap.size):=aA (by
  subst af;exact⟨fun b f=> .inl f,fun b f=>f.imp id (fun h=>by omega),fun f=>f.elim g (fun h=>by omega),.inr ⟨lR _,qo⟩⟩)
 have a6:=aA (fun k (q:k<l.length)=>Iv (dB o done) l s q);have a8:Hid (∀k,k<=l.length->kF (n+k) ((l.take k).foldl (dB o done) s)):=aA (fun k q=>by
  have:=xX o done (l.take k) n s hn;rwa [List.length_take,Nat.min_eq_left q] at this)
 have H:=aA ai;have bf:=aA (show ∀wr,aO (fun b=>(b<base/\b≠B)\/K' b) W0 wr->aH jU wr aj (.slice a l.length c) l from fun wr hs=>(hl.on aP N).aDl aP (hs.mono fun b _ f=> .inl (av b f)));have bc:=aA (show ∀wr,aO (fun b=>(b<base/\b≠B)\/K' b) W0 wr->wr.heap[w.heap.size]? =some (.cells (cB o) 58 (0,0)) from fun wr hs=>ag▸aF aw hs (.inr j.o.2.2.2));have az:Hid (∀wr,iB K' base B W0 wr (l.foldl (dB o done) s)->Zc K base B w wr (l.foldl (dB o done) s)):=aA (fun wr f=>by
  obtain⟨L,ro,vc,vr,vn,vo,vt,vu,vk,vb,h1,h2,h3⟩:=f;exact⟨K',j.o.1,j.o.2.1,L,ro,vc,vr,vn,vo,vt,vu,vk,vb,h1,h2,(aJ N).trans h3⟩)
 have aa:=aA ho;rw[ag] at A;unfold fG cB at *;have bj:=aA A;clear A N aw h hl av hn af g ho ag bm ai;go_enter func61,ntmps61;go_upto_region 1 with (fail)
 rw[<-bj.o];go_wp2;go_loopw [9,12] (fun _ i wr=>∃(k:Nat),k<=l.length/\i=.int .i64 k/\Hid (iB K' base B W0 wr ((l.take k).foldl (dB o done) s))) (fun _ i _=>l.length - (intOf i).toNat)
 case atStart=>exact⟨0,Nat.zero_le _,rfl,aA ay.o⟩
 case round=>
  obtain⟨k,q,rfl,y⟩:=hrel;by_cases S:k<l.length
  .have bl:(k:Int)<(l.length:Int):=qo;obtain⟨b,off,r,rfl,_,bp,⟨rfl,ar⟩,p⟩:=aH.at aP (bf.o wr y.o.stays) S qe;obtain⟨x0,x1,x2⟩:=cR3 p;rw[Nat.add_zero] at x0;have HFX:Hid ((l.take (k+1)).foldl (dB o done) s=dB o done ((l.take k).foldl (dB o done) s) l[k]):=aA (a6.o k S);obtain⟨Z,G,bo,bd⟩:=dG ar (a8.o k (Nat.le_of_lt S)) S (bc.o wr y.o.stays);clear p ar;generalize l[k]=x at *;generalize (l.take k).foldl (dB o done) s=t at *;obtain⟨d,T⟩:=xE (wr.alloc (.cells #[.int .i64 x.on,.int .i64 x.aDe,.string x.arg] 197));have Q:Below wr.heap.size wr d:=by rw[T];exact aB _ _
   have X:Hid (d.heap[wr.heap.size]? =some (.cells #[.int .i64 x.on,.int .i64 x.aDe,.string x.arg] 197 (0,0))):=aA (by rw[T];exact aK _ _ _ rfl);obtain⟨D,HBV,bh,Y⟩:=dG (aE bd.o Q) (y.o.more Q) T Q;clear T Q;go_upto_region 4 with (fail)
   rw[<-bh.o];obtain⟨⟨b0,b1,b2,b3,b4,b5,b6,b7,b8,b9,b10,b11⟩,_⟩:=bM D.o;have bz:=aD D.o;obtain⟨⟨y0,y1,y2⟩,_⟩:=cE X.o;have yz:=aD X.o;have ab:=aA (fun (p:x.arg.size<=cQ)=>Pg o aa.o t x.arg p d j.o.2.2.1 M (qD G.o.aDc H.o) (fun c p=>qD (G.o.aDF c p) H.o) HBV.o.here);have ad:=aA (fun (p:x.arg.size<=cQ)=>UD o aa.o t x.arg p d j.o.2.2.1 M (qD G.o.aDf H.o) HBV.o.here);unfold fG cB at ab ad;clear x0 x1 x2;by_cases h1:x.aDe=1
   .have e1:(x.aDe==(1:Int))=true:=bQ.2 h1;have e3:(x.aDe==(3:Int))=false:=bN.2 qo;have e4:(x.aDe==(4:Int))=false:=bN.2 qo;have H1:=aA h1;clear h1
    cases aq:done
    .subst aq;have HDU:Hid (dB o false t x=t):=aA (by unfold dB;rw[iN (fun h=>by cases h.2),iN (qA H1.o),iN (qA H1.o)]);exact QCz
    .subst aq;have HDU:Hid (dB o true t x=lV t o x.arg):=aA (by unfold dB;rw[iP ⟨H1.o,rfl⟩]);go_wp2_with fail;refine(ab.o Z.o.2.2).mono ?_;exact QBF
   .have e1:(x.aDe==(1:Int))=false:=bN.2 h1;have H1:=aA h1;clear h1;by_cases h3:x.aDe=3
    .have e3:(x.aDe==(3:Int))=true:=bQ.2 h3;have E:=aA h3;clear h3;have HDU:Hid (dB o done t x=gB t o x.arg):=aA (by unfold dB;rw[iN (fun h=>H1.o h.1),iP E.o]);go_wp2_with fail;refine(ad.o Z.o.2.2).mono ?_;exact QBF
    .have e3:(x.aDe==(3:Int))=false:=bN.2 h3;have E:=aA h3;clear h3;by_cases h4:x.aDe=4
     .have e4:(x.aDe==(4:Int))=true:=bQ.2 h4;have H4:=aA h4;clear h4;have HDU:Hid (dB o done t x={t with aDk:=t.aDk++[⟨t.aDm,o.aDj,x.arg⟩]}):=aA (by unfold dB;rw[iN (fun h=>H1.o h.1),iN E.o,iP H4.o]);go_upto_region 9 with (fail)
      obtain⟨L,ro,vc,vr,vn,vo,vt,vu,vk,vb,ah,z,ax⟩:=y.o;obtain⟨U,V,rfl⟩:=z.aDk.slice;obtain⟨J,P⟩:∃O:Obj,O=.cells (aV t vc vr (.slice U t.aDk.length V) vo vt vu vk vb) 37:=⟨_,rfl⟩;rw[<-P] at ah;have F:Hid (∀(w':World),(w'.heap[B]? =some J/\w'.heap[w.heap.size]? =d.heap[w.heap.size]? /\w'.heap[wr.heap.size]? =d.heap[wr.heap.size]?)->w'.cell? ⟨B,0,none⟩=some (.int .i64 t.aDm)/\w'.cell? ⟨B,3,none⟩=some (.slice U t.aDk.length V)/\w'.frozen? ⟨B,3,none⟩=false/\B<w'.heap.size/\w'.cell? ⟨w.heap.size,2,none⟩=some (.string o.aDj)/\w.heap.size<w'.heap.size/\w'.cell? ⟨wr.heap.size,2,none⟩=some (.string x.arg)/\wr.heap.size<w'.heap.size):=aA (fun w' q=>by
       have h1:=q.1;have h2:=q.2.1.trans D.o;have h3:=q.2.2.trans X.o;rw[P] at h1;exact⟨aQ h1 0 _ rfl,aQ h1 3 _ rfl,aR h1 3,aD h1,aQ h2 2 _ rfl,aD h2,aQ h3 2 _ rfl,aD h3⟩)
      have ba:=aA P;have ae:=aA (z.on Y.o);have I:Hid (d.heap[B]? =some J/\d.heap[w.heap.size]? =d.heap[w.heap.size]? /\d.heap[wr.heap.size]? =d.heap[wr.heap.size]?):=aA ⟨aE ah Y.o,rfl,rfl⟩;have al:Hid (some w.heap.size≠(Value.slice U t.aDk.length V).ownBlock/\some wr.heap.size≠(Value.slice U t.aDk.length V).ownBlock):=aA ⟨(z.kept _ j.o.2.2.2).2.2.2.1,fun e=>qA ((z.aDk.lt _ e.symm).2)⟩;have bg:=aA ax;have ai:t.aDk.length<=990000:=qD G.o.aDk H.o;have bk:EP ⟨t.aDm,o.aDj,x.arg⟩:=⟨z.aDm,aa.o.2.2.1,Z.o.2.2⟩;clear z P ah ax b0 b1 b2 b3 b4 b5 b6 b7 b8 b9 b10 b11 bz y0 y1 y2 yz ad ab;obtain⟨c0,c3,f3,v,b2,bz,y2,yz⟩:=F.o _ I.o;refine cA 18 [(0,false),(1,false),(2,false),(3,false),(4,false),(5,false),(6,false),(7,false),(8,false),(9,false),(10,false),(11,false),(12,false),(13,false),(14,true),(15,true),(16,false),(17,false)] [(18,true)] (fun w'=>w'.heap[B]? =some J/\w'.heap[w.heap.size]? =d.heap[w.heap.size]? /\w'.heap[wr.heap.size]? =d.heap[wr.heap.size]?) (by kernel_rfl) (by kernel_rfl) I.o ?_;simp only[List.cons_append,List.nil_append]
      repeat (refine cU rfl (fun K g=> ?_);unfold rd;go_simp;refine g _ (fun bn h1=> ?_) ?_;(· clear g K c0 c3 f3 v b2 bz y2 yz;obtain⟨c0,c3,f3,v,b2,bz,y2,yz⟩:=F.o _ h1;unfold rd;go_simp);clear g K)
      refine bG rfl (fun C m=> ?_);unfold mv;go_simp;refine m _ _ (fun _=>⟨aE I.o.1 (aB _ _).drew,(aB _ _).drew.block _ bz,(aB _ _).drew.block _ yz⟩) ?_;clear m C;refine bG rfl (fun C m=> ?_);unfold mv;refine iW (base:=base) Sq dZ rfl (.tmp 45) (.tmp 55) rfl _ t.aDk rfl (ae.o.aDk.on dZ (aB _ _).drew) d.heap.size 1 _ _ _ ⟨t.aDm,o.aDj,x.arg⟩ rfl (aK _ _ _ rfl) ⟨rfl,bk⟩ qo qe (lT ae.o.size (aB _ _).drew.size) ?_;intro l' au A' c' W hG R ao;obtain⟨ak,bb,be⟩:=UJ (w:=d) (ae.o.on (aB _ _).drew) (aE I.o.1 (aB _ _).drew) M (aB _ _).drew R hG ao;have an:Hid (W.heap[B]? =some J/\W.heap[w.heap.size]? =d.heap[w.heap.size]? /\W.heap[wr.heap.size]? =d.heap[wr.heap.size]?):=aA ⟨ak.o,(gK D.o (aB _ _).drew R al.o.1).trans D.o.symm,(gK X.o (aB _ _).drew R al.o.2).trans X.o.symm⟩;have a7:=aA au.o;refine m _ _ (fun _=>an.o) ?_;clear m C hG R ao au c0 c3 f3 v b2 bz y2 yz;obtain⟨c0,c3,f3,v,b2,bz,y2,yz⟩:=F.o _ an.o
      repeat (refine cU rfl (fun K g=> ?_);unfold rd;go_simp;refine g _ (fun bn h1=> ?_) ?_;(· clear g K c0 c3 f3 v b2 bz y2 yz;obtain⟨c0,c3,f3,v,b2,bz,y2,yz⟩:=F.o _ h1;unfold rd;go_simp);clear g K)
      refine bG rfl (fun C m=> ?_);unfold mv;go_simp;refine m _ _ (fun h=>absurd h qe) ?_;clear m C c0 c3 f3 v b2 bz y2 yz;unfold cG;have a1:Hid (iB K' base B W0 (W.setCell ⟨B,3,none⟩ (.slice A' l'.length c')) (dB o done t x)):=aA (by
       rw[HDU.o,<-a7.o];exact⟨L,ro,vc,vr,_,vo,vt,vu,vk,vb,aG (ba.o▸ak.o) 3 _,bC.off bb.o j.o.2.2.1 M,((bg.o.trans (aJ Y.o)).trans be.o).trans ((aI _).mono (fun b _ f=>f.elim (fun h=>h.2) (fun h e=>j.o.2.2.1 (e▸h))))⟩)
      go_wp2;go_roundw
      case rel=>exact⟨k+1,qo,by go_num,aA (by rw[HFX.o];exact a1.o)⟩
      case measure=>simp[intOf];omega
     .have e4:(x.aDe==(4:Int))=false:=bN.2 h4;have HDU:Hid (dB o done t x=t):=aA (by unfold dB;rw[iN (fun h=>H1.o h.1),iN E.o,iN h4]);clear h4;exact QCz
  .have bl:¬(k:Int)<(l.length:Int):=qo;obtain rfl:k=l.length:=qo;have HE:Hid (iB K' base B W0 wr (l.foldl (dB o done) s)):=aA (by have:=y.o;rwa [List.take_of_length_le (lR _)] at this);clear y;go_wp2;go_returns;exact⟨rfl,az.o wr HE.o⟩
def eJ(lo:Nat)(w:World)(L:List (Nat×V3)):Prop:=lo<=w.heap.size/\∀x∈L,lo<=x.1/\w.heap[x.1]? =some (.cells (IG x.2).toArray 56 (0,0))
theorem eJ.nil{lo:Nat}{w:World}(h:lo<=w.heap.size):eJ lo w []:=⟨h,fun x a=>by cases a⟩
theorem eJ.on{lo:Nat}{w w':World}{L:List (Nat×V3)}(h:eJ lo w L)(a:Below w.heap.size w w'):eJ lo w' L:=⟨lT h.1 a.size,fun x b=>⟨(h.2 x b).1,aE (h.2 x b).2 a⟩⟩
theorem eJ.push{lo:Nat}{w w':World}{L:List (Nat×V3)}{a b:Int}{c:bY}(h:eJ lo w L)(e:Below (w.alloc (.cells #[.int .i64 a,.int .i64 b,.string c] 56)).heap.size (w.alloc (.cells #[.int .i64 a,.int .i64 b,.string c] 56)) w'):eJ lo w' (L++[(w.heap.size,(a,b,c))]):=by
 have h2:=eJ.on (h.on (aB w (.cells #[.int .i64 a,.int .i64 b,.string c] 56))) e;refine⟨h2.1,fun x d=> ?_⟩
 rcases List.mem_append.1 d with d|d
 .exact h2.2 x d
 .rw[List.mem_singleton] at d;subst d;exact⟨h.1,aE (aK w _ _ rfl) e⟩
theorem eJ.aEe{lo:Nat}{w w':World}{L:List (Nat×V3)}{a b:Int}{c:bY}{a2 b2:Int}{c2:bY}(h:eJ lo w L)(d:Below ((w.alloc (.cells #[.int .i64 a,.int .i64 b,.string c] 56)).alloc (.cells #[.int .i64 a2,.int .i64 b2,.string c2] 56)).heap.size ((w.alloc (.cells #[.int .i64 a,.int .i64 b,.string c] 56)).alloc (.cells #[.int .i64 a2,.int .i64 b2,.string c2] 56)) w'):eJ lo w' ((L++[(w.heap.size,(a,b,c))])++[(w.heap.size+1,(a2,b2,c2))]):=by
 have h1:=eJ.push (a:=a) (b:=b) (c:=c) h (Below.refl _ _);have h2:=eJ.push h1 d;rw[World.size_alloc] at h2;exact h2
theorem Wb{w:World}{ok:nP}{b:Nat}{v:V3}(a:w.heap[b]? =some (.cells (IG v).toArray 56 (0,0)))(d:ok b)(c:cS v):aH VR w ok (.slice (some ⟨b,0,none⟩) 1 1) [v]:=by
 refine⟨some ⟨b,0,none⟩,1,IG v,rfl,fun _=>⟨b,0,rfl,d,fun i x e=> ?_⟩,aX.one ⟨rfl,c⟩,qs⟩;have h:=aQ a i x (by simpa using e);rw[Nat.zero_add];exact h
theorem aM.many{α:Type}{R:Rep α}{s:Nat}{e:TypeId}{w:World}{base:Nat}{ok:nP}{b n:Nat}{cs:Array Value}{l:List α}(F:Firm R s)(j:0<s)(g:l.length=n)(i:0<n)(d:w.heap[b]? =some (.cells cs e (0,0)))(f:base<=b)(c:aX (R w (fun x=>ok x/\x<w.heap.size/\x≠b)) cs.toList l)(k:n<=1000):aM R s e w base ok (.slice (some ⟨b,0,none⟩) n n) l:=by
 subst g;have hlen:=c.len (fun _ _ a=>F.len a);rw[Array.length_toList] at hlen;refine⟨cs.toList,⟨by rw[Array.length_toList,hlen],.inr ⟨b,l.length,cs,rfl,f,d,lR _,by unfold maxLen;omega,hlen,?_⟩⟩,c.mono fun r x a=>F.more a fun x h=>⟨h.1,h.2.1,fun e=>h.2.2 (by injection e)⟩⟩;exact List.take_of_length_le (by rw[Array.length_toList];omega)
theorem vR(s:bY)(w:World):Calls prog 97 #[.string s] w (aN (.agg #[.int .i64 5,.int .i64 0,.string s]) w):=by
 unfold aN;go_enter func97,ntmps97;go_wp2;refine bR (.agg #[.int .i64 5,.int .i64 0,.string s]) ?_;exact⟨rfl,aB _ _⟩
theorem nB(cat:Int)(n:bY)(a:oD)(l c:Nat)(w:World):Calls prog 98 #[.int .i64 cat,.string n,.slice a l c] w (aN (.agg #[.int .i64 cat,.string n,.slice a l c]) w):=by
 unfold aN;go_enter func98,ntmps98;go_wp2;refine bR (.agg #[.int .i64 cat,.string n,.slice a l c]) ?_;exact⟨rfl,aB _ _⟩
theorem Kf{ok:nP}(c:cF)(j k:Value)(N:bY)(w:World)(h:oV w ok c j k):Calls prog 163 #[.agg #[.string c.id,.string c.aDE,.string c.aDx,j,k],.string N] w (aN (dD (cI (c.log.any (fun h=>decide (h.aDK=N))))) w):=by
 obtain⟨g,i,rfl,_⟩:=h.2.2.2.1.slice;obtain⟨la,lc,rfl,_⟩:=h.2.2.2.2.slice;obtain⟨W0,a⟩:=xE ((((w.alloc (.cells (oY c g i la lc) 71)).alloc (.cells #[.string N] 9)).alloc (.cells fU 56)).alloc (.cells #[.int .i64 1,.int .i64 0,.string ⟨#[]⟩] 56));have d:Hid (Below w.heap.size w W0):=aA (by rw[a];exact aC (aC (aC (aB _ _) (aB _ _)) (aB _ _)) (aB _ _));have A:Hid (W0.heap[w.heap.size]? =some (.cells (oY c g i la lc) 71 (0,0))):=aA (by rw[a];exact aE (aE (aE (aK _ _ _ rfl) (aB _ _)) (aB _ _)) (aB _ _));have B:Hid (W0.heap[w.heap.size+1]? =some (.cells #[.string N] 9 (0,0))):=aA (by rw[a];exact aE (aE (aK _ _ _ qs) (aB _ _)) (aB _ _));have R:Hid (W0.heap[w.heap.size+1+1]? =some (.cells fU 56 (0,0))):=aA (by rw[a];exact aE (aK _ _ _ qs) (aB _ _));have V:Hid (W0.heap[w.heap.size+1+1+1]? =some (.cells #[.int .i64 1,.int .i64 0,.string ⟨#[]⟩] 56 (0,0))):=aA (by rw[a];exact aK _ _ _ qs);have l:=aA a;have f:=aA (YB _ c.log N (w.heap.size+1) W0 (aH.on bV h.2.2.2.2 d.o) ⟨aQ B.o 0 _ rfl,aD B.o⟩);generalize c.log.any (fun h=>decide (h.aDK=N))=t at *;unfold aN at *;clear h a;go_enter func163,ntmps163;go_wp2_with fail;rw[<-l.o];refine f.o.mono ?_;rintro e w1 ⟨rfl,b⟩;have HB1:=qB d b;replace A:=qK A b;obtain⟨⟨m,n,o,p,q⟩,_⟩:=dN A.o;have C:=aD A.o;replace R:=qK R b;obtain⟨⟨r,s,v⟩,_⟩:=cE R.o;have D:=aD R.o;replace V:=qK V b;obtain⟨⟨x,y,z⟩,_⟩:=cE V.o;have E:=aD V.o;have f0:=aR R.o 0;have f1:=aR R.o 1;have f2:=aR R.o 2;have g1:=aR V.o 1;clear b f
 cases t
 .go_wp2;refine bR (.agg #[.int .i64 1,.int .i64 0,.string ⟨#[]⟩]) ?_;exact QBU
 .go_wp2;refine bR (.agg #[.int .i64 1,.int .i64 1,.string ⟨#[]⟩]) ?_;exact⟨rfl,(((HB1.o.setCell (show w.heap.size<=w.heap.size+1+1+1 by omega) _).setCell (show w.heap.size<=w.heap.size+1+1 by omega) _).setCell (show w.heap.size<=w.heap.size+1+1 by omega) _).setCell (show w.heap.size<=w.heap.size+1+1 by omega) _⟩
theorem Er{ok:nP}(v:Value)(l:List V3)(x:V3)(w:World)(h:aH VR w ok v l):Calls prog 300 #[v,.agg #[.int .i64 x.1,.int .i64 x.2.1,.string x.2.2]] w (aN (.int .i64 (eT (fun y=>decide (x=y)) l)) w):=by
 obtain⟨a,c,rfl,F⟩:=h.slice;have HB0:=aA (aB w (.cells #[.int .i64 x.1,.int .i64 x.2.1,.string x.2.2] 56));have j:=aA (aK w (.cells #[.int .i64 x.1,.int .i64 x.2.1,.string x.2.2] 56) _ rfl);have n:=aA (h.on bH HB0.o);obtain⟨w1,f⟩:=xE (w.alloc (.cells #[.int .i64 x.1,.int .i64 x.2.1,.string x.2.2] 56));rw[<-f] at n HB0 j;have z:=aA f;clear h f;obtain⟨d,e⟩:∃d:V3->Bool,d=(fun y=>decide (x=y)):=⟨_,rfl⟩;have t:=aA e;rw[<-e];clear e;unfold aN;go_enter func300,ntmps300;go_wp2;rw[<-z.o];go_loopw [5,8] (fun _ i wr=>∃k:Nat,k<=l.length/\i=.int .i64 k/\Hid (∀i (hi:i<l.length),i<k->d l[i]=false)/\Hid (Below w1.heap.size w1 wr)) (fun _ i _=>l.length - (intOf i).toNat)
 case atStart=>exact BK
 case round=>
  obtain⟨k,E,rfl,HR,HB⟩:=hrel;by_cases q:k<l.length
  .have hk1:(k:Int)<(l.length:Int):=qo;obtain⟨b,off,r,rfl,_,D,⟨rfl,A⟩,o⟩:=aH.at bH (n.o.on bH HB.o) q qe;obtain⟨C,G,H⟩:=cR3 o;rw[Nat.add_zero] at C;have m:=qK j HB.o;obtain⟨⟨I,J,K⟩,_⟩:=cE m.o;have L:=aD m.o;have p:=EZ x l[k];have HL:Hid (∀g,d l[k]=g->((if g=true then eT d l=(k:Int) else ∀i (hi:i<l.length),i<k+1->d l[i]=false):Prop)):=aA (fun g hg=>by
    cases g
    .exact Xo
    .rw[iP rfl];exact IS q HR.o hg)
   have s:d l[k]=decide (x=l[k]):=by rw[t.o]
   rw[<-s] at p;clear HR o A s;generalize B:l[k]=y at *;generalize d y=g at *;clear B;go_wp2;go_quiet (fail)
   have HB':=aA (fK HB.o ⟨nq,rfl⟩);clear p
   cases g
   .exact Xp
   .exact QCf
  .exact QBM
theorem RM{ok:nP}(v:Value)(l:List V3)(x:V3)(w:World)(h:aH VR w ok v l):Calls prog 292 #[v,.agg #[.int .i64 x.1,.int .i64 x.2.1,.string x.2.2]] w (aN (.bool (l.any (fun y=>decide (x=y)))) w):=by
 have HB0:=aA (aB w (.cells #[.int .i64 x.1,.int .i64 x.2.1,.string x.2.2] 56));have HI:=aA (Er v l x _ (h.on bH HB0.o));have HA:=aA (sY (fun y=>decide (x=y)) l);obtain⟨a,c,rfl,b⟩:=h.slice;unfold aN at *;generalize eT (fun y=>decide (x=y)) l=n at *;clear h;go_enter func292,ntmps292;exact QCh
theorem Wc{ok:nP}(v:Value)(l:List V3)(x:V3)(w:World)(h:aH VR w ok v l):Calls prog 289 #[v,dD x] w (aN (.bool (l.any (fun y=>decide (y=x)))) w):=by
 have HB0:=aA (aB w (.cells #[.int .i64 x.1,.int .i64 x.2.1,.string x.2.2] 56));have HI:=aA (RM v l x _ (h.on bH HB0.o));have e:l.any (fun y=>decide (y=x))=l.any (fun y=>decide (x=y)):=by congr 1;funext y;rw[Bool.eq_iff_iff];simp[eq_comm]
 rw[e];obtain⟨a,c,rfl,b⟩:=h.slice;unfold aN dD at *;generalize l.any (fun y=>decide (x=y))=n at *;clear h e;go_enter func289,ntmps289;go_wp2_with fail;exact St
theorem tC(f:oD)(i g:Nat)(l:List V3)(v:V3)(e m:Int)(w:World):Calls prog 255 #[.agg #[.slice f i g,.int .i64 v.1,.int .i64 v.2.1,.string v.2.2,.int .i64 e],.int .i64 m] w (aN (.bool (It.is ⟨l,v,e⟩ m)) w):=by
 obtain⟨t,a⟩:∃t:Bool,decide (v=(1,m,ByteArray.empty))=t:=⟨_,rfl⟩;have j:∀w,Sem.run prog (binOp .eql 56 (.agg #[.int .i64 v.1,.int .i64 v.2.1,.string v.2.2]) (.agg #[.int .i64 1,.int .i64 m,.string ⟨#[]⟩])) w=.ok (.bool t) w:=by rw[<-a];exact EZ v (1,m,ByteArray.empty)
 have c:Hid (It.is ⟨l,v,e⟩ m=(decide (e=0)&&t)):=aA (by unfold It.is;rw[<-a]);have b:=aA (fun o:Obj=>aB w o);unfold aN;rw[c.o];clear a c;by_cases he:e=0
 .have d:(e==0)=true:=bQ.2 he;rw[dX he,Bool.true_and];clear he;go_enter func255,ntmps255;go_wp2;go_returns;exact⟨rfl,b.o _⟩
 .have d:(e==0)=false:=bN.2 he;rw[dF he,Bool.false_and];clear he;go_enter func255,ntmps255;go_wp2;go_returns;exact⟨rfl,b.o _⟩
theorem GP(b:Bool)(n:Int)(a:(if b=true then (1:Int) else 0)=n)(w:World):Calls prog 288 #[.bool b] w (aN (.agg #[.slice none 0 0,.int .i64 1,.int .i64 n,.string ByteArray.empty,.int .i64 0]) w):=by
 have c:=aA (fun d e:Obj=>aC (aB w d) (aB _ e));unfold aN
 cases b
 .obtain rfl:n=0:=by rw[<-a];rfl
  clear a;go_enter func288,ntmps288;go_wp2;refine bR (.agg #[.slice none 0 0,.int .i64 1,.int .i64 0,.string ⟨#[]⟩,.int .i64 0]) ?_;exact⟨rfl,c.o _ _⟩
 .obtain rfl:n=1:=by rw[<-a];rfl
  clear a;go_enter func288,ntmps288;go_wp2;refine bR (.agg #[.slice none 0 0,.int .i64 1,.int .i64 1,.string ⟨#[]⟩,.int .i64 0]) ?_;exact⟨rfl,c.o _ _⟩
theorem Kg(op:Int)(w:World):Calls prog 274 #[.int .i64 op] w (fun e w'=>e=.returned (.int .i64 (jI op))/\w=w'):=by
 obtain⟨n,a⟩:∃n:Nat,jI op=n:=⟨_,rfl⟩;rw[a];have b:=aA a;clear a;go_enter func274,ntmps274;go_wp2
 all_goals go_returns
 all_goals
  refine⟨?_,rfl⟩;rw[<-b.o];clear b;unfold jI
  simp_all
def vI(op:Int):List V3->V3×Int
 | [a]=>nQ op a
 | [a,b]=>dJ op a b
 |_=>(bD,1)
theorem Kh{ok:nP}(op:Int)(v:Value)(l:List V3)(w:World)(h:aH VR w ok v l)(g:(op=11/\l.length=1)\/(6<=op/\op<=13/\op≠11/\l.length=2)):Calls prog 290 #[.int .i64 op,v] w (eA (vI op l) w):=by
 rcases g with ⟨rfl,f⟩|⟨h6,h13,h11,f⟩
 .obtain⟨a,rfl⟩:=List.length_eq_one_iff.1 f;by_cases c:aT a=true
  .exact Dp v a w h c
  .have d:aT a=false:=by simpa using c
   have e:vI 11 [a]=(bD,1):=by show nQ 11 a=_;unfold nQ;rw[iP d]
   rw[e];exact GA 11 v [a] w h qe qe rfl (by simp[d])
 .obtain⟨a,b,rfl⟩:∃a b,l=[a,b]:=by
   match l,f with
   | [a,b],_=>exact⟨a,b,rfl⟩
  by_cases c:aT a=true/\aT b=true
  .show Calls _ _ _ _ (eA (dJ op a b) w);have:op=6\/op=7\/op=8\/op=9\/op=10\/op=12\/op=13:=qo
   rcases this with rfl|rfl|rfl|rfl|rfl|rfl|rfl
   .exact Iw v a b w h c
   .exact Ix v a b w h c
   .exact Iy v a b w h c
   .exact Iz v a b w h c
   .exact Dl v a b w h c
   .exact Dm v a b w h c
   .exact Dn v a b w h c
  .have d:aT a=false\/aT b=false:=by
    by_cases h1:aT a=true
    .exact .inr (by simpa using fun h2=>c ⟨h1,h2⟩)
    .exact .inl (by simpa using h1)
   have e:vI op [a,b]=(bD,1):=by show dJ op a b=_;unfold dJ;rw[iP d]
   rw[e];refine GA op v [a,b] w h h6 h13 (by unfold SA;rw[iN h11];rfl) ?_
   rcases d with d|d<;>simp[d]
theorem oK:bK 0:=by unfold bK;decide
theorem KX:bK 1:=by unfold bK;decide
theorem KY:bK 2:=by unfold bK;decide
theorem aAA:bK 3:=by unfold bK;decide
theorem kA:cS bD:=⟨oK,oK,qe⟩
theorem nO(b:Bool):cS (cI b):=by
 cases b
 .exact⟨KX,oK,qe⟩
 .exact⟨KX,KX,qe⟩
theorem Qg(a b:V3):bK (jS a b).2:=by
 unfold jS;split
 .exact KX
 split
 .exact KY
 split<;>exact oK
theorem yA{f:Int->Int->Int×Int}(c:∀a b,bK (f a b).1/\bK (f a b).2)(a b:V3):cS (eE f a b).1/\bK (eE f a b).2:=by
 unfold eE;split
 .exact⟨kA,KY⟩
 split
 .exact⟨kA,(c _ _).2⟩
 .exact⟨⟨KY,(c _ _).1,show ByteArray.empty.size<=cQ by decide⟩,oK⟩
theorem NH(x:Int):bK (if kB<=x/\x<=lH then (x,(0:Int)) else (0,3)).1/\bK (if kB<=x/\x<=lH then (x,(0:Int)) else (0,3)).2:=by
 split
 .rename_i h;exact⟨h,oK⟩
 .exact⟨oK,aAA⟩
theorem Ki(op:Int)(l:List V3):cS (vI op l).1/\bK (vI op l).2:=by
 have one:=KX;have two:=KY;have zero:=oK;unfold vI;split
 .unfold nQ;split
  .exact⟨kA,one⟩
  split
  .exact⟨kA,two⟩
  .exact⟨nO _,zero⟩
 .unfold dJ;split
  .exact⟨kA,one⟩
  split
  .split
   .exact⟨kA,two⟩
   .exact⟨nO _,zero⟩
  split
  .split
   .exact⟨kA,Qg _ _⟩
   .exact⟨nO _,zero⟩
  split
  .exact yA (fun a b=>NH (a+b)) _ _
  split
  .exact yA (fun a b=>NH (a - b)) _ _
  split
  .exact yA (fun a b=>NH (a * b)) _ _
  split
  .exact⟨kA,two⟩
  split<;>exact⟨nO _,zero⟩
 .exact⟨kA,one⟩
def BS(w:World)(ok:nP)(x:It)(vb:Value):Prop:=aH VR w ok vb x.bag/\cS x.val/\bK x.err
def sK:Rep It:=fun w ok cs x=>∃vb,cs=[vb,.int .i64 x.val.1,.int .i64 x.val.2.1,.string x.val.2.2,.int .i64 x.err]/\BS w ok x vb
theorem iH:Firm sK 5:={
 aDl:=fun⟨vb,e,h1,h2,h3⟩ b=>⟨vb,e,aH.aDl bH h1 b,h2,h3⟩
 more:=fun⟨vb,e,h1,h2,h3⟩ c=>⟨vb,e,aH.more bH h1 c,h2,h3⟩
 len:=fun⟨vb,e,h⟩=>by rw[e];rfl
 one:=fun⟨vb,e,h⟩=>by
  intro v a;rw[e] at a;simp only[List.mem_cons,List.not_mem_nil,or_false] at a
  rcases a with rfl|rfl|rfl|rfl|rfl
  .exact kU h.1
  .rfl
  .rfl
  .rfl
  .rfl
 inb:=fun⟨vb,e,h1,h2,h3⟩=>⟨vb,e,aH.inb bH h1,h2,h3⟩}
def pF(x:It)(w:World)(e:Ending)(w':World):Prop:=∃vb,e=.returned (.agg #[vb,.int .i64 x.val.1,.int .i64 x.val.2.1,.string x.val.2.2,.int .i64 x.err])/\BS w' (fun b=>w.heap.size<=b) x vb/\Below w.heap.size w w'
theorem lY{x:It}{v:V3}{e:Int}{w w':World}(c:x=jG v e)(b:cS v)(he:bK e)(a:Below w.heap.size w w'):pF x w (.returned (.agg #[.slice none 0 0,.int .i64 v.1,.int .i64 v.2.1,.string v.2.2,.int .i64 e])) w':=by
 subst c;exact⟨_,rfl,⟨aH.nil,b,he⟩,a⟩
theorem Es{w:World}{g:Nat}{a b c d e:Value}:aO (fun k=>k≠g) w (((((w.setCell ⟨g,0,none⟩ a).setCell ⟨g,1,none⟩ b).setCell ⟨g,2,none⟩ c).setCell ⟨g,3,none⟩ d).setCell ⟨g,4,none⟩ e):=
 ((((aI a).trans (aI b)).trans (aI c)).trans (aI d)).trans (aI e)
theorem uG{W w:World}{g:Nat}{a b c d e:Value}(h:Below W.heap.size W w)(f:W.heap.size<=g):Below W.heap.size W (((((w.setCell ⟨g,0,none⟩ a).setCell ⟨g,1,none⟩ b).setCell ⟨g,2,none⟩ c).setCell ⟨g,3,none⟩ d).setCell ⟨g,4,none⟩ e):=
 ((((h.setCell f _).setCell f _).setCell f _).setCell f _).setCell f _
abbrev nC:Array Value:=#[.slice none 0 0,.int .i64 0,.int .i64 0,.string ⟨#[]⟩,.int .i64 0]
theorem Kj{ok ok':nP}(n:No)(a:oP n)(d:Value)(l:List It)(c:Value)(g:List Gv)(w:World)(b:aH sK w ok' d l)(h:aH jM w ok c g)(h1:n.op=1)(i:l=[]):Calls prog 275 #[jJ n,d,c] w (pF (iM g n l) w):=by
 obtain⟨o,gc,rfl,_⟩:=h.slice;obtain⟨la,lc,rfl,p⟩:=b.slice;have j:=aA (aC (aB w (.cells (iQ n) 310)) (aB _ (.cells nC 356)));have k:=aA (aE (aK w (.cells (iQ n) 310) _ rfl) (aB (w.alloc (.cells (iQ n) 310)) (.cells nC 356)));have m:Hid (((w.alloc (.cells (iQ n) 310)).alloc (.cells nC 356)).heap[w.heap.size+1]? =some (.cells nC 356 (0,0))):=aA (aK (w.alloc (.cells (iQ n) 310)) (.cells nC 356) _ qs);subst i;have d1:(n.op==1)=true:=bQ.2 h1;have f:Hid (iM g n []=jG n.val 0):=aA (iP h1);have e:=aA a.2.1;rw[f.o];unfold jJ;clear b h a h1;go_enter func275,ntmps275;go_wp2;refine bR (.agg #[.slice none 0 0,.int .i64 n.val.1,.int .i64 n.val.2.1,.string n.val.2.2,.int .i64 0]) ?_;exact lY rfl e.o oK (aC (aB _ _) (aB _ _))
theorem Kk{ok ok':nP}(n:No)(C:oP n)(t:Value)(l:List It)(s:Value)(g:List Gv)(w:World)(q:aH sK w ok' t l)(h:aH jM w ok s g)(h1:n.op=2)(E:l=[]):Calls prog 275 #[jJ n,t,s] w (pF (iM g n l) w):=by
 obtain⟨R,gc,rfl,_⟩:=h.slice;obtain⟨la,lc,rfl,S⟩:=q.slice;have m:=aA (aC (aB w (.cells (iQ n) 310)) (aB _ (.cells nC 356)));have c:=aA (aE (aK w (.cells (iQ n) 310) _ rfl) (aB (w.alloc (.cells (iQ n) 310)) (.cells nC 356)));have d:Hid (((w.alloc (.cells (iQ n) 310)).alloc (.cells nC 356)).heap[w.heap.size+1]? =some (.cells nC 356 (0,0))):=aA (aK (w.alloc (.cells (iQ n) 310)) (.cells nC 356) _ qs);subst E;have d1:(n.op==1)=false:=bN.2 qo;have d2:(n.op==2)=true:=bQ.2 h1;have p:Hid (iM g n []=⟨(rL g n.aDD).1,bD,(rL g n.aDD).2⟩):=aA (iN qo);have a:=aA (TN _ g n.aDD _ (h.on bZ m.o));rw[p.o];unfold jJ;unfold sZ oG at a;have o:Hid (bK (rL g n.aDD).2):=aA (by unfold rL;split;exact(by unfold bK;decide);exact oK);generalize rL g n.aDD=r at *;obtain⟨bag,B⟩:=r;simp only at a o;clear q h C h1 p;go_enter func275,ntmps275;go_wp2_with fail;refine a.o.mono ?_;rintro e w1 ⟨v,rfl,j,f⟩;obtain⟨z,A,rfl,_⟩:=j.slice;have y:=aA (j.more bH (ok':=fun b=>w.heap.size<=b/\b≠w.heap.size+1) (fun b i=>by simp only[World.size_alloc] at i;exact⟨qo,qo⟩));have x:=qB m f;replace c:=qK c f;obtain⟨⟨F,G,H,I,J,K,L⟩,_⟩:=bJ c.o;have T:=aD c.o;replace d:=qK d f;obtain⟨⟨M,N,O,P,Q⟩,_⟩:=dN d.o;have U:=aD d.o;clear j f a;go_wp2;refine bR (.agg #[.slice z bag.length A,.int .i64 0,.int .i64 0,.string ⟨#[]⟩,.int .i64 B]) ?_;refine⟨_,rfl,⟨?_,kA,o.o⟩,uG x.o (Nat.le_succ _)⟩;exact aH.more bH (aH.aDl bH y.o (Es.mono fun k _ D=>D.2)) (fun b i=>i.1)
theorem Kl{w:World}{ok:nP}{v:Value}{l:List It}(h:aH sK w ok v l){k:Nat}(b:k<l.length):cS l[k].val/\bK l[k].err/\l[k].bag.length<=1000000:=by
 obtain⟨a,c,rfl,_⟩:=h.slice;obtain⟨b',i,r,e,_,f,⟨vb,rfl,hp⟩,g⟩:=aH.at iH h b qe;obtain⟨_,_,_,d⟩:=hp.1.slice;exact⟨hp.2.1,hp.2.2,d⟩
theorem tR{w:World}{ok:nP}{b off n c k:Nat}{l:List It}(h:aH sK w ok (.slice (some ⟨b,off,none⟩) n c) l)(m:k<l.length):
 ∃d f,w.cell? ⟨b,off+k * 5,none⟩=some (.slice d l[k].bag.length f)/\w.cell? ⟨b,off+k * 5+1,none⟩=some (.int .i64 l[k].val.1)/\w.cell? ⟨b,off+k * 5+2,none⟩=some (.int .i64 l[k].val.2.1)/\w.cell? ⟨b,off+k * 5+3,none⟩=some (.string l[k].val.2.2)/\w.cell? ⟨b,off+k * 5+4,none⟩=some (.int .i64 l[k].err)/\
  BS w ok l[k] (.slice d l[k].bag.length f)/\b<w.heap.size:=by
 obtain⟨b',o,r,e,_,j,⟨vb,rfl,hp⟩,a⟩:=aH.at iH h m qe;injection e with e;injection e with g i _;subst g i;obtain⟨d,f,rfl,_⟩:=hp.1.slice;exact⟨d,f,by have:=a 0 _ rfl;rwa [Nat.add_zero] at this,a 1 _ rfl,a 2 _ rfl,a 3 _ rfl,a 4 _ rfl,hp,j⟩
theorem AU{w:World}{ok:nP}{a:oD}{n c:Nat}{l:List It}(h:aH sK w ok (.slice a n c) l)(d:0<l.length):∃b off,a=some ⟨b,off,none⟩:=by
 obtain⟨b',f,r,e,_⟩:=aH.at iH h d qe;exact⟨_,_,e⟩
theorem Qh(l:List It)(k:Nat)(a:k<l.length):(l.take k).map (·.val)++[l[k].val]=(l.take (k+1)).map (·.val):=by
 rw[List.take_succ_eq_append_getElem a,List.map_append];rfl
def xO(n:No)(l:List It):Prop:=(n.op=3/\l.length=1)\/(n.op=4/\l.length=1)\/(n.op=5/\l.length=2)\/((n.op=11/\l.length=1)\/(6<=n.op/\n.op<=13/\n.op≠11/\l.length=2))
def xP(n:No)(l:List It):Prop:=(n.op=12\/n.op=13)/\∃a b,l=[a,b]/\(a.is (n.op - 12)=true\/b.is (n.op - 12)=true)
theorem YR{g:List Gv}{n:No}{l:List It}(h:xP n l):iM g n l=jG (cI (decide (n.op=13))) 0:=by
 obtain⟨h1,a,b,rfl,h2⟩:=h;show (if (n.op=12\/n.op=13)/\(a.is (n.op - 12)=true\/b.is (n.op - 12)=true) then jG (cI (decide (n.op=13))) 0 else _)=_;rw[iP ⟨h1,h2⟩]
theorem uH{g:List Gv}{n:No}{a:It}:iM g n [a]=if a.err≠0 then jG bD a.err else if n.op=3 then (match a.bag with | [v]=>jG v 0|_=>jG bD 4) else if n.op=4 then jG (2,a.bag.length,ByteArray.empty) 0 else jG (nQ n.op a.val).1 (nQ n.op a.val).2:=rfl
theorem DW{g:List Gv}{n:No}{a b:It}(h:¬xP n [a,b]):iM g n [a,b]=if a.err≠0 then jG bD a.err else if b.err≠0 then jG bD b.err else if n.op=5 then jG (cI (a.bag.any (fun v=>decide (v=b.val)))) 0 else jG (dJ n.op a.val b.val).1 (dJ n.op a.val b.val).2:=by
 show (if (n.op=12\/n.op=13)/\(a.is (n.op - 12)=true\/b.is (n.op - 12)=true) then _ else _)=_;rw[iN (fun h2=>h ⟨h2.1,a,b,rfl,h2.2⟩)]
theorem PQ{g:List Gv}{n:No}{l:List It}(d:l.length=1\/l.length=2)(he:¬xP n l){k:Nat}(c:k<l.length)(h0:∀i (e:i<l.length),i<k->l[i].err=0)(h1:l[k].err≠0):iM g n l=jG bD l[k].err:=by
 match l,d with
 | [a],_=>
   obtain rfl:k=0:=by simp at c;omega
   rw[uH,iP (show a.err≠0 from h1)];rfl
 | [a,b],_=>
   rw[DW he]
   match k,c with
   |0,_=>rw[iP (show a.err≠0 from h1)];rfl
   |1,_=>
    have h2:a.err=0:=h0 0 qs qo;rw[iN (fun h=>h h2),iP (show b.err≠0 from h1)];rfl
theorem Et{g:List Gv}{n:No}{l:List It}(d:(n.op=11/\l.length=1)\/(6<=n.op/\n.op<=13/\n.op≠11/\l.length=2))(he:¬xP n l)(h0:∀i (e:i<l.length),l[i].err=0):iM g n l=jG (vI n.op (l.map (·.val))).1 (vI n.op (l.map (·.val))).2:=by
 rcases d with ⟨f,c⟩|⟨h6,h13,h11,c⟩
 .match l,c with
  | [a],_=>
    rw[uH,iN (fun h=>h (h0 0 qs)),iN qo,iN qo];rfl
 .match l,c with
  | [a,b],_=>
    rw[DW he,iN (fun h=>h (h0 0 qs)),iN (fun h=>h (h0 1 qs)),iN qo];rfl
end Go.Proofs.YtbpimcljljlbnaaGreatDoor
