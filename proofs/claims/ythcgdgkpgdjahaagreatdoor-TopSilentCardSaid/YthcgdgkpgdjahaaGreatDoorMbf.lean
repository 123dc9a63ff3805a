/- Lemmas. -/
import Derived.Test.YthcgdgkpgdjahaaGreatDoorMat
namespace Go.Proofs.YthcgdgkpgdjahaaGreatDoor
open Go.RowKit
set_option linter.unusedVariables false
set_option linter.unusedSimpArgs false
set_option maxHeartbeats 16000000
open _root_.Go.Proofs.Tryz
set_option maxRecDepth 20000
theorem QCx{p:Prop}(h:p:=by
 go_wp2;go_roundw
 case rel=>exact⟨k+1,qo,by go_num,aA (by rw[HFX.o,HDU.o];exact HBV.o)⟩
 case measure=>simp[intOf];omega):p:=h
theorem QBE{p:Prop}(h:p:=by
 rintro e w2 ⟨rfl,hb2⟩;have HB2:=aA hb2;clear b0 b1 b2 b3 b4 b5 b6 b7 b8 b9 b10 b11 y0 y1 y2 hb2 bz yz;go_wp2;go_roundw
 case rel=>exact⟨k+1,qo,by go_num,aA (by rw[HFX.o,HDU.o];exact HBV.o.trans HB2.o)⟩
 case measure=>simp[intOf];omega):p:=h
def aAp(K:nP)(base B:Nat)(w w':World)(s:Sto):Prop:=∃K':nP,(∀b,K b->K' b)/\(∀b,K' b->K b\/base<=b)/\iE K' base B w w' s
theorem ZU{K ai:nP}{base B:Nat}(o:Op)(ho:iU o)(s:Sto)(va:Value)(l:List Ob)(done:Bool)(w:World)(g:¬K B)(J:B<base)(hl:aH kE w ai va l)(au:∀b,ai b->b<base/\b≠B)(n:Nat)(hn:kP n s)(ah:n+l.length<=980000)(h:iE K base B w w s):
 Calls prog 43 #[.pointer (some ⟨B,0,none⟩),eZ o,va,.bool done] w (fun e w'=>e=.returned (.tuple #[])/\aAp K base B w w' (l.foldl (cU o done) s)):=by
 obtain⟨a,c,rfl,bq⟩:=hl.slice;obtain⟨O2,af⟩:∃O:Obj,O=.cells (bX o) 32:=⟨_,rfl⟩;obtain⟨W0,A⟩:=xE (w.alloc O2);have M:Below w.heap.size w W0:=by rw[A];exact aB _ _
 have bp:=h.size;have bl:W0.heap.size=w.heap.size+1:=by rw[A];simp
 have av:W0.heap[w.heap.size]? =some O2:=by rw[A];exact aK _ _ _ rfl
 obtain⟨K',ae⟩:∃K':nP,K'=fun b=>K b\/(w.heap.size<=b/\b<W0.heap.size):=⟨_,rfl⟩
 have ax:Hid (iE K' base B W0 W0 s):=aA (ae▸h.aEE M);have j:Hid ((∀b,K b->K' b)/\(∀b,K' b->K b\/base<=b)/\¬K' B/\K' w.heap.size):=aA (by
  subst ae;exact⟨fun b f=> .inl f,fun b f=>f.imp id (fun h=>by omega),fun f=>f.elim g (fun h=>by omega),.inr ⟨lR _,qo⟩⟩)
 have a1:=aA (fun k (q:k<l.length)=>Ki (cU o done) l s q);have a7:Hid (∀k,k<=l.length->kP (n+k) ((l.take k).foldl (cU o done) s)):=aA (fun k q=>by
  have:=yD o done (l.take k) n s hn;rwa [List.length_take,Nat.min_eq_left q] at this)
 have G:=aA ah;have be:=aA (show ∀wr,aN (fun b=>(b<base/\b≠B)\/K' b) W0 wr->aH kE wr ai (.slice a l.length c) l from fun wr hs=>(hl.on aO M).aDW aO (hs.mono fun b _ f=> .inl (au b f)));have bb:=aA (show ∀wr,aN (fun b=>(b<base/\b≠B)\/K' b) W0 wr->wr.heap[w.heap.size]? =some (.cells (bX o) 32 (0,0)) from fun wr hs=>af▸aF av hs (.inr j.o.2.2.2));have ay:Hid (∀wr,iE K' base B W0 wr (l.foldl (cU o done) s)->aAp K base B w wr (l.foldl (cU o done) s)):=aA (fun wr f=>by
  obtain⟨L,ro,vc,vr,vn,vo,vt,vu,vk,vb,h1,h2,h3⟩:=f;exact⟨K',j.o.1,j.o.2.1,L,ro,vc,vr,vn,vo,vt,vu,vk,vb,h1,h2,(aJ M).trans h3⟩)
 have Z:=aA ho;rw[af] at A;unfold eZ bX at *;have bh:=aA A;clear A M av h hl au hn ae g ho af bl ah;go_enter func43,ntmps43;go_upto_region 1 with (fail)
 rw[<-bh.o];go_wp2;go_loopw [9,12] (fun _ i wr=>∃(k:Nat),k<=l.length/\i=.int .i64 k/\Hid (iE K' base B W0 wr ((l.take k).foldl (cU o done) s))) (fun _ i _=>l.length - (intOf i).toNat)
 case atStart=>exact⟨0,Nat.zero_le _,rfl,aA ax.o⟩
 case round=>
  obtain⟨k,q,rfl,y⟩:=hrel;by_cases R:k<l.length
  .have bk:(k:Int)<(l.length:Int):=qo;obtain⟨b,off,r,rfl,_,bo,⟨rfl,aq⟩,p⟩:=aH.at aO (be.o wr y.o.stays) R qe;obtain⟨x0,x1,x2⟩:=cR3 p;rw[Nat.add_zero] at x0;have HFX:Hid ((l.take (k+1)).foldl (cU o done) s=cU o done ((l.take k).foldl (cU o done) s) l[k]):=aA (a1.o k R);obtain⟨Y,F,bn,bc⟩:=dH aq (a7.o k (Nat.le_of_lt R)) R (bb.o wr y.o.stays);clear p aq;generalize l[k]=x at *;generalize (l.take k).foldl (cU o done) s=t at *;obtain⟨d,S⟩:=xE (wr.alloc (.cells #[.int .i64 x.on,.int .i64 x.aDN,.string x.arg] 180));have P:Below wr.heap.size wr d:=by rw[S];exact aB _ _
   have X:Hid (d.heap[wr.heap.size]? =some (.cells #[.int .i64 x.on,.int .i64 x.aDN,.string x.arg] 180 (0,0))):=aA (by rw[S];exact aK _ _ _ rfl);obtain⟨C,HBV,bg,W⟩:=dH (aE bc.o P) (y.o.more P) S P;clear S P;go_upto_region 4 with (fail)
   rw[<-bg.o];obtain⟨⟨b0,b1,b2,b3,b4,b5,b6,b7,b8,b9,b10,b11⟩,_⟩:=bK C.o;have bz:=aD C.o;obtain⟨⟨y0,y1,y2⟩,_⟩:=cF X.o;have yz:=aD X.o;have aa:=aA (fun (p:x.arg.size<=cQ)=>Qu o Z.o t x.arg p d j.o.2.2.1 J (qD F.o.aDO G.o) (fun c p=>qD (F.o.aEf c p) G.o) HBV.o.here);have ab:=aA (fun (p:x.arg.size<=cQ)=>VH o Z.o t x.arg p d j.o.2.2.1 J (qD F.o.aDQ G.o) HBV.o.here);unfold eZ bX at aa ab;clear x0 x1 x2;by_cases h1:x.aDN=1
   .have e1:(x.aDN==(1:Int))=true:=bQ.2 h1;have e3:(x.aDN==(3:Int))=false:=bN.2 qo;have e4:(x.aDN==(4:Int))=false:=bN.2 qo;have H1:=aA h1;clear h1
    cases ao:done
    .subst ao;have HDU:Hid (cU o false t x=t):=aA (by unfold cU;rw[iN (fun h=>by cases h.2),iN (qA H1.o),iN (qA H1.o)]);exact QCx
    .subst ao;have HDU:Hid (cU o true t x=mE t o x.arg):=aA (by unfold cU;rw[iP ⟨H1.o,rfl⟩]);go_wp2_with fail;refine(aa.o Y.o.2.2).mono ?_;exact QBE
   .have e1:(x.aDN==(1:Int))=false:=bN.2 h1;have H1:=aA h1;clear h1;by_cases h3:x.aDN=3
    .have e3:(x.aDN==(3:Int))=true:=bQ.2 h3;have D:=aA h3;clear h3;have HDU:Hid (cU o done t x=gG t o x.arg):=aA (by unfold cU;rw[iN (fun h=>H1.o h.1),iP D.o]);go_wp2_with fail;refine(ab.o Y.o.2.2).mono ?_;exact QBE
    .have e3:(x.aDN==(3:Int))=false:=bN.2 h3;have D:=aA h3;clear h3;by_cases h4:x.aDN=4
     .have e4:(x.aDN==(4:Int))=true:=bQ.2 h4;have H4:=aA h4;clear h4;have HDU:Hid (cU o done t x={t with aDV:=t.aDV++[⟨t.aDX,o.aDU,x.arg⟩]}):=aA (by unfold cU;rw[iN (fun h=>H1.o h.1),iN D.o,iP H4.o]);go_upto_region 9 with (fail)
      obtain⟨L,ro,vc,vr,vn,vo,vt,vu,vk,vb,ag,z,aw⟩:=y.o;obtain⟨T,U,rfl⟩:=z.aDV.slice;obtain⟨I,N⟩:∃O:Obj,O=.cells (aX t vc vr (.slice T t.aDV.length U) vo vt vu vk vb) 62:=⟨_,rfl⟩;rw[<-N] at ag;have E:Hid (∀(w':World),(w'.heap[B]? =some I/\w'.heap[w.heap.size]? =d.heap[w.heap.size]? /\w'.heap[wr.heap.size]? =d.heap[wr.heap.size]?)->w'.cell? ⟨B,0,none⟩=some (.int .i64 t.aDX)/\w'.cell? ⟨B,3,none⟩=some (.slice T t.aDV.length U)/\w'.frozen? ⟨B,3,none⟩=false/\B<w'.heap.size/\w'.cell? ⟨w.heap.size,2,none⟩=some (.string o.aDU)/\w.heap.size<w'.heap.size/\w'.cell? ⟨wr.heap.size,2,none⟩=some (.string x.arg)/\wr.heap.size<w'.heap.size):=aA (fun w' q=>by
       have h1:=q.1;have h2:=q.2.1.trans C.o;have h3:=q.2.2.trans X.o;rw[N] at h1;exact⟨aQ h1 0 _ rfl,aQ h1 3 _ rfl,aR h1 3,aD h1,aQ h2 2 _ rfl,aD h2,aQ h3 2 _ rfl,aD h3⟩)
      have a8:=aA N;have ad:=aA (z.on W.o);have H:Hid (d.heap[B]? =some I/\d.heap[w.heap.size]? =d.heap[w.heap.size]? /\d.heap[wr.heap.size]? =d.heap[wr.heap.size]?):=aA ⟨aE ag W.o,rfl,rfl⟩;have ak:Hid (some w.heap.size≠(Value.slice T t.aDV.length U).ownBlock/\some wr.heap.size≠(Value.slice T t.aDV.length U).ownBlock):=aA ⟨(z.kept _ j.o.2.2.2).2.2.2.1,fun e=>qA ((z.aDV.lt _ e.symm).2)⟩;have bf:=aA aw;have ah:t.aDV.length<=990000:=qD F.o.aDV G.o;have bj:FH ⟨t.aDX,o.aDU,x.arg⟩:=⟨z.aDX,Z.o.2.2.1,Y.o.2.2⟩;clear z N ag aw b0 b1 b2 b3 b4 b5 b6 b7 b8 b9 b10 b11 bz y0 y1 y2 yz ab aa;obtain⟨c0,c3,f3,v,b2,bz,y2,yz⟩:=E.o _ H.o;refine cD 18 [(0,false),(1,false),(2,false),(3,false),(4,false),(5,false),(6,false),(7,false),(8,false),(9,false),(10,false),(11,false),(12,false),(13,false),(14,true),(15,true),(16,false),(17,false)] [(18,true)] (fun w'=>w'.heap[B]? =some I/\w'.heap[w.heap.size]? =d.heap[w.heap.size]? /\w'.heap[wr.heap.size]? =d.heap[wr.heap.size]?) (by kernel_rfl) (by kernel_rfl) H.o ?_;simp only[List.cons_append,List.nil_append]
      repeat (refine dG rfl (fun K g=> ?_);unfold rd;go_simp;refine g _ (fun bm h1=> ?_) ?_;(· clear g K c0 c3 f3 v b2 bz y2 yz;obtain⟨c0,c3,f3,v,b2,bz,y2,yz⟩:=E.o _ h1;unfold rd;go_simp);clear g K)
      refine bJ rfl (fun K1 m=> ?_);unfold mv;go_simp;refine m _ _ (fun _=>⟨aE H.o.1 (aB _ _).drew,(aB _ _).drew.block _ bz,(aB _ _).drew.block _ yz⟩) ?_;clear m K1;refine bJ rfl (fun K1 m=> ?_);unfold mv;refine jA (base:=base) Uc eD rfl (.tmp 45) (.tmp 55) rfl _ t.aDV rfl (ad.o.aDV.on eD (aB _ _).drew) d.heap.size 1 _ _ _ ⟨t.aDX,o.aDU,x.arg⟩ rfl (aK _ _ _ rfl) ⟨rfl,bj⟩ qo qe (lT ad.o.size (aB _ _).drew.size) ?_;intro l' ar A' c' V hG Q an;obtain⟨aj,ba,bd⟩:=VM (w:=d) (ad.o.on (aB _ _).drew) (aE H.o.1 (aB _ _).drew) J (aB _ _).drew Q hG an;have al:Hid (V.heap[B]? =some I/\V.heap[w.heap.size]? =d.heap[w.heap.size]? /\V.heap[wr.heap.size]? =d.heap[wr.heap.size]?):=aA ⟨aj.o,(gP C.o (aB _ _).drew Q ak.o.1).trans C.o.symm,(gP X.o (aB _ _).drew Q ak.o.2).trans X.o.symm⟩;have a6:=aA ar.o;refine m _ _ (fun _=>al.o) ?_;clear m K1 hG Q an ar c0 c3 f3 v b2 bz y2 yz;obtain⟨c0,c3,f3,v,b2,bz,y2,yz⟩:=E.o _ al.o
      repeat (refine dG rfl (fun K g=> ?_);unfold rd;go_simp;refine g _ (fun bm h1=> ?_) ?_;(· clear g K c0 c3 f3 v b2 bz y2 yz;obtain⟨c0,c3,f3,v,b2,bz,y2,yz⟩:=E.o _ h1;unfold rd;go_simp);clear g K)
      refine bJ rfl (fun K1 m=> ?_);unfold mv;go_simp;refine m _ _ (fun h=>absurd h qe) ?_;clear m K1 c0 c3 f3 v b2 bz y2 yz;unfold cJ;have az:Hid (iE K' base B W0 (V.setCell ⟨B,3,none⟩ (.slice A' l'.length c')) (cU o done t x)):=aA (by
       rw[HDU.o,<-a6.o];exact⟨L,ro,vc,vr,_,vo,vt,vu,vk,vb,aG (a8.o▸aj.o) 3 _,bD.off ba.o j.o.2.2.1 J,((bf.o.trans (aJ W.o)).trans bd.o).trans ((aI _).mono (fun b _ f=>f.elim (fun h=>h.2) (fun h e=>j.o.2.2.1 (e▸h))))⟩)
      go_wp2;go_roundw
      case rel=>exact⟨k+1,qo,by go_num,aA (by rw[HFX.o];exact az.o)⟩
      case measure=>simp[intOf];omega
     .have e4:(x.aDN==(4:Int))=false:=bN.2 h4;have HDU:Hid (cU o done t x=t):=aA (by unfold cU;rw[iN (fun h=>H1.o h.1),iN D.o,iN h4]);clear h4;exact QCx
  .have bk:¬(k:Int)<(l.length:Int):=qo;obtain rfl:k=l.length:=qo;have HE:Hid (iE K' base B W0 wr (l.foldl (cU o done) s)):=aA (by have:=y.o;rwa [List.take_of_length_le (lR _)] at this);clear y;go_wp2;go_returns;exact⟨rfl,ay.o wr HE.o⟩
def eP(lo:Nat)(w:World)(L:List (Nat×V3)):Prop:=lo<=w.heap.size/\∀x∈L,lo<=x.1/\w.heap[x.1]? =some (.cells (JF x.2).toArray 30 (0,0))
theorem eP.nil{lo:Nat}{w:World}(h:lo<=w.heap.size):eP lo w []:=⟨h,fun x a=>by cases a⟩
theorem eP.on{lo:Nat}{w w':World}{L:List (Nat×V3)}(h:eP lo w L)(a:Below w.heap.size w w'):eP lo w' L:=⟨lT h.1 a.size,fun x b=>⟨(h.2 x b).1,aE (h.2 x b).2 a⟩⟩
theorem eP.push{lo:Nat}{w w':World}{L:List (Nat×V3)}{a b:Int}{c:bY}(h:eP lo w L)(e:Below (w.alloc (.cells #[.int .i64 a,.int .i64 b,.string c] 30)).heap.size (w.alloc (.cells #[.int .i64 a,.int .i64 b,.string c] 30)) w'):eP lo w' (L++[(w.heap.size,(a,b,c))]):=by
 have h2:=eP.on (h.on (aB w (.cells #[.int .i64 a,.int .i64 b,.string c] 30))) e;refine⟨h2.1,fun x d=> ?_⟩
 rcases List.mem_append.1 d with d|d
 .exact h2.2 x d
 .rw[List.mem_singleton] at d;subst d;exact⟨h.1,aE (aK w _ _ rfl) e⟩
theorem eP.aEO{lo:Nat}{w w':World}{L:List (Nat×V3)}{a b:Int}{c:bY}{a2 b2:Int}{c2:bY}(h:eP lo w L)(d:Below ((w.alloc (.cells #[.int .i64 a,.int .i64 b,.string c] 30)).alloc (.cells #[.int .i64 a2,.int .i64 b2,.string c2] 30)).heap.size ((w.alloc (.cells #[.int .i64 a,.int .i64 b,.string c] 30)).alloc (.cells #[.int .i64 a2,.int .i64 b2,.string c2] 30)) w'):eP lo w' ((L++[(w.heap.size,(a,b,c))])++[(w.heap.size+1,(a2,b2,c2))]):=by
 have h1:=eP.push (a:=a) (b:=b) (c:=c) h (Below.refl _ _);have h2:=eP.push h1 d;rw[World.size_alloc] at h2;exact h2
theorem Xn{w:World}{ok:nP}{b:Nat}{v:V3}(a:w.heap[b]? =some (.cells (JF v).toArray 30 (0,0)))(d:ok b)(c:cS v):aH VR w ok (.slice (some ⟨b,0,none⟩) 1 1) [v]:=by
 refine⟨some ⟨b,0,none⟩,1,JF v,rfl,fun _=>⟨b,0,rfl,d,fun i x e=> ?_⟩,aW.one ⟨rfl,c⟩,qs⟩;have h:=aQ a i x (by simpa using e);rw[Nat.zero_add];exact h
theorem aM.many{α:Type}{R:Rep α}{s:Nat}{e:TypeId}{w:World}{base:Nat}{ok:nP}{b n:Nat}{cs:Array Value}{l:List α}(F:Firm R s)(j:0<s)(g:l.length=n)(i:0<n)(d:w.heap[b]? =some (.cells cs e (0,0)))(f:base<=b)(c:aW (R w (fun x=>ok x/\x<w.heap.size/\x≠b)) cs.toList l)(k:n<=1000):aM R s e w base ok (.slice (some ⟨b,0,none⟩) n n) l:=by
 subst g;have hlen:=c.len (fun _ _ a=>F.len a);rw[Array.length_toList] at hlen;refine⟨cs.toList,⟨by rw[Array.length_toList,hlen],.inr ⟨b,l.length,cs,rfl,f,d,lR _,by unfold maxLen;omega,hlen,?_⟩⟩,c.mono fun r x a=>F.more a fun x h=>⟨h.1,h.2.1,fun e=>h.2.2 (by injection e)⟩⟩;exact List.take_of_length_le (by rw[Array.length_toList];omega)
theorem vZ(s:bY)(w:World):Calls prog 81 #[.string s] w (aP (.agg #[.int .i64 5,.int .i64 0,.string s]) w):=by
 unfold aP;go_enter func81,ntmps81;go_wp2;refine bR (.agg #[.int .i64 5,.int .i64 0,.string s]) ?_;exact⟨rfl,aB _ _⟩
theorem nN(cat:Int)(n:bY)(a:oD)(l c:Nat)(w:World):Calls prog 82 #[.int .i64 cat,.string n,.slice a l c] w (aP (.agg #[.int .i64 cat,.string n,.slice a l c]) w):=by
 unfold aP;go_enter func82,ntmps82;go_wp2;refine bR (.agg #[.int .i64 cat,.string n,.slice a l c]) ?_;exact⟨rfl,aB _ _⟩
theorem Lw{ok:nP}(c:cB)(j k:Value)(N:bY)(w:World)(h:pD w ok c j k):Calls prog 142 #[.agg #[.string c.id,.string c.aEg,.string c.aD9,j,k],.string N] w (aP (dC (cI (c.log.any (fun h=>decide (h.aEn=N))))) w):=by
 obtain⟨g,i,rfl,_⟩:=h.2.2.2.1.slice;obtain⟨la,lc,rfl,_⟩:=h.2.2.2.2.slice;obtain⟨W0,a⟩:=xE ((((w.alloc (.cells (pH c g i la lc) 113)).alloc (.cells #[.string N] 9)).alloc (.cells fW 30)).alloc (.cells #[.int .i64 1,.int .i64 0,.string ⟨#[]⟩] 30));have d:Hid (Below w.heap.size w W0):=aA (by rw[a];exact aC (aC (aC (aB _ _) (aB _ _)) (aB _ _)) (aB _ _));have A:Hid (W0.heap[w.heap.size]? =some (.cells (pH c g i la lc) 113 (0,0))):=aA (by rw[a];exact aE (aE (aE (aK _ _ _ rfl) (aB _ _)) (aB _ _)) (aB _ _));have B:Hid (W0.heap[w.heap.size+1]? =some (.cells #[.string N] 9 (0,0))):=aA (by rw[a];exact aE (aE (aK _ _ _ qs) (aB _ _)) (aB _ _));have R:Hid (W0.heap[w.heap.size+1+1]? =some (.cells fW 30 (0,0))):=aA (by rw[a];exact aE (aK _ _ _ qs) (aB _ _));have V:Hid (W0.heap[w.heap.size+1+1+1]? =some (.cells #[.int .i64 1,.int .i64 0,.string ⟨#[]⟩] 30 (0,0))):=aA (by rw[a];exact aK _ _ _ qs);have l:=aA a;have f:=aA (ZF _ c.log N (w.heap.size+1) W0 (aH.on cE h.2.2.2.2 d.o) ⟨aQ B.o 0 _ rfl,aD B.o⟩);generalize c.log.any (fun h=>decide (h.aEn=N))=t at *;unfold aP at *;clear h a;go_enter func142,ntmps142;go_wp2_with fail;rw[<-l.o];refine f.o.mono ?_;rintro e w1 ⟨rfl,b⟩;have HB1:=qB d b;replace A:=qK A b;obtain⟨⟨m,n,o,p,q⟩,_⟩:=dM A.o;have C:=aD A.o;replace R:=qK R b;obtain⟨⟨r,s,v⟩,_⟩:=cF R.o;have D:=aD R.o;replace V:=qK V b;obtain⟨⟨x,y,z⟩,_⟩:=cF V.o;have E:=aD V.o;have f0:=aR R.o 0;have f1:=aR R.o 1;have f2:=aR R.o 2;have g1:=aR V.o 1;clear b f
 cases t
 .go_wp2;refine bR (.agg #[.int .i64 1,.int .i64 0,.string ⟨#[]⟩]) ?_;exact QBT
 .go_wp2;refine bR (.agg #[.int .i64 1,.int .i64 1,.string ⟨#[]⟩]) ?_;exact⟨rfl,(((HB1.o.setCell (show w.heap.size<=w.heap.size+1+1+1 by omega) _).setCell (show w.heap.size<=w.heap.size+1+1 by omega) _).setCell (show w.heap.size<=w.heap.size+1+1 by omega) _).setCell (show w.heap.size<=w.heap.size+1+1 by omega) _⟩
theorem Ga{ok:nP}(v:Value)(l:List V3)(x:V3)(w:World)(h:aH VR w ok v l):Calls prog 295 #[v,.agg #[.int .i64 x.1,.int .i64 x.2.1,.string x.2.2]] w (aP (.int .i64 (fA (fun y=>decide (x=y)) l)) w):=by
 obtain⟨a,c,rfl,F⟩:=h.slice;have HB0:=aA (aB w (.cells #[.int .i64 x.1,.int .i64 x.2.1,.string x.2.2] 30));have j:=aA (aK w (.cells #[.int .i64 x.1,.int .i64 x.2.1,.string x.2.2] 30) _ rfl);have n:=aA (h.on bG HB0.o);obtain⟨w1,f⟩:=xE (w.alloc (.cells #[.int .i64 x.1,.int .i64 x.2.1,.string x.2.2] 30));rw[<-f] at n HB0 j;have z:=aA f;clear h f;obtain⟨d,e⟩:∃d:V3->Bool,d=(fun y=>decide (x=y)):=⟨_,rfl⟩;have t:=aA e;rw[<-e];clear e;unfold aP;go_enter func295,ntmps295;go_wp2;rw[<-z.o];go_loopw [5,8] (fun _ i wr=>∃k:Nat,k<=l.length/\i=.int .i64 k/\Hid (∀i (hi:i<l.length),i<k->d l[i]=false)/\Hid (Below w1.heap.size w1 wr)) (fun _ i _=>l.length - (intOf i).toNat)
 case atStart=>exact BU
 case round=>
  obtain⟨k,E,rfl,HR,HB⟩:=hrel;by_cases q:k<l.length
  .have hk1:(k:Int)<(l.length:Int):=qo;obtain⟨b,off,r,rfl,_,D,⟨rfl,A⟩,o⟩:=aH.at bG (n.o.on bG HB.o) q qe;obtain⟨C,G,H⟩:=cR3 o;rw[Nat.add_zero] at C;have m:=qK j HB.o;obtain⟨⟨I,J,K⟩,_⟩:=cF m.o;have L:=aD m.o;have p:=FR x l[k];have HL:Hid (∀g,d l[k]=g->((if g=true then fA d l=(k:Int) else ∀i (hi:i<l.length),i<k+1->d l[i]=false):Prop)):=aA (fun g hg=>by
    cases g
    .exact Zb
    .rw[iP rfl];exact JP q HR.o hg)
   have s:d l[k]=decide (x=l[k]):=by rw[t.o]
   rw[<-s] at p;clear HR o A s;generalize B:l[k]=y at *;generalize d y=g at *;clear B;go_wp2;go_quiet (fail)
   have HB':=aA (gB HB.o ⟨nq,rfl⟩);clear p
   cases g
   .exact Zc
   .exact QCd
  .exact QBL
theorem SQ{ok:nP}(v:Value)(l:List V3)(x:V3)(w:World)(h:aH VR w ok v l):Calls prog 287 #[v,.agg #[.int .i64 x.1,.int .i64 x.2.1,.string x.2.2]] w (aP (.bool (l.any (fun y=>decide (x=y)))) w):=by
 have HB0:=aA (aB w (.cells #[.int .i64 x.1,.int .i64 x.2.1,.string x.2.2] 30));have HI:=aA (Ga v l x _ (h.on bG HB0.o));have HA:=aA (tK (fun y=>decide (x=y)) l);obtain⟨a,c,rfl,b⟩:=h.slice;unfold aP at *;generalize fA (fun y=>decide (x=y)) l=n at *;clear h;go_enter func287,ntmps287;exact QCf
theorem Xo{ok:nP}(v:Value)(l:List V3)(x:V3)(w:World)(h:aH VR w ok v l):Calls prog 284 #[v,dC x] w (aP (.bool (l.any (fun y=>decide (y=x)))) w):=by
 have HB0:=aA (aB w (.cells #[.int .i64 x.1,.int .i64 x.2.1,.string x.2.2] 30));have HI:=aA (SQ v l x _ (h.on bG HB0.o));have e:l.any (fun y=>decide (y=x))=l.any (fun y=>decide (x=y)):=by congr 1;funext y;rw[Bool.eq_iff_iff];simp[eq_comm]
 rw[e];obtain⟨a,c,rfl,b⟩:=h.slice;unfold aP dC at *;generalize l.any (fun y=>decide (x=y))=n at *;clear h e;go_enter func284,ntmps284;go_wp2_with fail;exact Uf
theorem tO(f:oD)(i g:Nat)(l:List V3)(v:V3)(e m:Int)(w:World):Calls prog 250 #[.agg #[.slice f i g,.int .i64 v.1,.int .i64 v.2.1,.string v.2.2,.int .i64 e],.int .i64 m] w (aP (.bool (It.is ⟨l,v,e⟩ m)) w):=by
 obtain⟨t,a⟩:∃t:Bool,decide (v=(1,m,ByteArray.empty))=t:=⟨_,rfl⟩;have j:∀w,Sem.run prog (binOp .eql 30 (.agg #[.int .i64 v.1,.int .i64 v.2.1,.string v.2.2]) (.agg #[.int .i64 1,.int .i64 m,.string ⟨#[]⟩])) w=.ok (.bool t) w:=by rw[<-a];exact FR v (1,m,ByteArray.empty)
 have c:Hid (It.is ⟨l,v,e⟩ m=(decide (e=0)&&t)):=aA (by unfold It.is;rw[<-a]);have b:=aA (fun o:Obj=>aB w o);unfold aP;rw[c.o];clear a c;by_cases he:e=0
 .have d:(e==0)=true:=bQ.2 he;rw[dX he,Bool.true_and];clear he;go_enter func250,ntmps250;go_wp2;go_returns;exact⟨rfl,b.o _⟩
 .have d:(e==0)=false:=bN.2 he;rw[dF he,Bool.false_and];clear he;go_enter func250,ntmps250;go_wp2;go_returns;exact⟨rfl,b.o _⟩
theorem IN(b:Bool)(n:Int)(a:(if b=true then (1:Int) else 0)=n)(w:World):Calls prog 283 #[.bool b] w (aP (.agg #[.slice none 0 0,.int .i64 1,.int .i64 n,.string ByteArray.empty,.int .i64 0]) w):=by
 have c:=aA (fun d e:Obj=>aC (aB w d) (aB _ e));unfold aP
 cases b
 .obtain rfl:n=0:=by rw[<-a];rfl
  clear a;go_enter func283,ntmps283;go_wp2;refine bR (.agg #[.slice none 0 0,.int .i64 1,.int .i64 0,.string ⟨#[]⟩,.int .i64 0]) ?_;exact⟨rfl,c.o _ _⟩
 .obtain rfl:n=1:=by rw[<-a];rfl
  clear a;go_enter func283,ntmps283;go_wp2;refine bR (.agg #[.slice none 0 0,.int .i64 1,.int .i64 1,.string ⟨#[]⟩,.int .i64 0]) ?_;exact⟨rfl,c.o _ _⟩
theorem Lx(op:Int)(w:World):Calls prog 269 #[.int .i64 op] w (fun e w'=>e=.returned (.int .i64 (jR op))/\w=w'):=by
 obtain⟨n,a⟩:∃n:Nat,jR op=n:=⟨_,rfl⟩;rw[a];have b:=aA a;clear a;go_enter func269,ntmps269;go_wp2
 all_goals go_returns
 all_goals
  refine⟨?_,rfl⟩;rw[<-b.o];clear b;unfold jR
  simp_all
def vQ(op:Int):List V3->V3×Int
 | [a]=>oC op a
 | [a,b]=>dI op a b
 |_=>(aY,1)
theorem Ly{ok:nP}(op:Int)(v:Value)(l:List V3)(w:World)(h:aH VR w ok v l)(g:(op=11/\l.length=1)\/(6<=op/\op<=13/\op≠11/\l.length=2)):Calls prog 285 #[.int .i64 op,v] w (eE (vQ op l) w):=by
 rcases g with ⟨rfl,f⟩|⟨h6,h13,h11,f⟩
 .obtain⟨a,rfl⟩:=List.length_eq_one_iff.1 f;by_cases c:aT a=true
  .exact Ew v a w h c
  .have d:aT a=false:=by simpa using c
   have e:vQ 11 [a]=(aY,1):=by show oC 11 a=_;unfold oC;rw[iP d]
   rw[e];exact IB 11 v [a] w h qe qe rfl (by simp[d])
 .obtain⟨a,b,rfl⟩:∃a b,l=[a,b]:=by
   match l,f with
   | [a,b],_=>exact⟨a,b,rfl⟩
  by_cases c:aT a=true/\aT b=true
  .show Calls _ _ _ _ (eE (dI op a b) w);have:op=6\/op=7\/op=8\/op=9\/op=10\/op=12\/op=13:=qo
   rcases this with rfl|rfl|rfl|rfl|rfl|rfl|rfl
   .exact Kj v a b w h c
   .exact Kk v a b w h c
   .exact Kl v a b w h c
   .exact Km v a b w h c
   .exact Et v a b w h c
   .exact Eu v a b w h c
   .exact Ev v a b w h c
  .have d:aT a=false\/aT b=false:=by
    by_cases h1:aT a=true
    .exact .inr (by simpa using fun h2=>c ⟨h1,h2⟩)
    .exact .inl (by simpa using h1)
   have e:vQ op [a,b]=(aY,1):=by show dI op a b=_;unfold dI;rw[iP d]
   rw[e];refine IB op v [a,b] w h h6 h13 (by unfold TE;rw[iN h11];rfl) ?_
   rcases d with d|d<;>simp[d]
theorem oT:bL 0:=by unfold bL;decide
theorem LV:bL 1:=by unfold bL;decide
theorem LW:bL 2:=by unfold bL;decide
theorem aBa:bL 3:=by unfold bL;decide
theorem kK:cS aY:=⟨oT,oT,qe⟩
theorem oB(b:Bool):cS (cI b):=by
 cases b
 .exact⟨LV,oT,qe⟩
 .exact⟨LV,LV,qe⟩
theorem Rr(a b:V3):bL (kC a b).2:=by
 unfold kC;split
 .exact LV
 split
 .exact LW
 split<;>exact oT
theorem yG{f:Int->Int->Int×Int}(c:∀a b,bL (f a b).1/\bL (f a b).2)(a b:V3):cS (eK f a b).1/\bL (eK f a b).2:=by
 unfold eK;split
 .exact⟨kK,LW⟩
 split
 .exact⟨kK,(c _ _).2⟩
 .exact⟨⟨LW,(c _ _).1,show ByteArray.empty.size<=cQ by decide⟩,oT⟩
theorem OJ(x:Int):bL (if kL<=x/\x<=lQ then (x,(0:Int)) else (0,3)).1/\bL (if kL<=x/\x<=lQ then (x,(0:Int)) else (0,3)).2:=by
 split
 .rename_i h;exact⟨h,oT⟩
 .exact⟨oT,aBa⟩
theorem Mb(op:Int)(l:List V3):cS (vQ op l).1/\bL (vQ op l).2:=by
 have one:=LV;have two:=LW;have zero:=oT;unfold vQ;split
 .unfold oC;split
  .exact⟨kK,one⟩
  split
  .exact⟨kK,two⟩
  .exact⟨oB _,zero⟩
 .unfold dI;split
  .exact⟨kK,one⟩
  split
  .split
   .exact⟨kK,two⟩
   .exact⟨oB _,zero⟩
  split
  .split
   .exact⟨kK,Rr _ _⟩
   .exact⟨oB _,zero⟩
  split
  .exact yG (fun a b=>OJ (a+b)) _ _
  split
  .exact yG (fun a b=>OJ (a - b)) _ _
  split
  .exact yG (fun a b=>OJ (a * b)) _ _
  split
  .exact⟨kK,two⟩
  split<;>exact⟨oB _,zero⟩
 .exact⟨kK,one⟩
def CD(w:World)(ok:nP)(x:It)(vb:Value):Prop:=aH VR w ok vb x.bag/\cS x.val/\bL x.err
def sX:Rep It:=fun w ok cs x=>∃vb,cs=[vb,.int .i64 x.val.1,.int .i64 x.val.2.1,.string x.val.2.2,.int .i64 x.err]/\CD w ok x vb
theorem iJ:Firm sX 5:={
 aDW:=fun⟨vb,e,h1,h2,h3⟩ b=>⟨vb,e,aH.aDW bG h1 b,h2,h3⟩
 more:=fun⟨vb,e,h1,h2,h3⟩ c=>⟨vb,e,aH.more bG h1 c,h2,h3⟩
 len:=fun⟨vb,e,h⟩=>by rw[e];rfl
 one:=fun⟨vb,e,h⟩=>by
  intro v a;rw[e] at a;simp only[List.mem_cons,List.not_mem_nil,or_false] at a
  rcases a with rfl|rfl|rfl|rfl|rfl
  .exact lD h.1
  .rfl
  .rfl
  .rfl
  .rfl
 inb:=fun⟨vb,e,h1,h2,h3⟩=>⟨vb,e,aH.inb bG h1,h2,h3⟩}
def pN(x:It)(w:World)(e:Ending)(w':World):Prop:=∃vb,e=.returned (.agg #[vb,.int .i64 x.val.1,.int .i64 x.val.2.1,.string x.val.2.2,.int .i64 x.err])/\CD w' (fun b=>w.heap.size<=b) x vb/\Below w.heap.size w w'
theorem mH{x:It}{v:V3}{e:Int}{w w':World}(c:x=jP v e)(b:cS v)(he:bL e)(a:Below w.heap.size w w'):pN x w (.returned (.agg #[.slice none 0 0,.int .i64 v.1,.int .i64 v.2.1,.string v.2.2,.int .i64 e])) w':=by
 subst c;exact⟨_,rfl,⟨aH.nil,b,he⟩,a⟩
theorem Gb{w:World}{g:Nat}{a b c d e:Value}:aN (fun k=>k≠g) w (((((w.setCell ⟨g,0,none⟩ a).setCell ⟨g,1,none⟩ b).setCell ⟨g,2,none⟩ c).setCell ⟨g,3,none⟩ d).setCell ⟨g,4,none⟩ e):=
 ((((aI a).trans (aI b)).trans (aI c)).trans (aI d)).trans (aI e)
theorem uP{W w:World}{g:Nat}{a b c d e:Value}(h:Below W.heap.size W w)(f:W.heap.size<=g):Below W.heap.size W (((((w.setCell ⟨g,0,none⟩ a).setCell ⟨g,1,none⟩ b).setCell ⟨g,2,none⟩ c).setCell ⟨g,3,none⟩ d).setCell ⟨g,4,none⟩ e):=
 ((((h.setCell f _).setCell f _).setCell f _).setCell f _).setCell f _
abbrev nO:Array Value:=#[.slice none 0 0,.int .i64 0,.int .i64 0,.string ⟨#[]⟩,.int .i64 0]
theorem Mc{ok ok':nP}(n:No)(a:oY n)(d:Value)(l:List It)(c:Value)(g:List Gv)(w:World)(b:aH sX w ok' d l)(h:aH jW w ok c g)(h1:n.op=1)(i:l=[]):Calls prog 270 #[jS n,d,c] w (pN (iQ g n l) w):=by
 obtain⟨o,gc,rfl,_⟩:=h.slice;obtain⟨la,lc,rfl,p⟩:=b.slice;have j:=aA (aC (aB w (.cells (iS n) 292)) (aB _ (.cells nO 352)));have k:=aA (aE (aK w (.cells (iS n) 292) _ rfl) (aB (w.alloc (.cells (iS n) 292)) (.cells nO 352)));have m:Hid (((w.alloc (.cells (iS n) 292)).alloc (.cells nO 352)).heap[w.heap.size+1]? =some (.cells nO 352 (0,0))):=aA (aK (w.alloc (.cells (iS n) 292)) (.cells nO 352) _ qs);subst i;have d1:(n.op==1)=true:=bQ.2 h1;have f:Hid (iQ g n []=jP n.val 0):=aA (iP h1);have e:=aA a.2.1;rw[f.o];unfold jS;clear b h a h1;go_enter func270,ntmps270;go_wp2;refine bR (.agg #[.slice none 0 0,.int .i64 n.val.1,.int .i64 n.val.2.1,.string n.val.2.2,.int .i64 0]) ?_;exact mH rfl e.o oT (aC (aB _ _) (aB _ _))
theorem Md{ok ok':nP}(n:No)(C:oY n)(t:Value)(l:List It)(s:Value)(g:List Gv)(w:World)(q:aH sX w ok' t l)(h:aH jW w ok s g)(h1:n.op=2)(E:l=[]):Calls prog 270 #[jS n,t,s] w (pN (iQ g n l) w):=by
 obtain⟨R,gc,rfl,_⟩:=h.slice;obtain⟨la,lc,rfl,S⟩:=q.slice;have m:=aA (aC (aB w (.cells (iS n) 292)) (aB _ (.cells nO 352)));have c:=aA (aE (aK w (.cells (iS n) 292) _ rfl) (aB (w.alloc (.cells (iS n) 292)) (.cells nO 352)));have d:Hid (((w.alloc (.cells (iS n) 292)).alloc (.cells nO 352)).heap[w.heap.size+1]? =some (.cells nO 352 (0,0))):=aA (aK (w.alloc (.cells (iS n) 292)) (.cells nO 352) _ qs);subst E;have d1:(n.op==1)=false:=bN.2 qo;have d2:(n.op==2)=true:=bQ.2 h1;have p:Hid (iQ g n []=⟨(rZ g n.aEe).1,aY,(rZ g n.aEe).2⟩):=aA (iN qo);have a:=aA (UQ _ g n.aEe _ (h.on cA m.o));rw[p.o];unfold jS;unfold tL oQ at a;have o:Hid (bL (rZ g n.aEe).2):=aA (by unfold rZ;split;exact(by unfold bL;decide);exact oT);generalize rZ g n.aEe=r at *;obtain⟨bag,B⟩:=r;simp only at a o;clear q h C h1 p;go_enter func270,ntmps270;go_wp2_with fail;refine a.o.mono ?_;rintro e w1 ⟨v,rfl,j,f⟩;obtain⟨z,A,rfl,_⟩:=j.slice;have y:=aA (j.more bG (ok':=fun b=>w.heap.size<=b/\b≠w.heap.size+1) (fun b i=>by simp only[World.size_alloc] at i;exact⟨qo,qo⟩));have x:=qB m f;replace c:=qK c f;obtain⟨⟨F,G,H,I,J,K,L⟩,_⟩:=bI c.o;have T:=aD c.o;replace d:=qK d f;obtain⟨⟨M,N,O,P,Q⟩,_⟩:=dM d.o;have U:=aD d.o;clear j f a;go_wp2;refine bR (.agg #[.slice z bag.length A,.int .i64 0,.int .i64 0,.string ⟨#[]⟩,.int .i64 B]) ?_;refine⟨_,rfl,⟨?_,kK,o.o⟩,uP x.o (Nat.le_succ _)⟩;exact aH.more bG (aH.aDW bG y.o (Gb.mono fun k _ D=>D.2)) (fun b i=>i.1)
theorem Me{w:World}{ok:nP}{v:Value}{l:List It}(h:aH sX w ok v l){k:Nat}(b:k<l.length):cS l[k].val/\bL l[k].err/\l[k].bag.length<=1000000:=by
 obtain⟨a,c,rfl,_⟩:=h.slice;obtain⟨b',i,r,e,_,f,⟨vb,rfl,hp⟩,g⟩:=aH.at iJ h b qe;obtain⟨_,_,_,d⟩:=hp.1.slice;exact⟨hp.2.1,hp.2.2,d⟩
theorem uA{w:World}{ok:nP}{b off n c k:Nat}{l:List It}(h:aH sX w ok (.slice (some ⟨b,off,none⟩) n c) l)(m:k<l.length):
 ∃d f,w.cell? ⟨b,off+k * 5,none⟩=some (.slice d l[k].bag.length f)/\w.cell? ⟨b,off+k * 5+1,none⟩=some (.int .i64 l[k].val.1)/\w.cell? ⟨b,off+k * 5+2,none⟩=some (.int .i64 l[k].val.2.1)/\w.cell? ⟨b,off+k * 5+3,none⟩=some (.string l[k].val.2.2)/\w.cell? ⟨b,off+k * 5+4,none⟩=some (.int .i64 l[k].err)/\
  CD w ok l[k] (.slice d l[k].bag.length f)/\b<w.heap.size:=by
 obtain⟨b',o,r,e,_,j,⟨vb,rfl,hp⟩,a⟩:=aH.at iJ h m qe;injection e with e;injection e with g i _;subst g i;obtain⟨d,f,rfl,_⟩:=hp.1.slice;exact⟨d,f,by have:=a 0 _ rfl;rwa [Nat.add_zero] at this,a 1 _ rfl,a 2 _ rfl,a 3 _ rfl,a 4 _ rfl,hp,j⟩
theorem BG{w:World}{ok:nP}{a:oD}{n c:Nat}{l:List It}(h:aH sX w ok (.slice a n c) l)(d:0<l.length):∃b off,a=some ⟨b,off,none⟩:=by
 obtain⟨b',f,r,e,_⟩:=aH.at iJ h d qe;exact⟨_,_,e⟩
theorem Rt(l:List It)(k:Nat)(a:k<l.length):(l.take k).map (·.val)++[l[k].val]=(l.take (k+1)).map (·.val):=by
 rw[List.take_succ_eq_append_getElem a,List.map_append];rfl
def xU(n:No)(l:List It):Prop:=(n.op=3/\l.length=1)\/(n.op=4/\l.length=1)\/(n.op=5/\l.length=2)\/((n.op=11/\l.length=1)\/(6<=n.op/\n.op<=13/\n.op≠11/\l.length=2))
def xV(n:No)(l:List It):Prop:=(n.op=12\/n.op=13)/\∃a b,l=[a,b]/\(a.is (n.op - 12)=true\/b.is (n.op - 12)=true)
theorem ZV{g:List Gv}{n:No}{l:List It}(h:xV n l):iQ g n l=jP (cI (decide (n.op=13))) 0:=by
 obtain⟨h1,a,b,rfl,h2⟩:=h;show (if (n.op=12\/n.op=13)/\(a.is (n.op - 12)=true\/b.is (n.op - 12)=true) then jP (cI (decide (n.op=13))) 0 else _)=_;rw[iP ⟨h1,h2⟩]
theorem uQ{g:List Gv}{n:No}{a:It}:iQ g n [a]=if a.err≠0 then jP aY a.err else if n.op=3 then (match a.bag with | [v]=>jP v 0|_=>jP aY 4) else if n.op=4 then jP (2,a.bag.length,ByteArray.empty) 0 else jP (oC n.op a.val).1 (oC n.op a.val).2:=rfl
theorem EJ{g:List Gv}{n:No}{a b:It}(h:¬xV n [a,b]):iQ g n [a,b]=if a.err≠0 then jP aY a.err else if b.err≠0 then jP aY b.err else if n.op=5 then jP (cI (a.bag.any (fun v=>decide (v=b.val)))) 0 else jP (dI n.op a.val b.val).1 (dI n.op a.val b.val).2:=by
 show (if (n.op=12\/n.op=13)/\(a.is (n.op - 12)=true\/b.is (n.op - 12)=true) then _ else _)=_;rw[iN (fun h2=>h ⟨h2.1,a,b,rfl,h2.2⟩)]
theorem QW{g:List Gv}{n:No}{l:List It}(d:l.length=1\/l.length=2)(he:¬xV n l){k:Nat}(c:k<l.length)(h0:∀i (e:i<l.length),i<k->l[i].err=0)(h1:l[k].err≠0):iQ g n l=jP aY l[k].err:=by
 match l,d with
 | [a],_=>
   obtain rfl:k=0:=by simp at c;omega
   rw[uQ,iP (show a.err≠0 from h1)];rfl
 | [a,b],_=>
   rw[EJ he]
   match k,c with
   |0,_=>rw[iP (show a.err≠0 from h1)];rfl
   |1,_=>
    have h2:a.err=0:=h0 0 qs qo;rw[iN (fun h=>h h2),iP (show b.err≠0 from h1)];rfl
theorem Gc{g:List Gv}{n:No}{l:List It}(d:(n.op=11/\l.length=1)\/(6<=n.op/\n.op<=13/\n.op≠11/\l.length=2))(he:¬xV n l)(h0:∀i (e:i<l.length),l[i].err=0):iQ g n l=jP (vQ n.op (l.map (·.val))).1 (vQ n.op (l.map (·.val))).2:=by
 rcases d with ⟨f,c⟩|⟨h6,h13,h11,c⟩
 .match l,c with
  | [a],_=>
    rw[uQ,iN (fun h=>h (h0 0 qs)),iN qo,iN qo];rfl
 .match l,c with
  | [a,b],_=>
    rw[EJ he,iN (fun h=>h (h0 0 qs)),iN (fun h=>h (h0 1 qs)),iN qo];rfl
end Go.Proofs.YthcgdgkpgdjahaaGreatDoor
