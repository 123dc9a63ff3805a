/- Lemmas. -/
import Derived.Test.YtlfngkelmbdehaaGreatDoorMbl
namespace Go.Proofs.YtlfngkelmbdehaaGreatDoor
open Go.RowKit
set_option linter.unusedVariables false
set_option linter.unusedSimpArgs false
set_option maxHeartbeats 16000000
open _root_.Go.Proofs.Tryz
set_option maxRecDepth 20000
theorem QCa{p:Prop}(h:p:=by
 exact⟨k+1,l'.length,A',c2,qo,by go_num,rfl,aA (by rw[HL9.o,HE.o]),aA (by have h:=HG9.o;have e:=HL9.o.trans HE.o.symm;subst e;exact h),HB9⟩):p:=h
def Yi(n:Nat):List Value:=[.int .i64 (n:Int)]
def Py:Rep Nat:=mG Yi (fun _=>True)
theorem tL:Firm Py 1:=gC (fun _=>rfl) (fun x v h=>by simp only[Yi,List.mem_cons,List.not_mem_nil,or_false] at h;rw[h];rfl)
theorem elN:dV prog 246 3 1 8:=fO (z:= .int .i64 0) underlying246 (by kernel_rfl) rfl qe
def fW(g:List Gv)(l:List Po)(k:Nat):List Nat:=(List.range k).filter (fun i=>match l[i]? with |some x=>nS g x|none=>false)
theorem LI{g:List Gv}{l:List Po}{k:Nat}(a:k<l.length):fW g l (k+1)=if nS g l[k]=true then fW g l k++[k] else fW g l k:=by
 unfold fW;rw[List.range_succ,List.filter_append];simp only[List.filter_cons,List.filter_nil,gE a];split<;>simp
theorem PJ(g:List Gv)(l:List Po)(k:Nat):(fW g l k).length<=k:=by
 have:=List.length_filter_le (fun i=>match l[i]? with |some x=>nS g x|none=>false) (List.range k);rw[List.length_range] at this;exact this
theorem Pz{g:List Gv}{l:List Po}{k i:Nat}(h:i∈fW g l k):i<k:=by
 unfold fW at h;exact List.mem_range.1 (List.mem_filter.1 h).1
theorem PK{α:Type}{g:List Gv}{l:List Po}(f:Po->α)(d:Nat->α)(b:∀i (h:i<l.length),d i=f l[i]):∀k,k<=l.length->(fW g l k).map d=((l.take k).filter (nS g)).map f
 |0,_=>rfl
 |k+1,h=>by
  have a:k<l.length:=qo;rw[LI a,List.take_succ_eq_append_getElem a,List.filter_append,List.map_append,<-PK f d b k qo];by_cases hm:nS g l[k]=true
  .rw[iP hm,List.map_append];simp[hm,b k a]
  .rw[iN hm];simp[hm]
def VO(L:List Nat)(w:World)(e:Ending)(w':World):Prop:=∃v,e=.returned v/\aH Py w' (fun b=>w.heap.size<=b) v L/\Below w.heap.size w w'
theorem Qa{n:Nat}{ok aq:nP}(vk vg:Value)(kids:List Po)(g:List Gv)(w:World)(E:aH (pX n) w aq vk kids)(h:aH jM w ok vg g):Calls prog 160 #[vk,vg] w (VO (fW g kids kids.length) w):=by
 obtain⟨ka,kc,rfl,aj⟩:=E.slice;obtain⟨ga,gc,rfl,_⟩:=h.slice;obtain⟨HP,HS,K⟩:=aY E h aj;clear E h;go_enter func160,ntmps160;go_wp2;go_loopw [5,6,7,8,9,12] (fun v _ _ _ _ i wr=>∃(k y:Nat) (C:oD) (D:Nat),k<=kids.length/\i=.int .i64 k/\v=.slice C y D/\Hid (y=(fW g kids k).length)/\Hid (aM Py 1 3 wr w.heap.size (fun b=>w.heap.size<=b) (.slice C y D) (fW g kids k))/\Hid (Below w.heap.size w wr)) (fun _ _ _ _ _ i _=>kids.length - (intOf i).toNat)
 case atStart=>exact Rw
 case round=>
  obtain⟨k,y,C,D,E,rfl,rfl,Z,I,F⟩:=hrel;have O:=aA (PJ g kids k);by_cases ae:k<kids.length
  .have ai:(k:Int)<(kids.length:Int):=qo;obtain⟨b,off,rr,rfl,_,ax,ad,hc⟩:=aH.at (bB n) (aH.on (bB n) HP.o F.o) ae qe
   rcases n with _|lv
   .exact ad.elim
   obtain⟨bb,ba,a7,a8,rfl,j⟩:=ad;obtain⟨av,aw,rfl,_⟩:=j.2.2.1.slice;obtain⟨ar,au,rfl,_⟩:=j.2.2.2.1.slice;obtain⟨ak,al,rfl,_⟩:=j.2.2.2.2.1.slice;obtain⟨an,ao,rfl,_⟩:=j.2.2.2.2.2.slice;obtain⟨x0,x1,x2,x3,x4,x5,x6⟩:=CA hc;rw[Nat.add_zero] at x0;have a:=aA (LI (g:=g) ae);have Y:=aA (Kj g kids[k]);clear hc;generalize kids[k]=r at *;have ab:=aA j.2.2.1;clear j;rw[Y.o] at a;clear Y;have B:=aA (aB wr (.cells (kF r av aw ar au ak al an ao) 38));obtain⟨H,X,V⟩:=aY (Vk _ r.aCO _ (aH.on aS ab.o B.o)) (I.o.on tL B.o) (aC F.o B.o);clear ab I;generalize pR r.aCO=ky at *;unfold EW at H;go_wp2_with fail;refine H.o.mono ?_;rintro e U ⟨m,rfl,hm,d⟩;unfold kL;have W:=qB V d;obtain⟨c,f,M⟩:=aY (aC W.o (aB U (.cells (JP m) 288))) (X.o.on tL (aC d (aB U (.cells (JP m) 288)))) hm;clear H X V B d hm x0 x1 x2 x3 x4 x5 x6
   rcases ky with _|m2
   .have HE:Hid (fW g kids (k+1)=fW g kids k++[k]):=aA (by have:=a.o;rwa [iP rfl] at this);clear a M;obtain⟨p,T⟩:=xE (U.alloc (.cells (JP m) 288));rw[<-T] at c f;have ah:=aA T;clear T;go_upto_region 7 with (fail)
    rw[<-ah.o];obtain⟨N,G,o⟩:=aY (aK p (.cells #[.int .i64 (k:Int)] 3) p.heap.size qs) (aC c.o (aB p (.cells #[.int .i64 (k:Int)] 3))) (f.o.on tL (aB p (.cells #[.int .i64 (k:Int)] 3)));clear f;go_wp2_with (at_builtin;refine cA (base:=w.heap.size) elN tL rfl (.tmp 31) (.tmp 33) rfl _ (fW g kids k) rfl o.o p.heap.size 1 _ _ _ k rfl N.o ⟨rfl,trivial⟩ (qD O.o K.o) qo (by have:=c.o.size;rw[World.size_alloc];omega) ?_;intro l' x A' c2 w9 s t P;have HG9:=aA s;have HB9:=aA (o.o.below G.o t (lR _) (by have:=c.o.size;rw[World.size_alloc];omega));have HL9:=aA x.o;clear s t P x)
    go_roundw
    case rel=>exact QCa
    case measure=>simp[intOf];omega
   .obtain⟨rfl,R⟩:=M.o m2 rfl;have l:=aA (JW m R _ g _ (aH.on bZ HS.o c.o));unfold aP at l;have aa:Hid (fW g kids (k+1)=if decide (oL g m≠0)=true then fW g kids k++[k] else fW g kids k):=aA a.o;clear a;have a:=aa;clear aa;generalize oL g m=q at *;have af:=aA R;obtain⟨⟨mc,mn,mm⟩,mo,az,a1,a6⟩:=m;unfold kL at l;dsimp only at l c f ⊢;clear M R W;go_wp2_with fail;refine l.o.mono ?_;rintro e z ⟨rfl,d⟩;have A:=qB c d;have J:=aA (f.o.on tL d);clear l c f d af;by_cases S:q=0
    .subst S;have HE:Hid (fW g kids (k+1)=fW g kids k):=aA (by have:=a.o;rwa [iN qe] at this);clear a;go_wp2;go_roundw
     case rel=>exact⟨k+1,y,C,D,qo,by go_num,rfl,aA (by rw[Z.o,HE.o]),aA (by rw[HE.o];exact J.o),A⟩
     case measure=>simp[intOf];omega
    .have ay:((q:Int)==0)=false:=bN.2 qo;have HE:Hid (fW g kids (k+1)=fW g kids k++[k]):=aA (by have:=a.o;rwa [iP (dX S)] at this);clear a S;obtain⟨N,G,o⟩:=aY (aK z (.cells #[.int .i64 (k:Int)] 3) z.heap.size qs) (aC A.o (aB z (.cells #[.int .i64 (k:Int)] 3))) (J.o.on tL (aB z (.cells #[.int .i64 (k:Int)] 3)));clear J;go_wp2_with (at_builtin;refine cA (base:=w.heap.size) elN tL rfl (.tmp 31) (.tmp 33) rfl _ (fW g kids k) rfl o.o z.heap.size 1 _ _ _ k rfl N.o ⟨rfl,trivial⟩ (qD O.o K.o) qo (by have:=A.o.size;rw[World.size_alloc];omega) ?_;intro l' x A' c2 w9 s t P;have HG9:=aA s;have HB9:=aA (o.o.below G.o t (lR _) (by have:=A.o.size;rw[World.size_alloc];omega));have HL9:=aA x.o;clear s t P x)
     go_roundw
     case rel=>exact QCa
     case measure=>simp[intOf];omega
  .have ai:¬(k:Int)<(kids.length:Int):=qo;obtain rfl:k=kids.length:=qo;have ag:=aA (I.o.sl (qD O.o K.o) (fun b=>w.heap.size<=b) (fun b Q _=>Q) (fun b Q _=>Q) tL);generalize fW g kids kids.length=L at *;obtain rfl:=Z.o;go_wp2;go_returns;exact⟨_,rfl,ag.o,F.o⟩
theorem aCn:dV prog 35 38 7 128:=fO (z:= .agg #[.string ByteArray.empty,.bool false,.int .i64 0,.slice none 0 0,.slice none 0 0,.slice none 0 0,.slice none 0 0]) underlying35 (by kernel_rfl) rfl qe
theorem Qb{ok:nP}{w:World}{g i:Nat}{v:Value}(h:¬ok g):aN ok w (w.setCell ⟨g,i,none⟩ v):=(aI v).mono fun k _ a (e:k=g)=>h (e▸a)
def MW(lv:Nat)(a:nP)(g:List Gv)(m:Nat)(p:Po)(vt vr vo:Value)(w:World)(e:Ending)(w':World):Prop:=∃vk,e=.returned (.agg #[.string p.id,.bool p.set,.int .i64 p.alg,vt,vr,vk,vo])/\aH (pX lv) w' (fun b=>a b\/w.heap.size<=b) vk ((p.aCS.filter (nS g)).map (kQ g m))/\Below w.heap.size w w'
def Qc(lv:Nat):Prop:=∀(m:Nat),lv<=m->∀(ok a:nP) (p:Po) (vt vr vk vo b:Value) (g:List Gv) (w:World),fK lv w a p vt vr vk vo->aH jM w ok b g->
 Calls prog 103 #[.agg #[.string p.id,.bool p.set,.int .i64 p.alg,vt,vr,vk,vo],b] w (MW lv a g m p vt vr vo w)
theorem PM(g:List Gv)(m:Nat)(r:Po):kQ g (m+1) r=.mk r.id r.set r.alg r.aCO r.aCH ((r.aCS.filter (nS g)).map (kQ g m)) r.aCU:=rfl
theorem GV(lv:Nat)(IH:∀l,lv=l+1->Qc l):Qc lv:=by
 intro m hm ok s p vt vr vk vo vg g w hp h;obtain⟨ga,gc,rfl,_⟩:=h.slice;obtain⟨ta,tc,rfl,_⟩:=hp.2.2.1.slice;obtain⟨ra,rc,rfl,_⟩:=hp.2.2.2.1.slice;obtain⟨ka,kc,rfl,bt⟩:=hp.2.2.2.2.1.slice;obtain⟨oa,oc,rfl,_⟩:=hp.2.2.2.2.2.slice;obtain⟨W0,I⟩:=xE ((w.alloc (.cells (kF p ta tc ra rc ka kc oa oc) 38)).alloc (.cells vV 38));have Z:Hid (Below w.heap.size w W0):=aA (by rw[I];exact aC (aB _ _) (aB _ _));have A:Hid (W0.heap[w.heap.size]? =some (.cells (kF p ta tc ra rc ka kc oa oc) 38 (0,0))):=aA (by rw[I];exact aE (aK _ _ _ rfl) (aB _ _));have R:Hid (W0.heap[w.heap.size+1]? =some (.cells vV 38 (0,0))):=aA (by rw[I];exact aK _ _ _ qs);have bm:=aA I;have bk:Hid (W0.heap.size=w.heap.size+1+1):=aA (by rw[I];simp);obtain⟨HP,HS,bb,HM,aa⟩:=gB hp.inb h IH hm (Qa _ _ p.aCS g W0 (aH.on (bB lv) hp.2.2.2.2.1 Z.o) (h.on bZ Z.o));have bh:=aA (fun i (hi:i∈fW g p.aCS p.aCS.length)=>Pz hi);obtain⟨d,hd⟩:∃d:Nat->Po,d=fun i=>kQ g m ((p.aCS[i]?).getD lX):=⟨_,rfl⟩
 have HD:Hid (∀i (h:i<p.aCS.length),d i=kQ g m p.aCS[i]):=aA (fun i h=>by rw[hd];dsimp only;rw[gE h];rfl);have K:=aA (PK (g:=g) (kQ g m) d HD.o p.aCS.length (lR _));rw[List.take_of_length_le (lR _)] at K;have bc:=aA (PJ g p.aCS p.aCS.length);unfold VO at aa;generalize fW g p.aCS p.aCS.length=L at *;obtain⟨T,ae⟩:∃T,(p.aCS.filter (nS g)).map (kQ g m)=T:=⟨_,rfl⟩;rw[ae] at K;have bg:=aA ae;obtain⟨⟨a0,U,a2,a3,a4,a5,V⟩,_⟩:=bI A.o;have Y:=aD A.o;have bo:L.length<=1000000:=lT bc.o bt;clear h hp I IH hm hd ae;go_enter func103,ntmps103;go_wp2_with fail;rw[<-bm.o];refine aa.o.mono ?_;rintro e w1 ⟨v,rfl,ag,j⟩;obtain⟨la,lc,rfl,_⟩:=ag.slice;obtain⟨ah,M,HL⟩:=aY (aC Z.o j) (lT (Nat.le_of_eq bk.o.symm) j.size) ag;clear a0 U a2 a3 a4 a5 V Y;replace A:=qK A j;obtain⟨⟨A0,A1,A2,A3,A4,A5,A6⟩,_⟩:=bI A.o;have zA:=aD A.o;replace R:=qK R j;obtain⟨⟨R0,R1,R2,R3,R4,R5,R6⟩,_⟩:=bI R.o;have zR:=aD R.o;clear j aa ag;go_wp2;go_loopw [5,7,13] (fun v _ i wr=>∃(k f:Nat) (C:oD) (D:Nat),k<=L.length/\i=.int .i64 k/\v=.slice C f D/\Hid (f=k)/\Hid (aM (pX lv) 7 38 wr w1.heap.size (fun b=>(s b/\b<w.heap.size)\/w1.heap.size<=b) (.slice C f D) ((L.take k).map d))/\Hid (Below w1.heap.size w1 wr)) (fun _ _ i _=>L.length - (intOf i).toNat)
 case atStart=>exact Rw
 case round=>
  obtain⟨k,f,C,D,hk,rfl,rfl,bd,J,G⟩:=hrel;clear A0 A1 A2 A3 A4 A5 A6 zA R0 R1 R2 R3 R4 R5 R6 zR;have P:=qK A G.o;by_cases af:k<L.length
  .have bs:(k:Int)<(L.length:Int):=qo;obtain⟨b,off,rr,rfl,_,bz,⟨rfl,_⟩,N⟩:=aH.at tL (aH.on tL HL.o G.o) af qe;have y0:=N 0 _ rfl;rw[Nat.add_zero,Nat.mul_one] at y0;have ak:=aA (bh.o L[k] (List.getElem_mem af));have ar:Hid ((L.take k).map d++[d L[k]]=(L.take (k+1)).map d):=aA (by rw[List.take_succ_eq_append_getElem af,List.map_append];rfl);have an:=aA (show ((L.take k).map d).length=k by rw[List.length_map,List.length_take];omega);have ad:=aA (HD.o L[k] ak.o);have bp:L[k]<p.aCS.length:=ak.o;clear N;generalize L[k]=q at *;have b8:(q:Int)<(p.aCS.length:Int):=qo;have S:=qB ah G.o;obtain⟨b3,b9,ca,rfl,_,b7,av,N⟩:=aH.at (bB lv) (aH.on (bB lv) HP.o.2.2.2.2.1 S.o) bp qe
   rcases lv with _|lv
   .exact av.elim
   obtain⟨cg,cf,cb,cd,rfl,H⟩:=av;obtain⟨y,z,rfl,_⟩:=H.2.2.1.slice;obtain⟨t,x,rfl,_⟩:=H.2.2.2.1.slice;obtain⟨bw,bx,rfl,_⟩:=H.2.2.2.2.1.slice;obtain⟨n,o,rfl,_⟩:=H.2.2.2.2.2.slice;obtain⟨x0,x1,x2,x3,x4,x5,x6⟩:=CA N;rw[Nat.add_zero] at x0;obtain⟨m2,rfl⟩:∃m2,m=m2+1:=⟨m - 1,qA HM.o⟩;have aq:Hid (fK lv wr (fun b=>s b/\b<w.heap.size) p.aCS[q] (.slice y p.aCS[q].aCO.length z) (.slice t p.aCS[q].aCH.length x) (.slice bw p.aCS[q].aCS.length bx) (.slice n p.aCS[q].aCU.length o)):=aA H;have ab:=aA (bb.o lv rfl m2 (qA HM.o) _ _ p.aCS[q] _ _ _ _ _ g wr H (HS.o.on bZ S.o));have bn:=aA (PM g m2 p.aCS[q]);clear N H;generalize p.aCS[q]=r at *;rw[bn.o] at ad;unfold MW at ab;obtain⟨⟨a0,U,a2,a3,a4,a5,V⟩,_⟩:=bI P.o;have Y:=aD P.o;go_wp2_with fail;refine ab.o.mono ?_;rintro e B ⟨cc,rfl,W,j⟩;obtain⟨E,F,rfl,bu⟩:=W.slice;obtain⟨a,bq⟩:∃a,(r.aCS.filter (nS g)).map (kQ g m2)=a:=⟨_,rfl⟩;rw[bq] at W bu ad ⊢;have ay:=qB G j;obtain⟨Q,bf,ai⟩:=aY (aC ay.o (aB B (.cells #[.string r.id,.bool r.set,.int .i64 r.alg,.slice y r.aCO.length z,.slice t r.aCH.length x,.slice E a.length F,.slice n r.aCU.length o] 38))) (aK B (.cells #[.string r.id,.bool r.set,.int .i64 r.alg,.slice y r.aCO.length z,.slice t r.aCH.length x,.slice E a.length F,.slice n r.aCU.length o] 38) B.heap.size qs) (aC j (aB B (.cells #[.string r.id,.bool r.set,.int .i64 r.alg,.slice y r.aCO.length z,.slice t r.aCH.length x,.slice E a.length F,.slice n r.aCU.length o] 38)));obtain⟨aj,ao,bl⟩:=aY (J.o.on (bB (lv+1)) ai.o) J.o.lt G.o.size;have a8:Hid (pX (lv+1) (B.alloc (.cells #[.string r.id,.bool r.set,.int .i64 r.alg,.slice y r.aCO.length z,.slice t r.aCH.length x,.slice E a.length F,.slice n r.aCU.length o] 38)) (fun b=>((s b/\b<w.heap.size)\/w1.heap.size<=b)/\b<(B.alloc (.cells #[.string r.id,.bool r.set,.int .i64 r.alg,.slice y r.aCO.length z,.slice t r.aCH.length x,.slice E a.length F,.slice n r.aCU.length o] 38)).heap.size/\some b≠(Value.slice C f D).ownBlock) [.string r.id,.bool r.set,.int .i64 r.alg,.slice y r.aCO.length z,.slice t r.aCH.length x,.slice E a.length F,.slice n r.aCU.length o] (.mk r.id r.set r.alg r.aCO r.aCH a r.aCU)):=aA (by
    have O:=aq.o.aCM (aJ ai.o);have X:∀b,(s b/\b<w.heap.size)->((s b/\b<w.heap.size)\/w1.heap.size<=b)/\b<(B.alloc (.cells #[.string r.id,.bool r.set,.int .i64 r.alg,.slice y r.aCO.length z,.slice t r.aCH.length x,.slice E a.length F,.slice n r.aCU.length o] 38)).heap.size/\some b≠(Value.slice C f D).ownBlock:=fun b c=>⟨.inl c,by have h1:=c.2;have h2:=Q.o.size;have h3:=M.o;omega,fun e=>absurd (ao.o b e.symm).1 (by have h1:=c.2;have h3:=M.o;omega)⟩
    refine⟨_,_,_,_,rfl,O.1,O.2.1,aH.more aS O.2.2.1 X,aH.more bM O.2.2.2.1 X,?_,aH.more aO O.2.2.2.2.2 X⟩;refine aH.more (bB lv) (aH.inb (bB lv) (aH.on (bB lv) W (aB B (.cells #[.string r.id,.bool r.set,.int .i64 r.alg,.slice y r.aCO.length z,.slice t r.aCH.length x,.slice E a.length F,.slice n r.aCU.length o] 38)))) fun b c=> ?_
    rcases c.1 with h1|h1
    .exact X b h1
    .exact⟨.inr (lT bl.o h1),c.2,fun e=>absurd (ao.o b e.symm).2 (Nat.not_lt.2 h1)⟩)
   clear ab J aq W j a0 U a2 a3 a4 a5 V Y x0 x1 x2 x3 x4 x5 x6;go_wp2_with (at_builtin;refine cA (base:=w1.heap.size) aCn (bB (lv+1)) rfl (.tmp 17) (.tmp 25) rfl _ ((L.take k).map d) rfl aj.o B.heap.size 1 _ _ _ (.mk r.id r.set r.alg r.aCO r.aCH a r.aCU) rfl bf.o a8.o (by rw[an.o];omega) qo Q.o.size ?_;intro l' ax A' c2 w9 hG aw br;have ba:=aA hG;have az:=aA (aj.o.below Q.o aw (lR _) Q.o.size);have al:=aA ax.o;clear hG aw br ax)
   have a7:Hid (l'.length=k+1):=aA (by rw[al.o,aL,an.o];rfl);go_roundw
   case rel=>exact⟨k+1,l'.length,A',c2,qo,by go_num,rfl,a7,aA (by have h:=ba.o;rw[ad.o] at ar;have e:=al.o.trans ar.o;subst e;exact h),az⟩
   case measure=>simp[intOf];omega
  .have bs:¬(k:Int)<(L.length:Int):=qo;obtain rfl:k=L.length:=qo;have be:Hid (f=T.length):=aA (by rw[bd.o,<-K.o,List.length_map]);have bj:Hid (aH (pX lv) wr (fun b=>(s b/\b<w.heap.size)\/w1.heap.size<=b) (.slice C f D) T):=aA (by
    have h:=J.o;rw[List.take_of_length_le (lR _),K.o] at h;have e:=be.o;subst e;exact h.sl (by rw[<-K.o,List.length_map];exact bo) _ (fun b c _=>c) (fun b c _=> .inr c) (bB lv))
   have S:=qB ah G.o;have au:=qK R G.o;clear J;obtain⟨⟨a0,U,a2,a3,a4,a5,V⟩,b0,b1,b2,b3,b4,b5,b6⟩:=bI P.o;have Y:=aD P.o;obtain⟨⟨r0,r1,r2,r3,r4,r5,r6⟩,f0,f1,f2,f3,f4,f5,f6⟩:=bI au.o;have zr:=aD au.o;go_wp2;refine bR (.agg #[.string p.id,.bool p.set,.int .i64 p.alg,.slice ta p.aCO.length tc,.slice ra p.aCH.length rc,.slice C f D,.slice oa p.aCU.length oc]) ?_;have hA:¬((s w.heap.size/\w.heap.size<w.heap.size)\/w1.heap.size<=w.heap.size):=fun h=>by have h3:=M.o;rcases h with h|h<;>omega
   have hR:¬((s (w.heap.size+1)/\w.heap.size+1<w.heap.size)\/w1.heap.size<=w.heap.size+1):=fun h=>by have h3:=M.o;rcases h with h|h<;>omega
   refine⟨.slice C f D,rfl,?_,?_⟩
   .rw[bg.o];refine aH.more (bB lv) (ok:=fun b=>(s b/\b<w.heap.size)\/w1.heap.size<=b) ?_ (fun b c=>c.elim (fun h=> .inl h.1) (fun h=> .inr (by have h3:=M.o;omega)))
    repeat (refine aH.aCM (bB lv) ?_ (Qb (by first|exact hA|exact hR)))
    exact bj.o
   .repeat (refine Below.setCell ?_ (by first|exact lR _|exact Nat.le_succ _) _)
    exact S.o
theorem LJ:∀lv,Qc lv
 |0=>GV 0 (fun l h=>by omega)
 |lv+1=>GV (lv+1) (fun l h=>by obtain rfl:lv=l:=qo
                               exact LJ lv)
theorem QU{lv:Nat}(Z:lv<=3){ok O:nP}(p:Po)(vt vr vk vo vg:Value)(g:List Gv)(w:World)(hp:fK lv w O p vt vr vk vo)(h:aH jM w ok vg g):
 Calls prog 62 #[.agg #[.string p.id,.bool p.set,.int .i64 p.alg,vt,vr,vk,vo],vg] w (LH (iE g p) w):=by
 obtain⟨ga,gc,rfl,_⟩:=h.slice;obtain⟨P,Q,rfl,_⟩:=hp.2.2.1.slice;obtain⟨ra,rc,rfl,_⟩:=hp.2.2.2.1.slice;obtain⟨ka,kc,rfl,al⟩:=hp.2.2.2.2.1.slice;obtain⟨M,N,rfl,_⟩:=hp.2.2.2.2.2.slice;obtain⟨W0,f⟩:=xE ((w.alloc (.cells (kF p P Q ra rc ka kc M N) 38)).alloc (.cells #[.complex .f64 0 0,.slice none 0 0] 135));have S:Hid (Below w.heap.size w W0):=aA (by rw[f];exact aC (aB _ _) (aB _ _));have A:Hid (W0.heap[w.heap.size]? =some (.cells (kF p P Q ra rc ka kc M N) 38 (0,0))):=aA (by rw[f];exact aE (aK _ _ _ rfl) (aB _ _));have R:Hid (W0.heap[w.heap.size+1]? =some (.cells #[.complex .f64 0 0,.slice none 0 0] 135 (0,0))):=aA (by rw[f];exact aK _ _ _ qs);obtain⟨af,T,W,ad,H⟩:=gB f hp h Z (rW p _ _ _ _ W0 (fK.aCM hp.inb (aJ S.o)));obtain⟨t,K⟩:∃t,fJ p=t:=⟨_,rfl⟩;rw[K] at H;have c:Hid (iE g p=if t≠0 then (((0,0),[]),1) else rJ g (kQ g 4 p)):=aA (by unfold iE;rw[K]);obtain⟨J,X⟩:∃J,iE g p=J:=⟨_,rfl⟩;rw[X] at c ⊢;have an:=uB;obtain⟨⟨a0,a1,a2,a3,a4,a5,a6⟩,_⟩:=bI A.o;have za:=aD A.o;clear h hp f X K Z;go_enter func62,ntmps62;go_wp2_with fail;rw[<-af.o];refine H.o.mono ?_;rintro e w1 ⟨rfl,a⟩;have v:=qB S a;clear a0 a1 a2 a3 a4 a5 a6 za;replace A:=qK A a;obtain⟨⟨l,m,n,o,q,r,s⟩,_⟩:=bI A.o;have D:=aD A.o;replace R:=qK R a;obtain⟨⟨z,B⟩,_⟩:=fH R.o;have j:=aD R.o;clear H a;by_cases L:t=0
 .subst L;obtain⟨G,F,U⟩:=aY (by have h:=c.o;rwa [iN qo] at h:J=rJ g (kQ g 4 p)) (LJ lv 3 ad.o _ _ p _ _ _ _ _ g w1 (T.o.aCM (aJ v.o)) (W.o.on bZ v.o)) (PM g 3 p);unfold MW at F;clear c;go_wp2_with fail;refine F.o.mono ?_;rintro e w2 ⟨aq,rfl,C,a⟩;obtain⟨ag,ah,rfl,_⟩:=C.slice;have E:=qB v a
  try clear l m n o q r s D
  replace A:=qK A a;obtain⟨⟨l,m,n,o,q,r,s⟩,_⟩:=bI A.o;have D:=aD A.o
  try clear z B j
  replace R:=qK R a;obtain⟨⟨z,B⟩,_⟩:=fH R.o;have j:=aD R.o;obtain⟨y,Y⟩:∃y,(p.aCS.filter (nS g)).map (kQ g 3)=y:=⟨_,rfl⟩;rw[Y] at C U ⊢;have aa:fK lv w2 (fun b=>O b\/w1.heap.size<=b) (.mk p.id p.set p.alg p.aCO p.aCH y p.aCU) (.slice P p.aCO.length Q) (.slice ra p.aCH.length rc) (.slice ag y.length ah) (.slice M p.aCU.length N):=by
   have h0:=(T.o.aCM (aJ E.o)).more (ok':=fun b=>O b\/w1.heap.size<=b) (fun b d=> .inl d);exact⟨h0.1,h0.2.1,h0.2.2.1,h0.2.2.2.1,C,h0.2.2.2.2.2⟩
  have x:=aA (Kf _ _ _ _ _ _ g w2 aa (W.o.on bZ E.o));rw[<-U.o,<-G.o] at x;unfold LH at x;clear F a C aa Y;go_wp2_with fail;refine x.o.mono ?_;rintro e w3 ⟨ao,rfl,I,a⟩;obtain⟨ai,aj,rfl,_⟩:=I.slice;obtain⟨ae,ab,V⟩:=aY I (aC E.o a) j
  try clear l m n o q r s D
  replace A:=qK A a;obtain⟨⟨l,m,n,o,q,r,s⟩,_⟩:=bI A.o;have D:=aD A.o
  try clear z B j
  replace R:=qK R a;obtain⟨⟨z,B⟩,_⟩:=fH R.o;have j:=aD R.o;have f0:=aR R.o 0;have f1:=aR R.o 1;clear x a I;go_wp2;refine bR (.tuple #[.agg #[.complex .f64 (Cm.qb J.1.1.1) (Cm.qb J.1.1.2),.slice ai J.1.2.length aj],.int .i64 J.2]) ?_;exact⟨_,rfl,aH.more aO (aH.aCM aO ae.o (((aI (g:=w.heap.size+1) (i:=0) _).trans (aI (g:=w.heap.size+1) (i:=1) _)).mono fun k hk d=>by have h1:w2.heap.size<=k:=d;have h2:=V.o;show k≠w.heap.size+1;omega)) (fun b d=>by have h1:w2.heap.size<=b:=d;have h2:=V.o;show w.heap.size<=b;omega),nV ab.o (Nat.le_succ _)⟩
 .have G:=aA (by have h:=c.o;rwa [iP L] at h:J=(((0,0),[]),1));have ak:(t==0)=false:=bN.2 L;have f0:=aR R.o 0;have f1:=aR R.o 1;clear c;go_wp2;refine bR (.tuple #[.agg #[.complex .f64 0 0,.slice none 0 0],.int .i64 1]) ?_;exact Ah G.o (nV v.o (Nat.le_succ _)) rfl rfl
theorem QDh{p:Prop}(h:p:=by
 go_enter func70,ntmps70;go_wp2;go_returns;exact⟨by rw[HE.o];rfl,aB _ _⟩):p:=h
theorem Kl{ok:nP}(s:Sto)(vc vr vn vo vt vu vk vb:Value)(N:bY)(w:World)(h:eY w ok s vc vr vn vo vt vu vk vb)(i:∀x∈s.aCG,0<=x.aCN/\x.aCN<=s.aCN/\s.aCN<=1099511627776):Calls prog 107 #[.agg (aV s vc vr vn vo vt vu vk vb),.string N] w (aP (.bool (RI s N)) w):=by
 obtain⟨f,g,ra,rc,l,m,n,o,p,q,r,t,j,k,c,d,rfl,_,rfl,_,rfl,_,rfl,_,rfl,_,rfl,_,rfl,_,rfl,_⟩:=h.sl;obtain⟨W0,a⟩:=xE ((w.alloc (.cells (fR s f g ra rc l m n o p q r t j k c d) 40)).alloc (.cells #[.string N] 9));have HB0:Hid (Below w.heap.size w W0):=aA (by rw[a];exact aC (aB _ _) (aB _ _));have A:Hid (W0.heap[w.heap.size]? =some (.cells (fR s f g ra rc l m n o p q r t j k c d) 40 (0,0))):=aA (by rw[a];exact aE (aK _ _ _ rfl) (aB _ _));have B:Hid (W0.heap[w.heap.size+1]? =some (.cells #[.string N] 9 (0,0))):=aA (by rw[a];exact aK _ _ _ qs);have v:=aA a;have HI:=aA (XO _ s.aCG N s.aCN (w.heap.size+1) w.heap.size W0 (aH.on cS h.aCG HB0.o) ⟨⟨aQ B.o 0 _ rfl,aD B.o⟩,⟨aQ A.o 0 _ rfl,aD A.o⟩,i⟩);obtain⟨J,b⟩:∃J,RI s N=J:=⟨_,rfl⟩;have e:s.aCG.any (fun x=>decide (x.aCT=N)&&(x.open_&&decide (100<=s.aCN - x.aCN)))=J:=b;rw[b];rw[e] at HI;unfold aP aV at *;obtain⟨⟨a0,y,a2,a3,a4,a5,D,E,F,a9,z,C,a12⟩,_⟩:=bT A.o;clear h a e b i;go_enter func107,ntmps107;go_wp2_with fail;rw[<-v.o];exact Rp
theorem Ej{ok:nP}(v:Value)(l:List Ob)(N:bY)(w:World)(h:aH jT w ok v l):Calls prog 68 #[v,.string N] w (aP (.bool (l.any (fun x=>decide (x.aCF=2)&&decide (x.arg=N)))) w):=by
 obtain⟨la,lc,rfl,_⟩:=h.slice;obtain⟨W0,a⟩:=xE (w.alloc (.cells #[.string N] 9));have HB0:Hid (Below w.heap.size w W0):=aA (by rw[a];exact aB _ _);have B:Hid (W0.heap[w.heap.size]? =some (.cells #[.string N] 9 (0,0))):=aA (by rw[a];exact aK _ _ _ rfl);have b:=aA a;have HI:=aA (TG _ l N w.heap.size W0 (aH.on aO h HB0.o) ⟨aQ B.o 0 _ rfl,aD B.o⟩);generalize l.any (fun x=>decide (x.aCF=2)&&decide (x.arg=N))=J at *;unfold aP at *;clear h a;go_enter func68,ntmps68;go_wp2_with fail;rw[<-b.o];exact Rp
theorem Km{ok:nP}(s:Sto)(vc vr vn vo vt vu vk vb:Value)(w:World)(h:eY w ok s vc vr vn vo vt vu vk vb):Calls prog 70 #[.agg (aV s vc vr vn vo vt vu vk vb)] w (aP (.bool (qJ s)) w):=by
 obtain⟨j,k,ra,rc,p,q,r,t,v,y,z,B,n,o,g,i,rfl,_,rfl,_,rfl,_,rfl,_,rfl,_,rfl,_,rfl,_,rfl,_⟩:=h.sl;obtain⟨W0,d⟩:=xE (w.alloc (.cells (fR s j k ra rc p q r t v y z B n o g i) 40));have f:Hid (Below w.heap.size w W0):=aA (by rw[d];exact aB _ _);have A:Hid (W0.heap[w.heap.size]? =some (.cells (fR s j k ra rc p q r t v y z B n o g i) 40 (0,0))):=aA (by rw[d];exact aK _ _ _ rfl);have C:=aA d;have a:=aA (XN _ s.aCD W0 (aH.on dS h.aCD f.o) trivial);have b:Hid (qJ s=(decide (256<s.aCG.length)||(decide (256<s.aCL.length)||s.aCD.any (fun x=>decide (256<x.log.length))))):=aA rfl;obtain⟨J,l⟩:∃J,qJ s=J:=⟨_,rfl⟩;rw[l] at b ⊢;generalize s.aCD.any (fun x=>decide (256<x.log.length))=c at *;unfold aP aV at *;obtain⟨⟨a0,F,a2,a3,a4,a5,I,K,L,a9,G,H,a12⟩,_⟩:=bT A.o;clear h d l;by_cases h1:256<s.aCG.length
 .have D:decide ((s.aCG.length:Int) > 256)=true:=dX qo;have HE:Hid (J=true):=aA (by rw[b.o,dX h1,Bool.true_or]);clear h1 a;exact QDh
 .have D:decide ((s.aCG.length:Int) > 256)=false:=dF qo;by_cases h2:256<s.aCL.length
  .have E:decide ((s.aCL.length:Int) > 256)=true:=dX qo;have HE:Hid (J=true):=aA (by rw[b.o,dF h1,dX h2];rfl);clear h1 h2 a;exact QDh
  .have E:decide ((s.aCL.length:Int) > 256)=false:=dF qo;have HE:Hid (J=c):=aA (by rw[b.o,dF h1,dF h2];rfl);clear h1 h2;go_enter func70,ntmps70;go_wp2_with fail;rw[<-C.o];refine a.o.mono ?_;rintro e w1 ⟨rfl,m⟩;have HB1:=qB f m;clear m a;exact Hj
theorem YK{ok:nP}(s:Sto)(vc vr vn vo vt vu vk vb:Value)(o:Op)(m:Mk)(hm:Cm.QP m)(w:World)(h:eY w ok s vc vr vn vo vt vu vk vb)(ht:∀x∈s.aCG,0<=x.aCN/\x.aCN<=s.aCN/\s.aCN<=1099511627776):Calls prog 64 #[.agg (aV s vc vr vn vo vt vu vk vb),eT o,.complex .f64 (Cm.qb m.1) (Cm.qb m.2)] w (aP (.bool (kS s o m)) w):=by
 obtain⟨C,E,ra,rc,N,O,P,Q,R,S,T,U,K,M,y,z,rfl,_,rfl,_,rfl,_,rfl,_,rfl,_,rfl,_,rfl,_,rfl,_⟩:=h.sl;obtain⟨k,su,i,n,r,⟨v1,v2,v3⟩,q,t,p,c⟩:=o;unfold eT bW;dsimp only;obtain⟨W0,d⟩:=xE ((w.alloc (.cells (fR s C E ra rc N O P Q R S T U K M y z) 40)).alloc (.cells #[.int .i64 k,.string su,.string i,.string n,.string r,.int .i64 v1,.int .i64 v2,.string v3,.int .i64 q,.string t,.string p,.bool c] 46));have V:Hid (Below w.heap.size w W0):=aA (by rw[d];exact aC (aB _ _) (aB _ _));have A:Hid (W0.heap[w.heap.size]? =some (.cells (fR s C E ra rc N O P Q R S T U K M y z) 40 (0,0))):=aA (by rw[d];exact aE (aK _ _ _ rfl) (aB _ _));have B:Hid (W0.heap[w.heap.size+1]? =some (.cells #[.int .i64 k,.string su,.string i,.string n,.string r,.int .i64 v1,.int .i64 v2,.string v3,.int .i64 q,.string t,.string p,.bool c] 46 (0,0))):=aA (by rw[d];exact aK _ _ _ qs);obtain⟨aa,v,Y,HT⟩:=dC d (IP s _ _ _ _ _ _ _ _ su ⟨#[103,108,97,115,115]⟩ W0 (h.on V.o)) h ht;obtain⟨D,F⟩:∃D,decide (m=(0,4))=D:=⟨_,rfl⟩;obtain⟨Z,J⟩:∃Z,decide (m=(0,0))=Z:=⟨_,rfl⟩;have j:((FloatKind.f64.format.order (Cm.qb m.1) 0==some .eq)&&(FloatKind.f64.format.order (Cm.qb m.2) 4607182418800017408==some .eq))=D:=(Cm.iS m.1 m.2 0 4 hm qe qe).trans ((rZ m (0,4)).trans F);have l:((FloatKind.f64.format.order (Cm.qb m.1) 0==some .eq)&&(FloatKind.f64.format.order (Cm.qb m.2) 0==some .eq))=Z:=(Cm.iS m.1 m.2 0 0 hm qe qe).trans ((rZ m (0,0)).trans J);obtain⟨H,G⟩:∃H,rQ s su ⟨#[103,108,97,115,115]⟩=H:=⟨_,rfl⟩;obtain⟨L,I⟩:∃L,RI s su=L:=⟨_,rfl⟩;have b:Hid (kS s ⟨k,su,i,n,r,(v1,v2,v3),q,t,p,c⟩ m=(c&&((D||Z)&&(H&& !L)))):=aA (by
  rw[<-F,<-J,<-G,<-I];unfold kS NX;rw[Tp])
 rw[G] at v;have X:Hid (∀w2,Below w.heap.size w w2->Calls prog 107 #[.agg #[.int .i64 s.aCN,.slice C s.aCD.length E,.slice ra s.aCG.length rc,.slice N s.aCL.length O,.slice P s.aCR.length Q,.string s.aCE.id,.bool s.aCE.set,.int .i64 s.aCE.alg,.slice R s.aCE.aCO.length S,.slice T s.aCE.aCH.length U,.slice K s.aCE.aCS.length M,.slice y s.aCE.aCU.length z,.int .i64 s.aCQ],.string su] w2 (aP (.bool L) w2)):=aA (fun w2 hb=>by rw[<-I];exact Kl s _ _ _ _ _ _ _ _ su w2 (Y.o.on hb) HT.o);unfold aP aV at *;generalize Cm.qb m.1=ma at *;generalize Cm.qb m.2=mb at *;have f:=aA j;have g:=aA l;clear h d F J G I ht j l hm Y HT
 cases c
 .have HE:=aA b.o;clear b;go_enter func64,ntmps64;exact Xs
 .rcases D with _|_<;>rcases Z with _|_
  .have j:=f.o;have l:=g.o;have HE:=aA b.o;clear b f g;go_enter func64,ntmps64;exact Xs
  all_goals
   have j:=f.o;have l:=g.o;have HE:Hid (kS s ⟨k,su,i,n,r,(v1,v2,v3),q,t,p,true⟩ m=(H&& !L)):=aA b.o;clear b f g;go_enter func64,ntmps64;go_wp2_with fail;rw[<-aa.o];refine v.o.mono ?_;rintro e w1 ⟨rfl,a⟩;have HB1:=qB V a;replace A:=qK A a;obtain⟨⟨A0,A1,A2,A3,A4,A5,A6,A7,A8,A9,ab,ad,ae⟩,_⟩:=bT A.o;have zA:=aD A.o;replace B:=qK B a;obtain⟨⟨B0,B1,B2,B3,B4,B5,B6,B7,B8,B9,af,ag⟩,_⟩:=bL B.o;have zB:=aD B.o;clear a v
   cases H
   .exact Hj
   .have W:=aA (X.o w1 HB1.o);go_wp2_with fail;refine W.o.mono ?_;rintro e w2 ⟨rfl,a⟩;have HB2:=qB HB1 a;clear a W X;exact FT
end Go.Proofs.YtlfngkelmbdehaaGreatDoor
