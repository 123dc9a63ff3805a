/- Lemmas. -/
import Derived.Test.YtheabjeppmdmiaaGreatDoorMan
namespace Go.Proofs.YtheabjeppmdmiaaGreatDoor
open Go.RowKit
set_option linter.unusedVariables false
set_option linter.unusedSimpArgs false
set_option maxHeartbeats 16000000
open _root_.Go.Proofs.Tryz
set_option maxRecDepth 20000
theorem QCZ{p:Prop}(h:p:=by
 repeat (refine Below.setCell ?_ (by first|exact lR _|exact Nat.le_succ _) _)
 exact HBF.o):p:=h
theorem Tv{p:Prop}(h:p:=by
 exact⟨0,0,none,0,Nat.zero_le _,rfl,rfl,aA rfl,aA aM.nil,aA (Below.refl _ _)⟩):p:=h
def iQ{α:Type}(R:Rep α)(L:List Tok)(g:Nat)(w:World)(l:List α)(p':PS)(e:Ending)(w':World):Prop:=
 ∃v,e=.returned v/\aH R w' (fun b=>w.heap.size<=b) v l/\PW L w' g p'/\aN (fun b=>b≠g) w w'
structure yV {α:Type} (R:Rep α) (s:Nat) (e:TypeId) (L:List Tok) (one:PS->α×PS) (sep:ByteArray) (g:Nat) (w:World) (res:List α×PS) (f:Nat) (v:Value) (wr:World) (l:List α) (q:PS):Prop where
 res:jY L one sep f l q=res
 at_:q.at_<L.length
 fuel:L.length<=f+q.at_
 len:l.length<=q.at_+1
 row:aM R s e wr w.heap.size (fun b=>w.heap.size<=b) v l
 pw:PW L wr g q
 aDQ:cZ w.heap.size g w wr
def SU{α:Type}(R:Rep α)(s:Nat)(e:TypeId)(L:List Tok)(one:PS->α×PS)(sep:bY)(g:Nat)(w:World)(res:List α×PS)(f:Nat)(v:Value)(wr:World):Prop:=
 ∃(l:List α) (q:PS) (A:oD) (c:Nat),v=.slice A l.length c/\Hid (yV R s e L one sep g w res f v wr l q)
section
variable {α:Type} {R:Rep α} {s:Nat} {e:TypeId} {L:List Tok} {one:PS->α×PS} {sep:bY} {g:Nat} {w:World} {res:List α×PS} {f:Nat} {v:Value} {wr:World} {l:List α} {q:PS}
theorem yV.stop(h:yV R s e L one sep g w res f v wr l q)(a:cM L sep q=false):res=(l,q):=by
 have h1:=h.res
 cases f with
 |zero=>exact h1.symm
 |succ f=>unfold jY at h1;rw[iN (by rw[a];decide)] at h1;exact h1.symm
theorem yV.next(h:yV R s e L one sep g w res f v wr l q)(b:cM L sep q=true):∃a,f=a+1/\jY L one sep a (l++[(one {q with at_:=q.at_+1}).1]) (cT L (decide (8<(l++[(one {q with at_:=q.at_+1}).1]).length)) (one {q with at_:=q.at_+1}).2)=res:=by
 have h1:=h.res;have h2:=h.fuel;have h3:=h.at_;obtain⟨a,rfl⟩:∃a,f=a+1:=⟨f - 1,qo⟩;refine⟨a,rfl,?_⟩;unfold jY at h1;rw[iP b] at h1;exact h1
end
theorem aM.aDY{α:Type}{R:Rep α}{s:Nat}{e:TypeId}{w wr w2:World}{v:Value}{l:List α}{g:Nat}(F:Firm R s)(h:aM R s e wr w.heap.size (fun b=>w.heap.size<=b) v l)(k:aN (fun b=>b≠g) wr w2)(c:g<w.heap.size):aM R s e w2 w.heap.size (fun b=>w.heap.size<=b) v l:=
 h.aDQ F k (fun b a _=>by have:w.heap.size<=b:=a;show b≠g;omega) (fun b a _=>by show b≠g;omega)
theorem PW.grown{α:Type}{R:Rep α}{s:Nat}{e:TypeId}{w w':World}{base:Nat}{ok:nP}{v:Value}{l:List α}{L:List Tok}{g:Nat}{p:PS}(h:PW L w g p)(a:aM R s e w base ok v l)(c:w.grownBy w' v.ownBlock)(d:g<base):PW L w' g p:=
 h.aDQ (cY c) (fun b f e=>qA ((a.lt b e.symm).1))
theorem cZ.grown{α:Type}{R:Rep α}{s:Nat}{e:TypeId}{a w w':World}{base B:Nat}{ok:nP}{v:Value}{l:List α}{g:Nat}(h:cZ B g a w)(b:aM R s e w base ok v l)(c:w.grownBy w' v.ownBlock)(d:B<=base):cZ B g a w':=
 aN.trans h ((cY c).mono fun k f h e=>qD ((b.lt k e.symm).1) h.1)
theorem cZ.size{B g:Nat}{a w:World}(h:cZ B g a w):a.heap.size<=w.heap.size:=aN.size h
theorem NU(a b:Nat):decide ((a:Int)<(b:Int))=decide (a<b):=decide_eq_decide.2 qo
theorem Zq:eF prog 297 262 7 72:=fZ (z:= .agg #[.int .i64 0,.string ByteArray.empty,.bool false,.int .i64 0,.int .i64 0,.int .i64 0,.string ByteArray.empty]) underlying297 (by kernel_rfl) rfl qe
theorem Zr:eF prog 247 297 1 24:=fZ (z:= .slice none 0 0) underlying247 (by kernel_rfl) rfl qe
theorem Tw:eF prog 45 247 1 24:=fZ (z:= .slice none 0 0) underlying45 (by kernel_rfl) rfl qe
abbrev kO(p:Po)(a:oD)(b:Nat)(c:oD)(d:Nat)(e:oD)(f:Nat)(g:oD)(i:Nat):Array Value:=#[.string p.id,.bool p.set,.int .i64 p.alg,.slice a p.aDR.length b,.slice c p.aDK.length d,.slice e p.aDV.length f,.slice g p.aDX.length i]
abbrev wJ:Array Value:=#[.string ⟨#[]⟩,.bool false,.int .i64 0,.slice none 0 0,.slice none 0 0,.slice none 0 0,.slice none 0 0]
theorem Tx{p:Prop}(h:p:=by
 clear h_ k_ HLM2 HG4 HP4 HK4;rw[show (8:Int)=((8:Nat):Int) from rfl,NU] at HP;rw[<-hl'.o] at HS;have hl2:l'.length=l.length+1:=by rw[hl'.o,aL,List.length_singleton]
 have HL2:=aA hl2;have hq3:=(kX (L:=L) (decide (8<l'.length)) hq2);have hq4:=hq3.le;have HQ3:=aA hq3;clear hl2 hq3;go_wp2;go_roundg f'
 case measure=>rw[HF.o];omega
 case rel=>exact⟨l',_,A',c',rfl,aA ⟨HS.o,HQ3.o.lt,qA HF.o,qA HL2.o,HG.o,HP.o,HK.o⟩⟩):p:=h
theorem Pr{L:List Tok}{p:PS}(T:Toks L)(hp:p.at_<L.length)(g:Nat)(w:World)(h:PW L w g p):
 Calls prog 207 #[.pointer (some ⟨g,0,none⟩)] w (iQ rV L g w (jD L p).1 (jD L p).2):=by
 have U:=T.len;have k:=h.lt;have HP:=aA h;have x:=aA (fun (q:PS) (d:q.at_<L.length) w h=>Iv T d g w h);have K:=aA (fun (q:PS) (d:q.at_<L.length) w h=>eP T (str ",") d g w h);have S:=aA (fun b (q:PS) (d:q.at_<L.length) w h=>kY b d U g w h);have o:=aA (fun (q:PS) (d:q.at_<L.length)=>CI T d);have t:=aA (fun (q:PS) (d:q.at_<L.length)=>Dk T d);obtain⟨res,D⟩:=xE (jD L p);have J:Hid (jY L (eH L) (str ",") L.length [(eH L p).1] (eH L p).2=res):=aA (by rw[D];rfl);rw[<-D];obtain⟨y,H,F⟩:=aY (x.o p hp) (o.o p hp) (t.o p hp);have Y:=aA (fun q=>(rfl:cM L (str ",") q=cM L (str ",") q));unfold iQ;unfold kU at y;clear h D;generalize eH L p=Q at *;have HK:=aA (cZ.refl w.heap.size g w);go_enter func207,ntmps207;go_wp2_with fail;refine(y.o _ HP.o).mono ?_;rintro e w1 ⟨rfl,h_,k_⟩;have HK:=aA (HK.o.aDY k_);have HP:=aA h_;have X:w.heap.size<=w1.heap.size:=k_.size;clear h_ k_ y;go_wp2;go_loopg [3] L.length (fun f v wr=>SU rV 7 262 L (eH L) (str ",") g w res f v wr)
 case atStart=>exact⟨[Q.1],Q.2,_,_,rfl,aA ⟨J.o,H.o.lt,qo,qs,aM.one eS (aK _ _ _ rfl) X ⟨rfl,F.o⟩,HP.o.alloc,HK.o.alloc⟩⟩
 case round=>
  clear J HP HK H F;obtain⟨l,q,A,c,rfl,a⟩:=hrel;have d:=a.o.at_;have j:=aA (K.o q d wr a.o.pw);have hlen:l.length<=5000:=qA a.o.len
  cases i:cM L (str ",") q
  .rw[kE i,Aj] at j;have HS:=aA (a.o.stop i);clear i;go_wp2_with fail;refine j.o.mono ?_;rintro e w2 ⟨rfl,h_,k_⟩;obtain⟨HP,HK,HG⟩:=aY h_ (a.o.aDQ.aDY k_) (a.o.row.aDY eS k_ k);clear h_ k_ j;go_wp2;go_ret;refine⟨_,rfl,?_,?_,HK.o.end⟩
   .rw[HS.o];exact HG.o.sl qo _ (fun b B _=>B) (fun b B _=>B) eS
   .rw[HS.o];exact HP.o
  .rw[mO i,Aj] at j;obtain⟨f',O,P⟩:=a.o.next i;have HF:=aA O;have HS:=aA P;have m:=(fQ T d i).lt;have z:=aA (x.o _ m);have hq2:=(o.o _ m).lt;have V:=(o.o _ m).le;have Z:=a.o.fuel;have hle:=a.o.len;have R:=aA (t.o _ m);simp only at V m;unfold kU at z;clear i O P x o t K;generalize eH L {q with at_:=q.at_+1}=E at *;go_wp2_with fail;refine j.o.mono ?_;rintro e w2 ⟨rfl,h_,k_⟩;obtain⟨HP,HK,HG⟩:=aY h_ (a.o.aDQ.aDY k_) (a.o.row.aDY eS k_ k);clear h_ k_ j a;go_wp2_with fail;refine(z.o _ HP.o).mono ?_;rintro e s ⟨rfl,h_,k_⟩;obtain⟨HP,HK,HG⟩:=aY h_ (HK.o.aDY k_) (HG.o.aDY eS k_ k);clear h_ k_ z;have aa:w.heap.size<=s.heap.size:=HK.o.size;have r:=aA (aB s (.cells (KN E.1) 262));have M:=aA (heap_alloc_new s (.cells (KN E.1) 262));obtain⟨n,I,G⟩:=aY (HG.o.on eS r.o) (HP.o.on r.o) (HK.o.new r.o);go_wp2_with (at_builtin;refine cB Zq eS rfl (.tmp 9) (.tmp 12) rfl _ l rfl n.o s.heap.size 1 _ _ _ E.1 rfl M.o ⟨rfl,R.o⟩ qo qo (by rw[World.size_alloc];omega) ?_;intro l' hl' A' c' w4 N C W;have HG4:=aA N;have HP4:=aA (I.o.grown n.o C k);have HK4:=aA (G.o.grown n.o C (lR _));clear N C W HG HP HK r M n I G)
   have HLM2:=aA (S.o (decide ((8:Int)<(l'.length:Int))) _ hq2 _ HP4.o);refine HLM2.o.mono ?_;rintro e w5 ⟨rfl,h_,k_⟩;obtain⟨HP,HK,HG⟩:=aY h_ (HK4.o.aDY k_) (HG4.o.aDY eS k_ k);exact Tx
theorem Ps{L:List Tok}{p:PS}(T:Toks L)(hp:p.at_<L.length)(g:Nat)(w:World)(h:PW L w g p):
 Calls prog 165 #[.pointer (some ⟨g,0,none⟩)] w (iQ (rows rV) L g w (mK L p).1 (mK L p).2):=by
 have hL:=T.len;have o:=h.lt;have HP:=aA h;have G:=aA (fun (q:PS) (a:q.at_<L.length) w h=>Pr T a g w h);have X:=aA (fun (q:PS) (a:q.at_<L.length) w h=>eP T (str "or") a g w h);have ad:=aA (fun b (q:PS) (a:q.at_<L.length) w h=>kY b a hL g w h);have B:=aA (fun (q:PS) (a:q.at_<L.length)=>NJ T a);have O:=aA (gB T (str "(") hp);have Q:=aA (fun w h=>mN T (str "(") hp g w h);have ae:=aA (fun (q:PS) (a:q.at_<L.length) w h=>mN T (str ")") a g w h);unfold mK;dsimp only;generalize eM L (str "(") p=m at *;rw[KH] at Q;obtain⟨res,K⟩:=xE (jY L (jD L) (str "or") L.length [(jD L m).1] (jD L m).2);have S:Hid (jY L (jD L) (str "or") L.length [(jD L m).1] (jD L m).2=res):=aA K.symm;rw[<-K];have H:=aA (G.o m O.o.lt);have P:=aA (B.o m O.o.lt);unfold iQ;unfold iQ at H;clear h K;generalize jD L m=M at *;have HK:=aA (cZ.refl w.heap.size g w);go_enter func165,ntmps165;go_wp2_with fail;refine(Q.o _ HP.o).mono ?_;rintro e w0 ⟨rfl,h_,k_⟩;have HK:=aA (HK.o.aDY k_);have HP:=aA h_;have ak:w.heap.size<=w0.heap.size:=k_.size;clear h_ k_;go_wp2_with fail;refine(H.o _ HP.o).mono ?_;rintro e w1 ⟨v,rfl,k,h_,k_⟩;obtain⟨x,y,rfl,ah⟩:=k.slice;have HK:=aA (HK.o.aDY k_);have HP:=aA h_;have ai:w.heap.size<=w1.heap.size:=HK.o.size;have U:=aA k;clear k h_ k_ H;go_wp2;go_loopg [3] L.length (fun f v wr=>SU (rows rV) 1 297 L (jD L) (str "or") g w res f v wr)
 case atStart=>
  have t:=aB w1 (.cells #[.slice x M.1.length y] 297);exact⟨[M.1],M.2,_,_,rfl,aA ⟨S.o,P.o.lt,qo,qs,aM.one dR (aK _ _ _ rfl) ai ⟨_,rfl,aH.more eS ((aH.inb eS U.o).on eS t) (fun b i=>⟨by have:w0.heap.size<=b:=i.1;show w.heap.size<=b;omega,by have:=i.2;rw[World.size_alloc];omega,qA i.2⟩)⟩,HP.o.alloc,HK.o.alloc⟩⟩
 case round=>
  clear S HP HK P U;obtain⟨l,q,A,c,rfl,d⟩:=hrel;have a:=d.o.at_;have n:=aA (X.o q a wr d.o.pw);have hlen:l.length<=5000:=qA d.o.len
  cases j:cM L (str "or") q
  .rw[kE j,Yx] at n;have HS:=aA (d.o.stop j);have E:=aA (ae.o q a);rw[KI] at E;clear j;go_wp2_with fail;refine n.o.mono ?_;rintro e w2 ⟨rfl,h_,k_⟩;obtain⟨HP,HK,HG⟩:=aY h_ (d.o.aDQ.aDY k_) (d.o.row.aDY dR k_ o);clear h_ k_ n;go_wp2_with fail;refine(E.o _ HP.o).mono ?_;rintro e r ⟨rfl,h_,k_⟩;obtain⟨HP,HK,HG⟩:=aY h_ (HK.o.aDY k_) (HG.o.aDY dR k_ o);clear h_ k_ E;go_wp2;go_ret;refine⟨_,rfl,?_,?_,HK.o.end⟩
   .rw[HS.o];exact HG.o.sl qo _ (fun b t _=>t) (fun b t _=>t) dR
   .rw[HS.o,KI];exact HP.o
  .rw[mO j,Yx] at n;obtain⟨f',aa,ab⟩:=d.o.next j;have HF:=aA aa;have HS:=aA ab;have C:=(fQ T a j).lt;have I:=aA (G.o _ C);have hq2:=(B.o _ C).lt;have af:=(B.o _ C).le;have aj:=d.o.fuel;have hle:=d.o.len;simp only at af C;unfold iQ at I;clear j aa ab G B X;generalize jD L {q with at_:=q.at_+1}=D at *;go_wp2_with fail;refine n.o.mono ?_;rintro e w2 ⟨rfl,h_,k_⟩;obtain⟨HP,HK,F⟩:=aY h_ (d.o.aDQ.aDY k_) (d.o.row.aDY dR k_ o);have al:w.heap.size<=w2.heap.size:=HK.o.size;clear h_ k_ n d;go_wp2_with fail;refine(I.o _ HP.o).mono ?_;rintro e r ⟨v,rfl,k,h_,k_⟩;obtain⟨x,y,rfl,ah⟩:=k.slice;obtain⟨HP,HK,HG,V⟩:=dI h_ (HK.o.aDY k_) (F.o.aDY dR k_ o) k;clear k h_ k_ I;have an:w.heap.size<=r.heap.size:=HK.o.size;have s:=aA (aB r (.cells #[.slice x D.1.length y] 297));have Y:=aA (heap_alloc_new r (.cells #[.slice x D.1.length y] 297));obtain⟨z,R,N⟩:=aY (HG.o.on dR s.o) (HP.o.on s.o) (HK.o.new s.o);have W:=aA (aH.more eS ((aH.inb eS V.o).on eS s.o) (ok':=fun b=>w.heap.size<=b/\b<(r.alloc (.cells #[.slice x D.1.length y] 297)).heap.size/\some b≠(Value.slice A l.length c).ownBlock) (fun b i=>⟨by have:w2.heap.size<=b:=i.1;omega,by have:=i.2;rw[World.size_alloc];omega,fun e=>by have h1:=(F.o.lt b e.symm).2;have:w2.heap.size<=b:=i.1;omega⟩));go_wp2_with (at_builtin;refine cB Zr dR rfl (.tmp 11) (.tmp 14) rfl _ l rfl z.o r.heap.size 1 _ _ _ D.1 rfl Y.o ⟨_,rfl,W.o⟩ qo qo (by rw[World.size_alloc];omega) ?_;intro l' hl' A' c' w4 Z J ag;have HG4:=aA Z;have HP4:=aA (R.o.grown z.o J o);have HK4:=aA (N.o.grown z.o J (lR _));clear Z J ag HG HP HK s Y z R N W V F)
   have HLM2:=aA (ad.o (decide ((8:Int)<(l'.length:Int))) _ hq2 _ HP4.o);refine HLM2.o.mono ?_;rintro e w5 ⟨rfl,h_,k_⟩;obtain⟨HP,HK,HG⟩:=aY h_ (HK4.o.aDY k_) (HG4.o.aDY dR k_ o);exact Tx
theorem tT{L:List Tok}{p:PS}(T:Toks L)(hp:p.at_<L.length)(g:Nat)(w:World)(h:PW L w g p):
 Calls prog 120 #[.pointer (some ⟨g,0,none⟩)] w (iQ (rows (rows rV)) L g w (bU L p).1 (bU L p).2):=by
 have hL:=T.len;have x:=h.lt;have HP:=aA h;have I:=aA (fun (q:PS) (d:q.at_<L.length) w h=>Ps T d g w h);have X:=aA (fun (q:PS) (d:q.at_<L.length) w h=>eP T (str "and") d g w h);have ad:=aA (fun b (q:PS) (d:q.at_<L.length) w h=>kY b d hL g w h);have D:=aA (fun (q:PS) (d:q.at_<L.length)=>NL T d);have r:=aA (fun w h=>eP T (str "when") hp g w h)
 cases n:cM L (str "when") p
 .rw[kE n,Hy] at r;have e:bU L p=([],p):=by unfold bU;rw[iN (by rw[n];decide)]
  rw[e];unfold iQ;clear h e n;go_enter func120,ntmps120;go_wp2_with fail;refine(r.o _ HP.o).mono ?_;rintro e w1 ⟨rfl,h_,k_⟩;have HP:=aA h_;have HK:=aA k_;clear h_ k_;go_wp2;go_ret;exact⟨_,rfl,aH.nil,HP.o,HK.o⟩
 rw[mO n,Hy] at r;have H:=aA (fQ T hp n);have e:bU L p=jY L (mK L) (str "and") L.length [(mK L {p with at_:=p.at_+1}).1] (mK L {p with at_:=p.at_+1}).2:=by unfold bU;rw[iP n]
 rw[e];clear e n;obtain⟨i,ag⟩:∃i,i=({p with at_:=p.at_+1}:PS):=⟨_,rfl⟩;rw[<-ag] at r H ⊢;obtain⟨res,N⟩:=xE (jY L (mK L) (str "and") L.length [(mK L i).1] (mK L i).2);have S:Hid (jY L (mK L) (str "and") L.length [(mK L i).1] (mK L i).2=res):=aA N.symm;rw[<-N];have J:=aA (I.o i H.o.lt);have Q:=aA (D.o i H.o.lt);unfold iQ;unfold iQ at J;clear h N;generalize mK L i=O at *;have HK:=aA (cZ.refl w.heap.size g w);go_enter func120,ntmps120;go_wp2_with fail;refine(r.o _ HP.o).mono ?_;rintro e w0 ⟨rfl,h_,k_⟩;have HK:=aA (HK.o.aDY k_);have HP:=aA h_;have ak:w.heap.size<=w0.heap.size:=k_.size;clear h_ k_;go_wp2_with fail;refine(J.o _ HP.o).mono ?_;rintro e w1 ⟨v,rfl,m,h_,k_⟩;obtain⟨z,B,rfl,ah⟩:=m.slice;have HK:=aA (HK.o.aDY k_);have HP:=aA h_;have ai:w.heap.size<=w1.heap.size:=HK.o.size;have U:=aA m;clear m h_ k_ J;go_wp2;go_loopg [3] L.length (fun f v wr=>SU (rows (rows rV)) 1 247 L (mK L) (str "and") g w res f v wr)
 case atStart=>
  have t:=aB w1 (.cells #[.slice z O.1.length B] 247);exact⟨[O.1],O.2,_,_,rfl,aA ⟨S.o,Q.o.lt,qo,qs,aM.one aS (aK _ _ _ rfl) ai ⟨_,rfl,aH.more dR ((aH.inb dR U.o).on dR t) (fun b j=>⟨by have:w0.heap.size<=b:=j.1;show w.heap.size<=b;omega,by have:=j.2;rw[World.size_alloc];omega,qA j.2⟩)⟩,HP.o.alloc,HK.o.alloc⟩⟩
 case round=>
  clear S HP HK Q U;obtain⟨l,q,A,c,rfl,a⟩:=hrel;have d:=a.o.at_;have o:=aA (X.o q d wr a.o.pw);have hlen:l.length<=5000:=qA a.o.len
  cases k:cM L (str "and") q
  .rw[kE k,Tf] at o;have HS:=aA (a.o.stop k);clear k;go_wp2_with fail;refine o.o.mono ?_;rintro e w2 ⟨rfl,h_,k_⟩;obtain⟨HP,HK,HG⟩:=aY h_ (a.o.aDQ.aDY k_) (a.o.row.aDY aS k_ x);clear h_ k_ o;go_wp2;go_ret;refine⟨_,rfl,?_,?_,HK.o.end⟩
   .rw[HS.o];exact HG.o.sl qo _ (fun b t _=>t) (fun b t _=>t) aS
   .rw[HS.o];exact HP.o
  .rw[mO k,Tf] at o;obtain⟨f',aa,ab⟩:=a.o.next k;have HF:=aA aa;have HS:=aA ab;have E:=(fQ T d k).lt;have K:=aA (I.o _ E);have hq2:=(D.o _ E).lt;have ae:=(D.o _ E).le;have aj:=a.o.fuel;have hle:=a.o.len;simp only at ae E;unfold iQ at K;clear k aa ab I D X;generalize mK L {q with at_:=q.at_+1}=F at *;go_wp2_with fail;refine o.o.mono ?_;rintro e w2 ⟨rfl,h_,k_⟩;obtain⟨HP,HK,G⟩:=aY h_ (a.o.aDQ.aDY k_) (a.o.row.aDY aS k_ x);have al:w.heap.size<=w2.heap.size:=HK.o.size;clear h_ k_ o a;go_wp2_with fail;refine(K.o _ HP.o).mono ?_;rintro e y ⟨v,rfl,m,h_,k_⟩;obtain⟨z,B,rfl,ah⟩:=m.slice;obtain⟨HP,HK,HG,V⟩:=dI h_ (HK.o.aDY k_) (G.o.aDY aS k_ x) m;clear m h_ k_ K;have an:w.heap.size<=y.heap.size:=HK.o.size;have s:=aA (aB y (.cells #[.slice z F.1.length B] 247));have Y:=aA (heap_alloc_new y (.cells #[.slice z F.1.length B] 247));obtain⟨C,R,P⟩:=aY (HG.o.on aS s.o) (HP.o.on s.o) (HK.o.new s.o);have W:=aA (aH.more dR ((aH.inb dR V.o).on dR s.o) (ok':=fun b=>w.heap.size<=b/\b<(y.alloc (.cells #[.slice z F.1.length B] 247)).heap.size/\some b≠(Value.slice A l.length c).ownBlock) (fun b j=>⟨by have:w2.heap.size<=b:=j.1;omega,by have:=j.2;rw[World.size_alloc];omega,fun e=>by have h1:=(G.o.lt b e.symm).2;have:w2.heap.size<=b:=j.1;omega⟩));go_wp2_with (at_builtin;refine cB Tw aS rfl (.tmp 12) (.tmp 15) rfl _ l rfl C.o y.heap.size 1 _ _ _ F.1 rfl Y.o ⟨_,rfl,W.o⟩ qo qo (by rw[World.size_alloc];omega) ?_;intro l' hl' A' c' w4 Z M af;have HG4:=aA Z;have HP4:=aA (R.o.grown C.o M x);have HK4:=aA (P.o.grown C.o M (lR _));clear Z M af HG HP HK s Y C R P W V G)
   have HLM2:=aA (ad.o (decide ((8:Int)<(l'.length:Int))) _ hq2 _ HP4.o);refine HLM2.o.mono ?_;rintro e w5 ⟨rfl,h_,k_⟩;obtain⟨HP,HK,HG⟩:=aY h_ (HK4.o.aDY k_) (HG4.o.aDY aS k_ x);exact Tx
theorem cZ.join{B g:Nat}{a w w':World}(h:cZ B g a w)(k:cZ w.heap.size g w w')(c:B<=w.heap.size):cZ B g a w':=aN.trans h (aN.mono k fun x b h=>⟨b,h.2⟩)
theorem aM.aEZ{α:Type}{R:Rep α}{s:Nat}{e:TypeId}{w wr w2:World}{v:Value}{l:List α}{g:Nat}(F:Firm R s)(h:aM R s e wr w.heap.size (fun b=>w.heap.size<=b) v l)(k:cZ wr.heap.size g wr w2)(d:g<w.heap.size):aM R s e w2 w.heap.size (fun b=>w.heap.size<=b) v l:=
 h.aDQ F k (fun b c a=>⟨a,by have:w.heap.size<=b:=c;omega⟩) (fun b c a=>⟨a,qo⟩)
theorem aDg:eF prog 48 167 3 32:=fZ (z:= .agg #[.int .i64 0,.int .i64 0,.string ByteArray.empty]) underlying48 (by kernel_rfl) rfl qe
theorem vG{L:List Tok}{p:PS}(T:Toks L)(hp:p.at_<L.length)(g:Nat)(w:World)(h:PW L w g p):
 Calls prog 124 #[.pointer (some ⟨g,0,none⟩)] w (iQ kB L g w (gO L p).1 (gO L p).2):=by
 have hL:=T.len;have D:=h.lt;have HP:=aA h;have ae:=aA (fun (q:PS) (i:q.at_<L.length) w h=>eP T (str "on") i g w h);have aj:=aA (fun b (q:PS) (i:q.at_<L.length) w h=>kY b i hL g w h);have r:=aA (fun (q:PS) (i:q.at_<L.length) a c w h hw=>nJ T [str "permit",str "deny"] a c 2 rfl qe i g w h hw);have s:=aA (fun (q:PS) (i:q.at_<L.length) a c w h hw=>nJ T [str "log",str "redact",str "review",str "notify"] a c 4 rfl qe i g w h hw);have I:=aA (fun (q:PS) (i:q.at_<L.length) w h=>rL T i g w h);obtain⟨res,X⟩:=xE (gO L p);have ad:Hid (jY L (tQ L) (str "on") L.length [] p=res):=aA (by rw[X];rfl);rw[<-X];unfold iQ;clear h X;have HK:=aA (cZ.refl w.heap.size g w);go_enter func124,ntmps124;go_wp2;go_loopg [3] L.length (fun f v wr=>SU kB 3 167 L (tQ L) (str "on") g w res f v wr)
 case atStart=>exact⟨[],p,none,0,rfl,aA ⟨ad.o,hp,qo,qs,aM.nil,HP.o,HK.o⟩⟩
 case round=>
  clear ad HP HK;obtain⟨l,q,A,c,rfl,d⟩:=hrel;have i:=d.o.at_;have n:=aA (ae.o q i wr d.o.pw);have hlen:l.length<=5000:=qA d.o.len
  cases m:cM L (str "on") q
  .rw[kE m,Yy] at n;have HS:=aA (d.o.stop m);clear m;go_wp2_with fail;refine n.o.mono ?_;rintro e w2 ⟨rfl,h_,k_⟩;obtain⟨HP,HK,HG⟩:=aY h_ (d.o.aDQ.aDY k_) (d.o.row.aDY aO k_ D);clear h_ k_ n;go_wp2;go_ret;refine⟨_,rfl,?_,?_,HK.o.end⟩
   .rw[HS.o];exact HG.o.sl qo _ (fun b S _=>S) (fun b S _=>S) aO
   .rw[HS.o];exact HP.o
  .rw[mO m,Yy] at n;obtain⟨f',ah,ai⟩:=d.o.next m;have HF:=aA ah;have HS:=aA ai;have o:=(fQ T i m).lt;have V:=dV T [str "permit",str "deny"] o;have W:=dV T [str "log",str "redact",str "review",str "notify"] V.lt;have al:=jI T W.lt;obtain⟨r,s,I⟩:=aY (r.o _ o) (s.o _ V.lt) (I.o _ W.lt);have hq2:=(JB T o).lt;have R:=(JB T o).le;have aq:=d.o.fuel;have hle:=d.o.len;have N:=aA (Iw T o);simp only at R o;clear m ah ai ae V W al;have HD:Hid (tQ L {q with at_:=q.at_+1}=(⟨(aZ L [str "permit",str "deny"] {q with at_:=q.at_+1}).1,(aZ L [str "log",str "redact",str "review",str "notify"] (aZ L [str "permit",str "deny"] {q with at_:=q.at_+1}).2).1,(bT L (aZ L [str "log",str "redact",str "review",str "notify"] (aZ L [str "permit",str "deny"] {q with at_:=q.at_+1}).2).2).1⟩,(bT L (aZ L [str "log",str "redact",str "review",str "notify"] (aZ L [str "permit",str "deny"] {q with at_:=q.at_+1}).2).2).2)):=aA rfl;generalize aZ L [str "permit",str "deny"] {q with at_:=q.at_+1}=J at *;generalize aZ L [str "log",str "redact",str "review",str "notify"] J.2=K at *;generalize bT L K.2=F at *;rw[HD.o] at HS N hq2 R;clear HD;rw[JE,TR] at r;rw[aAN,Oz,Pb,Pc] at s;simp only at hq2 R N;go_wp2_with fail;refine n.o.mono ?_;rintro e w2 ⟨rfl,h_,k_⟩;obtain⟨HP,O,aa⟩:=aY h_ (d.o.aDQ.aDY k_) (d.o.row.aDY aO k_ D);have an:w.heap.size<=w2.heap.size:=O.o.size;have ar:=HP.o.lt;have HK:=aA (cZ.refl w2.heap.size g w2);clear h_ k_ n d;go_wp2_with fail;refine(r.o _ _ _ (HP.o.alloc.alloc) (nK _ _ _ _ _ qs rfl)).mono ?_;rintro e Y ⟨rfl,h_,k_⟩
   obtain⟨j,k,HK,HP⟩:=dI (aF (aE (aK _ _ _ qs) (aB _ _)) k_ qo:Y.heap[w2.heap.size]? =some (.cells fW 167 (0,0))) (aF (aK _ _ _ qs) k_ qo:Y.heap[w2.heap.size+1]? =some (.cells #[.string ⟨#[112,101,114,109,105,116]⟩,.string ⟨#[100,101,110,121]⟩] 9 (0,0))) (HK.o.alloc.alloc.aDY k_) h_;clear h_ k_;have au:=aD j.o;have ax:=aD k.o;have a7:=HP.o.lt;clear r;obtain⟨⟨t,x,y⟩,z,B,C⟩:=cG j.o;go_wp2_with fail;refine(s.o _ _ _ ((HP.o.set qo).alloc) (nK _ _ _ _ _ qs rfl)).mono ?_;rintro e w4 ⟨rfl,h_,k_⟩;obtain⟨j,k,G,HK,HP⟩:=gG (aF (aE (aAP (j.o) _) (aB _ _)) k_ qo) (aF (aE (bE (k.o) qo) (aB _ _)) k_ qo) (aF (aK _ _ _ qs) k_ qo:w4.heap[Y.heap.size]? =some (.cells #[.string ⟨#[108,111,103]⟩,.string ⟨#[114,101,100,97,99,116]⟩,.string ⟨#[114,101,118,105,101,119]⟩,.string ⟨#[110,111,116,105,102,121]⟩] 9 (0,0))) ((HK.o.set qo).alloc.aDY k_) h_;clear h_ k_ t x y z B C;have av:=aD j.o;have ay:=aD k.o;have a1:=aD G.o;have a8:=HP.o.lt;clear s;obtain⟨⟨t,x,y⟩,z,B,C⟩:=cG j.o;go_wp2_with fail;refine(I.o _ ((HP.o.set qo))).mono ?_;rintro e Z ⟨rfl,h_,k_⟩;obtain⟨j,k,G,HK,HP⟩:=gG (aF (aAQ (j.o) _) k_ qo) (aF (bE (k.o) qo) k_ qo) (aF (bE (G.o) qo) k_ qo) ((HK.o.set qo).aDY k_) h_;clear h_ k_ t x y z B C;have aw:=aD j.o;have az:=aD k.o;have a6:=aD G.o;have ba:=HP.o.lt;clear I;obtain⟨⟨t,x,y⟩,z,B,C⟩:=cG j.o;obtain⟨M,E⟩:=xE ((Z.setCell ⟨w2.heap.size,2,none⟩ (.string F.1)).alloc (.cells #[.int .i64 J.1,.int .i64 K.1,.string F.1] 167));have ag:Hid (M.heap[Z.heap.size]? =some (.cells #[.int .i64 J.1,.int .i64 K.1,.string F.1] 167 (0,0))):=aA (by rw[E];exact aK _ _ _ qs)
   have ab:Hid (PW L M g F.2):=aA (by rw[E];exact(HP.o.set qo).alloc);have P:Hid (cZ w2.heap.size g w2 M):=aA (by rw[E];exact(HK.o.set qo).alloc);have H:=aA (aa.o.aEZ aO P.o D);have Q:=aA (O.o.join P.o an);have ao:w.heap.size<=M.heap.size:=Q.o.size;have af:=aA E;clear E HP HK aa O P;go_wp2_with (at_builtin;rw[<-af.o];refine cB aDg aO rfl (.tmp 18) (.tmp 20) rfl _ l rfl H.o Z.heap.size 1 _ _ _ ⟨J.1,K.1,F.1⟩ rfl ag.o ⟨rfl,N.o⟩ qo qo ao ?_;intro l' hl' A' c' w9 hG U ak;have HG4:=aA hG;have HP4:=aA (ab.o.grown H.o U D);have HK4:=aA (Q.o.grown H.o U (lR _));clear hG U ak ag H ab Q af t x y z B C)
   have HLM2:=aA (aj.o (decide ((8:Int)<(l'.length:Int))) _ hq2 _ HP4.o);refine HLM2.o.mono ?_;rintro e wz ⟨rfl,h_,k_⟩;obtain⟨HP,HK,HG⟩:=aY h_ (HK4.o.aDY k_) (HG4.o.aDY aO k_ D);exact Tx
theorem QCG{p:Prop}(h:p:=by
 go_enter func280,ntmps280;go_wp2;go_ret;exact⟨_,rfl,xJ w [true] _ _ rfl _ rfl qs _ _ rfl,aB _ _⟩):p:=h
def DP:Rep Bool:=mS (fun b=>[.bool b]) (fun _=>True)
theorem jU:Firm DP 1:=gH (fun _=>rfl) (fun x v h=>by simp only[List.mem_cons,List.not_mem_nil,or_false] at h;rw[h];rfl)
theorem xJ(w:World)(l:List Bool)(t:TypeId)(n:Nat)(e:w.heap.size=n)(cs:Array Value)(h:cs=(l.map Value.bool).toArray)(d:l.length<=1000)(m c:Nat)(hm:l.length=m):aH DP (w.alloc (.cells cs t)) (fun b=>n<=b) (.slice (some ⟨n,0,none⟩) m c) l:=by
 subst e h hm;refine⟨_,c,l.map Value.bool,rfl,fun _=>⟨w.heap.size,0,rfl,lR _,fun i x f=> ?_⟩,?_,qo⟩
 .refine aQ (heap_alloc_new w _) _ _ ?_;rw[Nat.zero_add];simpa using f
 .clear d
  induction l with
  |nil=>rfl
  |cons a l g=>exact⟨[.bool a],l.map Value.bool,rfl,⟨rfl,trivial⟩,g⟩
def QA(w:World)(l:List Bool)(e:Ending)(w':World):Prop:=∃v,e=.returned v/\aH DP w' (fun b=>w.heap.size<=b) v l/\Below w.heap.size w w'
theorem UP(op:Int)(w:World):Calls prog 280 #[.int .i64 op] w (QA w (fN op)):=by
 unfold QA;by_cases h3:op=3
 .subst h3;exact QCG
 by_cases h4:op=4
 .subst h4;exact QCG
 by_cases h5:op=5
 .subst h5;go_enter func280,ntmps280;go_wp2;go_ret;exact⟨_,rfl,xJ w [true,false] _ _ rfl _ rfl qs _ _ rfl,aB _ _⟩
 by_cases h11:op=11
 .subst h11;go_enter func280,ntmps280;go_wp2;go_ret;exact⟨_,rfl,xJ w [false] _ _ rfl _ rfl qs _ _ rfl,aB _ _⟩
 have e:fN op=[false,false]:=by unfold fN;rw[iN qo,iN h5,iN h11]
 rw[e];have d3:(op==3)=false:=bN.2 h3;have d4:(op==4)=false:=bN.2 h4;have d5:(op==5)=false:=bN.2 h5;have d11:(op==11)=false:=bN.2 h11;clear h3 h4 h5 h11 e;go_enter func280,ntmps280;go_wp2;go_ret;exact⟨_,rfl,xJ w [false,false] _ _ rfl _ rfl qs _ _ rfl,aB _ _⟩
def qJ(L:List Tok)(f:Nat)(ms:List Bool)(acc:List No×PS):List No×PS:=ms.foldl (dG L f) acc
def wK(L:List Tok)(f:Nat)(l:List No)(p:PS):(List No×No)×PS:=
 (((qJ L f (fN (2+(aZ L eG p).1)) (l,(aZ L eG p).2)).1,⟨2+(aZ L eG p).1,bD,uS⟩),
   eM L (str ")") (qJ L f (fN (2+(aZ L eG p).1)) (l,(aZ L eG p).2)).2)
def gU(L:List Tok)(f:Nat)(l:List No)(p:PS):(List No×No)×PS:=
 if cM L (str "(") p then wK L f l {p with at_:=p.at_+1}
 else if (aU L p).aDG=1/\(aU L p).str≠str "true"/\(aU L p).str≠str "false" then ((l,⟨2,bD,(cE L p).1⟩),(cE L p).2)
 else ((l,⟨1,(dC L p).1,uS⟩),(dC L p).2)
theorem uG(L:List Tok)(f:Nat)(l:List No)(p:PS):eZ L (f+1) l p=
 (((gU L f l p).1.1++[(gU L f l p).1.2],decide ((gU L f l p).1.2.op=2)),cT L (decide (32<((gU L f l p).1.1++[(gU L f l p).1.2]).length)) (gU L f l p).2):=by
 unfold gU;rw[eZ];dsimp only;split
 .rfl
 .split<;>rfl
section
variable {L:List Tok} (T:Toks L)
include T
theorem NV(f:Nat):∀(ms:List Bool) {l:List No} {p:PS},p.at_<L.length->dL L p (qJ L f ms (l,p)).2:=by
 intro ms
 induction ms with
 |nil=>intro l p h;exact dL.refl h
 |cons m ms a=>
  intro l p h;have h1:dL L p (dG L f (l,p) m).2:=by
   unfold dG;dsimp only;split
   .exact dL.refl h
   .have h1:=zP T f l h;exact Sx
  exact h1.trans (a h1.lt)
theorem Wk(f:Nat)(l:List No){p:PS}(h:p.at_<L.length):dL L p (wK L f l p).2:=by
 unfold wK;have h1:=dV T eG h;have h2:=NV T f (fN (2+(aZ L eG p).1)) (l:=l) h1.lt;exact h1.trans (h2.trans (gB T (str ")") h2.lt))
theorem wL(f:Nat)(l:List No){p:PS}(h:p.at_<L.length):dL L p (gU L f l p).2:=by
 unfold gU;split
 .rename_i a;have h0:=fQ T h a;exact h0.trans (Wk T f l h0.lt)
 split
 .exact nO T h
 .exact wX T h
theorem JN:∀(f:Nat) (l:List No) {p:PS},p.at_<L.length->(eZ L f l p).1.1.length+2 * p.at_<=l.length+1+2 * (eZ L f l p).2.at_
 |0,l,p,h=>by unfold eZ;simp only;omega
 |f+1,l,p,h=>by
  rw[uG];have i:(gU L f l p).1.1.length+2 * p.at_<=l.length+2 * (gU L f l p).2.at_:=by
   unfold gU;split
   .rename_i b;have h0:=fQ T h b;have h1:=dV T eG h0.lt;have d:∀(ms:List Bool) (l:List No) (q:PS),q.at_<L.length->(qJ L f ms (l,q)).1.length+2 * q.at_<=l.length+ms.length+2 * (qJ L f ms (l,q)).2.at_:=by
     intro ms
     induction ms with
     |nil=>intro l q a;simp[qJ]
     |cons m ms g=>
      intro l q a;have hm:dL L q (dG L f (l,q) m).2:=NV T f [m] (l:=l) a;have j:(dG L f (l,q) m).1.length+2 * q.at_<=l.length+1+2 * (dG L f (l,q) m).2.at_:=by
       unfold dG;dsimp only;split
       .simp only;omega
       .have:=JN f l a;split
        .simp only;rw[(JA _ _ _).1];exact this
        .exact this
      have h3:=g (dG L f (l,q) m).1 (dG L f (l,q) m).2 hm.lt;have e:qJ L f (m::ms) (l,q)=qJ L f ms ((dG L f (l,q) m).1,(dG L f (l,q) m).2):=rfl;rw[e];simp only[List.length_cons];omega
    have h2:=d (fN (2+(aZ L eG {p with at_:=p.at_+1}).1)) l (aZ L eG {p with at_:=p.at_+1}).2 h1.lt;have h4:=NV T f (fN (2+(aZ L eG {p with at_:=p.at_+1}).1)) (l:=l) h1.lt;have h5:=(gB T (str ")") h4.lt).le;have h6:(fN (2+(aZ L eG {p with at_:=p.at_+1}).1)).length<=2:=by
     unfold fN
     repeat' split
     all_goals simp
    have h7:=h1.le;simp only at h7;unfold wK;simp only;omega
   split
   .have:=(nO T h).le;simp only;omega
   .have:=(wX T h).le;simp only;omega
  have c:=(kX (L:=L) (decide (32<((gU L f l p).1.1++[(gU L f l p).1.2]).length)) (wL T f l h).lt).le;simp only[aL,List.length_singleton] at c ⊢;omega
end
theorem DQ{L:List Tok}(T:Toks L)(f:Nat)(l:List No){p:PS}(h:p.at_<L.length):oU (gU L f l p).1.2:=by
 have h0:cR bD:=⟨by unfold bD bJ;simp,by unfold bD bJ;simp,Nat.zero_le _⟩;have h1:CG uS:=⟨by unfold uS bJ;simp,Nat.zero_le _⟩;unfold gU;split
 .have h4:=nU (L:=L) eG {p with at_:=p.at_+1};have h5:eG.length=11:=rfl;unfold wK;exact⟨by unfold bJ;show _<=2+(aZ L _ _).1/\2+(aZ L _ _).1<=_;omega,h0,h1⟩
 split
 .exact⟨by unfold bJ;show _<=(2:Int)/\(2:Int)<=_;omega,h0,PZ T h⟩
 .exact⟨by unfold bJ;show _<=(1:Int)/\(1:Int)<=_;omega,KZ T h,h1⟩
end Go.Proofs.YtheabjeppmdmiaaGreatDoor
