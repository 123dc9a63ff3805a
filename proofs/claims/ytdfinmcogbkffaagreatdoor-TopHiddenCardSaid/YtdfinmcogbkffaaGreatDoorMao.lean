/- Lemmas. -/
import Derived.Test.YtdfinmcogbkffaaGreatDoorMan
namespace Go.Proofs.YtdfinmcogbkffaaGreatDoor
open Go.RowKit
set_option linter.unusedVariables false
set_option linter.unusedSimpArgs false
set_option maxHeartbeats 16000000
open _root_.Go.Proofs.Tryz
set_option maxRecDepth 20000
theorem QDa{p:Prop}(h:p:=by
 repeat (refine Below.setCell ?_ (by first|exact lR _|exact Nat.le_succ _) _)
 exact HBF.o):p:=h
theorem Tu{p:Prop}(h:p:=by
 exact⟨0,0,none,0,Nat.zero_le _,rfl,rfl,aA rfl,aA aM.nil,aA (Below.refl _ _)⟩):p:=h
def iK{α:Type}(R:Rep α)(L:List Tok)(g:Nat)(w:World)(l:List α)(p':PS)(e:Ending)(w':World):Prop:=
 ∃v,e=.returned v/\aH R w' (fun b=>w.heap.size<=b) v l/\PW L w' g p'/\aN (fun b=>b≠g) w w'
structure yR {α:Type} (R:Rep α) (s:Nat) (e:TypeId) (L:List Tok) (one:PS->α×PS) (sep:ByteArray) (g:Nat) (w:World) (res:List α×PS) (f:Nat) (v:Value) (wr:World) (l:List α) (q:PS):Prop where
 res:jW L one sep f l q=res
 at_:q.at_<L.length
 fuel:L.length<=f+q.at_
 len:l.length<=q.at_+1
 row:aM R s e wr w.heap.size (fun b=>w.heap.size<=b) v l
 pw:PW L wr g q
 aDH:dA w.heap.size g w wr
def SK{α:Type}(R:Rep α)(s:Nat)(e:TypeId)(L:List Tok)(one:PS->α×PS)(sep:bY)(g:Nat)(w:World)(res:List α×PS)(f:Nat)(v:Value)(wr:World):Prop:=
 ∃(l:List α) (q:PS) (A:oD) (c:Nat),v=.slice A l.length c/\Hid (yR R s e L one sep g w res f v wr l q)
section
variable {α:Type} {R:Rep α} {s:Nat} {e:TypeId} {L:List Tok} {one:PS->α×PS} {sep:bY} {g:Nat} {w:World} {res:List α×PS} {f:Nat} {v:Value} {wr:World} {l:List α} {q:PS}
theorem yR.stop(h:yR R s e L one sep g w res f v wr l q)(a:cM L sep q=false):res=(l,q):=by
 have h1:=h.res
 cases f with
 |zero=>exact h1.symm
 |succ f=>unfold jW at h1;rw[iN (by rw[a];decide)] at h1;exact h1.symm
theorem yR.next(h:yR R s e L one sep g w res f v wr l q)(b:cM L sep q=true):∃a,f=a+1/\jW L one sep a (l++[(one {q with at_:=q.at_+1}).1]) (cR L (decide (8<(l++[(one {q with at_:=q.at_+1}).1]).length)) (one {q with at_:=q.at_+1}).2)=res:=by
 have h1:=h.res;have h2:=h.fuel;have h3:=h.at_;obtain⟨a,rfl⟩:∃a,f=a+1:=⟨f - 1,qo⟩;refine⟨a,rfl,?_⟩;unfold jW at h1;rw[iP b] at h1;exact h1
end
theorem aM.aDQ{α:Type}{R:Rep α}{s:Nat}{e:TypeId}{w wr w2:World}{v:Value}{l:List α}{g:Nat}(F:Firm R s)(h:aM R s e wr w.heap.size (fun b=>w.heap.size<=b) v l)(k:aN (fun b=>b≠g) wr w2)(c:g<w.heap.size):aM R s e w2 w.heap.size (fun b=>w.heap.size<=b) v l:=
 h.aDH F k (fun b a _=>by have:w.heap.size<=b:=a;show b≠g;omega) (fun b a _=>by show b≠g;omega)
theorem PW.grown{α:Type}{R:Rep α}{s:Nat}{e:TypeId}{w w':World}{base:Nat}{ok:nP}{v:Value}{l:List α}{L:List Tok}{g:Nat}{p:PS}(h:PW L w g p)(a:aM R s e w base ok v l)(c:w.grownBy w' v.ownBlock)(d:g<base):PW L w' g p:=
 h.aDH (cZ c) (fun b f e=>qA ((a.lt b e.symm).1))
theorem dA.grown{α:Type}{R:Rep α}{s:Nat}{e:TypeId}{a w w':World}{base B:Nat}{ok:nP}{v:Value}{l:List α}{g:Nat}(h:dA B g a w)(b:aM R s e w base ok v l)(c:w.grownBy w' v.ownBlock)(d:B<=base):dA B g a w':=
 aN.trans h ((cZ c).mono fun k f h e=>qD ((b.lt k e.symm).1) h.1)
theorem dA.size{B g:Nat}{a w:World}(h:dA B g a w):a.heap.size<=w.heap.size:=aN.size h
theorem MZ(a b:Nat):decide ((a:Int)<(b:Int))=decide (a<b):=decide_eq_decide.2 qo
theorem Zj:dY prog 305 270 7 72:=fQ (z:= .agg #[.int .i64 0,.string ByteArray.empty,.bool false,.int .i64 0,.int .i64 0,.int .i64 0,.string ByteArray.empty]) underlying305 (by kernel_rfl) rfl qe
theorem Zk:dY prog 255 305 1 24:=fQ (z:= .slice none 0 0) underlying255 (by kernel_rfl) rfl qe
theorem Tv:dY prog 51 255 1 24:=fQ (z:= .slice none 0 0) underlying51 (by kernel_rfl) rfl qe
abbrev kL(p:Po)(a:oD)(b:Nat)(c:oD)(d:Nat)(e:oD)(f:Nat)(g:oD)(i:Nat):Array Value:=#[.string p.id,.bool p.set,.int .i64 p.alg,.slice a p.aDJ.length b,.slice c p.aDB.length d,.slice e p.aDN.length f,.slice g p.aDP.length i]
abbrev wJ:Array Value:=#[.string ⟨#[]⟩,.bool false,.int .i64 0,.slice none 0 0,.slice none 0 0,.slice none 0 0,.slice none 0 0]
theorem Tw{p:Prop}(h:p:=by
 clear h_ k_ HLM2 HG4 HP4 HK4;rw[show (8:Int)=((8:Nat):Int) from rfl,MZ] at HP;rw[<-hl'.o] at HS;have hl2:l'.length=l.length+1:=by rw[hl'.o,aL,List.length_singleton]
 have HL2:=aA hl2;have hq3:=(kR (L:=L) (decide (8<l'.length)) hq2);have hq4:=hq3.le;have HQ3:=aA hq3;clear hl2 hq3;go_wp2;go_roundg f'
 case measure=>rw[HF.o];omega
 case rel=>exact⟨l',_,A',c',rfl,aA ⟨HS.o,HQ3.o.lt,qA HF.o,qA HL2.o,HG.o,HP.o,HK.o⟩⟩):p:=h
theorem Pn{L:List Tok}{p:PS}(T:Toks L)(hp:p.at_<L.length)(g:Nat)(w:World)(h:PW L w g p):
 Calls prog 214 #[.pointer (some ⟨g,0,none⟩)] w (iK rR L g w (jB L p).1 (jB L p).2):=by
 have U:=T.len;have k:=h.lt;have HP:=aA h;have x:=aA (fun (q:PS) (d:q.at_<L.length) w h=>Iv T d g w h);have K:=aA (fun (q:PS) (d:q.at_<L.length) w h=>eO T (str ",") d g w h);have S:=aA (fun b (q:PS) (d:q.at_<L.length) w h=>kS b d U g w h);have o:=aA (fun (q:PS) (d:q.at_<L.length)=>CA T d);have t:=aA (fun (q:PS) (d:q.at_<L.length)=>Dh T d);obtain⟨res,D⟩:=xE (jB L p);have J:Hid (jW L (eE L) (str ",") L.length [(eE L p).1] (eE L p).2=res):=aA (by rw[D];rfl);rw[<-D];obtain⟨y,H,F⟩:=aY (x.o p hp) (o.o p hp) (t.o p hp);have Y:=aA (fun q=>(rfl:cM L (str ",") q=cM L (str ",") q));unfold iK;unfold kQ at y;clear h D;generalize eE L p=Q at *;have HK:=aA (dA.refl w.heap.size g w);go_enter func214,ntmps214;go_wp2_with fail;refine(y.o _ HP.o).mono ?_;rintro e w1 ⟨rfl,h_,k_⟩;have HK:=aA (HK.o.aDQ k_);have HP:=aA h_;have X:w.heap.size<=w1.heap.size:=k_.size;clear h_ k_ y;go_wp2;go_loopg [3] L.length (fun f v wr=>SK rR 7 270 L (eE L) (str ",") g w res f v wr)
 case atStart=>exact⟨[Q.1],Q.2,_,_,rfl,aA ⟨J.o,H.o.lt,qo,qs,aM.one eR (aK _ _ _ rfl) X ⟨rfl,F.o⟩,HP.o.alloc,HK.o.alloc⟩⟩
 case round=>
  clear J HP HK H F;obtain⟨l,q,A,c,rfl,a⟩:=hrel;have d:=a.o.at_;have j:=aA (K.o q d wr a.o.pw);have hlen:l.length<=5000:=qA a.o.len
  cases i:cM L (str ",") q
  .rw[kC i,Ad] at j;have HS:=aA (a.o.stop i);clear i;go_wp2_with fail;refine j.o.mono ?_;rintro e w2 ⟨rfl,h_,k_⟩;obtain⟨HP,HK,HG⟩:=aY h_ (a.o.aDH.aDQ k_) (a.o.row.aDQ eR k_ k);clear h_ k_ j;go_wp2;go_ret;refine⟨_,rfl,?_,?_,HK.o.end⟩
   .rw[HS.o];exact HG.o.sl qo _ (fun b B _=>B) (fun b B _=>B) eR
   .rw[HS.o];exact HP.o
  .rw[mK i,Ad] at j;obtain⟨f',O,P⟩:=a.o.next i;have HF:=aA O;have HS:=aA P;have m:=(fP T d i).lt;have z:=aA (x.o _ m);have hq2:=(o.o _ m).lt;have V:=(o.o _ m).le;have Z:=a.o.fuel;have hle:=a.o.len;have R:=aA (t.o _ m);simp only at V m;unfold kQ at z;clear i O P x o t K;generalize eE L {q with at_:=q.at_+1}=E at *;go_wp2_with fail;refine j.o.mono ?_;rintro e w2 ⟨rfl,h_,k_⟩;obtain⟨HP,HK,HG⟩:=aY h_ (a.o.aDH.aDQ k_) (a.o.row.aDQ eR k_ k);clear h_ k_ j a;go_wp2_with fail;refine(z.o _ HP.o).mono ?_;rintro e s ⟨rfl,h_,k_⟩;obtain⟨HP,HK,HG⟩:=aY h_ (HK.o.aDQ k_) (HG.o.aDQ eR k_ k);clear h_ k_ z;have aa:w.heap.size<=s.heap.size:=HK.o.size;have r:=aA (aB s (.cells (JZ E.1) 270));have M:=aA (heap_alloc_new s (.cells (JZ E.1) 270));obtain⟨n,I,G⟩:=aY (HG.o.on eR r.o) (HP.o.on r.o) (HK.o.new r.o);go_wp2_with (at_builtin;refine cA Zj eR rfl (.tmp 9) (.tmp 12) rfl _ l rfl n.o s.heap.size 1 _ _ _ E.1 rfl M.o ⟨rfl,R.o⟩ qo qo (by rw[World.size_alloc];omega) ?_;intro l' hl' A' c' w4 N C W;have HG4:=aA N;have HP4:=aA (I.o.grown n.o C k);have HK4:=aA (G.o.grown n.o C (lR _));clear N C W HG HP HK r M n I G)
   have HLM2:=aA (S.o (decide ((8:Int)<(l'.length:Int))) _ hq2 _ HP4.o);refine HLM2.o.mono ?_;rintro e w5 ⟨rfl,h_,k_⟩;obtain⟨HP,HK,HG⟩:=aY h_ (HK4.o.aDQ k_) (HG4.o.aDQ eR k_ k);exact Tw
theorem Pp{L:List Tok}{p:PS}(T:Toks L)(hp:p.at_<L.length)(g:Nat)(w:World)(h:PW L w g p):
 Calls prog 171 #[.pointer (some ⟨g,0,none⟩)] w (iK (rows rR) L g w (mF L p).1 (mF L p).2):=by
 have hL:=T.len;have o:=h.lt;have HP:=aA h;have G:=aA (fun (q:PS) (a:q.at_<L.length) w h=>Pn T a g w h);have X:=aA (fun (q:PS) (a:q.at_<L.length) w h=>eO T (str "or") a g w h);have ad:=aA (fun b (q:PS) (a:q.at_<L.length) w h=>kS b a hL g w h);have B:=aA (fun (q:PS) (a:q.at_<L.length)=>MO T a);have O:=aA (gA T (str "(") hp);have Q:=aA (fun w h=>mI T (str "(") hp g w h);have ae:=aA (fun (q:PS) (a:q.at_<L.length) w h=>mI T (str ")") a g w h);unfold mF;dsimp only;generalize eJ L (str "(") p=m at *;rw[JT] at Q;obtain⟨res,K⟩:=xE (jW L (jB L) (str "or") L.length [(jB L m).1] (jB L m).2);have S:Hid (jW L (jB L) (str "or") L.length [(jB L m).1] (jB L m).2=res):=aA K.symm;rw[<-K];have H:=aA (G.o m O.o.lt);have P:=aA (B.o m O.o.lt);unfold iK;unfold iK at H;clear h K;generalize jB L m=M at *;have HK:=aA (dA.refl w.heap.size g w);go_enter func171,ntmps171;go_wp2_with fail;refine(Q.o _ HP.o).mono ?_;rintro e w0 ⟨rfl,h_,k_⟩;have HK:=aA (HK.o.aDQ k_);have HP:=aA h_;have ak:w.heap.size<=w0.heap.size:=k_.size;clear h_ k_;go_wp2_with fail;refine(H.o _ HP.o).mono ?_;rintro e w1 ⟨v,rfl,k,h_,k_⟩;obtain⟨x,y,rfl,ah⟩:=k.slice;have HK:=aA (HK.o.aDQ k_);have HP:=aA h_;have ai:w.heap.size<=w1.heap.size:=HK.o.size;have U:=aA k;clear k h_ k_ H;go_wp2;go_loopg [3] L.length (fun f v wr=>SK (rows rR) 1 305 L (jB L) (str "or") g w res f v wr)
 case atStart=>
  have t:=aB w1 (.cells #[.slice x M.1.length y] 305);exact⟨[M.1],M.2,_,_,rfl,aA ⟨S.o,P.o.lt,qo,qs,aM.one dO (aK _ _ _ rfl) ai ⟨_,rfl,aH.more eR ((aH.inb eR U.o).on eR t) (fun b i=>⟨by have:w0.heap.size<=b:=i.1;show w.heap.size<=b;omega,by have:=i.2;rw[World.size_alloc];omega,qA i.2⟩)⟩,HP.o.alloc,HK.o.alloc⟩⟩
 case round=>
  clear S HP HK P U;obtain⟨l,q,A,c,rfl,d⟩:=hrel;have a:=d.o.at_;have n:=aA (X.o q a wr d.o.pw);have hlen:l.length<=5000:=qA d.o.len
  cases j:cM L (str "or") q
  .rw[kC j,Yq] at n;have HS:=aA (d.o.stop j);have E:=aA (ae.o q a);rw[JU] at E;clear j;go_wp2_with fail;refine n.o.mono ?_;rintro e w2 ⟨rfl,h_,k_⟩;obtain⟨HP,HK,HG⟩:=aY h_ (d.o.aDH.aDQ k_) (d.o.row.aDQ dO k_ o);clear h_ k_ n;go_wp2_with fail;refine(E.o _ HP.o).mono ?_;rintro e r ⟨rfl,h_,k_⟩;obtain⟨HP,HK,HG⟩:=aY h_ (HK.o.aDQ k_) (HG.o.aDQ dO k_ o);clear h_ k_ E;go_wp2;go_ret;refine⟨_,rfl,?_,?_,HK.o.end⟩
   .rw[HS.o];exact HG.o.sl qo _ (fun b t _=>t) (fun b t _=>t) dO
   .rw[HS.o,JU];exact HP.o
  .rw[mK j,Yq] at n;obtain⟨f',aa,ab⟩:=d.o.next j;have HF:=aA aa;have HS:=aA ab;have C:=(fP T a j).lt;have I:=aA (G.o _ C);have hq2:=(B.o _ C).lt;have af:=(B.o _ C).le;have aj:=d.o.fuel;have hle:=d.o.len;simp only at af C;unfold iK at I;clear j aa ab G B X;generalize jB L {q with at_:=q.at_+1}=D at *;go_wp2_with fail;refine n.o.mono ?_;rintro e w2 ⟨rfl,h_,k_⟩;obtain⟨HP,HK,F⟩:=aY h_ (d.o.aDH.aDQ k_) (d.o.row.aDQ dO k_ o);have al:w.heap.size<=w2.heap.size:=HK.o.size;clear h_ k_ n d;go_wp2_with fail;refine(I.o _ HP.o).mono ?_;rintro e r ⟨v,rfl,k,h_,k_⟩;obtain⟨x,y,rfl,ah⟩:=k.slice;obtain⟨HP,HK,HG,V⟩:=dE h_ (HK.o.aDQ k_) (F.o.aDQ dO k_ o) k;clear k h_ k_ I;have an:w.heap.size<=r.heap.size:=HK.o.size;have s:=aA (aB r (.cells #[.slice x D.1.length y] 305));have Y:=aA (heap_alloc_new r (.cells #[.slice x D.1.length y] 305));obtain⟨z,R,N⟩:=aY (HG.o.on dO s.o) (HP.o.on s.o) (HK.o.new s.o);have W:=aA (aH.more eR ((aH.inb eR V.o).on eR s.o) (ok':=fun b=>w.heap.size<=b/\b<(r.alloc (.cells #[.slice x D.1.length y] 305)).heap.size/\some b≠(Value.slice A l.length c).ownBlock) (fun b i=>⟨by have:w2.heap.size<=b:=i.1;omega,by have:=i.2;rw[World.size_alloc];omega,fun e=>by have h1:=(F.o.lt b e.symm).2;have:w2.heap.size<=b:=i.1;omega⟩));go_wp2_with (at_builtin;refine cA Zk dO rfl (.tmp 11) (.tmp 14) rfl _ l rfl z.o r.heap.size 1 _ _ _ D.1 rfl Y.o ⟨_,rfl,W.o⟩ qo qo (by rw[World.size_alloc];omega) ?_;intro l' hl' A' c' w4 Z J ag;have HG4:=aA Z;have HP4:=aA (R.o.grown z.o J o);have HK4:=aA (N.o.grown z.o J (lR _));clear Z J ag HG HP HK s Y z R N W V F)
   have HLM2:=aA (ad.o (decide ((8:Int)<(l'.length:Int))) _ hq2 _ HP4.o);refine HLM2.o.mono ?_;rintro e w5 ⟨rfl,h_,k_⟩;obtain⟨HP,HK,HG⟩:=aY h_ (HK4.o.aDQ k_) (HG4.o.aDQ dO k_ o);exact Tw
theorem tS{L:List Tok}{p:PS}(T:Toks L)(hp:p.at_<L.length)(g:Nat)(w:World)(h:PW L w g p):
 Calls prog 123 #[.pointer (some ⟨g,0,none⟩)] w (iK (rows (rows rR)) L g w (bT L p).1 (bT L p).2):=by
 have hL:=T.len;have x:=h.lt;have HP:=aA h;have I:=aA (fun (q:PS) (d:q.at_<L.length) w h=>Pp T d g w h);have X:=aA (fun (q:PS) (d:q.at_<L.length) w h=>eO T (str "and") d g w h);have ad:=aA (fun b (q:PS) (d:q.at_<L.length) w h=>kS b d hL g w h);have D:=aA (fun (q:PS) (d:q.at_<L.length)=>MP T d);have r:=aA (fun w h=>eO T (str "when") hp g w h)
 cases n:cM L (str "when") p
 .rw[kC n,Hw] at r;have e:bT L p=([],p):=by unfold bT;rw[iN (by rw[n];decide)]
  rw[e];unfold iK;clear h e n;go_enter func123,ntmps123;go_wp2_with fail;refine(r.o _ HP.o).mono ?_;rintro e w1 ⟨rfl,h_,k_⟩;have HP:=aA h_;have HK:=aA k_;clear h_ k_;go_wp2;go_ret;exact⟨_,rfl,aH.nil,HP.o,HK.o⟩
 rw[mK n,Hw] at r;have H:=aA (fP T hp n);have e:bT L p=jW L (mF L) (str "and") L.length [(mF L {p with at_:=p.at_+1}).1] (mF L {p with at_:=p.at_+1}).2:=by unfold bT;rw[iP n]
 rw[e];clear e n;obtain⟨i,ag⟩:∃i,i=({p with at_:=p.at_+1}:PS):=⟨_,rfl⟩;rw[<-ag] at r H ⊢;obtain⟨res,N⟩:=xE (jW L (mF L) (str "and") L.length [(mF L i).1] (mF L i).2);have S:Hid (jW L (mF L) (str "and") L.length [(mF L i).1] (mF L i).2=res):=aA N.symm;rw[<-N];have J:=aA (I.o i H.o.lt);have Q:=aA (D.o i H.o.lt);unfold iK;unfold iK at J;clear h N;generalize mF L i=O at *;have HK:=aA (dA.refl w.heap.size g w);go_enter func123,ntmps123;go_wp2_with fail;refine(r.o _ HP.o).mono ?_;rintro e w0 ⟨rfl,h_,k_⟩;have HK:=aA (HK.o.aDQ k_);have HP:=aA h_;have ak:w.heap.size<=w0.heap.size:=k_.size;clear h_ k_;go_wp2_with fail;refine(J.o _ HP.o).mono ?_;rintro e w1 ⟨v,rfl,m,h_,k_⟩;obtain⟨z,B,rfl,ah⟩:=m.slice;have HK:=aA (HK.o.aDQ k_);have HP:=aA h_;have ai:w.heap.size<=w1.heap.size:=HK.o.size;have U:=aA m;clear m h_ k_ J;go_wp2;go_loopg [3] L.length (fun f v wr=>SK (rows (rows rR)) 1 255 L (mF L) (str "and") g w res f v wr)
 case atStart=>
  have t:=aB w1 (.cells #[.slice z O.1.length B] 255);exact⟨[O.1],O.2,_,_,rfl,aA ⟨S.o,Q.o.lt,qo,qs,aM.one aS (aK _ _ _ rfl) ai ⟨_,rfl,aH.more dO ((aH.inb dO U.o).on dO t) (fun b j=>⟨by have:w0.heap.size<=b:=j.1;show w.heap.size<=b;omega,by have:=j.2;rw[World.size_alloc];omega,qA j.2⟩)⟩,HP.o.alloc,HK.o.alloc⟩⟩
 case round=>
  clear S HP HK Q U;obtain⟨l,q,A,c,rfl,a⟩:=hrel;have d:=a.o.at_;have o:=aA (X.o q d wr a.o.pw);have hlen:l.length<=5000:=qA a.o.len
  cases k:cM L (str "and") q
  .rw[kC k,Te] at o;have HS:=aA (a.o.stop k);clear k;go_wp2_with fail;refine o.o.mono ?_;rintro e w2 ⟨rfl,h_,k_⟩;obtain⟨HP,HK,HG⟩:=aY h_ (a.o.aDH.aDQ k_) (a.o.row.aDQ aS k_ x);clear h_ k_ o;go_wp2;go_ret;refine⟨_,rfl,?_,?_,HK.o.end⟩
   .rw[HS.o];exact HG.o.sl qo _ (fun b t _=>t) (fun b t _=>t) aS
   .rw[HS.o];exact HP.o
  .rw[mK k,Te] at o;obtain⟨f',aa,ab⟩:=a.o.next k;have HF:=aA aa;have HS:=aA ab;have E:=(fP T d k).lt;have K:=aA (I.o _ E);have hq2:=(D.o _ E).lt;have ae:=(D.o _ E).le;have aj:=a.o.fuel;have hle:=a.o.len;simp only at ae E;unfold iK at K;clear k aa ab I D X;generalize mF L {q with at_:=q.at_+1}=F at *;go_wp2_with fail;refine o.o.mono ?_;rintro e w2 ⟨rfl,h_,k_⟩;obtain⟨HP,HK,G⟩:=aY h_ (a.o.aDH.aDQ k_) (a.o.row.aDQ aS k_ x);have al:w.heap.size<=w2.heap.size:=HK.o.size;clear h_ k_ o a;go_wp2_with fail;refine(K.o _ HP.o).mono ?_;rintro e y ⟨v,rfl,m,h_,k_⟩;obtain⟨z,B,rfl,ah⟩:=m.slice;obtain⟨HP,HK,HG,V⟩:=dE h_ (HK.o.aDQ k_) (G.o.aDQ aS k_ x) m;clear m h_ k_ K;have an:w.heap.size<=y.heap.size:=HK.o.size;have s:=aA (aB y (.cells #[.slice z F.1.length B] 255));have Y:=aA (heap_alloc_new y (.cells #[.slice z F.1.length B] 255));obtain⟨C,R,P⟩:=aY (HG.o.on aS s.o) (HP.o.on s.o) (HK.o.new s.o);have W:=aA (aH.more dO ((aH.inb dO V.o).on dO s.o) (ok':=fun b=>w.heap.size<=b/\b<(y.alloc (.cells #[.slice z F.1.length B] 255)).heap.size/\some b≠(Value.slice A l.length c).ownBlock) (fun b j=>⟨by have:w2.heap.size<=b:=j.1;omega,by have:=j.2;rw[World.size_alloc];omega,fun e=>by have h1:=(G.o.lt b e.symm).2;have:w2.heap.size<=b:=j.1;omega⟩));go_wp2_with (at_builtin;refine cA Tv aS rfl (.tmp 12) (.tmp 15) rfl _ l rfl C.o y.heap.size 1 _ _ _ F.1 rfl Y.o ⟨_,rfl,W.o⟩ qo qo (by rw[World.size_alloc];omega) ?_;intro l' hl' A' c' w4 Z M af;have HG4:=aA Z;have HP4:=aA (R.o.grown C.o M x);have HK4:=aA (P.o.grown C.o M (lR _));clear Z M af HG HP HK s Y C R P W V G)
   have HLM2:=aA (ad.o (decide ((8:Int)<(l'.length:Int))) _ hq2 _ HP4.o);refine HLM2.o.mono ?_;rintro e w5 ⟨rfl,h_,k_⟩;obtain⟨HP,HK,HG⟩:=aY h_ (HK4.o.aDQ k_) (HG4.o.aDQ aS k_ x);exact Tw
theorem dA.join{B g:Nat}{a w w':World}(h:dA B g a w)(k:dA w.heap.size g w w')(c:B<=w.heap.size):dA B g a w':=aN.trans h (aN.mono k fun x b h=>⟨b,h.2⟩)
theorem aM.aER{α:Type}{R:Rep α}{s:Nat}{e:TypeId}{w wr w2:World}{v:Value}{l:List α}{g:Nat}(F:Firm R s)(h:aM R s e wr w.heap.size (fun b=>w.heap.size<=b) v l)(k:dA wr.heap.size g wr w2)(d:g<w.heap.size):aM R s e w2 w.heap.size (fun b=>w.heap.size<=b) v l:=
 h.aDH F k (fun b c a=>⟨a,by have:w.heap.size<=b:=c;omega⟩) (fun b c a=>⟨a,qo⟩)
theorem aDa:dY prog 54 173 3 32:=fQ (z:= .agg #[.int .i64 0,.int .i64 0,.string ByteArray.empty]) underlying54 (by kernel_rfl) rfl qe
theorem vG{L:List Tok}{p:PS}(T:Toks L)(hp:p.at_<L.length)(g:Nat)(w:World)(h:PW L w g p):
 Calls prog 127 #[.pointer (some ⟨g,0,none⟩)] w (iK jZ L g w (gN L p).1 (gN L p).2):=by
 have hL:=T.len;have D:=h.lt;have HP:=aA h;have ae:=aA (fun (q:PS) (i:q.at_<L.length) w h=>eO T (str "on") i g w h);have aj:=aA (fun b (q:PS) (i:q.at_<L.length) w h=>kS b i hL g w h);have r:=aA (fun (q:PS) (i:q.at_<L.length) a c w h hw=>nE T [str "permit",str "deny"] a c 2 rfl qe i g w h hw);have s:=aA (fun (q:PS) (i:q.at_<L.length) a c w h hw=>nE T [str "log",str "redact",str "review",str "notify"] a c 4 rfl qe i g w h hw);have I:=aA (fun (q:PS) (i:q.at_<L.length) w h=>rF T i g w h);obtain⟨res,X⟩:=xE (gN L p);have ad:Hid (jW L (tP L) (str "on") L.length [] p=res):=aA (by rw[X];rfl);rw[<-X];unfold iK;clear h X;have HK:=aA (dA.refl w.heap.size g w);go_enter func127,ntmps127;go_wp2;go_loopg [3] L.length (fun f v wr=>SK jZ 3 173 L (tP L) (str "on") g w res f v wr)
 case atStart=>exact⟨[],p,none,0,rfl,aA ⟨ad.o,hp,qo,qs,aM.nil,HP.o,HK.o⟩⟩
 case round=>
  clear ad HP HK;obtain⟨l,q,A,c,rfl,d⟩:=hrel;have i:=d.o.at_;have n:=aA (ae.o q i wr d.o.pw);have hlen:l.length<=5000:=qA d.o.len
  cases m:cM L (str "on") q
  .rw[kC m,Yr] at n;have HS:=aA (d.o.stop m);clear m;go_wp2_with fail;refine n.o.mono ?_;rintro e w2 ⟨rfl,h_,k_⟩;obtain⟨HP,HK,HG⟩:=aY h_ (d.o.aDH.aDQ k_) (d.o.row.aDQ aO k_ D);clear h_ k_ n;go_wp2;go_ret;refine⟨_,rfl,?_,?_,HK.o.end⟩
   .rw[HS.o];exact HG.o.sl qo _ (fun b S _=>S) (fun b S _=>S) aO
   .rw[HS.o];exact HP.o
  .rw[mK m,Yr] at n;obtain⟨f',ah,ai⟩:=d.o.next m;have HF:=aA ah;have HS:=aA ai;have o:=(fP T i m).lt;have V:=dR T [str "permit",str "deny"] o;have W:=dR T [str "log",str "redact",str "review",str "notify"] V.lt;have al:=jG T W.lt;obtain⟨r,s,I⟩:=aY (r.o _ o) (s.o _ V.lt) (I.o _ W.lt);have hq2:=(IM T o).lt;have R:=(IM T o).le;have aq:=d.o.fuel;have hle:=d.o.len;have N:=aA (Iw T o);simp only at R o;clear m ah ai ae V W al;have HD:Hid (tP L {q with at_:=q.at_+1}=(⟨(aZ L [str "permit",str "deny"] {q with at_:=q.at_+1}).1,(aZ L [str "log",str "redact",str "review",str "notify"] (aZ L [str "permit",str "deny"] {q with at_:=q.at_+1}).2).1,(bS L (aZ L [str "log",str "redact",str "review",str "notify"] (aZ L [str "permit",str "deny"] {q with at_:=q.at_+1}).2).2).1⟩,(bS L (aZ L [str "log",str "redact",str "review",str "notify"] (aZ L [str "permit",str "deny"] {q with at_:=q.at_+1}).2).2).2)):=aA rfl;generalize aZ L [str "permit",str "deny"] {q with at_:=q.at_+1}=J at *;generalize aZ L [str "log",str "redact",str "review",str "notify"] J.2=K at *;generalize bS L K.2=F at *;rw[HD.o] at HS N hq2 R;clear HD;rw[IQ,TI] at r;rw[aAG,Ow,Ox,Oy] at s;simp only at hq2 R N;go_wp2_with fail;refine n.o.mono ?_;rintro e w2 ⟨rfl,h_,k_⟩;obtain⟨HP,O,aa⟩:=aY h_ (d.o.aDH.aDQ k_) (d.o.row.aDQ aO k_ D);have an:w.heap.size<=w2.heap.size:=O.o.size;have ar:=HP.o.lt;have HK:=aA (dA.refl w2.heap.size g w2);clear h_ k_ n d;go_wp2_with fail;refine(r.o _ _ _ (HP.o.alloc.alloc) (nF _ _ _ _ _ qs rfl)).mono ?_;rintro e Y ⟨rfl,h_,k_⟩
   obtain⟨j,k,HK,HP⟩:=dE (aF (aE (aK _ _ _ qs) (aB _ _)) k_ qo:Y.heap[w2.heap.size]? =some (.cells fV 173 (0,0))) (aF (aK _ _ _ qs) k_ qo:Y.heap[w2.heap.size+1]? =some (.cells #[.string ⟨#[112,101,114,109,105,116]⟩,.string ⟨#[100,101,110,121]⟩] 9 (0,0))) (HK.o.alloc.alloc.aDQ k_) h_;clear h_ k_;have au:=aD j.o;have ax:=aD k.o;have a7:=HP.o.lt;clear r;obtain⟨⟨t,x,y⟩,z,B,C⟩:=cD j.o;go_wp2_with fail;refine(s.o _ _ _ ((HP.o.set qo).alloc) (nF _ _ _ _ _ qs rfl)).mono ?_;rintro e w4 ⟨rfl,h_,k_⟩;obtain⟨j,k,G,HK,HP⟩:=gD (aF (aE (aAI (j.o) _) (aB _ _)) k_ qo) (aF (aE (bE (k.o) qo) (aB _ _)) k_ qo) (aF (aK _ _ _ qs) k_ qo:w4.heap[Y.heap.size]? =some (.cells #[.string ⟨#[108,111,103]⟩,.string ⟨#[114,101,100,97,99,116]⟩,.string ⟨#[114,101,118,105,101,119]⟩,.string ⟨#[110,111,116,105,102,121]⟩] 9 (0,0))) ((HK.o.set qo).alloc.aDQ k_) h_;clear h_ k_ t x y z B C;have av:=aD j.o;have ay:=aD k.o;have a1:=aD G.o;have a8:=HP.o.lt;clear s;obtain⟨⟨t,x,y⟩,z,B,C⟩:=cD j.o;go_wp2_with fail;refine(I.o _ ((HP.o.set qo))).mono ?_;rintro e Z ⟨rfl,h_,k_⟩;obtain⟨j,k,G,HK,HP⟩:=gD (aF (aAJ (j.o) _) k_ qo) (aF (bE (k.o) qo) k_ qo) (aF (bE (G.o) qo) k_ qo) ((HK.o.set qo).aDQ k_) h_;clear h_ k_ t x y z B C;have aw:=aD j.o;have az:=aD k.o;have a6:=aD G.o;have ba:=HP.o.lt;clear I;obtain⟨⟨t,x,y⟩,z,B,C⟩:=cD j.o;obtain⟨M,E⟩:=xE ((Z.setCell ⟨w2.heap.size,2,none⟩ (.string F.1)).alloc (.cells #[.int .i64 J.1,.int .i64 K.1,.string F.1] 173));have ag:Hid (M.heap[Z.heap.size]? =some (.cells #[.int .i64 J.1,.int .i64 K.1,.string F.1] 173 (0,0))):=aA (by rw[E];exact aK _ _ _ qs)
   have ab:Hid (PW L M g F.2):=aA (by rw[E];exact(HP.o.set qo).alloc);have P:Hid (dA w2.heap.size g w2 M):=aA (by rw[E];exact(HK.o.set qo).alloc);have H:=aA (aa.o.aER aO P.o D);have Q:=aA (O.o.join P.o an);have ao:w.heap.size<=M.heap.size:=Q.o.size;have af:=aA E;clear E HP HK aa O P;go_wp2_with (at_builtin;rw[<-af.o];refine cA aDa aO rfl (.tmp 18) (.tmp 20) rfl _ l rfl H.o Z.heap.size 1 _ _ _ ⟨J.1,K.1,F.1⟩ rfl ag.o ⟨rfl,N.o⟩ qo qo ao ?_;intro l' hl' A' c' w9 hG U ak;have HG4:=aA hG;have HP4:=aA (ab.o.grown H.o U D);have HK4:=aA (Q.o.grown H.o U (lR _));clear hG U ak ag H ab Q af t x y z B C)
   have HLM2:=aA (aj.o (decide ((8:Int)<(l'.length:Int))) _ hq2 _ HP4.o);refine HLM2.o.mono ?_;rintro e wz ⟨rfl,h_,k_⟩;obtain⟨HP,HK,HG⟩:=aY h_ (HK4.o.aDQ k_) (HG4.o.aDQ aO k_ D);exact Tw
theorem QCH{p:Prop}(h:p:=by
 go_enter func281,ntmps281;go_wp2;go_ret;exact⟨_,rfl,xH w [true] _ _ rfl _ rfl qs _ _ rfl,aB _ _⟩):p:=h
def DG:Rep Bool:=mN (fun b=>[.bool b]) (fun _=>True)
theorem jR:Firm DG 1:=gF (fun _=>rfl) (fun x v h=>by simp only[List.mem_cons,List.not_mem_nil,or_false] at h;rw[h];rfl)
theorem xH(w:World)(l:List Bool)(t:TypeId)(n:Nat)(e:w.heap.size=n)(cs:Array Value)(h:cs=(l.map Value.bool).toArray)(d:l.length<=1000)(m c:Nat)(hm:l.length=m):aH DG (w.alloc (.cells cs t)) (fun b=>n<=b) (.slice (some ⟨n,0,none⟩) m c) l:=by
 subst e h hm;refine⟨_,c,l.map Value.bool,rfl,fun _=>⟨w.heap.size,0,rfl,lR _,fun i x f=> ?_⟩,?_,qo⟩
 .refine aQ (heap_alloc_new w _) _ _ ?_;rw[Nat.zero_add];simpa using f
 .clear d
  induction l with
  |nil=>rfl
  |cons a l g=>exact⟨[.bool a],l.map Value.bool,rfl,⟨rfl,trivial⟩,g⟩
def PK(w:World)(l:List Bool)(e:Ending)(w':World):Prop:=∃v,e=.returned v/\aH DG w' (fun b=>w.heap.size<=b) v l/\Below w.heap.size w w'
theorem UH(op:Int)(w:World):Calls prog 281 #[.int .i64 op] w (PK w (fN op)):=by
 unfold PK;by_cases h3:op=3
 .subst h3;exact QCH
 by_cases h4:op=4
 .subst h4;exact QCH
 by_cases h5:op=5
 .subst h5;go_enter func281,ntmps281;go_wp2;go_ret;exact⟨_,rfl,xH w [true,false] _ _ rfl _ rfl qs _ _ rfl,aB _ _⟩
 by_cases h11:op=11
 .subst h11;go_enter func281,ntmps281;go_wp2;go_ret;exact⟨_,rfl,xH w [false] _ _ rfl _ rfl qs _ _ rfl,aB _ _⟩
 have e:fN op=[false,false]:=by unfold fN;rw[iN qo,iN h5,iN h11]
 rw[e];have d3:(op==3)=false:=bN.2 h3;have d4:(op==4)=false:=bN.2 h4;have d5:(op==5)=false:=bN.2 h5;have d11:(op==11)=false:=bN.2 h11;clear h3 h4 h5 h11 e;go_enter func281,ntmps281;go_wp2;go_ret;exact⟨_,rfl,xH w [false,false] _ _ rfl _ rfl qs _ _ rfl,aB _ _⟩
def qE(L:List Tok)(f:Nat)(ms:List Bool)(acc:List No×PS):List No×PS:=ms.foldl (dG L f) acc
def wK(L:List Tok)(f:Nat)(l:List No)(p:PS):(List No×No)×PS:=
 (((qE L f (fN (2+(aZ L eD p).1)) (l,(aZ L eD p).2)).1,⟨2+(aZ L eD p).1,bD,uS⟩),
   eJ L (str ")") (qE L f (fN (2+(aZ L eD p).1)) (l,(aZ L eD p).2)).2)
def gR(L:List Tok)(f:Nat)(l:List No)(p:PS):(List No×No)×PS:=
 if cM L (str "(") p then wK L f l {p with at_:=p.at_+1}
 else if (aU L p).aDy=1/\(aU L p).str≠str "true"/\(aU L p).str≠str "false" then ((l,⟨2,bD,(cE L p).1⟩),(cE L p).2)
 else ((l,⟨1,(dB L p).1,uS⟩),(dB L p).2)
theorem uG(L:List Tok)(f:Nat)(l:List No)(p:PS):eX L (f+1) l p=
 (((gR L f l p).1.1++[(gR L f l p).1.2],decide ((gR L f l p).1.2.op=2)),cR L (decide (32<((gR L f l p).1.1++[(gR L f l p).1.2]).length)) (gR L f l p).2):=by
 unfold gR;rw[eX];dsimp only;split
 .rfl
 .split<;>rfl
section
variable {L:List Tok} (T:Toks L)
include T
theorem NA(f:Nat):∀(ms:List Bool) {l:List No} {p:PS},p.at_<L.length->dK L p (qE L f ms (l,p)).2:=by
 intro ms
 induction ms with
 |nil=>intro l p h;exact dK.refl h
 |cons m ms a=>
  intro l p h;have h1:dK L p (dG L f (l,p) m).2:=by
   unfold dG;dsimp only;split
   .exact dK.refl h
   .have h1:=zK T f l h;exact Sw
  exact h1.trans (a h1.lt)
theorem Wh(f:Nat)(l:List No){p:PS}(h:p.at_<L.length):dK L p (wK L f l p).2:=by
 unfold wK;have h1:=dR T eD h;have h2:=NA T f (fN (2+(aZ L eD p).1)) (l:=l) h1.lt;exact h1.trans (h2.trans (gA T (str ")") h2.lt))
theorem wL(f:Nat)(l:List No){p:PS}(h:p.at_<L.length):dK L p (gR L f l p).2:=by
 unfold gR;split
 .rename_i a;have h0:=fP T h a;exact h0.trans (Wh T f l h0.lt)
 split
 .exact nJ T h
 .exact wX T h
theorem JA:∀(f:Nat) (l:List No) {p:PS},p.at_<L.length->(eX L f l p).1.1.length+2 * p.at_<=l.length+1+2 * (eX L f l p).2.at_
 |0,l,p,h=>by unfold eX;simp only;omega
 |f+1,l,p,h=>by
  rw[uG];have i:(gR L f l p).1.1.length+2 * p.at_<=l.length+2 * (gR L f l p).2.at_:=by
   unfold gR;split
   .rename_i b;have h0:=fP T h b;have h1:=dR T eD h0.lt;have d:∀(ms:List Bool) (l:List No) (q:PS),q.at_<L.length->(qE L f ms (l,q)).1.length+2 * q.at_<=l.length+ms.length+2 * (qE L f ms (l,q)).2.at_:=by
     intro ms
     induction ms with
     |nil=>intro l q a;simp[qE]
     |cons m ms g=>
      intro l q a;have hm:dK L q (dG L f (l,q) m).2:=NA T f [m] (l:=l) a;have j:(dG L f (l,q) m).1.length+2 * q.at_<=l.length+1+2 * (dG L f (l,q) m).2.at_:=by
       unfold dG;dsimp only;split
       .simp only;omega
       .have:=JA f l a;split
        .simp only;rw[(IL _ _ _).1];exact this
        .exact this
      have h3:=g (dG L f (l,q) m).1 (dG L f (l,q) m).2 hm.lt;have e:qE L f (m::ms) (l,q)=qE L f ms ((dG L f (l,q) m).1,(dG L f (l,q) m).2):=rfl;rw[e];simp only[List.length_cons];omega
    have h2:=d (fN (2+(aZ L eD {p with at_:=p.at_+1}).1)) l (aZ L eD {p with at_:=p.at_+1}).2 h1.lt;have h4:=NA T f (fN (2+(aZ L eD {p with at_:=p.at_+1}).1)) (l:=l) h1.lt;have h5:=(gA T (str ")") h4.lt).le;have h6:(fN (2+(aZ L eD {p with at_:=p.at_+1}).1)).length<=2:=by
     unfold fN
     repeat' split
     all_goals simp
    have h7:=h1.le;simp only at h7;unfold wK;simp only;omega
   split
   .have:=(nJ T h).le;simp only;omega
   .have:=(wX T h).le;simp only;omega
  have c:=(kR (L:=L) (decide (32<((gR L f l p).1.1++[(gR L f l p).1.2]).length)) (wL T f l h).lt).le;simp only[aL,List.length_singleton] at c ⊢;omega
end
theorem DH{L:List Tok}(T:Toks L)(f:Nat)(l:List No){p:PS}(h:p.at_<L.length):oQ (gR L f l p).1.2:=by
 have h0:cS bD:=⟨by unfold bD bK;simp,by unfold bD bK;simp,Nat.zero_le _⟩;have h1:BY uS:=⟨by unfold uS bK;simp,Nat.zero_le _⟩;unfold gR;split
 .have h4:=nQ (L:=L) eD {p with at_:=p.at_+1};have h5:eD.length=11:=rfl;unfold wK;exact⟨by unfold bK;show _<=2+(aZ L _ _).1/\2+(aZ L _ _).1<=_;omega,h0,h1⟩
 split
 .exact⟨by unfold bK;show _<=(2:Int)/\(2:Int)<=_;omega,h0,PJ T h⟩
 .exact⟨by unfold bK;show _<=(1:Int)/\(1:Int)<=_;omega,KL T h,h1⟩
end Go.Proofs.YtdfinmcogbkffaaGreatDoor
