/- Lemmas. -/
import Derived.Test.YtgoanbpcdhmfkaaGreatDoorMah
namespace Go.Proofs.YtgoanbpcdhmfkaaGreatDoor
open Go.RowKit
set_option linter.unusedVariables false
set_option linter.unusedSimpArgs false
set_option maxHeartbeats 16000000
open _root_.Go.Proofs.Tryz
set_option maxRecDepth 20000
theorem QCY{p:Prop}(h:p:=by
 repeat (refine Below.setCell ?_ (by first|exact lR _|exact Nat.le_succ _) _)
 exact HBF.o):p:=h
theorem Ry{p:Prop}(h:p:=by
 exact⟨0,0,none,0,Nat.zero_le _,rfl,rfl,aA rfl,aA aM.nil,aA (Below.refl _ _)⟩):p:=h
def iI{α:Type}(R:Rep α)(L:List Tok)(g:Nat)(w:World)(l:List α)(p':PS)(e:Ending)(w':World):Prop:=
 ∃v,e=.returned v/\aH R w' (fun b=>w.heap.size<=b) v l/\PW L w' g p'/\aN (fun b=>b≠g) w w'
structure yM {α:Type} (R:Rep α) (s:Nat) (e:TypeId) (L:List Tok) (one:PS->α×PS) (sep:ByteArray) (g:Nat) (w:World) (res:List α×PS) (f:Nat) (v:Value) (wr:World) (l:List α) (q:PS):Prop where
 res:jS L one sep f l q=res
 at_:q.at_<L.length
 fuel:L.length<=f+q.at_
 len:l.length<=q.at_+1
 row:aM R s e wr w.heap.size (fun b=>w.heap.size<=b) v l
 pw:PW L wr g q
 aCT:cW w.heap.size g w wr
def RP{α:Type}(R:Rep α)(s:Nat)(e:TypeId)(L:List Tok)(one:PS->α×PS)(sep:bY)(g:Nat)(w:World)(res:List α×PS)(f:Nat)(v:Value)(wr:World):Prop:=
 ∃(l:List α) (q:PS) (A:oD) (c:Nat),v=.slice A l.length c/\Hid (yM R s e L one sep g w res f v wr l q)
section
variable {α:Type} {R:Rep α} {s:Nat} {e:TypeId} {L:List Tok} {one:PS->α×PS} {sep:bY} {g:Nat} {w:World} {res:List α×PS} {f:Nat} {v:Value} {wr:World} {l:List α} {q:PS}
theorem yM.stop(h:yM R s e L one sep g w res f v wr l q)(a:cL L sep q=false):res=(l,q):=by
 have h1:=h.res
 cases f with
 |zero=>exact h1.symm
 |succ f=>unfold jS at h1;rw[iN (by rw[a];decide)] at h1;exact h1.symm
theorem yM.next(h:yM R s e L one sep g w res f v wr l q)(b:cL L sep q=true):∃a,f=a+1/\jS L one sep a (l++[(one {q with at_:=q.at_+1}).1]) (cR L (decide (8<(l++[(one {q with at_:=q.at_+1}).1]).length)) (one {q with at_:=q.at_+1}).2)=res:=by
 have h1:=h.res;have h2:=h.fuel;have h3:=h.at_;obtain⟨a,rfl⟩:∃a,f=a+1:=⟨f - 1,qo⟩;refine⟨a,rfl,?_⟩;unfold jS at h1;rw[iP b] at h1;exact h1
end
theorem aM.aC1{α:Type}{R:Rep α}{s:Nat}{e:TypeId}{w wr w2:World}{v:Value}{l:List α}{g:Nat}(F:Firm R s)(h:aM R s e wr w.heap.size (fun b=>w.heap.size<=b) v l)(k:aN (fun b=>b≠g) wr w2)(c:g<w.heap.size):aM R s e w2 w.heap.size (fun b=>w.heap.size<=b) v l:=
 h.aCT F k (fun b a _=>by have:w.heap.size<=b:=a;show b≠g;omega) (fun b a _=>by show b≠g;omega)
theorem PW.grown{α:Type}{R:Rep α}{s:Nat}{e:TypeId}{w w':World}{base:Nat}{ok:nP}{v:Value}{l:List α}{L:List Tok}{g:Nat}{p:PS}(h:PW L w g p)(a:aM R s e w base ok v l)(c:w.grownBy w' v.ownBlock)(d:g<base):PW L w' g p:=
 h.aCT (cV c) (fun b f e=>qA ((a.lt b e.symm).1))
theorem cW.grown{α:Type}{R:Rep α}{s:Nat}{e:TypeId}{a w w':World}{base B:Nat}{ok:nP}{v:Value}{l:List α}{g:Nat}(h:cW B g a w)(b:aM R s e w base ok v l)(c:w.grownBy w' v.ownBlock)(d:B<=base):cW B g a w':=
 aN.trans h ((cV c).mono fun k f h e=>qD ((b.lt k e.symm).1) h.1)
theorem cW.size{B g:Nat}{a w:World}(h:cW B g a w):a.heap.size<=w.heap.size:=aN.size h
theorem MK(a b:Nat):decide ((a:Int)<(b:Int))=decide (a<b):=decide_eq_decide.2 qo
theorem Xp:dV prog 317 288 7 72:=fP (z:= .agg #[.int .i64 0,.string ByteArray.empty,.bool false,.int .i64 0,.int .i64 0,.int .i64 0,.string ByteArray.empty]) underlying317 (by kernel_rfl) rfl qe
theorem Xq:dV prog 271 317 1 24:=fP (z:= .slice none 0 0) underlying271 (by kernel_rfl) rfl qe
theorem Rz:dV prog 33 271 1 24:=fP (z:= .slice none 0 0) underlying33 (by kernel_rfl) rfl qe
abbrev kH(p:Po)(a:oD)(b:Nat)(c:oD)(d:Nat)(e:oD)(f:Nat)(g:oD)(i:Nat):Array Value:=#[.string p.id,.bool p.set,.int .i64 p.alg,.slice a p.aCU.length b,.slice c p.aCM.length d,.slice e p.aCY.length f,.slice g p.aC0.length i]
abbrev vZ:Array Value:=#[.string ⟨#[]⟩,.bool false,.int .i64 0,.slice none 0 0,.slice none 0 0,.slice none 0 0,.slice none 0 0]
theorem Sa{p:Prop}(h:p:=by
 clear h_ k_ HLM2 HG4 HP4 HK4;rw[show (8:Int)=((8:Nat):Int) from rfl,MK] at HP;rw[<-hl'.o] at HS;have hl2:l'.length=l.length+1:=by rw[hl'.o,aL,List.length_singleton]
 have HL2:=aA hl2;have hq3:=(kP (L:=L) (decide (8<l'.length)) hq2);have hq4:=hq3.le;have HQ3:=aA hq3;clear hl2 hq3;go_wp2;go_roundg f'
 case measure=>rw[HF.o];omega
 case rel=>exact⟨l',_,A',c',rfl,aA ⟨HS.o,HQ3.o.lt,qA HF.o,qA HL2.o,HG.o,HP.o,HK.o⟩⟩):p:=h
theorem Nr{L:List Tok}{p:PS}(T:Toks L)(hp:p.at_<L.length)(g:Nat)(w:World)(h:PW L w g p):
 Calls prog 225 #[.pointer (some ⟨g,0,none⟩)] w (iI rM L g w (iX L p).1 (iX L p).2):=by
 have U:=T.len;have k:=h.lt;have HP:=aA h;have x:=aA (fun (q:PS) (d:q.at_<L.length) w h=>Hf T d g w h);have K:=aA (fun (q:PS) (d:q.at_<L.length) w h=>eL T (str ",") d g w h);have S:=aA (fun b (q:PS) (d:q.at_<L.length) w h=>kQ b d U g w h);have o:=aA (fun (q:PS) (d:q.at_<L.length)=>BS T d);have t:=aA (fun (q:PS) (d:q.at_<L.length)=>Cb T d);obtain⟨res,D⟩:=xE (iX L p);have J:Hid (jS L (eD L) (str ",") L.length [(eD L p).1] (eD L p).2=res):=aA (by rw[D];rfl);rw[<-D];obtain⟨y,H,F⟩:=aY (x.o p hp) (o.o p hp) (t.o p hp);have Y:=aA (fun q=>(rfl:cL L (str ",") q=cL L (str ",") q));unfold iI;unfold kN at y;clear h D;generalize eD L p=Q at *;have HK:=aA (cW.refl w.heap.size g w);go_enter func225,ntmps225;go_wp2_with fail;refine(y.o _ HP.o).mono ?_;rintro e w1 ⟨rfl,h_,k_⟩;have HK:=aA (HK.o.aC1 k_);have HP:=aA h_;have X:w.heap.size<=w1.heap.size:=k_.size;clear h_ k_ y;go_wp2;go_loopg [3] L.length (fun f v wr=>RP rM 7 288 L (eD L) (str ",") g w res f v wr)
 case atStart=>exact⟨[Q.1],Q.2,_,_,rfl,aA ⟨J.o,H.o.lt,qo,qs,aM.one eP (aK _ _ _ rfl) X ⟨rfl,F.o⟩,HP.o.alloc,HK.o.alloc⟩⟩
 case round=>
  clear J HP HK H F;obtain⟨l,q,A,c,rfl,a⟩:=hrel;have d:=a.o.at_;have j:=aA (K.o q d wr a.o.pw);have hlen:l.length<=5000:=qA a.o.len
  cases i:cL L (str ",") q
  .rw[jX i,ZD] at j;have HS:=aA (a.o.stop i);clear i;go_wp2_with fail;refine j.o.mono ?_;rintro e w2 ⟨rfl,h_,k_⟩;obtain⟨HP,HK,HG⟩:=aY h_ (a.o.aCT.aC1 k_) (a.o.row.aC1 eP k_ k);clear h_ k_ j;go_wp2;go_ret;refine⟨_,rfl,?_,?_,HK.o.end⟩
   .rw[HS.o];exact HG.o.sl qo _ (fun b B _=>B) (fun b B _=>B) eP
   .rw[HS.o];exact HP.o
  .rw[mG i,ZD] at j;obtain⟨f',O,P⟩:=a.o.next i;have HF:=aA O;have HS:=aA P;have m:=(fO T d i).lt;have z:=aA (x.o _ m);have hq2:=(o.o _ m).lt;have V:=(o.o _ m).le;have Z:=a.o.fuel;have hle:=a.o.len;have R:=aA (t.o _ m);simp only at V m;unfold kN at z;clear i O P x o t K;generalize eD L {q with at_:=q.at_+1}=E at *;go_wp2_with fail;refine j.o.mono ?_;rintro e w2 ⟨rfl,h_,k_⟩;obtain⟨HP,HK,HG⟩:=aY h_ (a.o.aCT.aC1 k_) (a.o.row.aC1 eP k_ k);clear h_ k_ j a;go_wp2_with fail;refine(z.o _ HP.o).mono ?_;rintro e s ⟨rfl,h_,k_⟩;obtain⟨HP,HK,HG⟩:=aY h_ (HK.o.aC1 k_) (HG.o.aC1 eP k_ k);clear h_ k_ z;have aa:w.heap.size<=s.heap.size:=HK.o.size;have r:=aA (aB s (.cells (JP E.1) 288));have M:=aA (heap_alloc_new s (.cells (JP E.1) 288));obtain⟨n,I,G⟩:=aY (HG.o.on eP r.o) (HP.o.on r.o) (HK.o.new r.o);go_wp2_with (at_builtin;refine cB Xp eP rfl (.tmp 9) (.tmp 12) rfl _ l rfl n.o s.heap.size 1 _ _ _ E.1 rfl M.o ⟨rfl,R.o⟩ qo qo (by rw[World.size_alloc];omega) ?_;intro l' hl' A' c' w4 N C W;have HG4:=aA N;have HP4:=aA (I.o.grown n.o C k);have HK4:=aA (G.o.grown n.o C (lR _));clear N C W HG HP HK r M n I G)
   have HLM2:=aA (S.o (decide ((8:Int)<(l'.length:Int))) _ hq2 _ HP4.o);refine HLM2.o.mono ?_;rintro e w5 ⟨rfl,h_,k_⟩;obtain⟨HP,HK,HG⟩:=aY h_ (HK4.o.aC1 k_) (HG4.o.aC1 eP k_ k);exact Sa
theorem Ns{L:List Tok}{p:PS}(T:Toks L)(hp:p.at_<L.length)(g:Nat)(w:World)(h:PW L w g p):
 Calls prog 190 #[.pointer (some ⟨g,0,none⟩)] w (iI (rows rM) L g w (mC L p).1 (mC L p).2):=by
 have hL:=T.len;have o:=h.lt;have HP:=aA h;have G:=aA (fun (q:PS) (a:q.at_<L.length) w h=>Nr T a g w h);have X:=aA (fun (q:PS) (a:q.at_<L.length) w h=>eL T (str "or") a g w h);have ad:=aA (fun b (q:PS) (a:q.at_<L.length) w h=>kQ b a hL g w h);have B:=aA (fun (q:PS) (a:q.at_<L.length)=>MA T a);have O:=aA (fY T (str "(") hp);have Q:=aA (fun w h=>mF T (str "(") hp g w h);have ae:=aA (fun (q:PS) (a:q.at_<L.length) w h=>mF T (str ")") a g w h);unfold mC;dsimp only;generalize eH L (str "(") p=m at *;rw[JK] at Q;obtain⟨res,K⟩:=xE (jS L (iX L) (str "or") L.length [(iX L m).1] (iX L m).2);have S:Hid (jS L (iX L) (str "or") L.length [(iX L m).1] (iX L m).2=res):=aA K.symm;rw[<-K];have H:=aA (G.o m O.o.lt);have P:=aA (B.o m O.o.lt);unfold iI;unfold iI at H;clear h K;generalize iX L m=M at *;have HK:=aA (cW.refl w.heap.size g w);go_enter func190,ntmps190;go_wp2_with fail;refine(Q.o _ HP.o).mono ?_;rintro e w0 ⟨rfl,h_,k_⟩;have HK:=aA (HK.o.aC1 k_);have HP:=aA h_;have ak:w.heap.size<=w0.heap.size:=k_.size;clear h_ k_;go_wp2_with fail;refine(H.o _ HP.o).mono ?_;rintro e w1 ⟨v,rfl,k,h_,k_⟩;obtain⟨x,y,rfl,ah⟩:=k.slice;have HK:=aA (HK.o.aC1 k_);have HP:=aA h_;have ai:w.heap.size<=w1.heap.size:=HK.o.size;have U:=aA k;clear k h_ k_ H;go_wp2;go_loopg [3] L.length (fun f v wr=>RP (rows rM) 1 317 L (iX L) (str "or") g w res f v wr)
 case atStart=>
  have t:=aB w1 (.cells #[.slice x M.1.length y] 317);exact⟨[M.1],M.2,_,_,rfl,aA ⟨S.o,P.o.lt,qo,qs,aM.one dO (aK _ _ _ rfl) ai ⟨_,rfl,aH.more eP ((aH.inb eP U.o).on eP t) (fun b i=>⟨by have:w0.heap.size<=b:=i.1;show w.heap.size<=b;omega,by have:=i.2;rw[World.size_alloc];omega,qA i.2⟩)⟩,HP.o.alloc,HK.o.alloc⟩⟩
 case round=>
  clear S HP HK P U;obtain⟨l,q,A,c,rfl,d⟩:=hrel;have a:=d.o.at_;have n:=aA (X.o q a wr d.o.pw);have hlen:l.length<=5000:=qA d.o.len
  cases j:cL L (str "or") q
  .rw[jX j,Wx] at n;have HS:=aA (d.o.stop j);have E:=aA (ae.o q a);rw[JL] at E;clear j;go_wp2_with fail;refine n.o.mono ?_;rintro e w2 ⟨rfl,h_,k_⟩;obtain⟨HP,HK,HG⟩:=aY h_ (d.o.aCT.aC1 k_) (d.o.row.aC1 dO k_ o);clear h_ k_ n;go_wp2_with fail;refine(E.o _ HP.o).mono ?_;rintro e r ⟨rfl,h_,k_⟩;obtain⟨HP,HK,HG⟩:=aY h_ (HK.o.aC1 k_) (HG.o.aC1 dO k_ o);clear h_ k_ E;go_wp2;go_ret;refine⟨_,rfl,?_,?_,HK.o.end⟩
   .rw[HS.o];exact HG.o.sl qo _ (fun b t _=>t) (fun b t _=>t) dO
   .rw[HS.o,JL];exact HP.o
  .rw[mG j,Wx] at n;obtain⟨f',aa,ab⟩:=d.o.next j;have HF:=aA aa;have HS:=aA ab;have C:=(fO T a j).lt;have I:=aA (G.o _ C);have hq2:=(B.o _ C).lt;have af:=(B.o _ C).le;have aj:=d.o.fuel;have hle:=d.o.len;simp only at af C;unfold iI at I;clear j aa ab G B X;generalize iX L {q with at_:=q.at_+1}=D at *;go_wp2_with fail;refine n.o.mono ?_;rintro e w2 ⟨rfl,h_,k_⟩;obtain⟨HP,HK,F⟩:=aY h_ (d.o.aCT.aC1 k_) (d.o.row.aC1 dO k_ o);have al:w.heap.size<=w2.heap.size:=HK.o.size;clear h_ k_ n d;go_wp2_with fail;refine(I.o _ HP.o).mono ?_;rintro e r ⟨v,rfl,k,h_,k_⟩;obtain⟨x,y,rfl,ah⟩:=k.slice;obtain⟨HP,HK,HG,V⟩:=dD h_ (HK.o.aC1 k_) (F.o.aC1 dO k_ o) k;clear k h_ k_ I;have an:w.heap.size<=r.heap.size:=HK.o.size;have s:=aA (aB r (.cells #[.slice x D.1.length y] 317));have Y:=aA (heap_alloc_new r (.cells #[.slice x D.1.length y] 317));obtain⟨z,R,N⟩:=aY (HG.o.on dO s.o) (HP.o.on s.o) (HK.o.new s.o);have W:=aA (aH.more eP ((aH.inb eP V.o).on eP s.o) (ok':=fun b=>w.heap.size<=b/\b<(r.alloc (.cells #[.slice x D.1.length y] 317)).heap.size/\some b≠(Value.slice A l.length c).ownBlock) (fun b i=>⟨by have:w2.heap.size<=b:=i.1;omega,by have:=i.2;rw[World.size_alloc];omega,fun e=>by have h1:=(F.o.lt b e.symm).2;have:w2.heap.size<=b:=i.1;omega⟩));go_wp2_with (at_builtin;refine cB Xq dO rfl (.tmp 11) (.tmp 14) rfl _ l rfl z.o r.heap.size 1 _ _ _ D.1 rfl Y.o ⟨_,rfl,W.o⟩ qo qo (by rw[World.size_alloc];omega) ?_;intro l' hl' A' c' w4 Z J ag;have HG4:=aA Z;have HP4:=aA (R.o.grown z.o J o);have HK4:=aA (N.o.grown z.o J (lR _));clear Z J ag HG HP HK s Y z R N W V F)
   have HLM2:=aA (ad.o (decide ((8:Int)<(l'.length:Int))) _ hq2 _ HP4.o);refine HLM2.o.mono ?_;rintro e w5 ⟨rfl,h_,k_⟩;obtain⟨HP,HK,HG⟩:=aY h_ (HK4.o.aC1 k_) (HG4.o.aC1 dO k_ o);exact Sa
theorem tL{L:List Tok}{p:PS}(T:Toks L)(hp:p.at_<L.length)(g:Nat)(w:World)(h:PW L w g p):
 Calls prog 142 #[.pointer (some ⟨g,0,none⟩)] w (iI (rows (rows rM)) L g w (bU L p).1 (bU L p).2):=by
 have hL:=T.len;have x:=h.lt;have HP:=aA h;have I:=aA (fun (q:PS) (d:q.at_<L.length) w h=>Ns T d g w h);have X:=aA (fun (q:PS) (d:q.at_<L.length) w h=>eL T (str "and") d g w h);have ad:=aA (fun b (q:PS) (d:q.at_<L.length) w h=>kQ b d hL g w h);have D:=aA (fun (q:PS) (d:q.at_<L.length)=>MB T d);have r:=aA (fun w h=>eL T (str "when") hp g w h)
 cases n:cL L (str "when") p
 .rw[jX n,Gg] at r;have e:bU L p=([],p):=by unfold bU;rw[iN (by rw[n];decide)]
  rw[e];unfold iI;clear h e n;go_enter func142,ntmps142;go_wp2_with fail;refine(r.o _ HP.o).mono ?_;rintro e w1 ⟨rfl,h_,k_⟩;have HP:=aA h_;have HK:=aA k_;clear h_ k_;go_wp2;go_ret;exact⟨_,rfl,aH.nil,HP.o,HK.o⟩
 rw[mG n,Gg] at r;have H:=aA (fO T hp n);have e:bU L p=jS L (mC L) (str "and") L.length [(mC L {p with at_:=p.at_+1}).1] (mC L {p with at_:=p.at_+1}).2:=by unfold bU;rw[iP n]
 rw[e];clear e n;obtain⟨i,ag⟩:∃i,i=({p with at_:=p.at_+1}:PS):=⟨_,rfl⟩;rw[<-ag] at r H ⊢;obtain⟨res,N⟩:=xE (jS L (mC L) (str "and") L.length [(mC L i).1] (mC L i).2);have S:Hid (jS L (mC L) (str "and") L.length [(mC L i).1] (mC L i).2=res):=aA N.symm;rw[<-N];have J:=aA (I.o i H.o.lt);have Q:=aA (D.o i H.o.lt);unfold iI;unfold iI at J;clear h N;generalize mC L i=O at *;have HK:=aA (cW.refl w.heap.size g w);go_enter func142,ntmps142;go_wp2_with fail;refine(r.o _ HP.o).mono ?_;rintro e w0 ⟨rfl,h_,k_⟩;have HK:=aA (HK.o.aC1 k_);have HP:=aA h_;have ak:w.heap.size<=w0.heap.size:=k_.size;clear h_ k_;go_wp2_with fail;refine(J.o _ HP.o).mono ?_;rintro e w1 ⟨v,rfl,m,h_,k_⟩;obtain⟨z,B,rfl,ah⟩:=m.slice;have HK:=aA (HK.o.aC1 k_);have HP:=aA h_;have ai:w.heap.size<=w1.heap.size:=HK.o.size;have U:=aA m;clear m h_ k_ J;go_wp2;go_loopg [3] L.length (fun f v wr=>RP (rows (rows rM)) 1 271 L (mC L) (str "and") g w res f v wr)
 case atStart=>
  have t:=aB w1 (.cells #[.slice z O.1.length B] 271);exact⟨[O.1],O.2,_,_,rfl,aA ⟨S.o,Q.o.lt,qo,qs,aM.one aS (aK _ _ _ rfl) ai ⟨_,rfl,aH.more dO ((aH.inb dO U.o).on dO t) (fun b j=>⟨by have:w0.heap.size<=b:=j.1;show w.heap.size<=b;omega,by have:=j.2;rw[World.size_alloc];omega,qA j.2⟩)⟩,HP.o.alloc,HK.o.alloc⟩⟩
 case round=>
  clear S HP HK Q U;obtain⟨l,q,A,c,rfl,a⟩:=hrel;have d:=a.o.at_;have o:=aA (X.o q d wr a.o.pw);have hlen:l.length<=5000:=qA a.o.len
  cases k:cL L (str "and") q
  .rw[jX k,Rf] at o;have HS:=aA (a.o.stop k);clear k;go_wp2_with fail;refine o.o.mono ?_;rintro e w2 ⟨rfl,h_,k_⟩;obtain⟨HP,HK,HG⟩:=aY h_ (a.o.aCT.aC1 k_) (a.o.row.aC1 aS k_ x);clear h_ k_ o;go_wp2;go_ret;refine⟨_,rfl,?_,?_,HK.o.end⟩
   .rw[HS.o];exact HG.o.sl qo _ (fun b t _=>t) (fun b t _=>t) aS
   .rw[HS.o];exact HP.o
  .rw[mG k,Rf] at o;obtain⟨f',aa,ab⟩:=a.o.next k;have HF:=aA aa;have HS:=aA ab;have E:=(fO T d k).lt;have K:=aA (I.o _ E);have hq2:=(D.o _ E).lt;have ae:=(D.o _ E).le;have aj:=a.o.fuel;have hle:=a.o.len;simp only at ae E;unfold iI at K;clear k aa ab I D X;generalize mC L {q with at_:=q.at_+1}=F at *;go_wp2_with fail;refine o.o.mono ?_;rintro e w2 ⟨rfl,h_,k_⟩;obtain⟨HP,HK,G⟩:=aY h_ (a.o.aCT.aC1 k_) (a.o.row.aC1 aS k_ x);have al:w.heap.size<=w2.heap.size:=HK.o.size;clear h_ k_ o a;go_wp2_with fail;refine(K.o _ HP.o).mono ?_;rintro e y ⟨v,rfl,m,h_,k_⟩;obtain⟨z,B,rfl,ah⟩:=m.slice;obtain⟨HP,HK,HG,V⟩:=dD h_ (HK.o.aC1 k_) (G.o.aC1 aS k_ x) m;clear m h_ k_ K;have an:w.heap.size<=y.heap.size:=HK.o.size;have s:=aA (aB y (.cells #[.slice z F.1.length B] 271));have Y:=aA (heap_alloc_new y (.cells #[.slice z F.1.length B] 271));obtain⟨C,R,P⟩:=aY (HG.o.on aS s.o) (HP.o.on s.o) (HK.o.new s.o);have W:=aA (aH.more dO ((aH.inb dO V.o).on dO s.o) (ok':=fun b=>w.heap.size<=b/\b<(y.alloc (.cells #[.slice z F.1.length B] 271)).heap.size/\some b≠(Value.slice A l.length c).ownBlock) (fun b j=>⟨by have:w2.heap.size<=b:=j.1;omega,by have:=j.2;rw[World.size_alloc];omega,fun e=>by have h1:=(G.o.lt b e.symm).2;have:w2.heap.size<=b:=j.1;omega⟩));go_wp2_with (at_builtin;refine cB Rz aS rfl (.tmp 12) (.tmp 15) rfl _ l rfl C.o y.heap.size 1 _ _ _ F.1 rfl Y.o ⟨_,rfl,W.o⟩ qo qo (by rw[World.size_alloc];omega) ?_;intro l' hl' A' c' w4 Z M af;have HG4:=aA Z;have HP4:=aA (R.o.grown C.o M x);have HK4:=aA (P.o.grown C.o M (lR _));clear Z M af HG HP HK s Y C R P W V G)
   have HLM2:=aA (ad.o (decide ((8:Int)<(l'.length:Int))) _ hq2 _ HP4.o);refine HLM2.o.mono ?_;rintro e w5 ⟨rfl,h_,k_⟩;obtain⟨HP,HK,HG⟩:=aY h_ (HK4.o.aC1 k_) (HG4.o.aC1 aS k_ x);exact Sa
theorem cW.join{B g:Nat}{a w w':World}(h:cW B g a w)(k:cW w.heap.size g w w')(c:B<=w.heap.size):cW B g a w':=aN.trans h (aN.mono k fun x b h=>⟨b,h.2⟩)
theorem aM.aDX{α:Type}{R:Rep α}{s:Nat}{e:TypeId}{w wr w2:World}{v:Value}{l:List α}{g:Nat}(F:Firm R s)(h:aM R s e wr w.heap.size (fun b=>w.heap.size<=b) v l)(k:cW wr.heap.size g wr w2)(d:g<w.heap.size):aM R s e w2 w.heap.size (fun b=>w.heap.size<=b) v l:=
 h.aCT F k (fun b c a=>⟨a,by have:w.heap.size<=b:=c;omega⟩) (fun b c a=>⟨a,qo⟩)
theorem aCo:dV prog 36 191 3 32:=fP (z:= .agg #[.int .i64 0,.int .i64 0,.string ByteArray.empty]) underlying36 (by kernel_rfl) rfl qe
theorem uY{L:List Tok}{p:PS}(T:Toks L)(hp:p.at_<L.length)(g:Nat)(w:World)(h:PW L w g p):
 Calls prog 146 #[.pointer (some ⟨g,0,none⟩)] w (iI jU L g w (gL L p).1 (gL L p).2):=by
 have hL:=T.len;have D:=h.lt;have HP:=aA h;have ae:=aA (fun (q:PS) (i:q.at_<L.length) w h=>eL T (str "on") i g w h);have aj:=aA (fun b (q:PS) (i:q.at_<L.length) w h=>kQ b i hL g w h);have r:=aA (fun (q:PS) (i:q.at_<L.length) a c w h hw=>nC T [str "permit",str "deny"] a c 2 rfl qe i g w h hw);have s:=aA (fun (q:PS) (i:q.at_<L.length) a c w h hw=>nC T [str "log",str "redact",str "review",str "notify"] a c 4 rfl qe i g w h hw);have I:=aA (fun (q:PS) (i:q.at_<L.length) w h=>rB T i g w h);obtain⟨res,X⟩:=xE (gL L p);have ad:Hid (jS L (tI L) (str "on") L.length [] p=res):=aA (by rw[X];rfl);rw[<-X];unfold iI;clear h X;have HK:=aA (cW.refl w.heap.size g w);go_enter func146,ntmps146;go_wp2;go_loopg [3] L.length (fun f v wr=>RP jU 3 191 L (tI L) (str "on") g w res f v wr)
 case atStart=>exact⟨[],p,none,0,rfl,aA ⟨ad.o,hp,qo,qs,aM.nil,HP.o,HK.o⟩⟩
 case round=>
  clear ad HP HK;obtain⟨l,q,A,c,rfl,d⟩:=hrel;have i:=d.o.at_;have n:=aA (ae.o q i wr d.o.pw);have hlen:l.length<=5000:=qA d.o.len
  cases m:cL L (str "on") q
  .rw[jX m,Wy] at n;have HS:=aA (d.o.stop m);clear m;go_wp2_with fail;refine n.o.mono ?_;rintro e w2 ⟨rfl,h_,k_⟩;obtain⟨HP,HK,HG⟩:=aY h_ (d.o.aCT.aC1 k_) (d.o.row.aC1 aO k_ D);clear h_ k_ n;go_wp2;go_ret;refine⟨_,rfl,?_,?_,HK.o.end⟩
   .rw[HS.o];exact HG.o.sl qo _ (fun b S _=>S) (fun b S _=>S) aO
   .rw[HS.o];exact HP.o
  .rw[mG m,Wy] at n;obtain⟨f',ah,ai⟩:=d.o.next m;have HF:=aA ah;have HS:=aA ai;have o:=(fO T i m).lt;have V:=dR T [str "permit",str "deny"] o;have W:=dR T [str "log",str "redact",str "review",str "notify"] V.lt;have al:=jC T W.lt;obtain⟨r,s,I⟩:=aY (r.o _ o) (s.o _ V.lt) (I.o _ W.lt);have hq2:=(IE T o).lt;have R:=(IE T o).le;have aq:=d.o.fuel;have hle:=d.o.len;have N:=aA (Hg T o);simp only at R o;clear m ah ai ae V W al;have HD:Hid (tI L {q with at_:=q.at_+1}=(⟨(aZ L [str "permit",str "deny"] {q with at_:=q.at_+1}).1,(aZ L [str "log",str "redact",str "review",str "notify"] (aZ L [str "permit",str "deny"] {q with at_:=q.at_+1}).2).1,(bT L (aZ L [str "log",str "redact",str "review",str "notify"] (aZ L [str "permit",str "deny"] {q with at_:=q.at_+1}).2).2).1⟩,(bT L (aZ L [str "log",str "redact",str "review",str "notify"] (aZ L [str "permit",str "deny"] {q with at_:=q.at_+1}).2).2).2)):=aA rfl;generalize aZ L [str "permit",str "deny"] {q with at_:=q.at_+1}=J at *;generalize aZ L [str "log",str "redact",str "review",str "notify"] J.2=K at *;generalize bT L K.2=F at *;rw[HD.o] at HS N hq2 R;clear HD;rw[II,SM] at r;rw[Zl,Mz,Na,Nb] at s;simp only at hq2 R N;go_wp2_with fail;refine n.o.mono ?_;rintro e w2 ⟨rfl,h_,k_⟩;obtain⟨HP,O,aa⟩:=aY h_ (d.o.aCT.aC1 k_) (d.o.row.aC1 aO k_ D);have an:w.heap.size<=w2.heap.size:=O.o.size;have ar:=HP.o.lt;have HK:=aA (cW.refl w2.heap.size g w2);clear h_ k_ n d;go_wp2_with fail;refine(r.o _ _ _ (HP.o.alloc.alloc) (nD _ _ _ _ _ qs rfl)).mono ?_;rintro e Y ⟨rfl,h_,k_⟩
   obtain⟨j,k,HK,HP⟩:=dD (aF (aE (aK _ _ _ qs) (aB _ _)) k_ qo:Y.heap[w2.heap.size]? =some (.cells fU 191 (0,0))) (aF (aK _ _ _ qs) k_ qo:Y.heap[w2.heap.size+1]? =some (.cells #[.string ⟨#[112,101,114,109,105,116]⟩,.string ⟨#[100,101,110,121]⟩] 9 (0,0))) (HK.o.alloc.alloc.aC1 k_) h_;clear h_ k_;have au:=aD j.o;have ax:=aD k.o;have a7:=HP.o.lt;clear r;obtain⟨⟨t,x,y⟩,z,B,C⟩:=cD j.o;go_wp2_with fail;refine(s.o _ _ _ ((HP.o.set qo).alloc) (nD _ _ _ _ _ qs rfl)).mono ?_;rintro e w4 ⟨rfl,h_,k_⟩;obtain⟨j,k,G,HK,HP⟩:=gC (aF (aE (Zn (j.o) _) (aB _ _)) k_ qo) (aF (aE (bE (k.o) qo) (aB _ _)) k_ qo) (aF (aK _ _ _ qs) k_ qo:w4.heap[Y.heap.size]? =some (.cells #[.string ⟨#[108,111,103]⟩,.string ⟨#[114,101,100,97,99,116]⟩,.string ⟨#[114,101,118,105,101,119]⟩,.string ⟨#[110,111,116,105,102,121]⟩] 9 (0,0))) ((HK.o.set qo).alloc.aC1 k_) h_;clear h_ k_ t x y z B C;have av:=aD j.o;have ay:=aD k.o;have a1:=aD G.o;have a8:=HP.o.lt;clear s;obtain⟨⟨t,x,y⟩,z,B,C⟩:=cD j.o;go_wp2_with fail;refine(I.o _ ((HP.o.set qo))).mono ?_;rintro e Z ⟨rfl,h_,k_⟩;obtain⟨j,k,G,HK,HP⟩:=gC (aF (Zo (j.o) _) k_ qo) (aF (bE (k.o) qo) k_ qo) (aF (bE (G.o) qo) k_ qo) ((HK.o.set qo).aC1 k_) h_;clear h_ k_ t x y z B C;have aw:=aD j.o;have az:=aD k.o;have a6:=aD G.o;have ba:=HP.o.lt;clear I;obtain⟨⟨t,x,y⟩,z,B,C⟩:=cD j.o;obtain⟨M,E⟩:=xE ((Z.setCell ⟨w2.heap.size,2,none⟩ (.string F.1)).alloc (.cells #[.int .i64 J.1,.int .i64 K.1,.string F.1] 191));have ag:Hid (M.heap[Z.heap.size]? =some (.cells #[.int .i64 J.1,.int .i64 K.1,.string F.1] 191 (0,0))):=aA (by rw[E];exact aK _ _ _ qs)
   have ab:Hid (PW L M g F.2):=aA (by rw[E];exact(HP.o.set qo).alloc);have P:Hid (cW w2.heap.size g w2 M):=aA (by rw[E];exact(HK.o.set qo).alloc);have H:=aA (aa.o.aDX aO P.o D);have Q:=aA (O.o.join P.o an);have ao:w.heap.size<=M.heap.size:=Q.o.size;have af:=aA E;clear E HP HK aa O P;go_wp2_with (at_builtin;rw[<-af.o];refine cB aCo aO rfl (.tmp 18) (.tmp 20) rfl _ l rfl H.o Z.heap.size 1 _ _ _ ⟨J.1,K.1,F.1⟩ rfl ag.o ⟨rfl,N.o⟩ qo qo ao ?_;intro l' hl' A' c' w9 hG U ak;have HG4:=aA hG;have HP4:=aA (ab.o.grown H.o U D);have HK4:=aA (Q.o.grown H.o U (lR _));clear hG U ak ag H ab Q af t x y z B C)
   have HLM2:=aA (aj.o (decide ((8:Int)<(l'.length:Int))) _ hq2 _ HP4.o);refine HLM2.o.mono ?_;rintro e wz ⟨rfl,h_,k_⟩;obtain⟨HP,HK,HG⟩:=aY h_ (HK4.o.aC1 k_) (HG4.o.aC1 aO k_ D);exact Sa
theorem QCG{p:Prop}(h:p:=by
 go_enter func280,ntmps280;go_wp2;go_ret;exact⟨_,rfl,xA w [true] _ _ rfl _ rfl qs _ _ rfl,aB _ _⟩):p:=h
def DA:Rep Bool:=mK (fun b=>[.bool b]) (fun _=>True)
theorem jO:Firm DA 1:=gD (fun _=>rfl) (fun x v h=>by simp only[List.mem_cons,List.not_mem_nil,or_false] at h;rw[h];rfl)
theorem xA(w:World)(l:List Bool)(t:TypeId)(n:Nat)(e:w.heap.size=n)(cs:Array Value)(h:cs=(l.map Value.bool).toArray)(d:l.length<=1000)(m c:Nat)(hm:l.length=m):aH DA (w.alloc (.cells cs t)) (fun b=>n<=b) (.slice (some ⟨n,0,none⟩) m c) l:=by
 subst e h hm;refine⟨_,c,l.map Value.bool,rfl,fun _=>⟨w.heap.size,0,rfl,lR _,fun i x f=> ?_⟩,?_,qo⟩
 .refine aQ (heap_alloc_new w _) _ _ ?_;rw[Nat.zero_add];simpa using f
 .clear d
  induction l with
  |nil=>rfl
  |cons a l g=>exact⟨[.bool a],l.map Value.bool,rfl,⟨rfl,trivial⟩,g⟩
def OM(w:World)(l:List Bool)(e:Ending)(w':World):Prop:=∃v,e=.returned v/\aH DA w' (fun b=>w.heap.size<=b) v l/\Below w.heap.size w w'
theorem TM(op:Int)(w:World):Calls prog 280 #[.int .i64 op] w (OM w (fK op)):=by
 unfold OM;by_cases h3:op=3
 .subst h3;exact QCG
 by_cases h4:op=4
 .subst h4;exact QCG
 by_cases h5:op=5
 .subst h5;go_enter func280,ntmps280;go_wp2;go_ret;exact⟨_,rfl,xA w [true,false] _ _ rfl _ rfl qs _ _ rfl,aB _ _⟩
 by_cases h11:op=11
 .subst h11;go_enter func280,ntmps280;go_wp2;go_ret;exact⟨_,rfl,xA w [false] _ _ rfl _ rfl qs _ _ rfl,aB _ _⟩
 have e:fK op=[false,false]:=by unfold fK;rw[iN qo,iN h5,iN h11]
 rw[e];have d3:(op==3)=false:=bN.2 h3;have d4:(op==4)=false:=bN.2 h4;have d5:(op==5)=false:=bN.2 h5;have d11:(op==11)=false:=bN.2 h11;clear h3 h4 h5 h11 e;go_enter func280,ntmps280;go_wp2;go_ret;exact⟨_,rfl,xA w [false,false] _ _ rfl _ rfl qs _ _ rfl,aB _ _⟩
def pX(L:List Tok)(f:Nat)(ms:List Bool)(acc:List No×PS):List No×PS:=ms.foldl (dC L f) acc
def wC(L:List Tok)(f:Nat)(l:List No)(p:PS):(List No×No)×PS:=
 (((pX L f (fK (2+(aZ L eB p).1)) (l,(aZ L eB p).2)).1,⟨2+(aZ L eB p).1,bD,uJ⟩),
   eH L (str ")") (pX L f (fK (2+(aZ L eB p).1)) (l,(aZ L eB p).2)).2)
def gP(L:List Tok)(f:Nat)(l:List No)(p:PS):(List No×No)×PS:=
 if cL L (str "(") p then wC L f l {p with at_:=p.at_+1}
 else if (aU L p).aCJ=1/\(aU L p).str≠str "true"/\(aU L p).str≠str "false" then ((l,⟨2,bD,(cE L p).1⟩),(cE L p).2)
 else ((l,⟨1,(cY L p).1,uJ⟩),(cY L p).2)
theorem tY(L:List Tok)(f:Nat)(l:List No)(p:PS):eW L (f+1) l p=
 (((gP L f l p).1.1++[(gP L f l p).1.2],decide ((gP L f l p).1.2.op=2)),cR L (decide (32<((gP L f l p).1.1++[(gP L f l p).1.2]).length)) (gP L f l p).2):=by
 unfold gP;rw[eW];dsimp only;split
 .rfl
 .split<;>rfl
section
variable {L:List Tok} (T:Toks L)
include T
theorem ML(f:Nat):∀(ms:List Bool) {l:List No} {p:PS},p.at_<L.length->dL L p (pX L f ms (l,p)).2:=by
 intro ms
 induction ms with
 |nil=>intro l p h;exact dL.refl h
 |cons m ms a=>
  intro l p h;have h1:dL L p (dC L f (l,p) m).2:=by
   unfold dC;dsimp only;split
   .exact dL.refl h
   .have h1:=zH T f l h;exact Qy
  exact h1.trans (a h1.lt)
theorem Un(f:Nat)(l:List No){p:PS}(h:p.at_<L.length):dL L p (wC L f l p).2:=by
 unfold wC;have h1:=dR T eB h;have h2:=ML T f (fK (2+(aZ L eB p).1)) (l:=l) h1.lt;exact h1.trans (h2.trans (fY T (str ")") h2.lt))
theorem wF(f:Nat)(l:List No){p:PS}(h:p.at_<L.length):dL L p (gP L f l p).2:=by
 unfold gP;split
 .rename_i a;have h0:=fO T h a;exact h0.trans (Un T f l h0.lt)
 split
 .exact nI T h
 .exact wQ T h
theorem IS:∀(f:Nat) (l:List No) {p:PS},p.at_<L.length->(eW L f l p).1.1.length+2 * p.at_<=l.length+1+2 * (eW L f l p).2.at_
 |0,l,p,h=>by unfold eW;simp only;omega
 |f+1,l,p,h=>by
  rw[tY];have i:(gP L f l p).1.1.length+2 * p.at_<=l.length+2 * (gP L f l p).2.at_:=by
   unfold gP;split
   .rename_i b;have h0:=fO T h b;have h1:=dR T eB h0.lt;have d:∀(ms:List Bool) (l:List No) (q:PS),q.at_<L.length->(pX L f ms (l,q)).1.length+2 * q.at_<=l.length+ms.length+2 * (pX L f ms (l,q)).2.at_:=by
     intro ms
     induction ms with
     |nil=>intro l q a;simp[pX]
     |cons m ms g=>
      intro l q a;have hm:dL L q (dC L f (l,q) m).2:=ML T f [m] (l:=l) a;have j:(dC L f (l,q) m).1.length+2 * q.at_<=l.length+1+2 * (dC L f (l,q) m).2.at_:=by
       unfold dC;dsimp only;split
       .simp only;omega
       .have:=IS f l a;split
        .simp only;rw[(ID _ _ _).1];exact this
        .exact this
      have h3:=g (dC L f (l,q) m).1 (dC L f (l,q) m).2 hm.lt;have e:pX L f (m::ms) (l,q)=pX L f ms ((dC L f (l,q) m).1,(dC L f (l,q) m).2):=rfl;rw[e];simp only[List.length_cons];omega
    have h2:=d (fK (2+(aZ L eB {p with at_:=p.at_+1}).1)) l (aZ L eB {p with at_:=p.at_+1}).2 h1.lt;have h4:=ML T f (fK (2+(aZ L eB {p with at_:=p.at_+1}).1)) (l:=l) h1.lt;have h5:=(fY T (str ")") h4.lt).le;have h6:(fK (2+(aZ L eB {p with at_:=p.at_+1}).1)).length<=2:=by
     unfold fK
     repeat' split
     all_goals simp
    have h7:=h1.le;simp only at h7;unfold wC;simp only;omega
   split
   .have:=(nI T h).le;simp only;omega
   .have:=(wQ T h).le;simp only;omega
  have c:=(kP (L:=L) (decide (32<((gP L f l p).1.1++[(gP L f l p).1.2]).length)) (wF T f l h).lt).le;simp only[aL,List.length_singleton] at c ⊢;omega
end
theorem DB{L:List Tok}(T:Toks L)(f:Nat)(l:List No){p:PS}(h:p.at_<L.length):oO (gP L f l p).1.2:=by
 have h0:cS bD:=⟨by unfold bD bK;simp,by unfold bD bK;simp,Nat.zero_le _⟩;have h1:BQ uJ:=⟨by unfold uJ bK;simp,Nat.zero_le _⟩;unfold gP;split
 .have h4:=nN (L:=L) eB {p with at_:=p.at_+1};have h5:eB.length=11:=rfl;unfold wC;exact⟨by unfold bK;show _<=2+(aZ L _ _).1/\2+(aZ L _ _).1<=_;omega,h0,h1⟩
 split
 .exact⟨by unfold bK;show _<=(2:Int)/\(2:Int)<=_;omega,h0,OL T h⟩
 .exact⟨by unfold bK;show _<=(1:Int)/\(1:Int)<=_;omega,KC T h,h1⟩
def Fr(g:Nat)(v:Value)(w w':World):Prop:=aN (fun b=>b≠g/\some b≠v.ownBlock) w w'
def jY(v v':Value)(w:World):Prop:=∀b,v'.ownBlock=some b->v.ownBlock=some b\/w.heap.size<=b
theorem Fr.refl(g:Nat)(v:Value)(w:World):Fr g v w w:=aN.refl _ _
theorem jY.refl(v:Value)(w:World):jY v v w:=fun b h=> .inl h
theorem Fr.size{g:Nat}{v:Value}{w w':World}(h:Fr g v w w'):w.heap.size<=w'.heap.size:=aN.size h
theorem Fr.trans{g:Nat}{v v1:Value}{w w1 w2:World}(h:Fr g v w w1)(o:jY v v1 w)(k:Fr g v1 w1 w2):Fr g v w w2:=
 ⟨k.os.trans h.os,k.tape.trans h.tape,k.output.trans h.output,lT (aN.size h) (aN.size k),fun b c a=>(aN.block k b (lL c (aN.size h)) ⟨a.1,fun e=>by
   rcases o b e.symm with h1|h1
   .exact a.2 h1.symm
   .omega⟩).trans (aN.block h b c a)⟩
theorem jY.trans{v v1 v2:Value}{w w1:World}(h:jY v v1 w)(k:jY v1 v2 w1)(c:w.heap.size<=w1.heap.size):jY v v2 w:=fun b a=>by
 rcases k b a with h1|h1
 .exact h b h1
 .exact .inr qo
theorem Fr.aC1{g:Nat}{v:Value}{w w1 w2:World}(h:Fr g v w w1)(k:aN (fun b=>b≠g) w1 w2):Fr g v w w2:=aN.trans h (k.mono fun _ _ h=>h.1)
theorem Fr.new{g:Nat}{v:Value}{w w1 w2:World}(h:Fr g v w w1)(k:Below w1.heap.size w1 w2):Fr g v w w2:=aN.trans h (aJ k)
theorem Fr.set{g:Nat}{v:Value}{w w1:World}(h:Fr g v w w1){b i:Nat}{u:Value}(e:w.heap.size<=b):Fr g v w (w1.setCell ⟨b,i,none⟩ u):=by
 have a:aN (fun b=>b≠g/\some b≠v.ownBlock) w w1:=h;exact⟨a.os,a.tape,a.output,by have:=a.size;simpa [World.setCell] using this,fun k c d=>(Below.heap_setCell _ _ _ _ (by simp only;omega)).trans (a.block k c d)⟩
theorem Fr.grown{α:Type}{R:Rep α}{s:Nat}{e:TypeId}{base:Nat}{ok:nP}{l:List α}{g:Nat}{v v1:Value}{w w1 w2:World}(h:Fr g v w w1)(o:jY v v1 w)(f:aM R s e w1 base ok v1 l)(a:w1.grownBy w2 v1.ownBlock):Fr g v w w2:=
 ⟨a.os.trans (aN.os h),a.tape.trans (aN.tape h),a.output.trans (aN.output h),lT (aN.size h) a.size,fun b c d=>(a.block b (lL c (aN.size h)) (fun e=>by
   rcases o b e.symm with h1|h1
   .exact d.2 h1.symm
   .omega)).trans (aN.block h b c d)⟩
theorem Fr.blk{g:Nat}{v:Value}{w w':World}{b:Nat}{o:Obj}(h:w.heap[b]? =some o)(k:Fr g v w w')(a:b≠g)(c:∀x,v.ownBlock=some x->x≠b):w'.heap[b]? =some o:=
 aF h k ⟨a,fun e=>c b e.symm rfl⟩
abbrev jZ(w:World)(B:Nat)(v:Value)(l:List No):Prop:=aM JG 7 301 w B (fun _=>False) v l
theorem jZ.stays{w w':World}{B:Nat}{ok:nP}{v:Value}{l:List No}(h:jZ w B v l)(k:aN ok w w')(a:∀b,v.ownBlock=some b->ok b):jZ w' B v l:=by
 obtain⟨cs,h1,h2⟩:=h;exact⟨cs,lM h1 k a,h2.mono fun _ _ h=>h⟩
structure Nt (L:List Tok) (g B:Nat) (v:Value) (w:World) (l':List No) (p':PS) (v':Value) (w':World):Prop where
 row:jZ w' B v' l'
 pw:PW L w' g p'
 fr:Fr g v w w'
 own:jY v v' w
def Xr(L:List Tok)(g B:Nat)(v:Value)(w:World)(l':List No)(p':PS)(e:Ending)(w':World):Prop:=∃v',e=.returned v'/\Nt L g B v w l' p' v' w'
def zZ(L:List Tok)(g B:Nat)(v:Value)(w:World)(l':List No)(b:Bool)(p':PS)(e:Ending)(w':World):Prop:=∃v',e=.returned (.tuple #[v',.bool b])/\Nt L g B v w l' p' v' w'
def Nu(L:List Tok)(g B:Nat)(v:Value)(w:World)(l':List No)(n:No)(p':PS)(e:Ending)(w':World):Prop:=∃v',e=.returned (.tuple #[v',jK n])/\Nt L g B v w l' p' v' w'
structure xB (L:List Tok) (f:Nat) (g B:Nat) (v:Value) (w:World) (l:List No) (p:PS):Prop where
 fuel:L.length<=f+p.at_
 at_:p.at_<L.length
 len:l.length<=10+2 * p.at_
 low:g<B
 base:B<=w.heap.size
 pw:PW L w g p
 row:jZ w B v l
def ES(L:List Tok)(f:Nat):Prop:=∀l p g B v w,xB L f g B v w l p->
 Calls prog 246 #[.pointer (some ⟨g,0,none⟩),v] w (zZ L g B v w (eW L f l p).1.1 (eW L f l p).1.2 (eW L f l p).2)
def iC(L:List Tok)(f:Nat)(l:List No)(must:Bool)(p:PS):List No×PS:=
 ((eW L f l p).1.1,if (eW L f l p).1.2≠must then eO 5 (aU L p).at_ (eW L f l p).2 else (eW L f l p).2)
theorem KD{L:List Tok}{f:Nat}(T:Toks L)(z:ES L f)(l:List No)(must:Bool)(p:PS)(g B:Nat)(v:Value)(w:World)(h:xB L f g B v w l p):
 Calls prog 226 #[.pointer (some ⟨g,0,none⟩),v,.bool must] w (Xr L g B v w (iC L f l must p).1 (iC L f l must p).2):=by
 have G:=T.len;obtain⟨a,j,C⟩:=aY h (gH h.at_ G g w h.pw) z;unfold Xr iC;unfold gY at j;dsimp only;clear z h;have y:=SB (aU L p).aCJ (aU L p).at_ (aU L p).num (aU L p).str;have n:=aA (C.o l p g B v);generalize eW L f l p=r at *;generalize aU L p=t at *;by_cases hm:r.1.2=must
 .rw[iN (fun h=>h hm)];have I:(!(r.1.2==must))=false:=by rw[hm];simp
  clear hm;go_enter func226,ntmps226;go_wp2_with fail;refine j.o.mono ?_;rintro e w1 ⟨rfl,c⟩;have k:Hid (xB L f g B v w1 l p):=aA ⟨a.o.fuel,a.o.at_,a.o.len,a.o.low,lT a.o.base c.size,a.o.pw.on c,a.o.row.stays (aJ c (ok:=fun _=>True)) (fun _ _=>trivial)⟩;have i:=aA c;clear c j;go_wp2_with fail;refine(n.o w1 k.o).mono ?_;rintro e w2 ⟨v',rfl,m⟩;have d:=aA m;clear m n k y;have o:Hid (Fr g v w w2):=aA (((Fr.refl g v w).new i.o).trans (jY.refl v w) d.o.fr);have q:Hid (jY v v' w):=aA (jY.trans (jY.refl v w) d.o.own i.o.size);go_wp2;go_ret;exact⟨v',rfl,⟨d.o.row,d.o.pw,o.o,q.o⟩⟩
 .rw[iP hm];have I:(!(r.1.2==must))=true:=by simpa using hm
  clear hm;go_enter func226,ntmps226;go_wp2_with fail;refine j.o.mono ?_;rintro e w1 ⟨rfl,c⟩;have k:Hid (xB L f g B v w1 l p):=aA ⟨a.o.fuel,a.o.at_,a.o.len,a.o.low,lT a.o.base c.size,a.o.pw.on c,a.o.row.stays (aJ c (ok:=fun _=>True)) (fun _ _=>trivial)⟩;have i:=aA c;clear c j;go_wp2_with fail;refine(n.o w1 k.o).mono ?_;rintro e w2 ⟨v',rfl,m⟩;have d:=aA m;clear m n k y;have o:Hid (Fr g v w w2):=aA (((Fr.refl g v w).new i.o).trans (jY.refl v w) d.o.fr);have q:Hid (jY v v' w):=aA (jY.trans (jY.refl v w) d.o.own i.o.size);have x:=aA (tS 5 t.at_ g w2 d.o.pw);go_wp2_with fail;refine x.o.mono ?_;rintro e J ⟨rfl,A,s⟩;have E:=aA A;have D:=aA (o.o.aC1 s);have F:=aA (d.o.row.stays s (fun b H=>by have h1:=(aM.lt d.o.row b H).1;have h2:=a.o.low;show b≠g;omega));clear A s x;go_wp2;go_ret;exact⟨v',rfl,⟨F.o,E.o,D.o,q.o⟩⟩
theorem QAm{p:Prop}(h:p:=by
 have hq:=HX.o.at_;have HPX:=aA HX.o.pw;have HGX:=aA HX.o.row;have HFX:=aA (HF2.o.trans HO2.o HX.o.fr);have HOX:=aA (jY.trans HO2.o HX.o.own HF2.o.size);have BRX:=aA (Fr.blk BR2.o HX.o.fr qo (fun x hx=>qA (HOV.o x hx)));have BNX:=aA (Fr.blk BN2.o HX.o.fr qo (fun x hx=>qA (HOV.o x hx)));have HNB:Hid (∀x,v'.ownBlock=some x->x≠w.heap.size):=aA (fun x hx=>by
  rcases HX.o.own x hx with h1|h1
  .have:=HOV.o x h1;omega
  .omega)
 obtain⟨wx,hwx⟩:=xE wr;subst hwx;clear HX HS2 BR2 BN2 HF2 HO2;have HMW:=aA (HMU.o q hq wx HPX.o);rw[JL] at HMW;clear HMU;go_wp2_with fail;refine HMW.o.mono ?_;rintro e w5 ⟨rfl,h_,k_⟩;have HP5:=aA h_;have HG5:=aA (HGX.o.stays k_ (fun b hb=>by have h1:=(aM.lt HGX.o b hb).1;show b≠g;omega));have HF5:=aA (HFX.o.aC1 k_);have B_R:=qS BRX k_ qo;have B_N:=qS BNX k_ qo;clear h_ k_ HMW HPX HGX HFX BRX BNX;obtain⟨⟨x0,x1,x2,x3,x4,x5,x6⟩,f0,f1,f2,f3,f4,f5,f6⟩:=bI B_R.o;obtain⟨⟨y0,y1,y2,y3,y4,y5,y6⟩,_⟩:=bI B_N.o;have hz5:=aD B_R.o;have hz6:=aD B_N.o;go_wp2;go_region
 all_goals
  go_wp2;refine bR (.tuple #[v',.agg #[.int .i64 (2+rop),.int .i64 0,.int .i64 0,.string ⟨#[]⟩,.int .i64 0,.string ⟨#[]⟩,.bool false]]) ?_;rw[HST.o];refine⟨v',rfl,⟨?_,?_,?_,HOX.o⟩⟩
  .exact(((((((HG5.o.set HNB.o).set HNB.o).set HNB.o).set HNB.o).set HNB.o).set HNB.o).set HNB.o).drew
  .rw[JL];exact(((((((HP5.o.set qo).set qo).set qo).set qo).set qo).set qo).set qo).drew
  .exact(((((((HF5.o.set qo).set qo).set qo).set qo).set qo).set qo).set qo).drew):p:=h
theorem TN(L:List Tok)(f:Nat):∀(ms:List Bool) (l:List No) (q:PS),q.bad≠0->pX L f ms (l,q)=(l,q)
 | [],l,q,_=>rfl
 |m::ms,l,q,h=>by
  show pX L f ms (dC L f (l,q) m)=(l,q);unfold dC;rw[iP h];exact TN L f ms l q h
theorem Hj(L:List Tok)(f:Nat)(m:Bool)(ms:List Bool)(l:List No)(q:PS)(h:q.bad=0):pX L f (m::ms) (l,q)=pX L f ms ((iC L f l m q).1,(iC L f l m q).2):=by
 show pX L f ms (dC L f (l,q) m)=_;unfold dC;rw[iN (show ¬(l,q).2.bad≠0 from fun a=>a h)];rfl
structure DC (L:List Tok) (f:Nat) (g B:Nat) (v:Value) (w2:World) (ms:List Bool) (R:List No×PS) (c:Nat) (k:Nat) (l:List No) (q:PS) (v':Value) (wr:World):Prop where
 res:pX L f (ms.drop k) (l,q)=R
 at_:q.at_<L.length
 fuel:L.length<=f+q.at_
 len:l.length<=c+k+2 * q.at_
 row:jZ wr B v' l
 pw:PW L wr g q
 fr:Fr g v w2 wr
 own:jY v v' w2
def aCp(L:List Tok)(f:Nat)(g B:Nat)(v:Value)(w2:World)(ms:List Bool)(R:List No×PS)(c:Nat)(v' i:Value)(wr:World):Prop:=
 ∃(k:Nat) (l:List No) (q:PS) (a:Value),a=v'/\k<=ms.length/\i=.int .i64 k/\Hid (DC L f g B v w2 ms R c k l q a wr)
section
variable {L:List Tok} {f g B:Nat} {v:Value} {w2:World} {ms:List Bool} {R:List No×PS} {c k:Nat} {l:List No} {q:PS} {v':Value} {wr:World}
theorem DC.stop(h:DC L f g B v w2 ms R c k l q v' wr)(a:k=ms.length\/q.bad≠0):R=(l,q):=by
 rw[<-h.res]
 rcases a with a|a
 .rw[a,List.drop_length];rfl
 .exact TN _ _ _ _ _ a
theorem DC.next(h:DC L f g B v w2 ms R c k l q v' wr)(b:k<ms.length)(a:q.bad=0):pX L f (ms.drop (k+1)) ((iC L f l ms[k] q).1,(iC L f l ms[k] q).2)=R:=by
 rw[<-h.res,List.drop_eq_getElem_cons b,Hj _ _ _ _ _ _ a]
end
theorem TO{L:List Tok}(T:Toks L)(f:Nat)(l:List No)(m:Bool){q:PS}(h:q.at_<L.length):dL L q (iC L f l m q).2:=by
 unfold iC;have h1:=zH T f l h;exact Qy
theorem DE{L:List Tok}(T:Toks L)(f:Nat)(l:List No)(m:Bool){q:PS}(h:q.at_<L.length):(iC L f l m q).1.length+2 * q.at_<=l.length+1+2 * (iC L f l m q).2.at_:=by
 have h1:=IS T f l h;unfold iC;split
 .rw[(ID _ _ _).1];exact h1
 .exact h1
theorem TP(op:Int):(fK op).length<=2:=by
 unfold fK
 repeat' split
 all_goals simp
theorem Fr.drew{g:Nat}{v:Value}{w w1:World}(h:Fr g v w w1):Fr g v w w1.drew:=by
 have a:aN (fun b=>b≠g/\some b≠v.ownBlock) w w1:=h;exact⟨a.os,a.tape,a.output,a.size,a.block⟩
theorem PW.drew{L:List Tok}{w:World}{g:Nat}{p:PS}(h:PW L w g p):PW L w.drew g p:=h.on ((Below.refl _ _).drew)
theorem jZ.set{w:World}{B:Nat}{v u:Value}{l:List No}{b i:Nat}(h:jZ w B v l)(a:∀x,v.ownBlock=some x->x≠b):jZ (w.setCell ⟨b,i,none⟩ u) B v l:=
 h.stays (ok:=fun x=>x≠b) (aI u) a
theorem jZ.drew{w:World}{B:Nat}{v:Value}{l:List No}(h:jZ w B v l):jZ w.drew B v l:=h.stays (aJ ((Below.refl _ _).drew) (ok:=fun _=>True)) (fun _ _=>trivial)
theorem XQ{L:List Tok}{f:Nat}(T:Toks L)(N:ES L f)(l:List No)(p:PS)(g B:Nat)(v:Value)(w:World)(h:xB L f g B v w l p)(al:l.length<=8+2 * p.at_):
 Calls prog 264 #[.pointer (some ⟨g,0,none⟩),v] w (Nu L g B v w (wC L f l p).1.1 (wC L f l p).1.2 (wC L f l p).2):=by
 have hL:=T.len;have aa:=h.low;have af:=h.base;have j:=aA h;have A:=aA (fun a c w h hw=>nC T eB a c 11 rfl qe (j.o.at_) g w h hw);have o:=aA (fun l m q g B v w h=>KD (f:=f) T N l m q g B v w h);have HMU:=aA (fun (q:PS) (hq:q.at_<L.length) w h=>mF T (str ")") hq g w h);have m1:=dR T eB h.at_;have t:=nN (L:=L) eB p;have P:eB.length=11:=rfl;rw[P] at t;have S:∀x,v.ownBlock=some x->x<w.heap.size:=fun x hx=>(aM.lt h.row x hx).2
 have HOV:=aA S;unfold Nu wC jK;dsimp only;clear h N P S;generalize aZ L eB p=r at *;obtain⟨rop,W⟩:=r;dsimp only at *;obtain⟨R,C⟩:=xE (pX L f (fK (2+rop)) (l,W));rw[<-C];have K:=aA C.symm;have ao:=TP (2+rop);have H:=aA (TM (2+rop));have s1:IntKind.i64.wrap (2+rop)=2+rop:=IntWalk.i64_in _ qo;have s0:(0:Int)<=rop:=t.1;have s2:rop<=11:=t.2;have M:Hid (eB=[⟨#[111,110,101]⟩,⟨#[115,105,122,101]⟩,⟨#[104,97,115]⟩,⟨#[101,113]⟩,⟨#[108,101,115,115]⟩,⟨#[97,100,100]⟩,⟨#[115,117,98]⟩,⟨#[109,117,108]⟩,⟨#[110,111,116]⟩,⟨#[97,110,100]⟩,⟨#[111,114]⟩]):=aA (by kernel_rfl);rw[M.o] at A;clear C M t;go_enter func264,ntmps264;go_wp2_with fail;refine(A.o _ _ _ (j.o.pw.alloc.alloc) (nD _ _ _ _ _ qs rfl)).mono ?_;rintro e w1 ⟨rfl,h_,k_⟩;have z:=aA (aF (aE (aK _ _ _ rfl) (aB _ _)) k_ qo:w1.heap[w.heap.size]? =some (.cells #[.int .i64 0,.int .i64 0,.int .i64 0,.string ⟨#[]⟩,.int .i64 0,.string ⟨#[]⟩,.bool false] 301 (0,0)));have D:=aA ((((Fr.refl g v w).new (aB _ _)).new (aB _ _)).aC1 k_);have E:=aA (((j.o.row.stays (aJ (aB _ _) (ok:=fun _=>True)) (fun _ _=>trivial)).stays (aJ (aB _ _) (ok:=fun _=>True)) (fun _ _=>trivial)).stays k_ (fun b hb=>by have h1:=(aM.lt j.o.row b hb).1;show b≠g;omega));have I:=aA h_;have au:=aD z.o;clear h_ k_ A;go_wp2_with fail;refine(H.o _).mono ?_;rintro e w2 ⟨vb,rfl,n,d⟩;obtain⟨Z,bc,rfl,ai⟩:=n.slice;obtain⟨BR2,BN2,HF2⟩:=aY (aE (aE z.o (aB _ _)) d) (aE (aK _ _ _ rfl) d:w2.heap[w1.heap.size]? =some (.cells #[.int .i64 (2+rop),.int .i64 0,.int .i64 0,.string ⟨#[]⟩,.int .i64 0,.string ⟨#[]⟩,.bool false] 301 (0,0))) ((D.o.new (aB _ _)).new d)
 have F:=aA ((E.o.stays (aJ (aB _ _) (ok:=fun _=>True)) (fun _ _=>trivial)).stays (aJ d (ok:=fun _=>True)) (fun _ _=>trivial));have J:=aA ((I.o.alloc).on d);have HO2:Hid (jY v v w):=aA (jY.refl v w);have HS2:=aA n;have av:=aD BR2.o;have aw:=aD BN2.o;have ar:w.heap.size<=w2.heap.size:=qo;clear n d H z D E I;generalize fK (2+rop)=ms at *;go_wp2;go_loopw [1,18] (fun v' i wr=>aCp L f g B v w2 ms R 8 v' i wr) (fun _ i _=>ms.length - (intOf i).toNat)
 case atStart=>exact⟨0,l,W,_,rfl,qo,rfl,aA ⟨by rw[List.drop_zero];exact K.o,m1.lt,qD j.o.fuel m1.le,qA m1.le,F.o,J.o,Fr.refl _ _ _,jY.refl _ _⟩⟩
 case round=>
  clear K F J m1;obtain⟨k,y,q,v',rfl,hk,rfl,HX⟩:=hrel;by_cases Q:k<ms.length
  .have V:aH DA wr (fun b=>w1.heap.size<=b/\b<w2.heap.size) (.slice Z ms.length bc) ms:=(aH.more jO (aH.inb jO HS2.o) (fun b hb=>⟨by have:=hb.1;simp at this;omega,hb.2⟩)).aCT jO ((show aN _ w2 wr from HX.o.fr).mono (fun x hx h=>⟨qA h.1,fun e=>qD (HOV.o x e.symm) h.1⟩));obtain⟨bb,ae,br,rfl,ag,ah,⟨rfl,_⟩,O⟩:=aH.at jO V Q qe;have z0:=O 0 _ rfl;rw[Nat.add_zero,Nat.mul_one] at z0;obtain⟨A_,c_,c0,c1,c2,c3,c4,n⟩:=HX.o.pw.cells;have ab:(k:Int)<(ms.length:Int):=qo;have ak:=HX.o.pw.lt;clear O V n c0 c1 c2 c4;by_cases hb:q.bad=0
   .rw[hb] at c3;have Y:=aA (HX.o.next Q hb);have hq:=HX.o.at_;have G:=aA (o.o y ms[k] q g B v' wr ⟨HX.o.fuel,hq,qA HX.o.len,aa,qA (aN.size (show aN _ w2 wr from HX.o.fr)),HX.o.pw,HX.o.row⟩);have hm:=TO T f y ms[k] hq;have an:=DE T f y ms[k] hq;have hle:=HX.o.len;have aj:=HX.o.fuel;have ad:=hm.lt;have aq:=hm.le;clear hb o HMU hm;generalize iC L f y ms[k] q=X at *;go_wp2_with fail;refine G.o.mono ?_;rintro e w5 ⟨v5,rfl,U⟩;have s:=aA U;clear U G z0 c3;go_wp2;go_roundw
    case rel=>exact⟨k+1,X.1,X.2,_,rfl,qo,by go_num,aA ⟨Y.o,ad,qo,qo,s.o.row,s.o.pw,HX.o.fr.trans HX.o.own s.o.fr,jY.trans HX.o.own s.o.own (aN.size (show aN _ w2 wr from HX.o.fr))⟩⟩
    case measure=>simp[intOf];omega
   .have db:(q.bad != 0)=true:=bne_iff_ne.2 hb;have HST:=aA (HX.o.stop (.inr hb));clear hb o;exact QAm
  .have ab:¬(k:Int)<(ms.length:Int):=qo;have HST:=aA (HX.o.stop (.inl qo));clear o;exact QAm
theorem FT{p:Prop}(h:p:=by
 go_wp2;go_returns;exact⟨rfl,Below.refl _ _⟩):p:=h
theorem FU{p:Prop}(h:p:=by
 go_wp2;go_returns;exact⟨by rw[HE.o];rfl,HB2.o⟩):p:=h
theorem QAW{p:Prop}(h:p:=by
 refine HLM2.o.mono ?_;rintro e wz ⟨rfl,h_,k_⟩;have HP:=aA h_;have HFz:=aA (HF4.o.aC1 k_);have HGz:=aA (jZ.stays HG4.o k_ (fun b hb=>by have h1:=(aM.lt HG4.o b hb).1;show b≠g;omega));have BNz:=qS BN4 k_ qo;clear h_ k_ HLM2 HG4 HP4 HF4 BN4;rw[show (32:Int)=((32:Nat):Int) from rfl,MK] at HP;obtain⟨⟨x0,x1,x2,x3,x4,x5,x6⟩,_⟩:=bI BNz.o;have hzz:=aD BNz.o;go_wp2;go_region
 all_goals
  go_wp2;go_ret2
  rw[<-hl'.o];exact⟨_,rfl,⟨HGz.o.drew,HP.o.drew,HFz.o.drew,HO4.o⟩⟩):p:=h
theorem fG(s:bY)(l:lU)(h:s≠⟨l.toArray⟩):(s.toList==l)=false/\¬s.toList=l:=by
 have h2:¬s.toList=l:=fun e=>h (by rw[ByteArray.toList_eq] at e;apply ByteArray.ext;rw[<-e])
 exact⟨by simpa using h2,h2⟩
theorem fN(s:bY)(l:lU)(h:s=⟨l.toArray⟩):(s.toList==l)=true/\s.toList=l:=by
 have h2:s.toList=l:=by rw[ByteArray.toList_eq,h]
 exact⟨by simpa using h2,h2⟩
theorem MM{v v':Value}{w:World}(h:v'.ownBlock=v.ownBlock\/v'.ownBlock=some w.heap.size):jY v v' w:=fun b a=>by
 rcases h with h|h
 .exact .inl (h▸a)
 .rw[h] at a;injection a with a;exact .inr qo
theorem Cd:dV prog 274 301 7 72:=fP (z:= .agg #[.int .i64 0,.int .i64 0,.int .i64 0,.string ByteArray.empty,.int .i64 0,.string ByteArray.empty,.bool false]) underlying274 (by kernel_rfl) rfl qe
theorem MN(a b:Int):(a==b)=decide (a=b):=by rw[Bool.eq_iff_iff,bQ,decide_eq_true_eq]
theorem Nv{L:List Tok}{f:Nat}(T:Toks L)(hE:ES L f)(l:List No)(p:PS)(g B:Nat)(v:Value)(w:World)(h:xB L (f+1) g B v w l p)(H:cL L (str "(") p=true):
 Calls prog 246 #[.pointer (some ⟨g,0,none⟩),v] w (zZ L g B v w (eW L (f+1) l p).1.1 (eW L (f+1) l p).1.2 (eW L (f+1) l p).2):=by
 have hL:=T.len;have ar:=h.low;have bd:=h.base;have j:=aA h;have hp:=h.at_;have X:=aA (fun w h=>gH hp hL g w h);have Y:=aA (fun w h=>eL T (str "(") hp g w h);have a6:=aA (fun b (q:PS) (hq:q.at_<L.length) w h=>kQ b hq hL g w h);have aj:=aA (show ∀x,v.ownBlock=some x->x<w.heap.size from fun x C=>(aM.lt h.row x C).2);have af:=aA (DB T f l hp);have an:=aA (wF T f l hp).lt;rw[tY];unfold zZ;dsimp only;rw[mG H,JK] at Y;have U:=aA (fun w h hl=>XQ T hE l {p with at_:=p.at_+1} g B v w h hl);have au:=fO T hp H;have a7:=aA au;have hh:gP L f l p=wC L f l {p with at_:=p.at_+1}:=by unfold gP;rw[iP H]
 have I:=IS T (f+1) l hp;rw[tY] at I;dsimp only at I;have aw:=(kP (L:=L) (decide (32<((gP L f l p).1.1++[(gP L f l p).1.2]).length)) (wF T f l hp).lt).lt;rw[aL,List.length_singleton] at I aw;have ag:Hid ((gP L f l p).1.1.length<=100000):=aA (qA h.len);rw[hh] at af an ag ⊢;unfold Nu jK at U;unfold gY at X;clear h hE H au hh I aw;generalize aU L p=t at *;generalize wC L f l {p with at_:=p.at_+1}=r at *;obtain⟨⟨lh,a⟩,q⟩:=r;dsimp only at *;go_enter func246,ntmps246;go_wp2_with fail;refine(X.o _ (j.o.pw.alloc)).mono ?_;rintro e w1 ⟨rfl,A⟩;have n:=aA (aE (aK _ _ _ rfl) A:w1.heap[w.heap.size]? =some (.cells #[.int .i64 0,.int .i64 0,.int .i64 0,.string ⟨#[]⟩,.int .i64 0,.string ⟨#[]⟩,.bool false] 301 (0,0)));have s:=aA (((Fr.refl g v w).new (aB _ _)).new A);have E:=aA ((j.o.row.stays (aJ (aB _ _) (ok:=fun _=>True)) (fun _ _=>trivial)).stays (aJ A (ok:=fun _=>True)) (fun _ _=>trivial));have i:=aA ((j.o.pw.alloc).on A);have bg:=aD n.o;clear A X;go_wp2_with fail;refine(Y.o _ (i.o.alloc)).mono ?_;rintro e w2 ⟨rfl,z,c⟩;obtain⟨n,BT,s⟩:=aY (aF (aE n.o (aB _ _)) c qo) (aF (aK _ _ _ rfl) c qo:w2.heap[w1.heap.size]? =some (.cells (oC t) 104 (0,0))) ((s.o.new (aB _ _)).aC1 c);have E:=aA ((E.o.stays (aJ (aB _ _) (ok:=fun _=>True)) (fun _ _=>trivial)).stays c (fun b Z=>by have h1:=(aM.lt j.o.row b Z).1;show b≠g;omega));have i:=aA z;have bh:=aD n.o;have bj:=aD BT.o;have bf:=i.o.lt;clear z c Y;go_wp2_with fail;refine(U.o w2 ⟨by have:=j.o.fuel;show L.length<=f+(p.at_+1);omega,a7.o.lt,by have:=j.o.len;show l.length<=10+2 * (p.at_+1);omega,ar,qo,i.o,E.o⟩ (by have:=j.o.len;show l.length<=8+2 * (p.at_+1);omega)).mono ?_
 rintro e w3 ⟨v',rfl,av⟩;have k:=aA av;have D:=aA (Fr.blk n.o k.o.fr qo (fun x C=>qA (aj.o x C)));have ad:=aA (s.o.trans (jY.refl v w) k.o.fr);have ai:=aA (jY.trans (jY.refl v w) k.o.own s.o.size);have d:Hid (∀x,v'.ownBlock=some x->x≠w.heap.size):=aA (fun x C=>by
  rcases k.o.own x C with h1|h1
  .have:=aj.o x h1;omega
  .omega)
 have bk:=aD D.o;clear av U n BT s E i;obtain⟨⟨J,K,M,N,O,P,Q⟩,f0,f1,f2,f3,f4,f5,f6⟩:=bI D.o;go_upto_region 8 with (fail)
 obtain⟨m,o⟩:=xE ((((((((w3.setCell ⟨w.heap.size,0,none⟩ (.int .i64 a.op)).setCell ⟨w.heap.size,1,none⟩ (.int .i64 a.val.1)).setCell ⟨w.heap.size,2,none⟩ (.int .i64 a.val.2.1)).setCell ⟨w.heap.size,3,none⟩ (.string a.val.2.2)).setCell ⟨w.heap.size,4,none⟩ (.int .i64 a.aDa.cat)).setCell ⟨w.heap.size,5,none⟩ (.string a.aDa.name)).setCell ⟨w.heap.size,6,none⟩ (.bool a.aDa.aDi)));rw[<-o];have az:Hid (jZ m B v' lh):=aA (by rw[o];exact(((((((k.o.row.set d.o).set d.o).set d.o).set d.o).set d.o).set d.o).set d.o));have ba:Hid (PW L m g q):=aA (by rw[o];exact(((((((k.o.pw.set qo).set qo).set qo).set qo).set qo).set qo).set qo));have ax:Hid (Fr g v w m):=aA (by rw[o];exact(((((((ad.o.set qo).set qo).set qo).set qo).set qo).set qo).set qo));have S:Hid (m.heap[w.heap.size]? =some (.cells (iO a) 301 (0,0))):=aA (by rw[o];exact aG (aG (aG (aG (aG (aG (aG D.o 0 _) 1 _) 2 _) 3 _) 4 _) 5 _) 6 _);clear o J K M N O P Q f0 f1 f2 f3 f4 f5 f6 D ad k;obtain⟨⟨J,K,M,N,O,P,Q⟩,_⟩:=bI S.o;have bl:=aD S.o;have y:=aA (aB m (.cells (iO a) 301));have ao:=aA (aK m (.cells (iO a) 301) _ rfl);have F:=aA (jZ.stays az.o (aJ y.o (ok:=fun _=>True)) (fun _ _=>trivial));obtain⟨al,V,R⟩:=aY (ba.o.on y.o) (ax.o.new y.o) (aE S.o y.o);have bc:lh.length<=1000000:=qA ag.o;go_wp2_with (at_builtin;refine cB Cd dQ rfl (.tmp 39) (.tmp 41) rfl v' lh rfl F.o m.heap.size 1 _ _ _ a rfl ao.o ⟨rfl,af.o⟩ bc qo (by rw[World.size_alloc];omega) ?_;intro l' bb A' c' w9 hG G aq;have W:=aA hG;have ak:=aA (al.o.grown F.o G ar);have ae:=aA (V.o.grown ai.o F.o G);have a8:=aA (jY.trans ai.o (MM aq) (Fr.size V.o));have aa:=aA ((G.block _ (aD R.o) (fun e=>d.o _ e.symm rfl)).trans R.o);clear hG G aq y ao F al V R J K M N O P Q)
 have ah:=aA (a6.o (decide ((32:Int)<(l'.length:Int))) _ an.o _ ak.o);refine ah.o.mono ?_;rintro e wz ⟨rfl,z,c⟩;have i:=aA z;have ay:=aA (ae.o.aC1 c);have a1:=aA (jZ.stays W.o c (fun b Z=>by have h1:=(aM.lt W.o b Z).1;show b≠g;omega));have ab:=qS aa c qo;clear z c ah W ak ae aa;rw[show (32:Int)=((32:Nat):Int) from rfl,MK] at i;obtain⟨⟨J,K,M,N,O,P,Q⟩,_⟩:=bI ab.o;have bm:=aD ab.o;have be:=MN a.op 2;go_wp2;go_region
 all_goals
  go_wp2;go_ret2
  rw[<-bb.o];exact⟨_,rfl,⟨a1.o.drew,i.o.drew,ay.o.drew,a8.o⟩⟩
theorem Hk{L:List Tok}{f:Nat}(T:Toks L)(hE:ES L f)(l:List No)(p:PS)(g B:Nat)(v:Value)(w:World)(h:xB L (f+1) g B v w l p)(K:cL L (str "(") p=false)(M:(aU L p).aCJ=1)(C:(aU L p).str≠str "true")(z:(aU L p).str≠str "false"):
 Calls prog 246 #[.pointer (some ⟨g,0,none⟩),v] w (zZ L g B v w (eW L (f+1) l p).1.1 (eW L (f+1) l p).1.2 (eW L (f+1) l p).2):=by
 have Z:=T.len;have ah:=h.low;have aj:=h.base;have j:=aA h;have hp:=h.at_;have H:=aA (fun w h=>gH hp Z g w h);have I:=aA (fun w h=>eL T (str "(") hp g w h);have ae:=aA (fun b (q:PS) (hq:q.at_<L.length) w h=>kQ b hq Z g w h);have af:=aA (show ∀x,v.ownBlock=some x->x<w.heap.size from fun x N=>(aM.lt h.row x N).2);have Q:=aA (DB T f l hp);have W:=aA (wF T f l hp).lt;rw[tY];unfold zZ;dsimp only;rw[jX K,JK] at I;have F:=aA (fun w h=>vY T hp g w h);have J:gP L f l p=((l,⟨2,bD,(cE L p).1⟩),(cE L p).2):=by unfold gP;rw[iN (by rw[K];decide),iP ⟨M,C,z⟩]
 have R:Hid ((gP L f l p).1.1.length<=100000):=aA (by rw[J];have:=h.len;show l.length<=100000;omega);rw[J] at Q W R ⊢;unfold oG at F;unfold gY at H;rw[CA] at C;rw[yJ] at z;have d1:((aU L p).aCJ==1)=true:=bQ.2 M;obtain⟨d2,e2⟩:=fG (aU L p).str [116,114,117,101] C;obtain⟨d3,e3⟩:=fG (aU L p).str [102,97,108,115,101] z;clear h hE K J M C z;generalize aU L p=t at *;generalize cE L p=r at *;dsimp only at *;go_enter func246,ntmps246;go_wp2_with fail;refine(H.o _ (j.o.pw.alloc)).mono ?_;rintro e w1 ⟨rfl,m⟩;have d:=aA (aE (aK _ _ _ rfl) m:w1.heap[w.heap.size]? =some (.cells #[.int .i64 0,.int .i64 0,.int .i64 0,.string ⟨#[]⟩,.int .i64 0,.string ⟨#[]⟩,.bool false] 301 (0,0)));have o:=aA (((Fr.refl g v w).new (aB _ _)).new m);have s:=aA ((j.o.row.stays (aJ (aB _ _) (ok:=fun _=>True)) (fun _ _=>trivial)).stays (aJ m (ok:=fun _=>True)) (fun _ _=>trivial));have HP:=aA ((j.o.pw.alloc).on m);have al:=aD d.o;clear m H;go_wp2_with fail;refine(I.o _ (HP.o.alloc)).mono ?_;rintro e w2 ⟨rfl,h_,k_⟩;obtain⟨d,BT,o⟩:=aY (aF (aE d.o (aB _ _)) k_ qo) (aF (aK _ _ _ rfl) k_ qo:w2.heap[w1.heap.size]? =some (.cells (oC t) 104 (0,0))) ((o.o.new (aB _ _)).aC1 k_);have s:=aA ((s.o.stays (aJ (aB _ _) (ok:=fun _=>True)) (fun _ _=>trivial)).stays k_ (fun b hb=>by have h1:=(aM.lt j.o.row b hb).1;show b≠g;omega));have HP:=aA h_;have an:=aD d.o;have ao:=aD BT.o;have ak:=HP.o.lt;clear h_ k_ I;obtain⟨⟨t0,t1,t2,t3⟩,_⟩:=nK BT.o;go_wp2_with fail;refine(F.o _ HP.o).mono ?_;rintro e w3 ⟨rfl,h_,k_⟩;have n:=qS d k_ qo;have O:=aA (o.o.aC1 k_)
 have P:=aA (s.o.stays k_ (fun b hb=>by have h1:=(aM.lt j.o.row b hb).1;show b≠g;omega));have U:=aA h_;have S:Hid (jY v v w):=aA (jY.refl v w);have a:Hid (∀x,v.ownBlock=some x->x≠w.heap.size):=aA (fun x N=>qA (af.o x N));have aq:=aD n.o;clear h_ k_ F d BT o s HP t0 t1 t2 t3;obtain⟨⟨x0,x1,x2,x3,x4,x5,x6⟩,f0,f1,f2,f3,f4,f5,f6⟩:=bI n.o;go_upto_region 8 with (fail)
 obtain⟨c,i⟩:=xE ((((((((w3.setCell ⟨w.heap.size,0,none⟩ (.int .i64 2)).setCell ⟨w.heap.size,1,none⟩ (.int .i64 0)).setCell ⟨w.heap.size,2,none⟩ (.int .i64 0)).setCell ⟨w.heap.size,3,none⟩ (.string ⟨#[]⟩)).setCell ⟨w.heap.size,4,none⟩ (.int .i64 r.1.cat)).setCell ⟨w.heap.size,5,none⟩ (.string r.1.name)).setCell ⟨w.heap.size,6,none⟩ (.bool r.1.aDi)));rw[<-i];have ad:Hid (jZ c B v l):=aA (by rw[i];exact(((((((P.o.set a.o).set a.o).set a.o).set a.o).set a.o).set a.o).set a.o));have ag:Hid (PW L c g r.2):=aA (by rw[i];exact(((((((U.o.set qo).set qo).set qo).set qo).set qo).set qo).set qo));have ab:Hid (Fr g v w c):=aA (by rw[i];exact(((((((O.o.set qo).set qo).set qo).set qo).set qo).set qo).set qo));have E:Hid (c.heap[w.heap.size]? =some (.cells #[.int .i64 2,.int .i64 0,.int .i64 0,.string ⟨#[]⟩,.int .i64 r.1.cat,.string r.1.name,.bool r.1.aDi] 301 (0,0))):=aA (by rw[i];exact aG (aG (aG (aG (aG (aG (aG n.o 0 _) 1 _) 2 _) 3 _) 4 _) 5 _) 6 _);clear i x0 x1 x2 x3 x4 x5 x6 f0 f1 f2 f3 f4 f5 f6 n O P U;obtain⟨⟨x0,x1,x2,x3,x4,x5,x6⟩,_⟩:=bI E.o;have ar:=aD E.o;have k:=aA (aB c (.cells #[.int .i64 2,.int .i64 0,.int .i64 0,.string ⟨#[]⟩,.int .i64 r.1.cat,.string r.1.name,.bool r.1.aDi] 301));have X:=aA (aK c (.cells #[.int .i64 2,.int .i64 0,.int .i64 0,.string ⟨#[]⟩,.int .i64 r.1.cat,.string r.1.name,.bool r.1.aDi] 301) _ rfl);have y:=aA (jZ.stays ad.o (aJ k.o (ok:=fun _=>True)) (fun _ _=>trivial));obtain⟨V,G,D⟩:=aY (ag.o.on k.o) (ab.o.new k.o) (aE E.o k.o);have ai:l.length<=1000000:=qA R.o
 go_wp2_with (at_builtin;refine cB Cd dQ rfl (.tmp 39) (.tmp 41) rfl v l rfl y.o c.heap.size 1 _ _ _ (⟨2,bD,r.1⟩:No) rfl X.o ⟨rfl,Q.o⟩ ai qo (by rw[World.size_alloc];omega) ?_;intro l' hl' A' c' w9 Y A aa;have HG4:=aA Y;have HP4:=aA (V.o.grown y.o A ah);have HF4:=aA (G.o.grown S.o y.o A);have HO4:=aA (jY.trans S.o (MM aa) (Fr.size G.o));have BN4:=aA ((A.block _ (aD D.o) (fun e=>a.o _ e.symm rfl)).trans D.o);clear Y A aa k X y V G D x0 x1 x2 x3 x4 x5 x6)
 have HLM2:=aA (ae.o (decide ((32:Int)<(l'.length:Int))) _ W.o _ HP4.o);exact QAW
theorem Nw{L:List Tok}{f:Nat}(T:Toks L)(hE:ES L f)(l:List No)(p:PS)(g B:Nat)(v:Value)(w:World)(h:xB L (f+1) g B v w l p)(M:cL L (str "(") p=false)(N:¬((aU L p).aCJ=1/\(aU L p).str≠str "true"/\(aU L p).str≠str "false")):
 Calls prog 246 #[.pointer (some ⟨g,0,none⟩),v] w (zZ L g B v w (eW L (f+1) l p).1.1 (eW L (f+1) l p).1.2 (eW L (f+1) l p).2):=by
 have hL:=T.len;have ai:=h.low;have ak:=h.base;have m:=aA h;have hp:=h.at_;have I:=aA (fun w h=>gH hp hL g w h);have J:=aA (fun w h=>eL T (str "(") hp g w h);have af:=aA (fun b (q:PS) (hq:q.at_<L.length) w h=>kQ b hq hL g w h);have ag:=aA (show ∀x,v.ownBlock=some x->x<w.heap.size from fun x O=>(aM.lt h.row x O).2);have R:=aA (DB T f l hp);have X:=aA (wF T f l hp).lt;rw[tY];unfold zZ;dsimp only;rw[jX M,JK] at J;have G:=aA (fun w h=>rU T hp g w h);have K:gP L f l p=((l,⟨1,(cY L p).1,uJ⟩),(cY L p).2):=by unfold gP;rw[iN (by rw[M];decide),iN N]
 have S:Hid ((gP L f l p).1.1.length<=100000):=aA (by rw[K];have:=h.len;show l.length<=100000;omega);rw[K] at R X S ⊢;unfold dB at G;unfold gY at I;have ab:¬(aU L p).aCJ=1\/((aU L p).aCJ=1/\(aU L p).str=str "true")\/((aU L p).aCJ=1/\(aU L p).str≠str "true"/\(aU L p).str=str "false"):=by
  by_cases a:(aU L p).aCJ=1
  .by_cases c:(aU L p).str=str "true"
   .exact .inr (.inl ⟨a,c⟩)
   .by_cases s:(aU L p).str=str "false"
    .exact .inr (.inr ⟨a,c,s⟩)
    .exact absurd ⟨a,c,s⟩ N
  .exact .inl a
 rw[CA,yJ] at ab;clear h hE M K N;generalize aU L p=t at *;generalize cY L p=r at *;dsimp only at *
 rcases ab with a|⟨a,c⟩|⟨a,c,s⟩
 all_goals
  first
   |(have d1:(t.aCJ==1)=false:=bN.2 a;clear a)
   |(have d1:(t.aCJ==1)=true:=bQ.2 a;obtain⟨d2,e2⟩:=fG t.str [116,114,117,101] c;obtain⟨d3,e3⟩:=fN t.str [102,97,108,115,101] s;clear a c s)
   |(have d1:(t.aCJ==1)=true:=bQ.2 a;obtain⟨d2,e2⟩:=fN t.str [116,114,117,101] c;clear a c)
  go_enter func246,ntmps246;go_wp2_with fail;refine(I.o _ (m.o.pw.alloc)).mono ?_;rintro e w1 ⟨rfl,o⟩;have j:=aA (aE (aK _ _ _ rfl) o:w1.heap[w.heap.size]? =some (.cells #[.int .i64 0,.int .i64 0,.int .i64 0,.string ⟨#[]⟩,.int .i64 0,.string ⟨#[]⟩,.bool false] 301 (0,0)));have z:=aA (((Fr.refl g v w).new (aB _ _)).new o);have A:=aA ((m.o.row.stays (aJ (aB _ _) (ok:=fun _=>True)) (fun _ _=>trivial)).stays (aJ o (ok:=fun _=>True)) (fun _ _=>trivial));have HP:=aA ((m.o.pw.alloc).on o);have an:=aD j.o;clear o I;go_wp2_with fail;refine(J.o _ (HP.o.alloc)).mono ?_;rintro e w2 ⟨rfl,h_,k_⟩;obtain⟨j,BT,z⟩:=aY (aF (aE j.o (aB _ _)) k_ qo) (aF (aK _ _ _ rfl) k_ qo:w2.heap[w1.heap.size]? =some (.cells (oC t) 104 (0,0))) ((z.o.new (aB _ _)).aC1 k_);have A:=aA ((A.o.stays (aJ (aB _ _) (ok:=fun _=>True)) (fun _ _=>trivial)).stays k_ (fun b hb=>by have h1:=(aM.lt m.o.row b hb).1;show b≠g;omega));have HP:=aA h_;have ao:=aD j.o;have aq:=aD BT.o;have al:=HP.o.lt;clear h_ k_ J;obtain⟨⟨t0,t1,t2,t3⟩,_⟩:=nK BT.o;go_wp2_with fail;refine(G.o _ HP.o).mono ?_;rintro e w3 ⟨rfl,h_,k_⟩;have y:=qS j k_ qo;have P:=aA (z.o.aC1 k_);have Q:=aA (A.o.stays k_ (fun b hb=>by have h1:=(aM.lt m.o.row b hb).1;show b≠g;omega));have V:=aA h_;have U:Hid (jY v v w):=aA (jY.refl v w);have d:Hid (∀x,v.ownBlock=some x->x≠w.heap.size):=aA (fun x O=>qA (ag.o x O));have ar:=aD y.o;clear h_ k_ G j BT z A HP t0 t1 t2 t3;obtain⟨⟨x0,x1,x2,x3,x4,x5,x6⟩,f0,f1,f2,f3,f4,f5,f6⟩:=bI y.o;go_upto_region 8 with (fail)
  obtain⟨i,k⟩:=xE ((((((((w3.setCell ⟨w.heap.size,0,none⟩ (.int .i64 1)).setCell ⟨w.heap.size,1,none⟩ (.int .i64 r.1.1)).setCell ⟨w.heap.size,2,none⟩ (.int .i64 r.1.2.1)).setCell ⟨w.heap.size,3,none⟩ (.string r.1.2.2)).setCell ⟨w.heap.size,4,none⟩ (.int .i64 0)).setCell ⟨w.heap.size,5,none⟩ (.string ⟨#[]⟩)).setCell ⟨w.heap.size,6,none⟩ (.bool false)));rw[<-k];have ae:Hid (jZ i B v l):=aA (by rw[k];exact(((((((Q.o.set d.o).set d.o).set d.o).set d.o).set d.o).set d.o).set d.o));have ah:Hid (PW L i g r.2):=aA (by rw[k];exact(((((((V.o.set qo).set qo).set qo).set qo).set qo).set qo).set qo));have ad:Hid (Fr g v w i):=aA (by rw[k];exact(((((((P.o.set qo).set qo).set qo).set qo).set qo).set qo).set qo));have F:Hid (i.heap[w.heap.size]? =some (.cells #[.int .i64 1,.int .i64 r.1.1,.int .i64 r.1.2.1,.string r.1.2.2,.int .i64 0,.string ⟨#[]⟩,.bool false] 301 (0,0))):=aA (by rw[k];exact aG (aG (aG (aG (aG (aG (aG y.o 0 _) 1 _) 2 _) 3 _) 4 _) 5 _) 6 _);clear k x0 x1 x2 x3 x4 x5 x6 f0 f1 f2 f3 f4 f5 f6 y P Q V;obtain⟨⟨x0,x1,x2,x3,x4,x5,x6⟩,_⟩:=bI F.o;have au:=aD F.o;have n:=aA (aB i (.cells #[.int .i64 1,.int .i64 r.1.1,.int .i64 r.1.2.1,.string r.1.2.2,.int .i64 0,.string ⟨#[]⟩,.bool false] 301));have Y:=aA (aK i (.cells #[.int .i64 1,.int .i64 r.1.1,.int .i64 r.1.2.1,.string r.1.2.2,.int .i64 0,.string ⟨#[]⟩,.bool false] 301) _ rfl);have C:=aA (jZ.stays ae.o (aJ n.o (ok:=fun _=>True)) (fun _ _=>trivial));obtain⟨W,H,E⟩:=aY (ah.o.on n.o) (ad.o.new n.o) (aE F.o n.o);have aj:l.length<=1000000:=qA S.o
  go_wp2_with (at_builtin;refine cB Cd dQ rfl (.tmp 39) (.tmp 41) rfl v l rfl C.o i.heap.size 1 _ _ _ (⟨1,r.1,uJ⟩:No) rfl Y.o ⟨rfl,R.o⟩ aj qo (by rw[World.size_alloc];omega) ?_;intro l' hl' A' c' w9 Z D aa;have HG4:=aA Z;have HP4:=aA (W.o.grown C.o D ai);have HF4:=aA (H.o.grown U.o C.o D);have HO4:=aA (jY.trans U.o (MM aa) (Fr.size H.o));have BN4:=aA ((D.block _ (aD E.o) (fun e=>d.o _ e.symm rfl)).trans E.o);clear Z D aa n Y C W H E x0 x1 x2 x3 x4 x5 x6)
  have HLM2:=aA (af.o (decide ((32:Int)<(l'.length:Int))) _ X.o _ HP4.o);exact QAW
theorem AB{L:List Tok}(T:Toks L):∀f,ES L f
 |0=>fun l p g B v w h=>absurd h.fuel (qA h.at_)
 |f+1=>fun l p g B v w h=>by
  cases b:cL L (str "(") p
  .by_cases a:(aU L p).aCJ=1/\(aU L p).str≠str "true"/\(aU L p).str≠str "false"
   .exact Hk T (AB T f) l p g B v w h b a.1 a.2.1 a.2.2
   .exact Nw T (AB T f) l p g B v w h b a
  .exact Nv T (AB T f) l p g B v w h b
end Go.Proofs.YtgoanbpcdhmfkaaGreatDoor
