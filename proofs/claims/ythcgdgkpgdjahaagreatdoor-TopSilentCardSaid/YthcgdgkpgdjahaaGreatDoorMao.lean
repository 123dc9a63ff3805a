/- Lemmas. -/
import Derived.Test.YthcgdgkpgdjahaaGreatDoorMan
namespace Go.Proofs.YthcgdgkpgdjahaaGreatDoor
open Go.RowKit
set_option linter.unusedVariables false
set_option linter.unusedSimpArgs false
set_option maxHeartbeats 16000000
open _root_.Go.Proofs.Tryz
set_option maxRecDepth 20000
theorem QCY{p:Prop}(h:p:=by
 repeat (refine Below.setCell ?_ (by first|exact lR _|exact Nat.le_succ _) _)
 exact HBF.o):p:=h
theorem Uk{p:Prop}(h:p:=by
 exact⟨0,0,none,0,Nat.zero_le _,rfl,rfl,aA rfl,aA aM.nil,aA (Below.refl _ _)⟩):p:=h
def iL{α:Type}(R:Rep α)(L:List Tok)(g:Nat)(w:World)(l:List α)(p':PS)(e:Ending)(w':World):Prop:=
 ∃v,e=.returned v/\aH R w' (fun b=>w.heap.size<=b) v l/\PW L w' g p'/\aN (fun b=>b≠g) w w'
structure yV {α:Type} (R:Rep α) (s:Nat) (e:TypeId) (L:List Tok) (one:PS->α×PS) (sep:ByteArray) (g:Nat) (w:World) (res:List α×PS) (f:Nat) (v:Value) (wr:World) (l:List α) (q:PS):Prop where
 res:kB L one sep f l q=res
 at_:q.at_<L.length
 fuel:L.length<=f+q.at_
 len:l.length<=q.at_+1
 row:aM R s e wr w.heap.size (fun b=>w.heap.size<=b) v l
 pw:PW L wr g q
 aDW:cZ w.heap.size g w wr
def TD{α:Type}(R:Rep α)(s:Nat)(e:TypeId)(L:List Tok)(one:PS->α×PS)(sep:bY)(g:Nat)(w:World)(res:List α×PS)(f:Nat)(v:Value)(wr:World):Prop:=
 ∃(l:List α) (q:PS) (A:oD) (c:Nat),v=.slice A l.length c/\Hid (yV R s e L one sep g w res f v wr l q)
section
variable {α:Type} {R:Rep α} {s:Nat} {e:TypeId} {L:List Tok} {one:PS->α×PS} {sep:bY} {g:Nat} {w:World} {res:List α×PS} {f:Nat} {v:Value} {wr:World} {l:List α} {q:PS}
theorem yV.stop(h:yV R s e L one sep g w res f v wr l q)(a:cM L sep q=false):res=(l,q):=by
 have h1:=h.res
 cases f with
 |zero=>exact h1.symm
 |succ f=>unfold kB at h1;rw[iN (by rw[a];decide)] at h1;exact h1.symm
theorem yV.next(h:yV R s e L one sep g w res f v wr l q)(b:cM L sep q=true):∃a,f=a+1/\kB L one sep a (l++[(one {q with at_:=q.at_+1}).1]) (cR L (decide (8<(l++[(one {q with at_:=q.at_+1}).1]).length)) (one {q with at_:=q.at_+1}).2)=res:=by
 have h1:=h.res;have h2:=h.fuel;have h3:=h.at_;obtain⟨a,rfl⟩:∃a,f=a+1:=⟨f - 1,qo⟩;refine⟨a,rfl,?_⟩;unfold kB at h1;rw[iP b] at h1;exact h1
end
theorem aM.aD5{α:Type}{R:Rep α}{s:Nat}{e:TypeId}{w wr w2:World}{v:Value}{l:List α}{g:Nat}(F:Firm R s)(h:aM R s e wr w.heap.size (fun b=>w.heap.size<=b) v l)(k:aN (fun b=>b≠g) wr w2)(c:g<w.heap.size):aM R s e w2 w.heap.size (fun b=>w.heap.size<=b) v l:=
 h.aDW F k (fun b a _=>by have:w.heap.size<=b:=a;show b≠g;omega) (fun b a _=>by show b≠g;omega)
theorem PW.grown{α:Type}{R:Rep α}{s:Nat}{e:TypeId}{w w':World}{base:Nat}{ok:nP}{v:Value}{l:List α}{L:List Tok}{g:Nat}{p:PS}(h:PW L w g p)(a:aM R s e w base ok v l)(c:w.grownBy w' v.ownBlock)(d:g<base):PW L w' g p:=
 h.aDW (cX c) (fun b f e=>qA ((a.lt b e.symm).1))
theorem cZ.grown{α:Type}{R:Rep α}{s:Nat}{e:TypeId}{w0 w w':World}{base B:Nat}{ok:nP}{v:Value}{l:List α}{g:Nat}(h:cZ B g w0 w)(a:aM R s e w base ok v l)(b:w.grownBy w' v.ownBlock)(c:B<=base):cZ B g w0 w':=
 aN.trans h ((cX b).mono fun k d h e=>qD ((a.lt k e.symm).1) h.1)
theorem cZ.size{B g:Nat}{w0 w:World}(h:cZ B g w0 w):w0.heap.size<=w.heap.size:=aN.size h
theorem NU(a b:Nat):decide ((a:Int)<(b:Int))=decide (a<b):=decide_eq_decide.2 qo
theorem Zz:dZ prog 311 279 7 72:=fR (z:= .agg #[.int .i64 0,.string ByteArray.empty,.bool false,.int .i64 0,.int .i64 0,.int .i64 0,.string ByteArray.empty]) underlying311 (by kernel_rfl) rfl qe
theorem aAa:dZ prog 264 311 1 24:=fR (z:= .slice none 0 0) underlying264 (by kernel_rfl) rfl qe
theorem Ul:dZ prog 55 264 1 24:=fR (z:= .slice none 0 0) underlying55 (by kernel_rfl) rfl qe
abbrev kR(p:Po)(a:oD)(b:Nat)(c:oD)(d:Nat)(e:oD)(f:Nat)(g:oD)(i:Nat):Array Value:=#[.string p.id,.bool p.set,.int .i64 p.alg,.slice a p.aDY.length b,.slice c p.aDR.length d,.slice e p.aD2.length f,.slice g p.aD4.length i]
abbrev wN:Array Value:=#[.string ⟨#[]⟩,.bool false,.int .i64 0,.slice none 0 0,.slice none 0 0,.slice none 0 0,.slice none 0 0]
theorem Um{p:Prop}(h:p:=by
 clear h_ k_ HLM2 HG4 HP4 HK4;rw[show (8:Int)=((8:Nat):Int) from rfl,NU] at HP;rw[<-hl'.o] at HS;have hl2:l'.length=l.length+1:=by rw[hl'.o,aL,List.length_singleton]
 have HL2:=aA hl2;have hq3:=(kZ (L:=L) (decide (8<l'.length)) hq2);have hq4:=hq3.le;have HQ3:=aA hq3;clear hl2 hq3;go_wp2;go_roundg f'
 case measure=>rw[HF.o];omega
 case rel=>exact⟨l',_,A',c',rfl,aA ⟨HS.o,HQ3.o.lt,qA HF.o,qA HL2.o,HG.o,HP.o,HK.o⟩⟩):p:=h
theorem Qk{L:List Tok}{p:PS}(T:Toks L)(hp:p.at_<L.length)(g:Nat)(w:World)(h:PW L w g p):
 Calls prog 220 #[.pointer (some ⟨g,0,none⟩)] w (iL sB L g w (jC L p).1 (jC L p).2):=by
 have U:=T.len;have k:=h.lt;have HP:=aA h;have x:=aA (fun (q:PS) (d:q.at_<L.length) w h=>Jr T d g w h);have K:=aA (fun (q:PS) (d:q.at_<L.length) w h=>eR T (str ",") d g w h);have S:=aA (fun b (q:PS) (d:q.at_<L.length) w h=>lA b d U g w h);have o:=aA (fun (q:PS) (d:q.at_<L.length)=>CK T d);have t:=aA (fun (q:PS) (d:q.at_<L.length)=>Ed T d);obtain⟨res,D⟩:=xE (jC L p);have J:Hid (kB L (eI L) (str ",") L.length [(eI L p).1] (eI L p).2=res):=aA (by rw[D];rfl);rw[<-D];obtain⟨y,H,F⟩:=aZ (x.o p hp) (o.o p hp) (t.o p hp);have Y:=aA (fun q=>(rfl:cM L (str ",") q=cM L (str ",") q));unfold iL;unfold kX at y;clear h D;generalize eI L p=Q at *;have HK:=aA (cZ.refl w.heap.size g w);go_enter func220,ntmps220;go_wp2_with fail;refine(y.o _ HP.o).mono ?_;rintro e w1 ⟨rfl,h_,k_⟩;have HK:=aA (HK.o.aD5 k_);have HP:=aA h_;have X:w.heap.size<=w1.heap.size:=k_.size;clear h_ k_ y;go_wp2;go_loopg [3] L.length (fun f v wr=>TD sB 7 279 L (eI L) (str ",") g w res f v wr)
 case atStart=>exact⟨[Q.1],Q.2,_,_,rfl,aA ⟨J.o,H.o.lt,qo,qs,aM.one eV (aK _ _ _ rfl) X ⟨rfl,F.o⟩,HP.o.alloc,HK.o.alloc⟩⟩
 case round=>
  clear J HP HK H F;obtain⟨l,q,A,c,rfl,a⟩:=hrel;have d:=a.o.at_;have j:=aA (K.o q d wr a.o.pw);have hlen:l.length<=5000:=qA a.o.len
  cases i:cM L (str ",") q
  .rw[kH i,Bc] at j;have HS:=aA (a.o.stop i);clear i;go_wp2_with fail;refine j.o.mono ?_;rintro e w2 ⟨rfl,h_,k_⟩;obtain⟨HP,HK,HG⟩:=aZ h_ (a.o.aDW.aD5 k_) (a.o.row.aD5 eV k_ k);clear h_ k_ j;go_wp2;go_ret;refine⟨_,rfl,?_,?_,HK.o.end⟩
   .rw[HS.o];exact HG.o.sl qo _ (fun b B _=>B) (fun b B _=>B) eV
   .rw[HS.o];exact HP.o
  .rw[mP i,Bc] at j;obtain⟨f',O,P⟩:=a.o.next i;have HF:=aA O;have HS:=aA P;have m:=(fQ T d i).lt;have z:=aA (x.o _ m);have hq2:=(o.o _ m).lt;have V:=(o.o _ m).le;have Z:=a.o.fuel;have hle:=a.o.len;have R:=aA (t.o _ m);simp only at V m;unfold kX at z;clear i O P x o t K;generalize eI L {q with at_:=q.at_+1}=E at *;go_wp2_with fail;refine j.o.mono ?_;rintro e w2 ⟨rfl,h_,k_⟩;obtain⟨HP,HK,HG⟩:=aZ h_ (a.o.aDW.aD5 k_) (a.o.row.aD5 eV k_ k);clear h_ k_ j a;go_wp2_with fail;refine(z.o _ HP.o).mono ?_;rintro e s ⟨rfl,h_,k_⟩;obtain⟨HP,HK,HG⟩:=aZ h_ (HK.o.aD5 k_) (HG.o.aD5 eV k_ k);clear h_ k_ z;have aa:w.heap.size<=s.heap.size:=HK.o.size;have r:=aA (aB s (.cells (KS E.1) 279));have M:=aA (heap_alloc_new s (.cells (KS E.1) 279));obtain⟨n,I,G⟩:=aZ (HG.o.on eV r.o) (HP.o.on r.o) (HK.o.new r.o);go_wp2_with (at_builtin;refine cC Zz eV rfl (.tmp 9) (.tmp 12) rfl _ l rfl n.o s.heap.size 1 _ _ _ E.1 rfl M.o ⟨rfl,R.o⟩ qo qo (by rw[World.size_alloc];omega) ?_;intro l' hl' A' c' w4 N C W;have HG4:=aA N;have HP4:=aA (I.o.grown n.o C k);have HK4:=aA (G.o.grown n.o C (lR _));clear N C W HG HP HK r M n I G)
   have HLM2:=aA (S.o (decide ((8:Int)<(l'.length:Int))) _ hq2 _ HP4.o);refine HLM2.o.mono ?_;rintro e w5 ⟨rfl,h_,k_⟩;obtain⟨HP,HK,HG⟩:=aZ h_ (HK4.o.aD5 k_) (HG4.o.aD5 eV k_ k);exact Um
theorem Ql{L:List Tok}{p:PS}(T:Toks L)(hp:p.at_<L.length)(g:Nat)(w:World)(h:PW L w g p):
 Calls prog 180 #[.pointer (some ⟨g,0,none⟩)] w (iL (rows sB) L g w (mL L p).1 (mL L p).2):=by
 have hL:=T.len;have o:=h.lt;have HP:=aA h;have G:=aA (fun (q:PS) (a:q.at_<L.length) w h=>Qk T a g w h);have X:=aA (fun (q:PS) (a:q.at_<L.length) w h=>eR T (str "or") a g w h);have ad:=aA (fun b (q:PS) (a:q.at_<L.length) w h=>lA b a hL g w h);have B:=aA (fun (q:PS) (a:q.at_<L.length)=>NJ T a);have O:=aA (gD T (str "(") hp);have Q:=aA (fun w h=>mO T (str "(") hp g w h);have ae:=aA (fun (q:PS) (a:q.at_<L.length) w h=>mO T (str ")") a g w h);unfold mL;dsimp only;generalize eN L (str "(") p=m at *;rw[KM] at Q;obtain⟨res,K⟩:=xE (kB L (jC L) (str "or") L.length [(jC L m).1] (jC L m).2);have S:Hid (kB L (jC L) (str "or") L.length [(jC L m).1] (jC L m).2=res):=aA K.symm;rw[<-K];have H:=aA (G.o m O.o.lt);have P:=aA (B.o m O.o.lt);unfold iL;unfold iL at H;clear h K;generalize jC L m=M at *;have HK:=aA (cZ.refl w.heap.size g w);go_enter func180,ntmps180;go_wp2_with fail;refine(Q.o _ HP.o).mono ?_;rintro e w0 ⟨rfl,h_,k_⟩;have HK:=aA (HK.o.aD5 k_);have HP:=aA h_;have ak:w.heap.size<=w0.heap.size:=k_.size;clear h_ k_;go_wp2_with fail;refine(H.o _ HP.o).mono ?_;rintro e w1 ⟨v,rfl,k,h_,k_⟩;obtain⟨x,y,rfl,ah⟩:=k.slice;have HK:=aA (HK.o.aD5 k_);have HP:=aA h_;have ai:w.heap.size<=w1.heap.size:=HK.o.size;have U:=aA k;clear k h_ k_ H;go_wp2;go_loopg [3] L.length (fun f v wr=>TD (rows sB) 1 311 L (jC L) (str "or") g w res f v wr)
 case atStart=>
  have t:=aB w1 (.cells #[.slice x M.1.length y] 311);exact⟨[M.1],M.2,_,_,rfl,aA ⟨S.o,P.o.lt,qo,qs,aM.one dO (aK _ _ _ rfl) ai ⟨_,rfl,aH.more eV ((aH.inb eV U.o).on eV t) (fun b i=>⟨by have:w0.heap.size<=b:=i.1;show w.heap.size<=b;omega,by have:=i.2;rw[World.size_alloc];omega,qA i.2⟩)⟩,HP.o.alloc,HK.o.alloc⟩⟩
 case round=>
  clear S HP HK P U;obtain⟨l,q,A,c,rfl,d⟩:=hrel;have a:=d.o.at_;have n:=aA (X.o q a wr d.o.pw);have hlen:l.length<=5000:=qA d.o.len
  cases j:cM L (str "or") q
  .rw[kH j,Zh] at n;have HS:=aA (d.o.stop j);have E:=aA (ae.o q a);rw[KN] at E;clear j;go_wp2_with fail;refine n.o.mono ?_;rintro e w2 ⟨rfl,h_,k_⟩;obtain⟨HP,HK,HG⟩:=aZ h_ (d.o.aDW.aD5 k_) (d.o.row.aD5 dO k_ o);clear h_ k_ n;go_wp2_with fail;refine(E.o _ HP.o).mono ?_;rintro e r ⟨rfl,h_,k_⟩;obtain⟨HP,HK,HG⟩:=aZ h_ (HK.o.aD5 k_) (HG.o.aD5 dO k_ o);clear h_ k_ E;go_wp2;go_ret;refine⟨_,rfl,?_,?_,HK.o.end⟩
   .rw[HS.o];exact HG.o.sl qo _ (fun b t _=>t) (fun b t _=>t) dO
   .rw[HS.o,KN];exact HP.o
  .rw[mP j,Zh] at n;obtain⟨f',aa,ab⟩:=d.o.next j;have HF:=aA aa;have HS:=aA ab;have C:=(fQ T a j).lt;have I:=aA (G.o _ C);have hq2:=(B.o _ C).lt;have af:=(B.o _ C).le;have aj:=d.o.fuel;have hle:=d.o.len;simp only at af C;unfold iL at I;clear j aa ab G B X;generalize jC L {q with at_:=q.at_+1}=D at *;go_wp2_with fail;refine n.o.mono ?_;rintro e w2 ⟨rfl,h_,k_⟩;obtain⟨HP,HK,F⟩:=aZ h_ (d.o.aDW.aD5 k_) (d.o.row.aD5 dO k_ o);have al:w.heap.size<=w2.heap.size:=HK.o.size;clear h_ k_ n d;go_wp2_with fail;refine(I.o _ HP.o).mono ?_;rintro e r ⟨v,rfl,k,h_,k_⟩;obtain⟨x,y,rfl,ah⟩:=k.slice;obtain⟨HP,HK,HG,V⟩:=dH h_ (HK.o.aD5 k_) (F.o.aD5 dO k_ o) k;clear k h_ k_ I;have an:w.heap.size<=r.heap.size:=HK.o.size;have s:=aA (aB r (.cells #[.slice x D.1.length y] 311));have Y:=aA (heap_alloc_new r (.cells #[.slice x D.1.length y] 311));obtain⟨z,R,N⟩:=aZ (HG.o.on dO s.o) (HP.o.on s.o) (HK.o.new s.o);have W:=aA (aH.more eV ((aH.inb eV V.o).on eV s.o) (ok':=fun b=>w.heap.size<=b/\b<(r.alloc (.cells #[.slice x D.1.length y] 311)).heap.size/\some b≠(Value.slice A l.length c).ownBlock) (fun b i=>⟨by have:w2.heap.size<=b:=i.1;omega,by have:=i.2;rw[World.size_alloc];omega,fun e=>by have h1:=(F.o.lt b e.symm).2;have:w2.heap.size<=b:=i.1;omega⟩));go_wp2_with (at_builtin;refine cC aAa dO rfl (.tmp 11) (.tmp 14) rfl _ l rfl z.o r.heap.size 1 _ _ _ D.1 rfl Y.o ⟨_,rfl,W.o⟩ qo qo (by rw[World.size_alloc];omega) ?_;intro l' hl' A' c' w4 Z J ag;have HG4:=aA Z;have HP4:=aA (R.o.grown z.o J o);have HK4:=aA (N.o.grown z.o J (lR _));clear Z J ag HG HP HK s Y z R N W V F)
   have HLM2:=aA (ad.o (decide ((8:Int)<(l'.length:Int))) _ hq2 _ HP4.o);refine HLM2.o.mono ?_;rintro e w5 ⟨rfl,h_,k_⟩;obtain⟨HP,HK,HG⟩:=aZ h_ (HK4.o.aD5 k_) (HG4.o.aD5 dO k_ o);exact Um
theorem tZ{L:List Tok}{p:PS}(T:Toks L)(hp:p.at_<L.length)(g:Nat)(w:World)(h:PW L w g p):
 Calls prog 134 #[.pointer (some ⟨g,0,none⟩)] w (iL (rows (rows sB)) L g w (bU L p).1 (bU L p).2):=by
 have hL:=T.len;have x:=h.lt;have HP:=aA h;have I:=aA (fun (q:PS) (d:q.at_<L.length) w h=>Ql T d g w h);have X:=aA (fun (q:PS) (d:q.at_<L.length) w h=>eR T (str "and") d g w h);have ad:=aA (fun b (q:PS) (d:q.at_<L.length) w h=>lA b d hL g w h);have D:=aA (fun (q:PS) (d:q.at_<L.length)=>NL T d);have r:=aA (fun w h=>eR T (str "when") hp g w h)
 cases n:cM L (str "when") p
 .rw[kH n,Iw] at r;have e:bU L p=([],p):=by unfold bU;rw[iN (by rw[n];decide)]
  rw[e];unfold iL;clear h e n;go_enter func134,ntmps134;go_wp2_with fail;refine(r.o _ HP.o).mono ?_;rintro e w1 ⟨rfl,h_,k_⟩;have HP:=aA h_;have HK:=aA k_;clear h_ k_;go_wp2;go_ret;exact⟨_,rfl,aH.nil,HP.o,HK.o⟩
 rw[mP n,Iw] at r;have H:=aA (fQ T hp n);have e:bU L p=kB L (mL L) (str "and") L.length [(mL L {p with at_:=p.at_+1}).1] (mL L {p with at_:=p.at_+1}).2:=by unfold bU;rw[iP n]
 rw[e];clear e n;obtain⟨i,ag⟩:∃i,i=({p with at_:=p.at_+1}:PS):=⟨_,rfl⟩;rw[<-ag] at r H ⊢;obtain⟨res,N⟩:=xE (kB L (mL L) (str "and") L.length [(mL L i).1] (mL L i).2);have S:Hid (kB L (mL L) (str "and") L.length [(mL L i).1] (mL L i).2=res):=aA N.symm;rw[<-N];have J:=aA (I.o i H.o.lt);have Q:=aA (D.o i H.o.lt);unfold iL;unfold iL at J;clear h N;generalize mL L i=O at *;have HK:=aA (cZ.refl w.heap.size g w);go_enter func134,ntmps134;go_wp2_with fail;refine(r.o _ HP.o).mono ?_;rintro e w0 ⟨rfl,h_,k_⟩;have HK:=aA (HK.o.aD5 k_);have HP:=aA h_;have ak:w.heap.size<=w0.heap.size:=k_.size;clear h_ k_;go_wp2_with fail;refine(J.o _ HP.o).mono ?_;rintro e w1 ⟨v,rfl,m,h_,k_⟩;obtain⟨z,B,rfl,ah⟩:=m.slice;have HK:=aA (HK.o.aD5 k_);have HP:=aA h_;have ai:w.heap.size<=w1.heap.size:=HK.o.size;have U:=aA m;clear m h_ k_ J;go_wp2;go_loopg [3] L.length (fun f v wr=>TD (rows (rows sB)) 1 264 L (mL L) (str "and") g w res f v wr)
 case atStart=>
  have t:=aB w1 (.cells #[.slice z O.1.length B] 264);exact⟨[O.1],O.2,_,_,rfl,aA ⟨S.o,Q.o.lt,qo,qs,aM.one aS (aK _ _ _ rfl) ai ⟨_,rfl,aH.more dO ((aH.inb dO U.o).on dO t) (fun b j=>⟨by have:w0.heap.size<=b:=j.1;show w.heap.size<=b;omega,by have:=j.2;rw[World.size_alloc];omega,qA j.2⟩)⟩,HP.o.alloc,HK.o.alloc⟩⟩
 case round=>
  clear S HP HK Q U;obtain⟨l,q,A,c,rfl,a⟩:=hrel;have d:=a.o.at_;have o:=aA (X.o q d wr a.o.pw);have hlen:l.length<=5000:=qA a.o.len
  cases k:cM L (str "and") q
  .rw[kH k,Tu] at o;have HS:=aA (a.o.stop k);clear k;go_wp2_with fail;refine o.o.mono ?_;rintro e w2 ⟨rfl,h_,k_⟩;obtain⟨HP,HK,HG⟩:=aZ h_ (a.o.aDW.aD5 k_) (a.o.row.aD5 aS k_ x);clear h_ k_ o;go_wp2;go_ret;refine⟨_,rfl,?_,?_,HK.o.end⟩
   .rw[HS.o];exact HG.o.sl qo _ (fun b t _=>t) (fun b t _=>t) aS
   .rw[HS.o];exact HP.o
  .rw[mP k,Tu] at o;obtain⟨f',aa,ab⟩:=a.o.next k;have HF:=aA aa;have HS:=aA ab;have E:=(fQ T d k).lt;have K:=aA (I.o _ E);have hq2:=(D.o _ E).lt;have ae:=(D.o _ E).le;have aj:=a.o.fuel;have hle:=a.o.len;simp only at ae E;unfold iL at K;clear k aa ab I D X;generalize mL L {q with at_:=q.at_+1}=F at *;go_wp2_with fail;refine o.o.mono ?_;rintro e w2 ⟨rfl,h_,k_⟩;obtain⟨HP,HK,G⟩:=aZ h_ (a.o.aDW.aD5 k_) (a.o.row.aD5 aS k_ x);have al:w.heap.size<=w2.heap.size:=HK.o.size;clear h_ k_ o a;go_wp2_with fail;refine(K.o _ HP.o).mono ?_;rintro e y ⟨v,rfl,m,h_,k_⟩;obtain⟨z,B,rfl,ah⟩:=m.slice;obtain⟨HP,HK,HG,V⟩:=dH h_ (HK.o.aD5 k_) (G.o.aD5 aS k_ x) m;clear m h_ k_ K;have an:w.heap.size<=y.heap.size:=HK.o.size;have s:=aA (aB y (.cells #[.slice z F.1.length B] 264));have Y:=aA (heap_alloc_new y (.cells #[.slice z F.1.length B] 264));obtain⟨C,R,P⟩:=aZ (HG.o.on aS s.o) (HP.o.on s.o) (HK.o.new s.o);have W:=aA (aH.more dO ((aH.inb dO V.o).on dO s.o) (ok':=fun b=>w.heap.size<=b/\b<(y.alloc (.cells #[.slice z F.1.length B] 264)).heap.size/\some b≠(Value.slice A l.length c).ownBlock) (fun b j=>⟨by have:w2.heap.size<=b:=j.1;omega,by have:=j.2;rw[World.size_alloc];omega,fun e=>by have h1:=(G.o.lt b e.symm).2;have:w2.heap.size<=b:=j.1;omega⟩));go_wp2_with (at_builtin;refine cC Ul aS rfl (.tmp 12) (.tmp 15) rfl _ l rfl C.o y.heap.size 1 _ _ _ F.1 rfl Y.o ⟨_,rfl,W.o⟩ qo qo (by rw[World.size_alloc];omega) ?_;intro l' hl' A' c' w4 Z M af;have HG4:=aA Z;have HP4:=aA (R.o.grown C.o M x);have HK4:=aA (P.o.grown C.o M (lR _));clear Z M af HG HP HK s Y C R P W V G)
   have HLM2:=aA (ad.o (decide ((8:Int)<(l'.length:Int))) _ hq2 _ HP4.o);refine HLM2.o.mono ?_;rintro e w5 ⟨rfl,h_,k_⟩;obtain⟨HP,HK,HG⟩:=aZ h_ (HK4.o.aD5 k_) (HG4.o.aD5 aS k_ x);exact Um
theorem cZ.join{B g:Nat}{w0 w w':World}(h:cZ B g w0 w)(k:cZ w.heap.size g w w')(b:B<=w.heap.size):cZ B g w0 w':=aN.trans h (aN.mono k fun x a h=>⟨a,h.2⟩)
theorem aM.aE5{α:Type}{R:Rep α}{s:Nat}{e:TypeId}{w wr w2:World}{v:Value}{l:List α}{g:Nat}(F:Firm R s)(h:aM R s e wr w.heap.size (fun b=>w.heap.size<=b) v l)(k:cZ wr.heap.size g wr w2)(d:g<w.heap.size):aM R s e w2 w.heap.size (fun b=>w.heap.size<=b) v l:=
 h.aDW F k (fun b c a=>⟨a,by have:w.heap.size<=b:=c;omega⟩) (fun b c a=>⟨a,qo⟩)
theorem aDq:dZ prog 58 180 3 32:=fR (z:= .agg #[.int .i64 0,.int .i64 0,.string ByteArray.empty]) underlying58 (by kernel_rfl) rfl qe
theorem vL{L:List Tok}{p:PS}(T:Toks L)(hp:p.at_<L.length)(g:Nat)(w:World)(h:PW L w g p):
 Calls prog 138 #[.pointer (some ⟨g,0,none⟩)] w (iL kE L g w (gR L p).1 (gR L p).2):=by
 have hL:=T.len;have D:=h.lt;have HP:=aA h;have ae:=aA (fun (q:PS) (i:q.at_<L.length) w h=>eR T (str "on") i g w h);have aj:=aA (fun b (q:PS) (i:q.at_<L.length) w h=>lA b i hL g w h);have r:=aA (fun (q:PS) (i:q.at_<L.length) a c w h hw=>nL T [str "permit",str "deny"] a c 2 rfl qe i g w h hw);have s:=aA (fun (q:PS) (i:q.at_<L.length) a c w h hw=>nL T [str "log",str "redact",str "review",str "notify"] a c 4 rfl qe i g w h hw);have I:=aA (fun (q:PS) (i:q.at_<L.length) w h=>rP T i g w h);obtain⟨res,X⟩:=xE (gR L p);have ad:Hid (kB L (tW L) (str "on") L.length [] p=res):=aA (by rw[X];rfl);rw[<-X];unfold iL;clear h X;have HK:=aA (cZ.refl w.heap.size g w);go_enter func138,ntmps138;go_wp2;go_loopg [3] L.length (fun f v wr=>TD kE 3 180 L (tW L) (str "on") g w res f v wr)
 case atStart=>exact⟨[],p,none,0,rfl,aA ⟨ad.o,hp,qo,qs,aM.nil,HP.o,HK.o⟩⟩
 case round=>
  clear ad HP HK;obtain⟨l,q,A,c,rfl,d⟩:=hrel;have i:=d.o.at_;have n:=aA (ae.o q i wr d.o.pw);have hlen:l.length<=5000:=qA d.o.len
  cases m:cM L (str "on") q
  .rw[kH m,Zi] at n;have HS:=aA (d.o.stop m);clear m;go_wp2_with fail;refine n.o.mono ?_;rintro e w2 ⟨rfl,h_,k_⟩;obtain⟨HP,HK,HG⟩:=aZ h_ (d.o.aDW.aD5 k_) (d.o.row.aD5 aO k_ D);clear h_ k_ n;go_wp2;go_ret;refine⟨_,rfl,?_,?_,HK.o.end⟩
   .rw[HS.o];exact HG.o.sl qo _ (fun b S _=>S) (fun b S _=>S) aO
   .rw[HS.o];exact HP.o
  .rw[mP m,Zi] at n;obtain⟨f',ah,ai⟩:=d.o.next m;have HF:=aA ah;have HS:=aA ai;have o:=(fQ T i m).lt;have V:=dR T [str "permit",str "deny"] o;have W:=dR T [str "log",str "redact",str "review",str "notify"] V.lt;have al:=jK T W.lt;obtain⟨r,s,I⟩:=aZ (r.o _ o) (s.o _ V.lt) (I.o _ W.lt);have hq2:=(JH T o).lt;have R:=(JH T o).le;have aq:=d.o.fuel;have hle:=d.o.len;have N:=aA (Js T o);simp only at R o;clear m ah ai ae V W al;have HD:Hid (tW L {q with at_:=q.at_+1}=(⟨(bA L [str "permit",str "deny"] {q with at_:=q.at_+1}).1,(bA L [str "log",str "redact",str "review",str "notify"] (bA L [str "permit",str "deny"] {q with at_:=q.at_+1}).2).1,(bT L (bA L [str "log",str "redact",str "review",str "notify"] (bA L [str "permit",str "deny"] {q with at_:=q.at_+1}).2).2).1⟩,(bT L (bA L [str "log",str "redact",str "review",str "notify"] (bA L [str "permit",str "deny"] {q with at_:=q.at_+1}).2).2).2)):=aA rfl;generalize bA L [str "permit",str "deny"] {q with at_:=q.at_+1}=J at *;generalize bA L [str "log",str "redact",str "review",str "notify"] J.2=K at *;generalize bT L K.2=F at *;rw[HD.o] at HS N hq2 R;clear HD;rw[JL,UB] at r;rw[aAW,Pu,Pw,Px] at s;simp only at hq2 R N;go_wp2_with fail;refine n.o.mono ?_;rintro e w2 ⟨rfl,h_,k_⟩;obtain⟨HP,O,aa⟩:=aZ h_ (d.o.aDW.aD5 k_) (d.o.row.aD5 aO k_ D);have an:w.heap.size<=w2.heap.size:=O.o.size;have ar:=HP.o.lt;have HK:=aA (cZ.refl w2.heap.size g w2);clear h_ k_ n d;go_wp2_with fail;refine(r.o _ _ _ (HP.o.alloc.alloc) (nM _ _ _ _ _ qs rfl)).mono ?_;rintro e Y ⟨rfl,h_,k_⟩
   obtain⟨j,k,HK,HP⟩:=dH (aF (aE (aK _ _ _ qs) (aB _ _)) k_ qo:Y.heap[w2.heap.size]? =some (.cells fW 180 (0,0))) (aF (aK _ _ _ qs) k_ qo:Y.heap[w2.heap.size+1]? =some (.cells #[.string ⟨#[112,101,114,109,105,116]⟩,.string ⟨#[100,101,110,121]⟩] 9 (0,0))) (HK.o.alloc.alloc.aD5 k_) h_;clear h_ k_;have au:=aD j.o;have ax:=aD k.o;have a7:=HP.o.lt;clear r;obtain⟨⟨t,x,y⟩,z,B,C⟩:=cF j.o;go_wp2_with fail;refine(s.o _ _ _ ((HP.o.set qo).alloc) (nM _ _ _ _ _ qs rfl)).mono ?_;rintro e w4 ⟨rfl,h_,k_⟩;obtain⟨j,k,G,HK,HP⟩:=gJ (aF (aE (aAY (j.o) _) (aB _ _)) k_ qo) (aF (aE (bE (k.o) qo) (aB _ _)) k_ qo) (aF (aK _ _ _ qs) k_ qo:w4.heap[Y.heap.size]? =some (.cells #[.string ⟨#[108,111,103]⟩,.string ⟨#[114,101,100,97,99,116]⟩,.string ⟨#[114,101,118,105,101,119]⟩,.string ⟨#[110,111,116,105,102,121]⟩] 9 (0,0))) ((HK.o.set qo).alloc.aD5 k_) h_;clear h_ k_ t x y z B C;have av:=aD j.o;have ay:=aD k.o;have a1:=aD G.o;have a8:=HP.o.lt;clear s;obtain⟨⟨t,x,y⟩,z,B,C⟩:=cF j.o;go_wp2_with fail;refine(I.o _ ((HP.o.set qo))).mono ?_;rintro e Z ⟨rfl,h_,k_⟩;obtain⟨j,k,G,HK,HP⟩:=gJ (aF (aAZ (j.o) _) k_ qo) (aF (bE (k.o) qo) k_ qo) (aF (bE (G.o) qo) k_ qo) ((HK.o.set qo).aD5 k_) h_;clear h_ k_ t x y z B C;have aw:=aD j.o;have az:=aD k.o;have a6:=aD G.o;have ba:=HP.o.lt;clear I;obtain⟨⟨t,x,y⟩,z,B,C⟩:=cF j.o;obtain⟨M,E⟩:=xE ((Z.setCell ⟨w2.heap.size,2,none⟩ (.string F.1)).alloc (.cells #[.int .i64 J.1,.int .i64 K.1,.string F.1] 180));have ag:Hid (M.heap[Z.heap.size]? =some (.cells #[.int .i64 J.1,.int .i64 K.1,.string F.1] 180 (0,0))):=aA (by rw[E];exact aK _ _ _ qs)
   have ab:Hid (PW L M g F.2):=aA (by rw[E];exact(HP.o.set qo).alloc);have P:Hid (cZ w2.heap.size g w2 M):=aA (by rw[E];exact(HK.o.set qo).alloc);have H:=aA (aa.o.aE5 aO P.o D);have Q:=aA (O.o.join P.o an);have ao:w.heap.size<=M.heap.size:=Q.o.size;have af:=aA E;clear E HP HK aa O P;go_wp2_with (at_builtin;rw[<-af.o];refine cC aDq aO rfl (.tmp 18) (.tmp 20) rfl _ l rfl H.o Z.heap.size 1 _ _ _ ⟨J.1,K.1,F.1⟩ rfl ag.o ⟨rfl,N.o⟩ qo qo ao ?_;intro l' hl' A' c' w9 hG U ak;have HG4:=aA hG;have HP4:=aA (ab.o.grown H.o U D);have HK4:=aA (Q.o.grown H.o U (lR _));clear hG U ak ag H ab Q af t x y z B C)
   have HLM2:=aA (aj.o (decide ((8:Int)<(l'.length:Int))) _ hq2 _ HP4.o);refine HLM2.o.mono ?_;rintro e wz ⟨rfl,h_,k_⟩;obtain⟨HP,HK,HG⟩:=aZ h_ (HK4.o.aD5 k_) (HG4.o.aD5 aO k_ D);exact Um
theorem QCF{p:Prop}(h:p:=by
 go_enter func280,ntmps280;go_wp2;go_ret;exact⟨_,rfl,xL w [true] _ _ rfl _ rfl qs _ _ rfl,aB _ _⟩):p:=h
def DS:Rep Bool:=mS (fun b=>[.bool b]) (fun _=>True)
theorem jX:Firm DS 1:=gK (fun _=>rfl) (fun x v h=>by simp only[List.mem_cons,List.not_mem_nil,or_false] at h;rw[h];rfl)
theorem xL(w:World)(l:List Bool)(t:TypeId)(n:Nat)(e:w.heap.size=n)(cs:Array Value)(h:cs=(l.map Value.bool).toArray)(d:l.length<=1000)(m c:Nat)(hm:l.length=m):aH DS (w.alloc (.cells cs t)) (fun b=>n<=b) (.slice (some ⟨n,0,none⟩) m c) l:=by
 subst e h hm;refine⟨_,c,l.map Value.bool,rfl,fun _=>⟨w.heap.size,0,rfl,lR _,fun i x f=> ?_⟩,?_,qo⟩
 .refine aQ (heap_alloc_new w _) _ _ ?_;rw[Nat.zero_add];simpa using f
 .clear d
  induction l with
  |nil=>rfl
  |cons a l g=>exact⟨[.bool a],l.map Value.bool,rfl,⟨rfl,trivial⟩,g⟩
def QG(w:World)(l:List Bool)(e:Ending)(w':World):Prop:=∃v,e=.returned v/\aH DS w' (fun b=>w.heap.size<=b) v l/\Below w.heap.size w w'
theorem VB(op:Int)(w:World):Calls prog 280 #[.int .i64 op] w (QG w (fN op)):=by
 unfold QG;by_cases h3:op=3
 .subst h3;exact QCF
 by_cases h4:op=4
 .subst h4;exact QCF
 by_cases h5:op=5
 .subst h5;go_enter func280,ntmps280;go_wp2;go_ret;exact⟨_,rfl,xL w [true,false] _ _ rfl _ rfl qs _ _ rfl,aB _ _⟩
 by_cases h11:op=11
 .subst h11;go_enter func280,ntmps280;go_wp2;go_ret;exact⟨_,rfl,xL w [false] _ _ rfl _ rfl qs _ _ rfl,aB _ _⟩
 have e:fN op=[false,false]:=by unfold fN;rw[iN qo,iN h5,iN h11]
 rw[e];have d3:(op==3)=false:=bN.2 h3;have d4:(op==4)=false:=bN.2 h4;have d5:(op==5)=false:=bN.2 h5;have d11:(op==11)=false:=bN.2 h11;clear h3 h4 h5 h11 e;go_enter func280,ntmps280;go_wp2;go_ret;exact⟨_,rfl,xL w [false,false] _ _ rfl _ rfl qs _ _ rfl,aB _ _⟩
def qO(L:List Tok)(f:Nat)(ms:List Bool)(acc:List No×PS):List No×PS:=ms.foldl (dD L f) acc
def wO(L:List Tok)(f:Nat)(l:List No)(p:PS):(List No×No)×PS:=
 (((qO L f (fN (2+(bA L eF p).1)) (l,(bA L eF p).2)).1,⟨2+(bA L eF p).1,aY,uX⟩),
   eN L (str ")") (qO L f (fN (2+(bA L eF p).1)) (l,(bA L eF p).2)).2)
def gX(L:List Tok)(f:Nat)(l:List No)(p:PS):(List No×No)×PS:=
 if cM L (str "(") p then wO L f l {p with at_:=p.at_+1}
 else if (aU L p).aDN=1/\(aU L p).str≠str "true"/\(aU L p).str≠str "false" then ((l,⟨2,aY,(cG L p).1⟩),(cG L p).2)
 else ((l,⟨1,(dA L p).1,uX⟩),(dA L p).2)
theorem uM(L:List Tok)(f:Nat)(l:List No)(p:PS):fB L (f+1) l p=
 (((gX L f l p).1.1++[(gX L f l p).1.2],decide ((gX L f l p).1.2.op=2)),cR L (decide (32<((gX L f l p).1.1++[(gX L f l p).1.2]).length)) (gX L f l p).2):=by
 unfold gX;rw[fB];dsimp only;split
 .rfl
 .split<;>rfl
section
variable {L:List Tok} (T:Toks L)
include T
theorem NV(f:Nat):∀(ms:List Bool) {l:List No} {p:PS},p.at_<L.length->dK L p (qO L f ms (l,p)).2:=by
 intro ms
 induction ms with
 |nil=>intro l p h;exact dK.refl h
 |cons m ms a=>
  intro l p h;have h1:dK L p (dD L f (l,p) m).2:=by
   unfold dD;dsimp only;split
   .exact dK.refl h
   .have h1:=zQ T f l h;exact Tn
  exact h1.trans (a h1.lt)
theorem Ww(f:Nat)(l:List No){p:PS}(h:p.at_<L.length):dK L p (wO L f l p).2:=by
 unfold wO;have h1:=dR T eF h;have h2:=NV T f (fN (2+(bA L eF p).1)) (l:=l) h1.lt;exact h1.trans (h2.trans (gD T (str ")") h2.lt))
theorem wP(f:Nat)(l:List No){p:PS}(h:p.at_<L.length):dK L p (gX L f l p).2:=by
 unfold gX;split
 .rename_i a;have h0:=fQ T h a;exact h0.trans (Ww T f l h0.lt)
 split
 .exact nT T h
 .exact xB T h
theorem JT:∀(f:Nat) (l:List No) {p:PS},p.at_<L.length->(fB L f l p).1.1.length+2 * p.at_<=l.length+1+2 * (fB L f l p).2.at_
 |0,l,p,h=>by unfold fB;simp only;omega
 |f+1,l,p,h=>by
  rw[uM];have i:(gX L f l p).1.1.length+2 * p.at_<=l.length+2 * (gX L f l p).2.at_:=by
   unfold gX;split
   .rename_i b;have h0:=fQ T h b;have h1:=dR T eF h0.lt;have d:∀(ms:List Bool) (l:List No) (q:PS),q.at_<L.length->(qO L f ms (l,q)).1.length+2 * q.at_<=l.length+ms.length+2 * (qO L f ms (l,q)).2.at_:=by
     intro ms
     induction ms with
     |nil=>intro l q a;simp[qO]
     |cons m ms g=>
      intro l q a;have hm:dK L q (dD L f (l,q) m).2:=NV T f [m] (l:=l) a;have j:(dD L f (l,q) m).1.length+2 * q.at_<=l.length+1+2 * (dD L f (l,q) m).2.at_:=by
       unfold dD;dsimp only;split
       .simp only;omega
       .have:=JT f l a;split
        .simp only;rw[(JG _ _ _).1];exact this
        .exact this
      have h3:=g (dD L f (l,q) m).1 (dD L f (l,q) m).2 hm.lt;have e:qO L f (m::ms) (l,q)=qO L f ms ((dD L f (l,q) m).1,(dD L f (l,q) m).2):=rfl;rw[e];simp only[List.length_cons];omega
    have h2:=d (fN (2+(bA L eF {p with at_:=p.at_+1}).1)) l (bA L eF {p with at_:=p.at_+1}).2 h1.lt;have h4:=NV T f (fN (2+(bA L eF {p with at_:=p.at_+1}).1)) (l:=l) h1.lt;have h5:=(gD T (str ")") h4.lt).le;have h6:(fN (2+(bA L eF {p with at_:=p.at_+1}).1)).length<=2:=by
     unfold fN
     repeat' split
     all_goals simp
    have h7:=h1.le;simp only at h7;unfold wO;simp only;omega
   split
   .have:=(nT T h).le;simp only;omega
   .have:=(xB T h).le;simp only;omega
  have c:=(kZ (L:=L) (decide (32<((gX L f l p).1.1++[(gX L f l p).1.2]).length)) (wP T f l h).lt).le;simp only[aL,List.length_singleton] at c ⊢;omega
end
theorem DT{L:List Tok}(T:Toks L)(f:Nat)(l:List No){p:PS}(h:p.at_<L.length):oY (gX L f l p).1.2:=by
 have h0:cS aY:=⟨by unfold aY bL;simp,by unfold aY bL;simp,Nat.zero_le _⟩;have h1:CI uX:=⟨by unfold uX bL;simp,Nat.zero_le _⟩;unfold gX;split
 .have h4:=nY (L:=L) eF {p with at_:=p.at_+1};have h5:eF.length=11:=rfl;unfold wO;exact⟨by unfold bL;show _<=2+(bA L _ _).1/\2+(bA L _ _).1<=_;omega,h0,h1⟩
 split
 .exact⟨by unfold bL;show _<=(2:Int)/\(2:Int)<=_;omega,h0,QF T h⟩
 .exact⟨by unfold bL;show _<=(1:Int)/\(1:Int)<=_;omega,LD T h,h1⟩
def Fr(g:Nat)(v:Value)(w w':World):Prop:=aN (fun b=>b≠g/\some b≠v.ownBlock) w w'
def kI(v v':Value)(w:World):Prop:=∀b,v'.ownBlock=some b->v.ownBlock=some b\/w.heap.size<=b
theorem Fr.refl(g:Nat)(v:Value)(w:World):Fr g v w w:=aN.refl _ _
theorem kI.refl(v:Value)(w:World):kI v v w:=fun b h=> .inl h
theorem Fr.size{g:Nat}{v:Value}{w w':World}(h:Fr g v w w'):w.heap.size<=w'.heap.size:=aN.size h
theorem Fr.trans{g:Nat}{v v1:Value}{w w1 w2:World}(h:Fr g v w w1)(o:kI v v1 w)(k:Fr g v1 w1 w2):Fr g v w w2:=
 ⟨k.os.trans h.os,k.tape.trans h.tape,k.output.trans h.output,lT (aN.size h) (aN.size k),fun b c a=>(aN.block k b (lL c (aN.size h)) ⟨a.1,fun e=>by
   rcases o b e.symm with h1|h1
   .exact a.2 h1.symm
   .omega⟩).trans (aN.block h b c a)⟩
theorem kI.trans{v v1 v2:Value}{w w1:World}(h:kI v v1 w)(k:kI v1 v2 w1)(c:w.heap.size<=w1.heap.size):kI v v2 w:=fun b a=>by
 rcases k b a with h1|h1
 .exact h b h1
 .exact .inr qo
theorem Fr.aD5{g:Nat}{v:Value}{w w1 w2:World}(h:Fr g v w w1)(k:aN (fun b=>b≠g) w1 w2):Fr g v w w2:=aN.trans h (k.mono fun _ _ h=>h.1)
theorem Fr.new{g:Nat}{v:Value}{w w1 w2:World}(h:Fr g v w w1)(k:Below w1.heap.size w1 w2):Fr g v w w2:=aN.trans h (aJ k)
theorem Fr.set{g:Nat}{v:Value}{w w1:World}(h:Fr g v w w1){b i:Nat}{u:Value}(e:w.heap.size<=b):Fr g v w (w1.setCell ⟨b,i,none⟩ u):=by
 have a:aN (fun b=>b≠g/\some b≠v.ownBlock) w w1:=h;exact⟨a.os,a.tape,a.output,by have:=a.size;simpa [World.setCell] using this,fun k c d=>(Below.heap_setCell _ _ _ _ (by simp only;omega)).trans (a.block k c d)⟩
theorem Fr.grown{α:Type}{R:Rep α}{s:Nat}{e:TypeId}{base:Nat}{ok:nP}{l:List α}{g:Nat}{v v1:Value}{w w1 w2:World}(h:Fr g v w w1)(o:kI v v1 w)(f:aM R s e w1 base ok v1 l)(a:w1.grownBy w2 v1.ownBlock):Fr g v w w2:=
 ⟨a.os.trans (aN.os h),a.tape.trans (aN.tape h),a.output.trans (aN.output h),lT (aN.size h) a.size,fun b c d=>(a.block b (lL c (aN.size h)) (fun e=>by
   rcases o b e.symm with h1|h1
   .exact d.2 h1.symm
   .omega)).trans (aN.block h b c d)⟩
theorem Fr.blk{g:Nat}{v:Value}{w w':World}{b:Nat}{o:Obj}(h:w.heap[b]? =some o)(k:Fr g v w w')(a:b≠g)(c:∀x,v.ownBlock=some x->x≠b):w'.heap[b]? =some o:=
 aF h k ⟨a,fun e=>c b e.symm rfl⟩
abbrev kJ(w:World)(B:Nat)(v:Value)(l:List No):Prop:=aM KJ 7 292 w B (fun _=>False) v l
theorem kJ.stays{w w':World}{B:Nat}{ok:nP}{v:Value}{l:List No}(h:kJ w B v l)(k:aN ok w w')(a:∀b,v.ownBlock=some b->ok b):kJ w' B v l:=by
 obtain⟨cs,h1,h2⟩:=h;exact⟨cs,lY h1 k a,h2.mono fun _ _ h=>h⟩
structure Qm (L:List Tok) (g B:Nat) (v:Value) (w:World) (l':List No) (p':PS) (v':Value) (w':World):Prop where
 row:kJ w' B v' l'
 pw:PW L w' g p'
 fr:Fr g v w w'
 own:kI v v' w
def aAb(L:List Tok)(g B:Nat)(v:Value)(w:World)(l':List No)(p':PS)(e:Ending)(w':World):Prop:=∃v',e=.returned v'/\Qm L g B v w l' p' v' w'
def AN(L:List Tok)(g B:Nat)(v:Value)(w:World)(l':List No)(b:Bool)(p':PS)(e:Ending)(w':World):Prop:=∃v',e=.returned (.tuple #[v',.bool b])/\Qm L g B v w l' p' v' w'
def Qn(L:List Tok)(g B:Nat)(v:Value)(w:World)(l':List No)(n:No)(p':PS)(e:Ending)(w':World):Prop:=∃v',e=.returned (.tuple #[v',jS n])/\Qm L g B v w l' p' v' w'
structure xM (L:List Tok) (f:Nat) (g B:Nat) (v:Value) (w:World) (l:List No) (p:PS):Prop where
 fuel:L.length<=f+p.at_
 at_:p.at_<L.length
 len:l.length<=10+2 * p.at_
 low:g<B
 base:B<=w.heap.size
 pw:PW L w g p
 row:kJ w B v l
def FP(L:List Tok)(f:Nat):Prop:=∀l p g B v w,xM L f g B v w l p->
 Calls prog 246 #[.pointer (some ⟨g,0,none⟩),v] w (AN L g B v w (fB L f l p).1.1 (fB L f l p).1.2 (fB L f l p).2)
def iH(L:List Tok)(f:Nat)(l:List No)(must:Bool)(p:PS):List No×PS:=
 ((fB L f l p).1.1,if (fB L f l p).1.2≠must then eU 5 (aU L p).at_ (fB L f l p).2 else (fB L f l p).2)
theorem LF{L:List Tok}{f:Nat}(T:Toks L)(z:FP L f)(l:List No)(must:Bool)(p:PS)(g B:Nat)(v:Value)(w:World)(h:xM L f g B v w l p):
 Calls prog 221 #[.pointer (some ⟨g,0,none⟩),v,.bool must] w (aAb L g B v w (iH L f l must p).1 (iH L f l must p).2):=by
 have G:=T.len;obtain⟨a,j,C⟩:=aZ h (gO h.at_ G g w h.pw) z;unfold aAb iH;unfold iD at j;dsimp only;clear z h;have y:=TQ (aU L p).aDN (aU L p).at_ (aU L p).num (aU L p).str;have n:=aA (C.o l p g B v);generalize fB L f l p=r at *;generalize aU L p=t at *;by_cases hm:r.1.2=must
 .rw[iN (fun h=>h hm)];have I:(!(r.1.2==must))=false:=by rw[hm];simp
  clear hm;go_enter func221,ntmps221;go_wp2_with fail;refine j.o.mono ?_;rintro e w1 ⟨rfl,c⟩;have k:Hid (xM L f g B v w1 l p):=aA ⟨a.o.fuel,a.o.at_,a.o.len,a.o.low,lT a.o.base c.size,a.o.pw.on c,a.o.row.stays (aJ c (ok:=fun _=>True)) (fun _ _=>trivial)⟩;have i:=aA c;clear c j;go_wp2_with fail;refine(n.o w1 k.o).mono ?_;rintro e w2 ⟨v',rfl,m⟩;have d:=aA m;clear m n k y;have o:Hid (Fr g v w w2):=aA (((Fr.refl g v w).new i.o).trans (kI.refl v w) d.o.fr);have q:Hid (kI v v' w):=aA (kI.trans (kI.refl v w) d.o.own i.o.size);go_wp2;go_ret;exact⟨v',rfl,⟨d.o.row,d.o.pw,o.o,q.o⟩⟩
 .rw[iP hm];have I:(!(r.1.2==must))=true:=by simpa using hm
  clear hm;go_enter func221,ntmps221;go_wp2_with fail;refine j.o.mono ?_;rintro e w1 ⟨rfl,c⟩;have k:Hid (xM L f g B v w1 l p):=aA ⟨a.o.fuel,a.o.at_,a.o.len,a.o.low,lT a.o.base c.size,a.o.pw.on c,a.o.row.stays (aJ c (ok:=fun _=>True)) (fun _ _=>trivial)⟩;have i:=aA c;clear c j;go_wp2_with fail;refine(n.o w1 k.o).mono ?_;rintro e w2 ⟨v',rfl,m⟩;have d:=aA m;clear m n k y;have o:Hid (Fr g v w w2):=aA (((Fr.refl g v w).new i.o).trans (kI.refl v w) d.o.fr);have q:Hid (kI v v' w):=aA (kI.trans (kI.refl v w) d.o.own i.o.size);have x:=aA (uG 5 t.at_ g w2 d.o.pw);go_wp2_with fail;refine x.o.mono ?_;rintro e J ⟨rfl,A,s⟩;have E:=aA A;have D:=aA (o.o.aD5 s);have F:=aA (d.o.row.stays s (fun b H=>by have h1:=(aM.lt d.o.row b H).1;have h2:=a.o.low;show b≠g;omega));clear A s x;go_wp2;go_ret;exact⟨v',rfl,⟨F.o,E.o,D.o,q.o⟩⟩
end Go.Proofs.YthcgdgkpgdjahaaGreatDoor
