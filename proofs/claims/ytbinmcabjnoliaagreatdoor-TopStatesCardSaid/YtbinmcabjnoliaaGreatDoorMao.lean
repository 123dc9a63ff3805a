/- Lemmas. -/
import Derived.Test.YtbinmcabjnoliaaGreatDoorMan
namespace Go.Proofs.YtbinmcabjnoliaaGreatDoor
open Go.RowKit
set_option linter.unusedVariables false
set_option linter.unusedSimpArgs false
set_option maxHeartbeats 16000000
open _root_.Go.Proofs.Tryz
set_option maxRecDepth 20000
theorem QCY{p:Prop}(h:p:=by
 repeat (refine Below.setCell ?_ (by first|exact lR _|exact Nat.le_succ _) _)
 exact HBF.o):p:=h
theorem Sg{p:Prop}(h:p:=by
 exact⟨0,0,none,0,Nat.zero_le _,rfl,rfl,aA rfl,aA aM.nil,aA (Below.refl _ _)⟩):p:=h
def iK{α:Type}(R:Rep α)(L:List Tok)(g:Nat)(w:World)(l:List α)(p':PS)(e:Ending)(w':World):Prop:=
 ∃v,e=.returned v/\aH R w' (fun b=>w.heap.size<=b) v l/\PW L w' g p'/\aN (fun b=>b≠g) w w'
structure yO {α:Type} (R:Rep α) (s:Nat) (e:TypeId) (L:List Tok) (one:PS->α×PS) (sep:ByteArray) (g:Nat) (w:World) (res:List α×PS) (f:Nat) (v:Value) (wr:World) (l:List α) (q:PS):Prop where
 res:jS L one sep f l q=res
 at_:q.at_<L.length
 fuel:L.length<=f+q.at_
 len:l.length<=q.at_+1
 row:aM R s e wr w.heap.size (fun b=>w.heap.size<=b) v l
 pw:PW L wr g q
 aC0:cX w.heap.size g w wr
def RU{α:Type}(R:Rep α)(s:Nat)(e:TypeId)(L:List Tok)(one:PS->α×PS)(sep:bY)(g:Nat)(w:World)(res:List α×PS)(f:Nat)(v:Value)(wr:World):Prop:=
 ∃(l:List α) (q:PS) (A:oD) (c:Nat),v=.slice A l.length c/\Hid (yO R s e L one sep g w res f v wr l q)
section
variable {α:Type} {R:Rep α} {s:Nat} {e:TypeId} {L:List Tok} {one:PS->α×PS} {sep:bY} {g:Nat} {w:World} {res:List α×PS} {f:Nat} {v:Value} {wr:World} {l:List α} {q:PS}
theorem yO.stop(h:yO R s e L one sep g w res f v wr l q)(a:cL L sep q=false):res=(l,q):=by
 have h1:=h.res
 cases f with
 |zero=>exact h1.symm
 |succ f=>unfold jS at h1;rw[iN (by rw[a];decide)] at h1;exact h1.symm
theorem yO.next(h:yO R s e L one sep g w res f v wr l q)(b:cL L sep q=true):∃a,f=a+1/\jS L one sep a (l++[(one {q with at_:=q.at_+1}).1]) (cR L (decide (8<(l++[(one {q with at_:=q.at_+1}).1]).length)) (one {q with at_:=q.at_+1}).2)=res:=by
 have h1:=h.res;have h2:=h.fuel;have h3:=h.at_;obtain⟨a,rfl⟩:∃a,f=a+1:=⟨f - 1,qo⟩;refine⟨a,rfl,?_⟩;unfold jS at h1;rw[iP b] at h1;exact h1
end
theorem aM.aC8{α:Type}{R:Rep α}{s:Nat}{e:TypeId}{w wr w2:World}{v:Value}{l:List α}{g:Nat}(F:Firm R s)(h:aM R s e wr w.heap.size (fun b=>w.heap.size<=b) v l)(k:aN (fun b=>b≠g) wr w2)(c:g<w.heap.size):aM R s e w2 w.heap.size (fun b=>w.heap.size<=b) v l:=
 h.aC0 F k (fun b a _=>by have:w.heap.size<=b:=a;show b≠g;omega) (fun b a _=>by show b≠g;omega)
theorem PW.grown{α:Type}{R:Rep α}{s:Nat}{e:TypeId}{w w':World}{base:Nat}{ok:nP}{v:Value}{l:List α}{L:List Tok}{g:Nat}{p:PS}(h:PW L w g p)(a:aM R s e w base ok v l)(c:w.grownBy w' v.ownBlock)(d:g<base):PW L w' g p:=
 h.aC0 (cW c) (fun b f e=>qA ((a.lt b e.symm).1))
theorem cX.grown{α:Type}{R:Rep α}{s:Nat}{e:TypeId}{a w w':World}{base B:Nat}{ok:nP}{v:Value}{l:List α}{g:Nat}(h:cX B g a w)(b:aM R s e w base ok v l)(c:w.grownBy w' v.ownBlock)(d:B<=base):cX B g a w':=
 aN.trans h ((cW c).mono fun k f h e=>qD ((b.lt k e.symm).1) h.1)
theorem cX.size{B g:Nat}{a w:World}(h:cX B g a w):a.heap.size<=w.heap.size:=aN.size h
theorem MQ(a b:Nat):decide ((a:Int)<(b:Int))=decide (a<b):=decide_eq_decide.2 qo
theorem Xw:dV prog 311 281 7 72:=fQ (z:= .agg #[.int .i64 0,.string ByteArray.empty,.bool false,.int .i64 0,.int .i64 0,.int .i64 0,.string ByteArray.empty]) underlying311 (by kernel_rfl) rfl qe
theorem Xx:dV prog 264 311 1 24:=fQ (z:= .slice none 0 0) underlying264 (by kernel_rfl) rfl qe
theorem Sh:dV prog 33 264 1 24:=fQ (z:= .slice none 0 0) underlying33 (by kernel_rfl) rfl qe
abbrev kG(p:Po)(a:oD)(b:Nat)(c:oD)(d:Nat)(e:oD)(f:Nat)(g:oD)(i:Nat):Array Value:=#[.string p.id,.bool p.set,.int .i64 p.alg,.slice a p.aC1.length b,.slice c p.aCT.length d,.slice e p.aC5.length f,.slice g p.aC7.length i]
abbrev vZ:Array Value:=#[.string ⟨#[]⟩,.bool false,.int .i64 0,.slice none 0 0,.slice none 0 0,.slice none 0 0,.slice none 0 0]
theorem Si{p:Prop}(h:p:=by
 clear h_ k_ HLM2 HG4 HP4 HK4;rw[show (8:Int)=((8:Nat):Int) from rfl,MQ] at HP;rw[<-hl'.o] at HS;have hl2:l'.length=l.length+1:=by rw[hl'.o,aL,List.length_singleton]
 have HL2:=aA hl2;have hq3:=(kP (L:=L) (decide (8<l'.length)) hq2);have hq4:=hq3.le;have HQ3:=aA hq3;clear hl2 hq3;go_wp2;go_roundg f'
 case measure=>rw[HF.o];omega
 case rel=>exact⟨l',_,A',c',rfl,aA ⟨HS.o,HQ3.o.lt,qA HF.o,qA HL2.o,HG.o,HP.o,HK.o⟩⟩):p:=h
theorem Ny{L:List Tok}{p:PS}(T:Toks L)(hp:p.at_<L.length)(g:Nat)(w:World)(h:PW L w g p):
 Calls prog 222 #[.pointer (some ⟨g,0,none⟩)] w (iK rM L g w (iZ L p).1 (iZ L p).2):=by
 have U:=T.len;have k:=h.lt;have HP:=aA h;have x:=aA (fun (q:PS) (d:q.at_<L.length) w h=>Hn T d g w h);have K:=aA (fun (q:PS) (d:q.at_<L.length) w h=>eM T (str ",") d g w h);have S:=aA (fun b (q:PS) (d:q.at_<L.length) w h=>kQ b d U g w h);have o:=aA (fun (q:PS) (d:q.at_<L.length)=>BY T d);have t:=aA (fun (q:PS) (d:q.at_<L.length)=>Ci T d);obtain⟨res,D⟩:=xE (iZ L p);have J:Hid (jS L (eC L) (str ",") L.length [(eC L p).1] (eC L p).2=res):=aA (by rw[D];rfl);rw[<-D];obtain⟨y,H,F⟩:=aY (x.o p hp) (o.o p hp) (t.o p hp);have Y:=aA (fun q=>(rfl:cL L (str ",") q=cL L (str ",") q));unfold iK;unfold kL at y;clear h D;generalize eC L p=Q at *;have HK:=aA (cX.refl w.heap.size g w);go_enter func222,ntmps222;go_wp2_with fail;refine(y.o _ HP.o).mono ?_;rintro e w1 ⟨rfl,h_,k_⟩;have HK:=aA (HK.o.aC8 k_);have HP:=aA h_;have X:w.heap.size<=w1.heap.size:=k_.size;clear h_ k_ y;go_wp2;go_loopg [3] L.length (fun f v wr=>RU rM 7 281 L (eC L) (str ",") g w res f v wr)
 case atStart=>exact⟨[Q.1],Q.2,_,_,rfl,aA ⟨J.o,H.o.lt,qo,qs,aM.one eQ (aK _ _ _ rfl) X ⟨rfl,F.o⟩,HP.o.alloc,HK.o.alloc⟩⟩
 case round=>
  clear J HP HK H F;obtain⟨l,q,A,c,rfl,a⟩:=hrel;have d:=a.o.at_;have j:=aA (K.o q d wr a.o.pw);have hlen:l.length<=5000:=qA a.o.len
  cases i:cL L (str ",") q
  .rw[jW i,ZK] at j;have HS:=aA (a.o.stop i);clear i;go_wp2_with fail;refine j.o.mono ?_;rintro e w2 ⟨rfl,h_,k_⟩;obtain⟨HP,HK,HG⟩:=aY h_ (a.o.aC0.aC8 k_) (a.o.row.aC8 eQ k_ k);clear h_ k_ j;go_wp2;go_ret;refine⟨_,rfl,?_,?_,HK.o.end⟩
   .rw[HS.o];exact HG.o.sl qo _ (fun b B _=>B) (fun b B _=>B) eQ
   .rw[HS.o];exact HP.o
  .rw[mF i,ZK] at j;obtain⟨f',O,P⟩:=a.o.next i;have HF:=aA O;have HS:=aA P;have m:=(fP T d i).lt;have z:=aA (x.o _ m);have hq2:=(o.o _ m).lt;have V:=(o.o _ m).le;have Z:=a.o.fuel;have hle:=a.o.len;have R:=aA (t.o _ m);simp only at V m;unfold kL at z;clear i O P x o t K;generalize eC L {q with at_:=q.at_+1}=E at *;go_wp2_with fail;refine j.o.mono ?_;rintro e w2 ⟨rfl,h_,k_⟩;obtain⟨HP,HK,HG⟩:=aY h_ (a.o.aC0.aC8 k_) (a.o.row.aC8 eQ k_ k);clear h_ k_ j a;go_wp2_with fail;refine(z.o _ HP.o).mono ?_;rintro e s ⟨rfl,h_,k_⟩;obtain⟨HP,HK,HG⟩:=aY h_ (HK.o.aC8 k_) (HG.o.aC8 eQ k_ k);clear h_ k_ z;have aa:w.heap.size<=s.heap.size:=HK.o.size;have r:=aA (aB s (.cells (JV E.1) 281));have M:=aA (heap_alloc_new s (.cells (JV E.1) 281));obtain⟨n,I,G⟩:=aY (HG.o.on eQ r.o) (HP.o.on r.o) (HK.o.new r.o);go_wp2_with (at_builtin;refine cC Xw eQ rfl (.tmp 9) (.tmp 12) rfl _ l rfl n.o s.heap.size 1 _ _ _ E.1 rfl M.o ⟨rfl,R.o⟩ qo qo (by rw[World.size_alloc];omega) ?_;intro l' hl' A' c' w4 N C W;have HG4:=aA N;have HP4:=aA (I.o.grown n.o C k);have HK4:=aA (G.o.grown n.o C (lR _));clear N C W HG HP HK r M n I G)
   have HLM2:=aA (S.o (decide ((8:Int)<(l'.length:Int))) _ hq2 _ HP4.o);refine HLM2.o.mono ?_;rintro e w5 ⟨rfl,h_,k_⟩;obtain⟨HP,HK,HG⟩:=aY h_ (HK4.o.aC8 k_) (HG4.o.aC8 eQ k_ k);exact Si
theorem Nz{L:List Tok}{p:PS}(T:Toks L)(hp:p.at_<L.length)(g:Nat)(w:World)(h:PW L w g p):
 Calls prog 181 #[.pointer (some ⟨g,0,none⟩)] w (iK (rows rM) L g w (mB L p).1 (mB L p).2):=by
 have hL:=T.len;have o:=h.lt;have HP:=aA h;have G:=aA (fun (q:PS) (a:q.at_<L.length) w h=>Ny T a g w h);have X:=aA (fun (q:PS) (a:q.at_<L.length) w h=>eM T (str "or") a g w h);have ad:=aA (fun b (q:PS) (a:q.at_<L.length) w h=>kQ b a hL g w h);have B:=aA (fun (q:PS) (a:q.at_<L.length)=>MG T a);have O:=aA (fZ T (str "(") hp);have Q:=aA (fun w h=>mE T (str "(") hp g w h);have ae:=aA (fun (q:PS) (a:q.at_<L.length) w h=>mE T (str ")") a g w h);unfold mB;dsimp only;generalize eH L (str "(") p=m at *;rw[JQ] at Q;obtain⟨res,K⟩:=xE (jS L (iZ L) (str "or") L.length [(iZ L m).1] (iZ L m).2);have S:Hid (jS L (iZ L) (str "or") L.length [(iZ L m).1] (iZ L m).2=res):=aA K.symm;rw[<-K];have H:=aA (G.o m O.o.lt);have P:=aA (B.o m O.o.lt);unfold iK;unfold iK at H;clear h K;generalize iZ L m=M at *;have HK:=aA (cX.refl w.heap.size g w);go_enter func181,ntmps181;go_wp2_with fail;refine(Q.o _ HP.o).mono ?_;rintro e w0 ⟨rfl,h_,k_⟩;have HK:=aA (HK.o.aC8 k_);have HP:=aA h_;have ak:w.heap.size<=w0.heap.size:=k_.size;clear h_ k_;go_wp2_with fail;refine(H.o _ HP.o).mono ?_;rintro e w1 ⟨v,rfl,k,h_,k_⟩;obtain⟨x,y,rfl,ah⟩:=k.slice;have HK:=aA (HK.o.aC8 k_);have HP:=aA h_;have ai:w.heap.size<=w1.heap.size:=HK.o.size;have U:=aA k;clear k h_ k_ H;go_wp2;go_loopg [3] L.length (fun f v wr=>RU (rows rM) 1 311 L (iZ L) (str "or") g w res f v wr)
 case atStart=>
  have t:=aB w1 (.cells #[.slice x M.1.length y] 311);exact⟨[M.1],M.2,_,_,rfl,aA ⟨S.o,P.o.lt,qo,qs,aM.one dN (aK _ _ _ rfl) ai ⟨_,rfl,aH.more eQ ((aH.inb eQ U.o).on eQ t) (fun b i=>⟨by have:w0.heap.size<=b:=i.1;show w.heap.size<=b;omega,by have:=i.2;rw[World.size_alloc];omega,qA i.2⟩)⟩,HP.o.alloc,HK.o.alloc⟩⟩
 case round=>
  clear S HP HK P U;obtain⟨l,q,A,c,rfl,d⟩:=hrel;have a:=d.o.at_;have n:=aA (X.o q a wr d.o.pw);have hlen:l.length<=5000:=qA d.o.len
  cases j:cL L (str "or") q
  .rw[jW j,Xe] at n;have HS:=aA (d.o.stop j);have E:=aA (ae.o q a);rw[JR] at E;clear j;go_wp2_with fail;refine n.o.mono ?_;rintro e w2 ⟨rfl,h_,k_⟩;obtain⟨HP,HK,HG⟩:=aY h_ (d.o.aC0.aC8 k_) (d.o.row.aC8 dN k_ o);clear h_ k_ n;go_wp2_with fail;refine(E.o _ HP.o).mono ?_;rintro e r ⟨rfl,h_,k_⟩;obtain⟨HP,HK,HG⟩:=aY h_ (HK.o.aC8 k_) (HG.o.aC8 dN k_ o);clear h_ k_ E;go_wp2;go_ret;refine⟨_,rfl,?_,?_,HK.o.end⟩
   .rw[HS.o];exact HG.o.sl qo _ (fun b t _=>t) (fun b t _=>t) dN
   .rw[HS.o,JR];exact HP.o
  .rw[mF j,Xe] at n;obtain⟨f',aa,ab⟩:=d.o.next j;have HF:=aA aa;have HS:=aA ab;have C:=(fP T a j).lt;have I:=aA (G.o _ C);have hq2:=(B.o _ C).lt;have af:=(B.o _ C).le;have aj:=d.o.fuel;have hle:=d.o.len;simp only at af C;unfold iK at I;clear j aa ab G B X;generalize iZ L {q with at_:=q.at_+1}=D at *;go_wp2_with fail;refine n.o.mono ?_;rintro e w2 ⟨rfl,h_,k_⟩;obtain⟨HP,HK,F⟩:=aY h_ (d.o.aC0.aC8 k_) (d.o.row.aC8 dN k_ o);have al:w.heap.size<=w2.heap.size:=HK.o.size;clear h_ k_ n d;go_wp2_with fail;refine(I.o _ HP.o).mono ?_;rintro e r ⟨v,rfl,k,h_,k_⟩;obtain⟨x,y,rfl,ah⟩:=k.slice;obtain⟨HP,HK,HG,V⟩:=dG h_ (HK.o.aC8 k_) (F.o.aC8 dN k_ o) k;clear k h_ k_ I;have an:w.heap.size<=r.heap.size:=HK.o.size;have s:=aA (aB r (.cells #[.slice x D.1.length y] 311));have Y:=aA (heap_alloc_new r (.cells #[.slice x D.1.length y] 311));obtain⟨z,R,N⟩:=aY (HG.o.on dN s.o) (HP.o.on s.o) (HK.o.new s.o);have W:=aA (aH.more eQ ((aH.inb eQ V.o).on eQ s.o) (ok':=fun b=>w.heap.size<=b/\b<(r.alloc (.cells #[.slice x D.1.length y] 311)).heap.size/\some b≠(Value.slice A l.length c).ownBlock) (fun b i=>⟨by have:w2.heap.size<=b:=i.1;omega,by have:=i.2;rw[World.size_alloc];omega,fun e=>by have h1:=(F.o.lt b e.symm).2;have:w2.heap.size<=b:=i.1;omega⟩));go_wp2_with (at_builtin;refine cC Xx dN rfl (.tmp 11) (.tmp 14) rfl _ l rfl z.o r.heap.size 1 _ _ _ D.1 rfl Y.o ⟨_,rfl,W.o⟩ qo qo (by rw[World.size_alloc];omega) ?_;intro l' hl' A' c' w4 Z J ag;have HG4:=aA Z;have HP4:=aA (R.o.grown z.o J o);have HK4:=aA (N.o.grown z.o J (lR _));clear Z J ag HG HP HK s Y z R N W V F)
   have HLM2:=aA (ad.o (decide ((8:Int)<(l'.length:Int))) _ hq2 _ HP4.o);refine HLM2.o.mono ?_;rintro e w5 ⟨rfl,h_,k_⟩;obtain⟨HP,HK,HG⟩:=aY h_ (HK4.o.aC8 k_) (HG4.o.aC8 dN k_ o);exact Si
theorem tM{L:List Tok}{p:PS}(T:Toks L)(hp:p.at_<L.length)(g:Nat)(w:World)(h:PW L w g p):
 Calls prog 137 #[.pointer (some ⟨g,0,none⟩)] w (iK (rows (rows rM)) L g w (bV L p).1 (bV L p).2):=by
 have hL:=T.len;have x:=h.lt;have HP:=aA h;have I:=aA (fun (q:PS) (d:q.at_<L.length) w h=>Nz T d g w h);have X:=aA (fun (q:PS) (d:q.at_<L.length) w h=>eM T (str "and") d g w h);have ad:=aA (fun b (q:PS) (d:q.at_<L.length) w h=>kQ b d hL g w h);have D:=aA (fun (q:PS) (d:q.at_<L.length)=>MH T d);have r:=aA (fun w h=>eM T (str "when") hp g w h)
 cases n:cL L (str "when") p
 .rw[jW n,Gq] at r;have e:bV L p=([],p):=by unfold bV;rw[iN (by rw[n];decide)]
  rw[e];unfold iK;clear h e n;go_enter func137,ntmps137;go_wp2_with fail;refine(r.o _ HP.o).mono ?_;rintro e w1 ⟨rfl,h_,k_⟩;have HP:=aA h_;have HK:=aA k_;clear h_ k_;go_wp2;go_ret;exact⟨_,rfl,aH.nil,HP.o,HK.o⟩
 rw[mF n,Gq] at r;have H:=aA (fP T hp n);have e:bV L p=jS L (mB L) (str "and") L.length [(mB L {p with at_:=p.at_+1}).1] (mB L {p with at_:=p.at_+1}).2:=by unfold bV;rw[iP n]
 rw[e];clear e n;obtain⟨i,ag⟩:∃i,i=({p with at_:=p.at_+1}:PS):=⟨_,rfl⟩;rw[<-ag] at r H ⊢;obtain⟨res,N⟩:=xE (jS L (mB L) (str "and") L.length [(mB L i).1] (mB L i).2);have S:Hid (jS L (mB L) (str "and") L.length [(mB L i).1] (mB L i).2=res):=aA N.symm;rw[<-N];have J:=aA (I.o i H.o.lt);have Q:=aA (D.o i H.o.lt);unfold iK;unfold iK at J;clear h N;generalize mB L i=O at *;have HK:=aA (cX.refl w.heap.size g w);go_enter func137,ntmps137;go_wp2_with fail;refine(r.o _ HP.o).mono ?_;rintro e w0 ⟨rfl,h_,k_⟩;have HK:=aA (HK.o.aC8 k_);have HP:=aA h_;have ak:w.heap.size<=w0.heap.size:=k_.size;clear h_ k_;go_wp2_with fail;refine(J.o _ HP.o).mono ?_;rintro e w1 ⟨v,rfl,m,h_,k_⟩;obtain⟨z,B,rfl,ah⟩:=m.slice;have HK:=aA (HK.o.aC8 k_);have HP:=aA h_;have ai:w.heap.size<=w1.heap.size:=HK.o.size;have U:=aA m;clear m h_ k_ J;go_wp2;go_loopg [3] L.length (fun f v wr=>RU (rows (rows rM)) 1 264 L (mB L) (str "and") g w res f v wr)
 case atStart=>
  have t:=aB w1 (.cells #[.slice z O.1.length B] 264);exact⟨[O.1],O.2,_,_,rfl,aA ⟨S.o,Q.o.lt,qo,qs,aM.one aS (aK _ _ _ rfl) ai ⟨_,rfl,aH.more dN ((aH.inb dN U.o).on dN t) (fun b j=>⟨by have:w0.heap.size<=b:=j.1;show w.heap.size<=b;omega,by have:=j.2;rw[World.size_alloc];omega,qA j.2⟩)⟩,HP.o.alloc,HK.o.alloc⟩⟩
 case round=>
  clear S HP HK Q U;obtain⟨l,q,A,c,rfl,a⟩:=hrel;have d:=a.o.at_;have o:=aA (X.o q d wr a.o.pw);have hlen:l.length<=5000:=qA a.o.len
  cases k:cL L (str "and") q
  .rw[jW k,Rn] at o;have HS:=aA (a.o.stop k);clear k;go_wp2_with fail;refine o.o.mono ?_;rintro e w2 ⟨rfl,h_,k_⟩;obtain⟨HP,HK,HG⟩:=aY h_ (a.o.aC0.aC8 k_) (a.o.row.aC8 aS k_ x);clear h_ k_ o;go_wp2;go_ret;refine⟨_,rfl,?_,?_,HK.o.end⟩
   .rw[HS.o];exact HG.o.sl qo _ (fun b t _=>t) (fun b t _=>t) aS
   .rw[HS.o];exact HP.o
  .rw[mF k,Rn] at o;obtain⟨f',aa,ab⟩:=a.o.next k;have HF:=aA aa;have HS:=aA ab;have E:=(fP T d k).lt;have K:=aA (I.o _ E);have hq2:=(D.o _ E).lt;have ae:=(D.o _ E).le;have aj:=a.o.fuel;have hle:=a.o.len;simp only at ae E;unfold iK at K;clear k aa ab I D X;generalize mB L {q with at_:=q.at_+1}=F at *;go_wp2_with fail;refine o.o.mono ?_;rintro e w2 ⟨rfl,h_,k_⟩;obtain⟨HP,HK,G⟩:=aY h_ (a.o.aC0.aC8 k_) (a.o.row.aC8 aS k_ x);have al:w.heap.size<=w2.heap.size:=HK.o.size;clear h_ k_ o a;go_wp2_with fail;refine(K.o _ HP.o).mono ?_;rintro e y ⟨v,rfl,m,h_,k_⟩;obtain⟨z,B,rfl,ah⟩:=m.slice;obtain⟨HP,HK,HG,V⟩:=dG h_ (HK.o.aC8 k_) (G.o.aC8 aS k_ x) m;clear m h_ k_ K;have an:w.heap.size<=y.heap.size:=HK.o.size;have s:=aA (aB y (.cells #[.slice z F.1.length B] 264));have Y:=aA (heap_alloc_new y (.cells #[.slice z F.1.length B] 264));obtain⟨C,R,P⟩:=aY (HG.o.on aS s.o) (HP.o.on s.o) (HK.o.new s.o);have W:=aA (aH.more dN ((aH.inb dN V.o).on dN s.o) (ok':=fun b=>w.heap.size<=b/\b<(y.alloc (.cells #[.slice z F.1.length B] 264)).heap.size/\some b≠(Value.slice A l.length c).ownBlock) (fun b j=>⟨by have:w2.heap.size<=b:=j.1;omega,by have:=j.2;rw[World.size_alloc];omega,fun e=>by have h1:=(G.o.lt b e.symm).2;have:w2.heap.size<=b:=j.1;omega⟩));go_wp2_with (at_builtin;refine cC Sh aS rfl (.tmp 12) (.tmp 15) rfl _ l rfl C.o y.heap.size 1 _ _ _ F.1 rfl Y.o ⟨_,rfl,W.o⟩ qo qo (by rw[World.size_alloc];omega) ?_;intro l' hl' A' c' w4 Z M af;have HG4:=aA Z;have HP4:=aA (R.o.grown C.o M x);have HK4:=aA (P.o.grown C.o M (lR _));clear Z M af HG HP HK s Y C R P W V G)
   have HLM2:=aA (ad.o (decide ((8:Int)<(l'.length:Int))) _ hq2 _ HP4.o);refine HLM2.o.mono ?_;rintro e w5 ⟨rfl,h_,k_⟩;obtain⟨HP,HK,HG⟩:=aY h_ (HK4.o.aC8 k_) (HG4.o.aC8 aS k_ x);exact Si
theorem cX.join{B g:Nat}{a w w':World}(h:cX B g a w)(k:cX w.heap.size g w w')(c:B<=w.heap.size):cX B g a w':=aN.trans h (aN.mono k fun x b h=>⟨b,h.2⟩)
theorem aM.aD8{α:Type}{R:Rep α}{s:Nat}{e:TypeId}{w wr w2:World}{v:Value}{l:List α}{g:Nat}(F:Firm R s)(h:aM R s e wr w.heap.size (fun b=>w.heap.size<=b) v l)(k:cX wr.heap.size g wr w2)(d:g<w.heap.size):aM R s e w2 w.heap.size (fun b=>w.heap.size<=b) v l:=
 h.aC0 F k (fun b c a=>⟨a,by have:w.heap.size<=b:=c;omega⟩) (fun b c a=>⟨a,qo⟩)
theorem aCv:dV prog 36 194 3 32:=fQ (z:= .agg #[.int .i64 0,.int .i64 0,.string ByteArray.empty]) underlying36 (by kernel_rfl) rfl qe
theorem uZ{L:List Tok}{p:PS}(T:Toks L)(hp:p.at_<L.length)(g:Nat)(w:World)(h:PW L w g p):
 Calls prog 141 #[.pointer (some ⟨g,0,none⟩)] w (iK jU L g w (gL L p).1 (gL L p).2):=by
 have hL:=T.len;have D:=h.lt;have HP:=aA h;have ae:=aA (fun (q:PS) (i:q.at_<L.length) w h=>eM T (str "on") i g w h);have aj:=aA (fun b (q:PS) (i:q.at_<L.length) w h=>kQ b i hL g w h);have r:=aA (fun (q:PS) (i:q.at_<L.length) a c w h hw=>nB T [str "permit",str "deny"] a c 2 rfl qe i g w h hw);have s:=aA (fun (q:PS) (i:q.at_<L.length) a c w h hw=>nB T [str "log",str "redact",str "review",str "notify"] a c 4 rfl qe i g w h hw);have I:=aA (fun (q:PS) (i:q.at_<L.length) w h=>rB T i g w h);obtain⟨res,X⟩:=xE (gL L p);have ad:Hid (jS L (tJ L) (str "on") L.length [] p=res):=aA (by rw[X];rfl);rw[<-X];unfold iK;clear h X;have HK:=aA (cX.refl w.heap.size g w);go_enter func141,ntmps141;go_wp2;go_loopg [3] L.length (fun f v wr=>RU jU 3 194 L (tJ L) (str "on") g w res f v wr)
 case atStart=>exact⟨[],p,none,0,rfl,aA ⟨ad.o,hp,qo,qs,aM.nil,HP.o,HK.o⟩⟩
 case round=>
  clear ad HP HK;obtain⟨l,q,A,c,rfl,d⟩:=hrel;have i:=d.o.at_;have n:=aA (ae.o q i wr d.o.pw);have hlen:l.length<=5000:=qA d.o.len
  cases m:cL L (str "on") q
  .rw[jW m,Xf] at n;have HS:=aA (d.o.stop m);clear m;go_wp2_with fail;refine n.o.mono ?_;rintro e w2 ⟨rfl,h_,k_⟩;obtain⟨HP,HK,HG⟩:=aY h_ (d.o.aC0.aC8 k_) (d.o.row.aC8 aP k_ D);clear h_ k_ n;go_wp2;go_ret;refine⟨_,rfl,?_,?_,HK.o.end⟩
   .rw[HS.o];exact HG.o.sl qo _ (fun b S _=>S) (fun b S _=>S) aP
   .rw[HS.o];exact HP.o
  .rw[mF m,Xf] at n;obtain⟨f',ah,ai⟩:=d.o.next m;have HF:=aA ah;have HS:=aA ai;have o:=(fP T i m).lt;have V:=dQ T [str "permit",str "deny"] o;have W:=dQ T [str "log",str "redact",str "review",str "notify"] V.lt;have al:=jD T W.lt;obtain⟨r,s,I⟩:=aY (r.o _ o) (s.o _ V.lt) (I.o _ W.lt);have hq2:=(IL T o).lt;have R:=(IL T o).le;have aq:=d.o.fuel;have hle:=d.o.len;have N:=aA (Ho T o);simp only at R o;clear m ah ai ae V W al;have HD:Hid (tJ L {q with at_:=q.at_+1}=(⟨(aZ L [str "permit",str "deny"] {q with at_:=q.at_+1}).1,(aZ L [str "log",str "redact",str "review",str "notify"] (aZ L [str "permit",str "deny"] {q with at_:=q.at_+1}).2).1,(bU L (aZ L [str "log",str "redact",str "review",str "notify"] (aZ L [str "permit",str "deny"] {q with at_:=q.at_+1}).2).2).1⟩,(bU L (aZ L [str "log",str "redact",str "review",str "notify"] (aZ L [str "permit",str "deny"] {q with at_:=q.at_+1}).2).2).2)):=aA rfl;generalize aZ L [str "permit",str "deny"] {q with at_:=q.at_+1}=J at *;generalize aZ L [str "log",str "redact",str "review",str "notify"] J.2=K at *;generalize bU L K.2=F at *;rw[HD.o] at HS N hq2 R;clear HD;rw[IP,SS] at r;rw[Zr,Nh,Ni,Nj] at s;simp only at hq2 R N;go_wp2_with fail;refine n.o.mono ?_;rintro e w2 ⟨rfl,h_,k_⟩;obtain⟨HP,O,aa⟩:=aY h_ (d.o.aC0.aC8 k_) (d.o.row.aC8 aP k_ D);have an:w.heap.size<=w2.heap.size:=O.o.size;have ar:=HP.o.lt;have HK:=aA (cX.refl w2.heap.size g w2);clear h_ k_ n d;go_wp2_with fail;refine(r.o _ _ _ (HP.o.alloc.alloc) (nC _ _ _ _ _ qs rfl)).mono ?_;rintro e Y ⟨rfl,h_,k_⟩
   obtain⟨j,k,HK,HP⟩:=dG (aF (aE (aK _ _ _ qs) (aB _ _)) k_ qo:Y.heap[w2.heap.size]? =some (.cells fV 194 (0,0))) (aF (aK _ _ _ qs) k_ qo:Y.heap[w2.heap.size+1]? =some (.cells #[.string ⟨#[112,101,114,109,105,116]⟩,.string ⟨#[100,101,110,121]⟩] 9 (0,0))) (HK.o.alloc.alloc.aC8 k_) h_;clear h_ k_;have au:=aD j.o;have ax:=aD k.o;have a7:=HP.o.lt;clear r;obtain⟨⟨t,x,y⟩,z,B,C⟩:=cE j.o;go_wp2_with fail;refine(s.o _ _ _ ((HP.o.set qo).alloc) (nC _ _ _ _ _ qs rfl)).mono ?_;rintro e w4 ⟨rfl,h_,k_⟩;obtain⟨j,k,G,HK,HP⟩:=gC (aF (aE (Zt (j.o) _) (aB _ _)) k_ qo) (aF (aE (bE (k.o) qo) (aB _ _)) k_ qo) (aF (aK _ _ _ qs) k_ qo:w4.heap[Y.heap.size]? =some (.cells #[.string ⟨#[108,111,103]⟩,.string ⟨#[114,101,100,97,99,116]⟩,.string ⟨#[114,101,118,105,101,119]⟩,.string ⟨#[110,111,116,105,102,121]⟩] 9 (0,0))) ((HK.o.set qo).alloc.aC8 k_) h_;clear h_ k_ t x y z B C;have av:=aD j.o;have ay:=aD k.o;have a1:=aD G.o;have a8:=HP.o.lt;clear s;obtain⟨⟨t,x,y⟩,z,B,C⟩:=cE j.o;go_wp2_with fail;refine(I.o _ ((HP.o.set qo))).mono ?_;rintro e Z ⟨rfl,h_,k_⟩;obtain⟨j,k,G,HK,HP⟩:=gC (aF (Zu (j.o) _) k_ qo) (aF (bE (k.o) qo) k_ qo) (aF (bE (G.o) qo) k_ qo) ((HK.o.set qo).aC8 k_) h_;clear h_ k_ t x y z B C;have aw:=aD j.o;have az:=aD k.o;have a6:=aD G.o;have ba:=HP.o.lt;clear I;obtain⟨⟨t,x,y⟩,z,B,C⟩:=cE j.o;obtain⟨M,E⟩:=xE ((Z.setCell ⟨w2.heap.size,2,none⟩ (.string F.1)).alloc (.cells #[.int .i64 J.1,.int .i64 K.1,.string F.1] 194));have ag:Hid (M.heap[Z.heap.size]? =some (.cells #[.int .i64 J.1,.int .i64 K.1,.string F.1] 194 (0,0))):=aA (by rw[E];exact aK _ _ _ qs)
   have ab:Hid (PW L M g F.2):=aA (by rw[E];exact(HP.o.set qo).alloc);have P:Hid (cX w2.heap.size g w2 M):=aA (by rw[E];exact(HK.o.set qo).alloc);have H:=aA (aa.o.aD8 aP P.o D);have Q:=aA (O.o.join P.o an);have ao:w.heap.size<=M.heap.size:=Q.o.size;have af:=aA E;clear E HP HK aa O P;go_wp2_with (at_builtin;rw[<-af.o];refine cC aCv aP rfl (.tmp 18) (.tmp 20) rfl _ l rfl H.o Z.heap.size 1 _ _ _ ⟨J.1,K.1,F.1⟩ rfl ag.o ⟨rfl,N.o⟩ qo qo ao ?_;intro l' hl' A' c' w9 hG U ak;have HG4:=aA hG;have HP4:=aA (ab.o.grown H.o U D);have HK4:=aA (Q.o.grown H.o U (lR _));clear hG U ak ag H ab Q af t x y z B C)
   have HLM2:=aA (aj.o (decide ((8:Int)<(l'.length:Int))) _ hq2 _ HP4.o);refine HLM2.o.mono ?_;rintro e wz ⟨rfl,h_,k_⟩;obtain⟨HP,HK,HG⟩:=aY h_ (HK4.o.aC8 k_) (HG4.o.aC8 aP k_ D);exact Si
theorem QCG{p:Prop}(h:p:=by
 go_enter func282,ntmps282;go_wp2;go_ret;exact⟨_,rfl,xB w [true] _ _ rfl _ rfl qs _ _ rfl,aB _ _⟩):p:=h
def DC:Rep Bool:=mJ (fun b=>[.bool b]) (fun _=>True)
theorem jN:Firm DC 1:=gD (fun _=>rfl) (fun x v h=>by simp only[List.mem_cons,List.not_mem_nil,or_false] at h;rw[h];rfl)
theorem xB(w:World)(l:List Bool)(t:TypeId)(n:Nat)(e:w.heap.size=n)(cs:Array Value)(h:cs=(l.map Value.bool).toArray)(d:l.length<=1000)(m c:Nat)(hm:l.length=m):aH DC (w.alloc (.cells cs t)) (fun b=>n<=b) (.slice (some ⟨n,0,none⟩) m c) l:=by
 subst e h hm;refine⟨_,c,l.map Value.bool,rfl,fun _=>⟨w.heap.size,0,rfl,lR _,fun i x f=> ?_⟩,?_,qo⟩
 .refine aQ (heap_alloc_new w _) _ _ ?_;rw[Nat.zero_add];simpa using f
 .clear d
  induction l with
  |nil=>rfl
  |cons a l g=>exact⟨[.bool a],l.map Value.bool,rfl,⟨rfl,trivial⟩,g⟩
def OU(w:World)(l:List Bool)(e:Ending)(w':World):Prop:=∃v,e=.returned v/\aH DC w' (fun b=>w.heap.size<=b) v l/\Below w.heap.size w w'
theorem TS(op:Int)(w:World):Calls prog 282 #[.int .i64 op] w (OU w (fL op)):=by
 unfold OU;by_cases h3:op=3
 .subst h3;exact QCG
 by_cases h4:op=4
 .subst h4;exact QCG
 by_cases h5:op=5
 .subst h5;go_enter func282,ntmps282;go_wp2;go_ret;exact⟨_,rfl,xB w [true,false] _ _ rfl _ rfl qs _ _ rfl,aB _ _⟩
 by_cases h11:op=11
 .subst h11;go_enter func282,ntmps282;go_wp2;go_ret;exact⟨_,rfl,xB w [false] _ _ rfl _ rfl qs _ _ rfl,aB _ _⟩
 have e:fL op=[false,false]:=by unfold fL;rw[iN qo,iN h5,iN h11]
 rw[e];have d3:(op==3)=false:=bN.2 h3;have d4:(op==4)=false:=bN.2 h4;have d5:(op==5)=false:=bN.2 h5;have d11:(op==11)=false:=bN.2 h11;clear h3 h4 h5 h11 e;go_enter func282,ntmps282;go_wp2;go_ret;exact⟨_,rfl,xB w [false,false] _ _ rfl _ rfl qs _ _ rfl,aB _ _⟩
def pW(L:List Tok)(f:Nat)(ms:List Bool)(acc:List No×PS):List No×PS:=ms.foldl (dE L f) acc
def wC(L:List Tok)(f:Nat)(l:List No)(p:PS):(List No×No)×PS:=
 (((pW L f (fL (2+(aZ L eB p).1)) (l,(aZ L eB p).2)).1,⟨2+(aZ L eB p).1,bD,uK⟩),
   eH L (str ")") (pW L f (fL (2+(aZ L eB p).1)) (l,(aZ L eB p).2)).2)
def gQ(L:List Tok)(f:Nat)(l:List No)(p:PS):(List No×No)×PS:=
 if cL L (str "(") p then wC L f l {p with at_:=p.at_+1}
 else if (aU L p).aCR=1/\(aU L p).str≠str "true"/\(aU L p).str≠str "false" then ((l,⟨2,bD,(cD L p).1⟩),(cD L p).2)
 else ((l,⟨1,(dA L p).1,uK⟩),(dA L p).2)
theorem tZ(L:List Tok)(f:Nat)(l:List No)(p:PS):eW L (f+1) l p=
 (((gQ L f l p).1.1++[(gQ L f l p).1.2],decide ((gQ L f l p).1.2.op=2)),cR L (decide (32<((gQ L f l p).1.1++[(gQ L f l p).1.2]).length)) (gQ L f l p).2):=by
 unfold gQ;rw[eW];dsimp only;split
 .rfl
 .split<;>rfl
section
variable {L:List Tok} (T:Toks L)
include T
theorem MR(f:Nat):∀(ms:List Bool) {l:List No} {p:PS},p.at_<L.length->dK L p (pW L f ms (l,p)).2:=by
 intro ms
 induction ms with
 |nil=>intro l p h;exact dK.refl h
 |cons m ms a=>
  intro l p h;have h1:dK L p (dE L f (l,p) m).2:=by
   unfold dE;dsimp only;split
   .exact dK.refl h
   .have h1:=zJ T f l h;exact Rg
  exact h1.trans (a h1.lt)
theorem Uv(f:Nat)(l:List No){p:PS}(h:p.at_<L.length):dK L p (wC L f l p).2:=by
 unfold wC;have h1:=dQ T eB h;have h2:=MR T f (fL (2+(aZ L eB p).1)) (l:=l) h1.lt;exact h1.trans (h2.trans (fZ T (str ")") h2.lt))
theorem wF(f:Nat)(l:List No){p:PS}(h:p.at_<L.length):dK L p (gQ L f l p).2:=by
 unfold gQ;split
 .rename_i a;have h0:=fP T h a;exact h0.trans (Uv T f l h0.lt)
 split
 .exact nG T h
 .exact wQ T h
theorem IY:∀(f:Nat) (l:List No) {p:PS},p.at_<L.length->(eW L f l p).1.1.length+2 * p.at_<=l.length+1+2 * (eW L f l p).2.at_
 |0,l,p,h=>by unfold eW;simp only;omega
 |f+1,l,p,h=>by
  rw[tZ];have i:(gQ L f l p).1.1.length+2 * p.at_<=l.length+2 * (gQ L f l p).2.at_:=by
   unfold gQ;split
   .rename_i b;have h0:=fP T h b;have h1:=dQ T eB h0.lt;have d:∀(ms:List Bool) (l:List No) (q:PS),q.at_<L.length->(pW L f ms (l,q)).1.length+2 * q.at_<=l.length+ms.length+2 * (pW L f ms (l,q)).2.at_:=by
     intro ms
     induction ms with
     |nil=>intro l q a;simp[pW]
     |cons m ms g=>
      intro l q a;have hm:dK L q (dE L f (l,q) m).2:=MR T f [m] (l:=l) a;have j:(dE L f (l,q) m).1.length+2 * q.at_<=l.length+1+2 * (dE L f (l,q) m).2.at_:=by
       unfold dE;dsimp only;split
       .simp only;omega
       .have:=IY f l a;split
        .simp only;rw[(IK _ _ _).1];exact this
        .exact this
      have h3:=g (dE L f (l,q) m).1 (dE L f (l,q) m).2 hm.lt;have e:pW L f (m::ms) (l,q)=pW L f ms ((dE L f (l,q) m).1,(dE L f (l,q) m).2):=rfl;rw[e];simp only[List.length_cons];omega
    have h2:=d (fL (2+(aZ L eB {p with at_:=p.at_+1}).1)) l (aZ L eB {p with at_:=p.at_+1}).2 h1.lt;have h4:=MR T f (fL (2+(aZ L eB {p with at_:=p.at_+1}).1)) (l:=l) h1.lt;have h5:=(fZ T (str ")") h4.lt).le;have h6:(fL (2+(aZ L eB {p with at_:=p.at_+1}).1)).length<=2:=by
     unfold fL
     repeat' split
     all_goals simp
    have h7:=h1.le;simp only at h7;unfold wC;simp only;omega
   split
   .have:=(nG T h).le;simp only;omega
   .have:=(wQ T h).le;simp only;omega
  have c:=(kP (L:=L) (decide (32<((gQ L f l p).1.1++[(gQ L f l p).1.2]).length)) (wF T f l h).lt).le;simp only[aL,List.length_singleton] at c ⊢;omega
end
theorem DE{L:List Tok}(T:Toks L)(f:Nat)(l:List No){p:PS}(h:p.at_<L.length):oO (gQ L f l p).1.2:=by
 have h0:cS bD:=⟨by unfold bD bK;simp,by unfold bD bK;simp,Nat.zero_le _⟩;have h1:BV uK:=⟨by unfold uK bK;simp,Nat.zero_le _⟩;unfold gQ;split
 .have h4:=nM (L:=L) eB {p with at_:=p.at_+1};have h5:eB.length=11:=rfl;unfold wC;exact⟨by unfold bK;show _<=2+(aZ L _ _).1/\2+(aZ L _ _).1<=_;omega,h0,h1⟩
 split
 .exact⟨by unfold bK;show _<=(2:Int)/\(2:Int)<=_;omega,h0,OT T h⟩
 .exact⟨by unfold bK;show _<=(1:Int)/\(1:Int)<=_;omega,KH T h,h1⟩
end Go.Proofs.YtbinmcabjnoliaaGreatDoor
