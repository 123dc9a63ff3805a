/-
  THE STATEMENT Rows.TopTwoEyesCardSaid PROVED: for every input bailiff/bailifftop.TopTwoEyes returns true (under a policy that keeps whoever took part in a case from closing it, each closed case has a last event of one who had none before), and the argument reads afterwards as it read before.
  Conditions: none beyond the row's own (it lists five package-level variables of strconv and math/bits; the card ties them to the program's text).
-/
import Derived.Test.YtjlkljmickcacaaGreatDoorMbs
import Derived.LaidMore
import Derived.Stop.Joined
import Derived.SliceStrings
import Derived.Test.YtjlkljmickcacaaGreatDoorCards
import Derived.Test.YtjlkljmickcacaaGreatDoorTie
import Derived.SevenTiedAt
namespace Go.Proofs.YtjlkljmickcacaaGreatDoor
open Go.RowKit
set_option linter.unusedVariables false
set_option linter.unusedSimpArgs false
set_option maxHeartbeats 16000000
open _root_.Go.Proofs.Tryz
set_option maxRecDepth 20000
def pZ(a:World)(E D Q m n:Nat)(s:Sto)(w:World):Prop:=∃M K,sO w E D M K Q m n s/\(∀b,M b->a.heap.size<=b)/\Below a.heap.size a w
theorem pZ.on{b:World}{E D Q m n:Nat}{s:Sto}{w w':World}(h:pZ b E D Q m n s w)(a:Below w.heap.size w w'):pZ b E D Q m n s w':=by
 obtain⟨M,K,h1,h2,h3⟩:=h;exact⟨M,K,h1.on a,h2,aC h3 a⟩
theorem pZ.below{a:World}{E D Q m n:Nat}{s:Sto}{w:World}(h:pZ a E D Q m n s w):Below a.heap.size a w:=by
 obtain⟨M,K,h1,h2,h3⟩:=h;exact h3
def aAn(b:World)(E D Q m n:Nat)(s:Sto)(q:bY)(e:Ending)(w':World):Prop:=
 e=.returned (.string (eW s q.data.toList).2)/\∃a,pZ b E D Q a (n+1) (eW s q.data.toList).1 w'/\m<=a/\a<=m+400+q.size/\(∀o,iV q.data.toList=some o->(cR s o).2.2.2≠0->a=m)/\(iV q.data.toList=none->a=m)
theorem Xm{a:World}(r:Gl a)(h6:6<=a.heap.size){E D Q m n k:Nat}{s:Sto}{w:World}(h:pZ a E D Q m n s w)(q:bY)(A:q.size<=100000)(g:lO k s)(d:k<=900000)(z:n<=800000)(p:m+400+q.size<=Q)(l:Q<=900000):
 Calls prog 7 #[.pointer (some ⟨E,0,none⟩),.string q] w (aAn a E D Q m n s q):=by
 obtain⟨M,K,h1,h2,h3⟩:=h;refine(XQ E D Q m n k s q A w h1 (r.on h3) (fun b c=>qA (h2 b c)) g d z p l).mono ?_;rintro e w' ⟨rfl,f,K',C,i,j,F,o,t,v,x,y⟩;refine⟨rfl,C,⟨f,K',i,fun b c=>(j b c).elim (h2 b) (fun h=>qA h3.size),?_⟩,t,v,x,y⟩
 .exact((aJ (ok:=fun b=>b<a.heap.size) h3).trans (o.mono fun b _ c hm=>by have:=h2 b hm;have G:b<a.heap.size:=c;omega)).below (B:=a.heap.size) (fun k d=>⟨d,d⟩)
theorem XR(Q:Nat)(g:Q<=900000)(w:World)(d:Gl w)(h6:6<=w.heap.size):Calls prog 11 #[.int .i64 Q] w fun e w'=>∃E D,e=.returned (.tuple #[.pointer (some ⟨E,0,none⟩),.pointer (some ⟨D,0,none⟩)])/\pZ w E D Q 0 0 lD w':=by
 refine(Nf Q qo w d h6).mono ?_;rintro e w' ⟨E,D,M,K,rfl,a,b,f,c⟩;exact⟨E,D,rfl,M,K,a,b,c⟩
theorem rR{c:World}(o:Gl c)(h6:6<=c.heap.size){E D Q m n k:Nat}{s i:Sto}{a:bY}{w:World}(h:pZ c E D Q m n s w)(q:bY)(l:lU)(d:q.data.toList=l)(g:eW s l=(i,a))(j:lO k s)(p:k<=900000)(r:n<=800000)(v:m+400+l.length<=Q)(t:Q<=200000)(f:Q<=90000\/l.length<=100000):
 Calls prog 7 #[.pointer (some ⟨E,0,none⟩),.string q] w fun e w'=>e=.returned (.string a)/\∃b,pZ c E D Q b (n+1) i w'/\b<=m+400+l.length:=by
 have x:q.size=l.length:=by rw[<-d,Array.length_toList];rfl
 refine(Xm o h6 h q (by rcases f with f|f<;>omega) j p r qo qo).mono ?_;rintro e w' ⟨rfl,b,h1,h2,h3,-⟩;rw[d,g] at h1;rw[d,g];exact⟨rfl,b,h1,qo⟩
theorem zL:str "ok"=⟨#[111,107]⟩:=by kernel_rfl
theorem Xn:str "denied Deny"=⟨#[100,101,110,105,101,100,32,68,101,110,121]⟩:=by kernel_rfl
theorem Xo:str "ok 7"=⟨#[111,107,32,55]⟩:=by kernel_rfl
theorem aC5:(⟨#[97,110,110,32,110,101,119,32,99]⟩:bY).data.toList=cZ "ann new c":=by kernel_rfl
theorem aC6:(⟨#[97,110,110,32,119,114,105,116,101,32,99,32,102,32,55]⟩:bY).data.toList=cZ "ann write c f 7":=by kernel_rfl
theorem aC7:(⟨#[97,110,110,32,112,111,108,105,99,121,32,112,111,108,105,99,121,32,112,32,102,105,114,115,116,32,123,32,100,101,110,121,32,100,32,119,104,101,110,32,40,97,99,116,105,111,110,46,110,97,109,101,32,61,32,35,119,114,105,116,101,41,59,32,112,101,114,109,105,116,32,114,59,32,125]⟩:bY).data.toList=EA:=by kernel_rfl
theorem aC8:(⟨#[97,110,110,32,119,114,105,116,101,32,99,32,102,32,56]⟩:bY).data.toList=cZ "ann write c f 8":=by kernel_rfl
theorem aC9:(⟨#[98,111,98,32,114,101,97,100,32,99,32,102]⟩:bY).data.toList=cZ "bob read c f":=by kernel_rfl
theorem ZV:∃s1 s2 a b c,eW lD (cZ "ann new c")=(s1,⟨#[111,107]⟩)/\eW s1 (cZ "ann write c f 7")=(s2,⟨#[111,107]⟩)/\eW s2 EA=(a,⟨#[111,107]⟩)/\eW a (cZ "ann write c f 8")=(b,⟨#[100,101,110,105,101,100,32,68,101,110,121]⟩)/\eW b (cZ "bob read c f")=(c,⟨#[111,107,32,55]⟩):=
 ⟨XC.1,XD.1,XE.1,XF.1,Mg.1,by rw[<-zL,<-qR.1];rfl,by rw[<-zL,<-qR.2.1];rfl,by rw[<-zL,<-qR.2.2.1];rfl,by rw[<-Xn,<-qR.2.2.2.1];rfl,by rw[<-Xo,<-qR.2.2.2.2];rfl⟩
theorem tQ{k:Nat}{s b:Sto}{q:lU}{a:bY}(h:lO k s)(c:eW s q=(b,a)):lO (k+1) b:=by
 have:=h.line q;rw[c] at this;exact this
theorem Ni(w:World)(a:Gl w)(h6:6<=w.heap.size):Calls prog 10 #[] w (lM (.bool true) w):=by
 obtain⟨s1,s2,H,I,M,b,c,d,f,l⟩:=ZV;have o:=aA (XR 4000 qe w a h6);have g:=XB;have i:=tQ g b;have j:=tQ i c;have k:=tQ j d;have n:=tQ k f;have y:=aA (fun E D m (hm:m<=0) w1 (h:pZ w E D 4000 m 0 lD w1)=>rR a h6 h _ _ aC5 b g qe qe (by rw[show (cZ "ann new c").length=9 from rfl];omega) qe (.inl qe));have z:=aA (fun E D m (hm:m<=500) w1 (h:pZ w E D 4000 m 1 s1 w1)=>rR a h6 h _ _ aC6 c i qe qe (by rw[show (cZ "ann write c f 7").length=15 from rfl];omega) qe (.inl qe));have A:=aA (fun E D m (hm:m<=1000) w1 (h:pZ w E D 4000 m 2 s2 w1)=>rR a h6 h _ _ aC7 d j qe qe (by rw[show EA.length=75 from rfl];omega) qe (.inl qe));have B:=aA (fun E D m (hm:m<=1500) w1 (h:pZ w E D 4000 m 3 H w1)=>rR a h6 h _ _ aC8 f k qe qe (by rw[show (cZ "ann write c f 8").length=15 from rfl];omega) qe (.inl qe));have C:=aA (fun E D m (hm:m<=2000) w1 (h:pZ w E D 4000 m 4 I w1)=>rR a h6 h _ _ aC9 l n qe qe (by rw[show (cZ "bob read c f").length=12 from rfl];omega) qe (.inl qe));unfold lM;clear a h6 b c d f l g i j k n;go_enter func10,ntmps10;go_wp2_with fail;refine o.o.mono ?_;rintro e w1 ⟨E,D,rfl,h⟩;have H1:=y.o E D 0 qe w1 h;have H1:=aA H1;clear h o;go_wp2_with fail;refine H1.o.mono ?_;rintro e w2 ⟨rfl,m2,h,hm⟩;have r:=aA (z.o E D m2 (by rw[show (cZ "ann new c").length=9 from rfl] at hm;omega) w2 h);have F:=aA hm;clear h hm;go_wp2_with fail;refine r.o.mono ?_;rintro e J ⟨rfl,m3,h,hm⟩;have p:Hid (m3<=1000):=aA (by have h2:=F.o;rw[show (cZ "ann new c").length=9 from rfl] at h2;rw[show (cZ "ann write c f 7").length=15 from rfl] at hm;omega)
 have s:=aA (A.o E D m3 p.o J h);clear h hm;go_wp2_with fail;refine s.o.mono ?_;rintro e K ⟨rfl,m4,h,hm⟩;have q:Hid (m4<=1500):=aA (by have h2:=p.o;rw[show EA.length=75 from rfl] at hm;omega);have t:=aA (B.o E D m4 q.o K h);clear h hm;go_wp2_with fail;refine t.o.mono ?_;rintro e L ⟨rfl,m5,h,hm⟩;have G:Hid (m5<=2000):=aA (by have h2:=q.o;rw[show (cZ "ann write c f 8").length=15 from rfl] at hm;omega);have v:=aA (C.o E D m5 G.o L h);clear h hm;go_wp2_with fail;refine v.o.mono ?_;rintro e N ⟨rfl,m6,h,hm⟩;have x:=aA h.below;clear h hm;go_wp2;go_ret;exact⟨rfl,x.o⟩
def Nj(w:World)(a:oD)(l:List ByteArray):Prop:=∀k (c:k<l.length),∃b off,a=some ⟨b,off,none⟩/\b<w.heap.size/\w.cell? ⟨b,off+k,none⟩=some (.string l[k])/\l[k].size<=maxLen
def uQ(a:World)(P:nP)(E D Q m n:Nat)(s:Sto)(w:World):Prop:=∃M K,sO w E D M K Q m n s/\(∀b,M b->a.heap.size<=b/\¬P b)/\(∀b,P b->b<w.heap.size)/\Below a.heap.size a w
theorem pZ.one{a:World}{E D Q m n:Nat}{s:Sto}{w:World}(h:pZ a E D Q m n s w):uQ a (fun _=>False) E D Q m n s w:=by
 obtain⟨M,K,h1,h2,h3⟩:=h;exact⟨M,K,h1,fun b c=>⟨h2 b c,id⟩,fun b h=>h.elim,h3⟩
theorem uQ.at0{a:World}{P:nP}{E D Q m n:Nat}{s:Sto}{w:World}(h:uQ a P E D Q m n s w):pZ a E D Q m n s w:=by
 obtain⟨M,K,h1,h2,_,h3⟩:=h;exact⟨M,K,h1,fun b c=>(h2 b c).1,h3⟩
theorem uQ.sub{c:World}{P P':nP}{E D Q m n:Nat}{s:Sto}{w:World}(h:uQ c P E D Q m n s w)(hp:∀b,P' b->P b):uQ c P' E D Q m n s w:=by
 obtain⟨M,K,h1,h2,h3,h4⟩:=h;exact⟨M,K,h1,fun b a=>⟨(h2 b a).1,fun h=>(h2 b a).2 (hp b h)⟩,fun b a=>h3 b (hp b a),h4⟩
theorem uQ.on{c:World}{P:nP}{E D Q m n:Nat}{s:Sto}{w w':World}(h:uQ c P E D Q m n s w)(a:Below w.heap.size w w'):uQ c P E D Q m n s w':=by
 obtain⟨M,K,h1,h2,h3,h4⟩:=h;exact⟨M,K,h1.on a,h2,fun b hp=>lL (h3 b hp) a.size,aC h4 a⟩
theorem uQ.grow{c:World}{P:nP}{E D Q m n:Nat}{s:Sto}{w w':World}(h:uQ c P E D Q m n s w)(a:Below w.heap.size w w'):uQ c (fun b=>P b\/(w.heap.size<=b/\b<w'.heap.size)) E D Q m n s w':=by
 obtain⟨M,K,h1,h2,h3,h4⟩:=h;have d:∀b,M b->b<w.heap.size:=by
  obtain⟨J,base,vc,vr,vn,vo,vt,vu,vk,vb,la,lc,lu,h,ra,rc,ru,da,dc,bs,sy,H⟩:=h1;exact H.low
 exact⟨M,K,h1.on a,fun b hm=>⟨(h2 b hm).1,fun h=>h.elim (h2 b hm).2 (fun h=>qA (d b hm))⟩,fun b hp=>hp.elim (fun h=>lL (h3 b h) a.size) (fun h=>h.2),aC h4 a⟩
theorem RO{f:World}{P:nP}{E D Q m n:Nat}{s:Sto}{w:World}(h:uQ f P E D Q m n s w):Calls prog 6 #[.pointer (some ⟨E,0,none⟩)] w fun e w'=>∃(K:nP) (vc vr vn vo vt vu vk vb:Value),e=.returned (.agg (aV s vc vr vn vo vt vu vk vb))/\fD w' K s vc vr vn vo vt vu vk vb/\uQ f (fun b=>P b\/K b) E D Q m n s w'/\Below w.heap.size w w':=by
 obtain⟨M,K,d,h2,h3,h4⟩:=h;have g:=d;obtain⟨J,base,vc,vr,vn,vo,vt,vu,vk,vb,la,lc,lu,h,ra,rc,ru,da,dc,bs,sy,H⟩:=d;refine(Dr E J s vc vr vn vo vt vu vk vb _ h w H.sto H.eng).mono ?_;rintro e w' ⟨rfl,a⟩;exact⟨K,vc,vr,vn,vo,vt,vu,vk,vb,rfl,H.sto.on a,⟨M,K,g.on a,fun b hm=>⟨(h2 b hm).1,fun h=>h.elim (h2 b hm).2 (fun c=>(H.kept b c).1 hm)⟩,fun b hp=>lL (hp.elim (h3 b) (fun c=>(H.kept b c).2)) a.size,aC h4 a⟩,a⟩
theorem Sh{c:World}(v:Gl c)(h6:6<=c.heap.size){P:nP}{E D Q m n k:Nat}{s:Sto}{w:World}(h:uQ c P E D Q m n s w)(q:bY)(F:q.size<=100000)(j:lO k s)(f:k<=900000)(C:n<=800000)(t:m+400+q.size<=Q)(r:Q<=900000):
 Calls prog 7 #[.pointer (some ⟨E,0,none⟩),.string q] w fun e w'=>e=.returned (.string (eW s q.data.toList).2)/\∃a,uQ c P E D Q a (n+1) (eW s q.data.toList).1 w'/\aN P w w'/\m<=a/\a<=m+400+q.size/\(∀o,iV q.data.toList=some o->(cR s o).2.2.2≠0->a=m)/\(iV q.data.toList=none->a=m):=by
 obtain⟨M,K,h1,h2,h3,h4⟩:=h;refine(XQ E D Q m n k s q F w h1 (v.on h4) (fun b d=>qA ((h2 b d).1)) j f C t r).mono ?_;rintro e w' ⟨rfl,i,K',a,l,p,G,g,x,y,z,A⟩;refine⟨rfl,a,⟨i,K',l,fun b d=> ?_,fun b hp=>lL (h3 b hp) g.size,?_⟩,g.mono fun b _ hp hm=>(h2 b hm).2 hp,x,y,z,A⟩
 .rcases p b d with h|h
  .exact h2 b h
  .exact⟨qA h4.size,fun hp=>qA (h3 b hp)⟩
 .exact((aJ (ok:=fun b=>b<c.heap.size) h4).trans (g.mono fun b _ d hm=>by have:=(h2 b hm).1;have H:b<c.heap.size:=d;omega)).below (B:=c.heap.size) (fun k f=>⟨f,f⟩)
theorem own:ownKnob prog.godebug=none:=by kernel_rfl
theorem Xp:laidOutB prog=true:=by kernel_rfl
section
open Go.ChangeShapes Go.WideShapes Go.ChangeAt Go.Deep
def MR:List (String×DataW Unit):=[("math/bits.deBruijn32tab",Rows.laid_math_bits_deBruijn32tab),("math/bits.deBruijn64tab",Rows.laid_math_bits_deBruijn64tab),("internal/strconv.uint64pow10",Rows.laid_internal_strconv_uint64pow10),("strconv.ErrRange",Rows.laid_strconv_ErrRange),("strconv.ErrSyntax",Rows.laid_strconv_ErrSyntax)]
theorem aAV{W:World}(i:W.ShapedOpen prog)(h:laidMetH prog MR W):Gl W/\6<=W.heap.size:=by
 rw[MakeChecks.laidMetH_plain _ _ _ (by kernel_rfl)] at h;obtain⟨H,⟨g0,t0,q,f0,D,q0,z,A,C,x,⟨g1,t1,r,f1,E,q1,f,B,a,y,⟨g2,t2,s,f2,F,I,g,j,o,d,⟨g3,t3,t,f3,G,J,b,l,p,e,_,_⟩,_⟩,_⟩,_⟩,_⟩:=h;obtain rfl:=Option.some.inj ((show prog.globalNamed "strconv.ErrRange"=some 2 by kernel_rfl).symm.trans b);obtain rfl:=Option.some.inj ((show prog.globalNamed "math/bits.deBruijn64tab"=some 5 by kernel_rfl).symm.trans f);have m:(prog.globals[2]?).map (·.type)=some 111:=by kernel_rfl
 obtain rfl:=Option.some.inj (m.symm.trans l);have n:(prog.globals[3]?).map (·.type)=some 272:=by kernel_rfl
 obtain rfl:=Option.some.inj (XH.symm.trans g);obtain rfl:=Option.some.inj (n.symm.trans j);have h6:6<=W.heap.size:=by
  unfold World.var? at a;rw[show prog.globalNamed "math/bits.deBruijn64tab"=some 5 by kernel_rfl] at a
  rcases Nat.lt_or_ge 5 W.heap.size with h2|h2
  .exact h2
  .simp[Array.getElem?_eq_none h2] at a
 refine⟨⟨?_,(laysM220.s1_3 W i),?_⟩,h6⟩
 .obtain⟨w,u,v,c,_,_⟩:=iface_of_trod underlying111 e;have:=World.var?_cell b p 0;rw[Array.eq_one_of_toList c] at this;exact⟨_,by simpa using this,.inr ⟨u,v,rfl⟩⟩
 .unfold Lib.TabIs;rw[o,<-Lib.cells_of_tab (zs:=Lib.pow10Tab) (k:= .u64) underlying272 underlying62 (by kernel_rfl) (by kernel_rfl) d]
section
variable {H:Type} {enc:TypeId×Value->H} {P:Program} {W:World} {sp:Nat->Bool} {held:Bool}
theorem Gh{r:Reach}{b0:Nat}{t e:TypeId}{v:Value}{d:DataW H}{p:List MemPlace}(n:P.underlying t=some (.slice e))(he:P.underlying e=some .string)(s:P.cellsOf e=1)
 (D:Value.okWide P W r b0 t v)(h:DataW.Trod enc P W 0 sp held t v d p):
 ∃(a:oD) (cap:Nat) (l:List ByteArray),v=.slice a l.length cap/\l.length<=maxLen/\Nj W a l:=by
 obtain⟨a0,len,cap,rfl⟩:=okWide_slice n D;obtain⟨fuel,B⟩:=h
 rcases open_strings n he s B with ⟨f,_⟩|⟨a,J,F,j,f,_,I,hm,E,_,A,C⟩
 .simp[Value.cells] at f;obtain⟨rfl,rfl,rfl⟩:=f;exact⟨none,0,[],rfl,qs,fun k g=>absurd g qs⟩
 .simp[Value.cells] at f;obtain⟨rfl,rfl,rfl⟩:=f;have hlen:len<=j.length:=by rw[E];split<;>omega
  have m:(j.take len).length=len:=by rw[List.length_take];omega
  refine⟨some a,cap,j.take len,by rw[m],qo,fun k g=> ?_⟩;have G:k<len:=qo;have w:Sl W W.heap.size (some a) ((j.take len).map Value.string):=Sl.of_cells fun i x c=>by
   simp only[List.getElem?_map,List.getElem?_take] at c;split at c
   .rw[gE qo] at c;simp only[Option.map_some,Option.some.injEq] at c;subst c;rw[A i qo,List.getD_eq_getElem?_getD,gE qo];rfl
   .simp at c
  obtain⟨b,off,q,y,z⟩:=w (by intro o;have:=congrArg List.length o;simp only[List.length_map,m,List.length_nil] at this;omega);exact⟨b,off,q,y,z k _ (by rw[List.getElem?_map,gE g];rfl),C _ (List.mem_of_mem_take (List.getElem_mem g))⟩
end
theorem OQ{H:Type}{enc:TypeId×Value->H}{a:Assume}{C:Checked}{os:Os}{f:FuncId}{fn:Func}{s:ChangeSpec}{conds:List PathCond}{apart fresh handsOn again:Bool}{X:World->Array Value->Prop}
 (k:∀(w w':World) (args:Array Value),w.heap=w'.heap->X w args->X w' args)
 (own:ownKnob C.prog.godebug=none)(started:os.Started)(y:C.prog.inits.idxOf? f=none)(l:C.prog.funcs[f]? =some fn)
 (witness:∃(w:World) (tape:Tape) (i:Input),w.os=os/\(w.forCall tape i).Shaped C.prog/\i.vars=[]/\Input.okWide C.prog (w.forCall tape i) .any w.heap.size f i/\
   ((s.pre enc C.prog fn conds apart (w.forCall tape i).memory i.args/\X (w.forCall tape i).memory i.args)/\sizedMet enc C.prog fn (OpenSpec.ofChange s) apart (w.forCall tape i).memory i.args)/\a.holds C.prog (lone (Frame.enter C.prog f i.args .normal) [] (w.forCall tape i)))
 (d:∀(W:World) (base:Nat) (args:Array Value) (b gs:List (DataW H)) (before:List MemPlace),W.ShapedOpen C.prog->
   (∀(j:Nat) t v,fn.params[j]? =some t->args[j]? =some v->Value.okWide C.prog W .any base t v)->
   DataW.Whole enc C.prog fn.params.toList s.vars apart W args.toList b gs before->X W args->
   Calls C.prog f args W fun e c=>∃v,e=.returned v/\s.post enc C.prog fn apart fresh handsOn again W args v c):
 ReturnsInHanded a C os f .any (fun w args=>(s.pre enc C.prog fn conds apart w args/\X w args)/\sizedMet enc C.prog fn (OpenSpec.ofChange s) apart w args) (s.post enc C.prog fn apart fresh handsOn again):=by
 refine returnsInHanded_of_calls own started y witness ?_;intro w tape i _ p _ n o A;obtain⟨_,_,_,g,m,_,_,_,_,q⟩:=n;have e:g=fn:=Option.some.inj (m.symm.trans l);subst e;obtain⟨⟨⟨b,gs,before,hw,z⟩,x⟩,B⟩:=o;have r:=DataW.Whole.of_heap (w':=w.forCall tape i) (by rfl) hw;refine(d (w.forCall tape i) w.heap.size i.args b gs before p q r (k _ _ _ (by rfl) x)).mono fun e c ⟨v,he,hp⟩=> ?_
 subst he;exact ChangeSpec.post_blind hp
theorem Si(os:Os)(args:Array Value):laidMetH prog MR ((World.doorLaid prog 400 os).forCall (fun _ _=>0) ⟨#[],args,[]⟩).memory:=
 laidMetH_of_parts3 (fuel:=8) (laidMet_of_run' 8 (by kernel_rfl) (by kernel_rfl)) (by kernel_rfl) (by kernel_rfl)
end
theorem aDa:(⟨#[98,111,115,115,32,110,101,119,32,99]⟩:bY).data.toList=cZ "boss new c":=by kernel_rfl
theorem aDb:(⟨#[98,111,115,115,32,119,114,105,116,101,32,99,32,102,32,49]⟩:bY).data.toList=cZ "boss write c f 1":=by kernel_rfl
theorem aDc(T:bY):(⟨#[98,111,115,115,32,112,111,108,105,99,121,32]⟩++T:bY).data.toList=cZ "boss policy "++T.data.toList:=by
 rw[ByteArray.data_append,Array.toList_append];rfl
theorem Nk(T:bY)(t:T.size<=1000)(s:Sto)(v:MI T.data.toList=(s,⟨#[111,107]⟩))(w:World)(a:Gl w)(h6:6<=w.heap.size):Calls prog 4 #[.string T] w fun e w'=>∃E D m,e=.returned (.pointer (some ⟨E,0,none⟩))/\pZ w E D 200000 m 3 s w'/\m<=3000/\lO 3 s:=by
 have n:=aA (XR 200000 qe w a h6);have b:eW lD (cZ "boss new c")=(MG.1,⟨#[111,107]⟩):=by rw[<-zL,<-MJ.1];rfl
 have c:eW MG.1 (cZ "boss write c f 1")=(MH.1,⟨#[111,107]⟩):=by rw[<-zL,<-MJ.2];rfl
 have d:eW MH.1 (cZ "boss policy "++T.data.toList)=(s,⟨#[111,107]⟩):=v;generalize MH.1=s2 at *;generalize MG.1=s1 at *;have f:=XB;have g:=tQ f b;have i:=tQ g c;have x:=aA (tQ i d);have j:Hid ((cZ "boss policy "++T.data.toList).length<=1012):=aA (by
  have h1:T.data.toList.length<=1000:=by rw[Array.length_toList];exact t
  have h2:(cZ "boss policy ").length=12:=by kernel_rfl
  rw[aL,h2];omega)
 have C:¬((⟨#[98,111,115,115,32,112,111,108,105,99,121,32]⟩:bY).size+T.size > 9223372036854775807):=by
  have:(⟨#[98,111,115,115,32,112,111,108,105,99,121,32]⟩:bY).size=12:=by kernel_rfl
  omega
 have o:=aA (fun E D m (hm:m<=0) w1 (h:pZ w E D 200000 m 0 lD w1)=>rR a h6 h _ _ aDa b f qe qe (by rw[show (cZ "boss new c").length=10 from rfl];omega) qe (.inr (by rw[show (cZ "boss new c").length=10 from rfl];omega)));have p:=aA (fun E D m (hm:m<=500) w1 (h:pZ w E D 200000 m 1 s1 w1)=>rR a h6 h _ _ aDb c g qe qe (by rw[show (cZ "boss write c f 1").length=16 from rfl];omega) qe (.inr (by rw[show (cZ "boss write c f 1").length=16 from rfl];omega)));have q:=aA (fun E D m (hm:m<=1000) w1 (h:pZ w E D 200000 m 2 s2 w1)=>rR a h6 h _ _ (aDc T) d i qe qe (qA j.o) qe (.inr (qA j.o)));clear a h6 b c d f g i v t;go_enter func4,ntmps4;go_wp2_with fail;refine n.o.mono ?_;rintro e w1 ⟨E,D,rfl,h⟩;have H1:=aA (o.o E D 0 qe w1 h);clear h n o;go_wp2_with fail;refine H1.o.mono ?_;rintro e w2 ⟨rfl,m2,h,hm⟩;have k:=aA (p.o E D m2 (by rw[show (cZ "boss new c").length=10 from rfl] at hm;omega) w2 h);have z:Hid (m2<=500):=aA (by rw[show (cZ "boss new c").length=10 from rfl] at hm;omega);clear h hm p H1;go_wp2_with fail;refine k.o.mono ?_;rintro e B ⟨rfl,m3,h,hm⟩;have r:Hid (m3<=1000):=aA (by have h2:=z.o;rw[show (cZ "boss write c f 1").length=16 from rfl] at hm;omega);have l:=aA (q.o E D m3 r.o B h);clear h hm q k;go_wp2_with fail;refine l.o.mono ?_;rintro e F ⟨rfl,m4,h,hm⟩;have A:Hid (m4<=3000):=aA (by have h2:=r.o;have h3:=j.o;omega);have y:=aA h;clear h hm l;go_wp2;go_ret;exact⟨E,D,m4,rfl,y.o,A.o,x.o⟩
theorem Nl{s:Sto}(hp:s.aDp=kS)(q:lU):(eW s q).1.aDp=kS:=by
 rcases h:iV q with _|o
 .rw[EF h];exact hp
 .rw[EG h];exact Ft o hp
theorem Nn{s:Sto}(e:vH s)(hp:s.aDp=kS){q:lU}{b c:cB}(a:c∈(eW s q).1.aDn)(d:dC s c.id=some b)(h1:b.aDH≠gU)(h2:c.aDH=gU)(ha:(eW s q).2≠str "glass"):∀h∈b.log,h.aDT≠((iV q).getD IV).aDC:=by
 rcases h:iV q with _|o
 .rw[EF h] at a;have:=WZ e.1.aD2 a;rw[d] at this;injection this with this;exact absurd (this▸h2) h1
 .rw[EG h] at a ha;exact(Mf e o hp a d h1 h2 ha).2
theorem Np{s:Sto}{id:bY}{b:cB}(h:dC s id=some b):b∈s.aDn:=by
 obtain⟨k,a,_,e,_⟩:=FE h;exact e▸List.getElem_mem a
theorem RP:str "glass"=⟨#[103,108,97,115,115]⟩:=by kernel_rfl
theorem Um{p:Prop}(h:p:=by
 go_wp2;go_roundw
 case rel=>exact⟨j+1,qo,by go_num,HJ12⟩
 case measure=>simp[intOf];omega):p:=h
theorem Sj:(⟨#[112,111,108,105,99,121,32,112,32,100,101,110,121,111,118,101,114,32,123,32,100,101,110,121,32,109,32,119,104,101,110,32,40,97,99,116,105,111,110,46,110,97,109,101,32,61,32,35,109,111,118,101,44,32,97,99,116,105,111,110,46,116,111,32,61,32,35,99,108,111,115,101,100,44,32,99,97,115,101,46,116,111,111,107,32,61,32,116,114,117,101,41,59,32,100,101,110,121,32,113,32,119,104,101,110,32,40,97,99,116,105,111,110,46,110,97,109,101,32,61,32,35,112,111,108,105,99,121,41,59,32,112,101,114,109,105,116,32,114,59,32,125]⟩:bY).data.toList=MK:=by kernel_rfl
theorem MS(a:oD)(c:Nat)(l:List ByteArray)(hl:l.length<=maxLen)(w:World)(hs:Nj w a l)(hg:Gl w)(h6:6<=w.heap.size):Calls prog 3 #[.slice a l.length c] w fun e w'=>e=.returned (.bool true)/\Below w.heap.size w w':=by
 obtain⟨cd,h1,h2⟩:∃s,MI MK=(s,⟨#[111,107]⟩)/\s.aDp=kS:=⟨(MI MK).1,by rw[<-zL,<-QW.1],QW.2⟩;have HF:=aA (Nk _ (by decide +kernel) cd (Sj▸h1) w hg h6);have db:=aA h2;clear h1 h2;have cl:=aA (fun w' (d:Below w.heap.size w w')=>Ni w' (hg.on d) (lT h6 d.size));obtain⟨HG,H6,HS,c1⟩:=dH hg h6 hs hl;clear hg h6 hs hl;go_enter func3,ntmps3;go_wp2_with fail;refine HF.o.mono ?_;rintro e w1 ⟨E,D,m0,rfl,g,b7,bz⟩;have c8:=aA b7;have cm:=aA bz;have f:=g.below;have bf:=aA (Nh (ok:=fun _=>True) a c l c1.o 40 qe w1 (fun k hk=>by
  obtain⟨b,off,h1,h2,h3,h4⟩:=HS.o k hk;exact⟨b,off,h1,lL h2 f.size,(f.cell (p:=⟨b,off+k,none⟩) h2).trans h3,h4⟩))
 have a6:=aA g;clear g b7 bz HF f;go_wp2_with fail;refine bf.o.mono ?_;rintro e w2 ⟨v,rfl,hv,d⟩;obtain⟨L,hL⟩:=xE (zK l 40);rw[<-hL] at hv;have I:Hid (L.length<=40/\∀x∈L,x.size<=600):=aA (by
  rw[hL];unfold zK;refine⟨by rw[List.length_map,List.length_take];omega,fun x hx=> ?_⟩;obtain⟨y,_,rfl⟩:=List.mem_map.1 hx;exact Ng y)
 obtain⟨la,lc,rfl,-⟩:=hv.slice;have ck:=aA (a6.o.one.grow d);have c6:=aA (aH.inb vY hv);clear d hv hL bf a6;go_wp2;go_loopw [23] (fun i wr=>∃(k m:Nat) (s:Sto),k<=L.length/\i=.int .i64 k/\Hid (uQ w (fun b=>w1.heap.size<=b/\b<w2.heap.size) E D 200000 m (k+3) s wr)/\Hid (m<=3000+1000 * k)/\Hid (lO (k+3) s)/\Hid (s.aDp=kS)/\Hid (aN (fun b=>w1.heap.size<=b/\b<w2.heap.size) w2 wr)) (fun i _=>L.length - (intOf i).toNat)
 case atStart=>exact⟨0,m0,cd,qo,rfl,aA (ck.o.sub fun b d=> .inr d),aA (qA c8.o),cm,db,aA (aJ (Below.refl _ _))⟩
 case round=>
  obtain⟨k,m,s,hk,rfl,HE,HM,U,bh,ak⟩:=hrel;by_cases b6:k<L.length
  .have c7:=aA (aH.aDw vY c6.o ((ak.o).mono fun b _ d=>by exact⟨d.1,d.2⟩));obtain⟨b,off,r,rfl,dx,dh,⟨rfl,b4⟩,z⟩:=aH.at vY c7.o b6 qe;obtain⟨q,hq⟩:=xE (L[k]);rw[<-hq] at b4 z;have dp:=z 0 _ rfl;rw[Nat.mul_one,Nat.add_zero] at dp;have cb:q.size<=600:=by rw[hq];exact I.o.2 _ (List.getElem_mem b6)
   have HQ:=aA cb;have bo:=aA (RO HE.o);have dk:(k:Int)<(L.length:Int):=qo;clear z b4 hq cb;go_wp2_with fail;refine bo.o.mono ?_;rintro e w3 ⟨K,vc,vr,vn,vo,vt,vu,vk,vb,rfl,n,g,Q⟩;obtain⟨ca,cc,ra,rc,na,nc,oa,oc,ta,tc,ua,uc,ka,kc,ba,bc,rfl,-,rfl,-,rfl,-,rfl,-,rfl,-,rfl,-,rfl,-,rfl,-⟩:=n.sl;obtain⟨bu,aw,X⟩:=aY n g Q;unfold aV;clear n g Q bo;go_upto_region 8 with (refine dP rfl _ (.tmp 6) (.tmp 28) rfl w3.heap.size _ rfl rfl _ _ (aK _ _ _ rfl) (by kernel_rfl) rfl (by simp[Value.oneCell']) ?_;intro w4 ah br)
   have Y:=aA (lA (lR _) br.o);have ax:=aA (aw.o.grow Y.o);have bx:=aA (aD ah.o);have be:=aA (Sh HG.o H6.o ax.o q (qA HQ.o) U.o (qA I.o.1) (qA I.o.1) (qF HQ.o HM.o I.o.1) qe);clear br;go_wp2_with fail;refine be.o.mono ?_;rintro e w5 ⟨rfl,m5,hA5,aq,-,b8,-⟩;obtain⟨bm,da,aj⟩:=aY (aF ah.o aq (.inr ⟨lR _,bx.o⟩)) b8 aq;obtain⟨t,ht⟩:=xE ((eW s q.data.toList).1);obtain⟨an,ar⟩:=xE ((eW s q.data.toList).2);rw[<-ht] at hA5;rw[<-ar];have N:=aA (And.intro ht ar);have bs:=aA (RO hA5);clear hA5 aq b8 ht ar be ah;go_wp2_with fail;refine bs.o.mono ?_;rintro e w6 ⟨K6,eo,tr,tn,to_,tt,tu,tk,tb,rfl,n,g,au⟩;obtain⟨dv,dw,ej,ek,ed,ee,ef,eg,el,en,er,eu,eb,ec,dt,du,rfl,-,rfl,-,rfl,-,rfl,-,rfl,-,rfl,-,rfl,-,rfl,-⟩:=n.sl;obtain⟨bw,ay,ae,bn⟩:=dH n g au (aE bm.o au);unfold aV;clear n g au bs bm;go_upto_region 10 with (refine dP rfl _ (.tmp 8) (.tmp 33) rfl w6.heap.size _ rfl rfl _ _ (aK _ _ _ rfl) (by kernel_rfl) rfl (by simp[Value.oneCell']) ?_;intro R ai bt)
   have o:=aA (lA (lR _) bt.o);have a8:Hid (lO (k+1+3) t):=aA (by rw[N.o.1];exact(U.o.line _).more qo);have dc:Hid (t.aDp=kS):=aA (by rw[N.o.1];exact Nl bh.o _);have cr:Hid (∀b c,c∈t.aDn->dC s c.id=some b->b.aDH≠gU->c.aDH=gU->an≠str "glass"->∀h∈b.log,h.aDT≠((iV q.data.toList).getD IV).aDC):=aA (fun b c z d h1 h2 ha=>by
    rw[N.o.1] at z;rw[N.o.2] at ha;exact Nn U.o.ok bh.o z d h1 h2 ha)
   have de:Hid (aN (fun b=>w1.heap.size<=b/\b<w2.heap.size) w2 R):=aA (ak.o.trans ((aJ X.o).trans ((aJ Y.o).trans ((aj.o.mono fun b _ d=> .inl (.inl d)).trans ((aJ ae.o).trans (aJ o.o))))));have az:=aA ((ay.o.sub (P':=fun b=>w1.heap.size<=b/\b<w2.heap.size) fun b d=> .inl (.inl (.inl d))).on o.o);have dd:=aA ((((bu.o.on Y.o).aDw (aj.o.mono fun b _ d=> .inl (.inr d))).on ae.o).on o.o);have df:=aA (bw.o.on o.o).aDn;have AS:=qK bn o.o;have cq:Hid (t.aDn.length<=64):=aA a8.o.ok.1.few;have ct:Hid (∀w',Below R.heap.size R w'->Gl w'):=aA (fun w' d=>HG.o.on (aC az.o.at0.below d));obtain⟨⟨-,t1,-,-,-,-,-,-,-,-,-,-,-⟩,-⟩:=bS ai.o;have zt:=aD ai.o;clear bn ai bu bw X Y aj ae o ak aw ax ay N bt bx;go_wp2;go_loopw [37] (fun i wr=>∃j:Nat,j<=t.aDn.length/\i=.int .i64 j/\Hid (Below R.heap.size R wr)) (fun i _=>t.aDn.length - (intOf i).toNat)
   case atStart=>exact⟨0,qo,rfl,aA (Below.refl _ _)⟩
   case round=>
    obtain⟨j,hj,rfl,HJ⟩:=hrel;clear t1 zt;by_cases b5:j<t.aDn.length
    .have dm:(j:Int)<(t.aDn.length:Int):=qo;obtain⟨b2,eh,r2,rfl,_,dy,⟨vf,vl,rfl,av⟩,F⟩:=aH.at dO (aH.on dO df.o HJ.o) b5 qe;obtain⟨fa,fc,rfl,-⟩:=av.2.2.2.1.slice;obtain⟨ga,gc,rfl,-⟩:=av.2.2.2.2.slice;have bb:=aA (List.getElem_mem b5);obtain⟨C,hC⟩:=xE (t.aDn[j]);rw[<-hC] at F bb;obtain⟨S,x1,x2,x3,x4⟩:=FW F;rw[Nat.add_zero] at S;have ea:=cq.o;clear F av hC;go_upto_region 13 with (refine dP rfl _ (.tmp 10) (.tmp 40) rfl wr.heap.size _ rfl rfl _ _ (aK _ _ _ rfl) (by kernel_rfl) rfl (by simp[Value.oneCell']) ?_;intro dq aa ab)
     have cn:=aA (lA (lR _) ab.o);have H:=qB HJ cn.o;have Z:=aA (xM s _ _ _ _ _ _ _ _ C.id dq (dd.o.on H.o));obtain⟨⟨t0,t1,t2,t3,t4,t5,t6,t7,t8,t9,t10,t11,t12⟩,-⟩:=bS (aE AS.o H.o);have zt:=aD (aE AS.o H.o);obtain⟨⟨y0,-,-,-,-⟩,-⟩:=dJ aa.o;have T:=aD aa.o;unfold aV at Z;clear S x1 x2 x3 x4 ab;go_wp2_with fail;refine Z.o.mono ?_;rintro e cf (⟨h0,rfl,P⟩|⟨B,vf,vl,al,rfl,b0,ao,P⟩)
     .have V:=aA P;clear P Z t0 t1 t2 t3 t4 t5 t6 t7 t8 t9 t10 t11 t12 zt y0 T;go_upto_region 14 with (refine dP rfl _ (.tmp 11) (.tmp 46) rfl cf.heap.size _ rfl rfl _ _ (aK _ _ _ rfl) (by kernel_rfl) rfl (by simp[Value.oneCell']) ?_;intro cg J M)
      have G:=aA (lA (lR _) M.o);have HJ12:=qB H (aC V.o G.o);clear M J;exact Um
     .obtain⟨va,vc,rfl⟩:=b0.slice;obtain⟨ep,et,rfl⟩:=ao.slice;have a7:Hid (B.log.length<=256):=aA ((wS.1 U.o.ok.2).2.2 _ (Np al));have cx:=aA (ao.sl (qA a7.o) (fun _=>True) (fun _ _ _=>trivial) (fun _ _ _=>trivial) bW);have V:=aA P;have bd:=aA (fun h1 h2 h3=>cr.o B C bb.o al h1 h2 h3);clear b0 ao al P Z t0 t1 t2 t3 t4 t5 t6 t7 t8 t9 t10 t11 t12 zt y0 T;go_upto_region 14 with (refine dP rfl _ (.tmp 11) (.tmp 46) rfl cf.heap.size _ rfl rfl _ _ (aK _ _ _ rfl) (by kernel_rfl) rfl (by simp[Value.oneCell']) ?_;intro cg J M)
      have G:=aA (lA (lR _) M.o);have HJ12:=qB H (aC V.o G.o);have bj:=qK aa (aC V.o G.o);obtain⟨⟨-,-,y2,-,-⟩,-⟩:=dJ bj.o;have T:=aD bj.o;obtain⟨⟨-,-,d2,-,d4⟩,-⟩:=dJ J.o;have zd:=aD J.o;clear M aa;by_cases f:B.aDH=gU
      .obtain⟨f1,f2⟩:=fC B.aDH [99,108,111,115,101,100] (f.trans nV);clear f;exact Um
      obtain⟨f1,f2⟩:=eV B.aDH [99,108,111,115,101,100] (fun e=>f (e.trans nV.symm));by_cases A:C.aDH=gU
      case neg=>
       obtain⟨f3,f4⟩:=eV C.aDH [99,108,111,115,101,100] (fun e=>A (e.trans nV.symm));clear f A;exact Um
      obtain⟨f3,f4⟩:=fC C.aDH [99,108,111,115,101,100] (A.trans nV);by_cases ha:an=str "glass"
      .obtain⟨f5,f6⟩:=fC an [103,108,97,115,115] (ha.trans RP);clear f A ha;exact Um
      obtain⟨f5,f6⟩:=eV an [103,108,97,115,115] (fun e=>ha (e.trans RP.symm));have a1:=aA (bd.o f A ha);have bg:=aA (QY q (qA HQ.o) cg (ct.o _ HJ12.o));clear f A ha bd;go_wp2_with fail;refine bg.o.mono ?_;rintro e dr ⟨dj,rfl,ad⟩;obtain⟨O,hO⟩:=xE ((iV q.data.toList).getD IV);rw[<-hO] at a1 ⊢;obtain⟨cu,bk,cy⟩:=aY (aC HJ12.o ad) (aE J.o ad) (aH.on bW cx.o (aC G.o ad));unfold fE bZ;clear dj hO ad bg f1 f2 f3 f4 f5 f6 y2 T d2 d4 zd;go_upto_region 16 with (refine dP rfl _ (.tmp 13) (.tmp 67) rfl dr.heap.size _ rfl rfl _ _ (aK _ _ _ rfl) (by kernel_rfl) rfl (by simp[Value.oneCell']) ?_;intro ch bl bp)
      have W:=aA (lA (lR _) bp.o);have cv:=qB cu W.o;obtain⟨⟨-,-,-,-,d4⟩,-⟩:=dJ (aE bk.o W.o);have zd:=aD (aE bk.o W.o);have cz:=aA (aH.on bW cy.o W.o);clear bp;go_wp2;go_loopw [72] (fun i ds=>∃p:Nat,p<=B.log.length/\i=.int .i64 p/\Hid (Below ch.heap.size ch ds)) (fun i _=>B.log.length - (intOf i).toNat)
      case atStart=>exact⟨0,qo,rfl,aA (Below.refl _ _)⟩
      case round=>
       obtain⟨p,hp,rfl,HP⟩:=hrel;clear d4 zd;have dh:=a7.o;by_cases b9:p<B.log.length
       .have dn:(p:Int)<(B.log.length:Int):=qo;obtain⟨b3,ei,r3,rfl,_,dz,⟨rfl,di⟩,F⟩:=aH.at bW (aH.on bW cz.o HP.o) b9 qe;obtain⟨S,x1,x2⟩:=cR3 F;rw[Nat.add_zero] at S;have b1:=a1.o _ (List.getElem_mem b9);clear F di;generalize B.log[p]=y at *;go_upto_region 19 with (refine dP rfl _ (.tmp 16) (.tmp 75) rfl wr.heap.size _ rfl rfl _ _ (aK _ _ _ rfl) (by kernel_rfl) rfl (by simp[Value.oneCell']) ?_;intro ev ag bq)
        have cp:=aA (lA (lR _) bq.o);have af:=qB HP cp.o;obtain⟨⟨-,y1,-⟩,-⟩:=cE ag.o;have T:=aD ag.o;obtain⟨⟨-,o1,-,-,-,-,-,-,-,-,-,-⟩,-⟩:=bL (aE bl.o af.o);have zo:=aD (aE bl.o af.o);have f1:(y.aDT.toList==O.aDC.toList)=false:=by rw[iY,dF b1]
        clear S x1 x2 bq ag b1;go_wp2;go_roundw
        case rel=>exact⟨p+1,qo,by go_num,af⟩
        case measure=>simp[intOf];omega
       .have dn:¬((p:Int)<(B.log.length:Int)):=qo;have cw:=qB cv HP.o;go_wp2;go_roundw
        case rel=>exact⟨j+1,qo,by go_num,cw⟩
        case measure=>simp[intOf];omega
    .have dm:¬((j:Int)<(t.aDn.length:Int)):=qo;have cj:=aA (az.o.on HJ.o);have ab:=aA (de.o.trans (aJ HJ.o));have h40:=I.o.1;have hm:m5<=3000+1000 * (k+1):=qF da.o HM.o HQ.o;go_wp2;go_roundw
     case rel=>exact⟨k+1,m5,t,qo,by go_num,cj,aA hm,a8,dc,ab⟩
     case measure=>simp[intOf];omega
  .have dk:¬((k:Int)<(L.length:Int)):=qo;go_wp2_with fail;refine(cl.o _ HE.o.at0.below).mono ?_;rintro e w3 ⟨rfl,Q⟩;have X:=aA (aC HE.o.at0.below Q);clear Q;go_wp2;go_returns;exact⟨rfl,X.o⟩
section
namespace topTwoEyes
open Go.ChangeShapes Go.WideShapes Go.ChangeAt
set_option maxRecDepth 100000 in
theorem aAo(os:Os)(started:os.Started)(H:Type)(enc:TypeId×Value->H):
 ReturnsInHanded {} checked os 3 .any (fun w args=>(Rows.topTwoEyesSpec.pre enc prog f3 [] false w args/\laidMetH prog MR w)/\sizedMet enc prog f3 (OpenSpec.ofChange Rows.topTwoEyesSpec) false w args)
  (Rows.topTwoEyesSpec.post enc prog f3 false true false false):=by
 refine OQ (C:=checked) (X:=fun w _=>laidMetH prog MR w) (fun _ _ _ r h=>h.of_heap r) own started (by kernel_rfl) func3
  (ChangeSpec.witness_shaped (enc:=enc) (C:=checked) (os:=os) (X:=fun w _=>laidMetH prog MR w) false (World.doorLaid prog 400 os) #[.slice none 0 0] 8 rfl (World.shaped_of_RefB (by kernel_rfl) (by kernel_rfl)) (by kernel_rfl) (by kernel_rfl) (by kernel_rfl) (Si os _)) ?_
 intro W base args i gs before y d b k;have c:∀(j:Nat) t v,f3.params[j]? =some t->args[j]? =some v->Value.okWide prog W .any base t v:=d;have n:=b;obtain⟨p,q,hA0,l,rfl,J,K⟩:=b;have hA:DataW.TrodAll enc prog W 0 (fun _=>true) true f3.params.toList args.toList i p:=hA0;rw[params3] at hA c;obtain⟨v0,L,d0,G,B,q0,I,rfl,rfl,h0,D⟩:=trodAll_cons hA;obtain⟨rfl,rfl,rfl⟩:=trodAll_nil D;obtain rfl:args=#[v0]:=by cases args;simp_all
 obtain⟨rfl,rfl⟩:=trodVars_none l;have f:=h0;have A:∀x∈B,x.block<W.heap.size:=by obtain⟨m,hm⟩:=f;exact DataW.trod_lt m _ _ _ hm
 obtain⟨a0,g,z,rfl,s,E⟩:=Gh underlying22 underlying9 (by kernel_rfl) (c 0 22 v0 rfl rfl) h0;obtain⟨o,h6⟩:=aAV y k;clear hA0 d;refine(MS a0 g z s W E o h6).mono fun e F ⟨he,a⟩=> ?_
 subst he;exact⟨_,rfl,_,_,_,[],_,[],n,trodAll_mk1 (shut_bool underlying4 _),(trodAll_cons_mk (Below.trod Xp (by kernel_rfl) (of_decide_eq_true (by kernel_rfl)) f a A) trodAll_mk0),rfl,a.frame _,fun h=>by cases h⟩
set_option maxRecDepth 100000 in
theorem aAp:joinedFacts checked.prog 3 f3 Rows.topTwoEyesSpec Rows.topTwoEyesRow=true:=by
 unfold joinedFacts;simp only[Bool.and_eq_true]
 repeat' apply And.intro
 all_goals (as_aux_lemma=>kernel_rfl)
set_option maxRecDepth 100000 in
theorem aDd:Rows.TopTwoEyesSaid:=
 OpenClaim.holds_of_wide 3 f3 rfl rfl rfl rfl rfl rfl rfl ⟨rfl,rfl,rfl,rfl,rfl⟩ rfl rfl rfl rfl rfl (by as_aux_lemma=>kernel_rfl) func3 aAp
  (of_decide_eq_true (by as_aux_lemma=>kernel_rfl)) (by unfold Func.isWrapper;first|(rw[iP (by decide +kernel)];kernel_rfl)|(rw[iN (by decide +kernel)];exact⟨rfl,rfl⟩))
  (fun os started H enc _=>aAo os started H enc)
theorem proved:Rows.TopTwoEyesCardSaid:=
 Claim7.holds_tied_plain_at .later [] [.data,.data,.data,.sentinel,.sentinel] true _ true
  aDd (fun _ h=>by cases h) (by as_aux_lemma=>kernel_rfl) (fun _ h=>by cases h) topTwoEyes_row_tie rfl ⟨rfl,rfl⟩ (by as_aux_lemma=>kernel_rfl) rfl
  (fun f fn c d=>by
    obtain rfl:f=3:=Option.some.inj ((show prog.funcNamed Rows.topTwoEyesRow.func=some 3 by kernel_rfl).symm.trans c) |>.symm;obtain rfl:fn=f3:=(Option.some.inj (func3.symm.trans d)).symm;exact⟨by as_aux_lemma=>kernel_rfl,fun j t a=>by
     rw[params3] at a;have hm:t∈[22]:=by simpa using Array.mem_of_getElem? a
     have b:([22].all fun u=> !prog.wantsStandIn u)=true:=by kernel_rfl
     exact(show prog.wantsStandIn t=false by simpa using List.all_eq_true.1 b t hm)⟩)
  (by as_aux_lemma=>kernel_rfl)
#print axioms proved
end topTwoEyes
end
end Go.Proofs.YtjlkljmickcacaaGreatDoor
