/-
  THE STATEMENT Rows.TopHiddenCardSaid PROVED: for every input bailiff/bailifftop.TopHidden returns true (a field that a duty hides is never told, to nobody, as long as that policy is in force), and the arguments read afterwards as they read before.
  Conditions: none beyond the row's own (it lists five package-level variables of strconv and math/bits; the card ties them to the program's text).
-/
import Derived.Test.YtdfinmcogbkffaaGreatDoorMbs
import Derived.LaidMore
import Derived.Stop.Joined
import Derived.SliceStrings
import Derived.Test.YtdfinmcogbkffaaGreatDoorCards
import Derived.Test.YtdfinmcogbkffaaGreatDoorTie
import Derived.SevenTiedAt
namespace Go.Proofs.YtdfinmcogbkffaaGreatDoor
open Go.RowKit
set_option linter.unusedVariables false
set_option linter.unusedSimpArgs false
set_option maxHeartbeats 16000000
open _root_.Go.Proofs.Tryz
set_option maxRecDepth 20000
def pV(a:World)(E D Q m n:Nat)(s:Sto)(w:World):Prop:=∃M K,sK w E D M K Q m n s/\(∀b,M b->a.heap.size<=b)/\Below a.heap.size a w
theorem pV.on{b:World}{E D Q m n:Nat}{s:Sto}{w w':World}(h:pV b E D Q m n s w)(a:Below w.heap.size w w'):pV b E D Q m n s w':=by
 obtain⟨M,K,h1,h2,h3⟩:=h;exact⟨M,K,h1.on a,h2,aC h3 a⟩
theorem pV.below{a:World}{E D Q m n:Nat}{s:Sto}{w:World}(h:pV a E D Q m n s w):Below a.heap.size a w:=by
 obtain⟨M,K,h1,h2,h3⟩:=h;exact h3
def aAv(b:World)(E D Q m n:Nat)(s:Sto)(q:bY)(e:Ending)(w':World):Prop:=
 e=.returned (.string (eN s q.data.toList).2)/\∃a,pV b E D Q a (n+1) (eN s q.data.toList).1 w'/\m<=a/\a<=m+400+q.size/\(∀o,iT q.data.toList=some o->(cK s o).2.2.2≠0->a=m)/\(iT q.data.toList=none->a=m)
theorem Xt{a:World}(r:Gl a)(h6:6<=a.heap.size){E D Q m n k:Nat}{s:Sto}{w:World}(h:pV a E D Q m n s w)(q:bY)(A:q.size<=100000)(g:lA k s)(d:k<=900000)(z:n<=800000)(p:m+400+q.size<=Q)(l:Q<=900000):
 Calls prog 8 #[.pointer (some ⟨E,0,none⟩),.string q] w (aAv a E D Q m n s q):=by
 obtain⟨M,K,h1,h2,h3⟩:=h;refine(XN E D Q m n k s q A w h1 (r.on h3) (fun b c=>qA (h2 b c)) g d z p l).mono ?_;rintro e w' ⟨rfl,f,K',C,i,j,F,o,t,v,x,y⟩;refine⟨rfl,C,⟨f,K',i,fun b c=>(j b c).elim (h2 b) (fun h=>qA h3.size),?_⟩,t,v,x,y⟩
 .exact((aJ (ok:=fun b=>b<a.heap.size) h3).trans (o.mono fun b _ c hm=>by have:=h2 b hm;have G:b<a.heap.size:=c;omega)).below (B:=a.heap.size) (fun k d=>⟨d,d⟩)
theorem XO(Q:Nat)(g:Q<=900000)(w:World)(d:Gl w)(h6:6<=w.heap.size):Calls prog 11 #[.int .i64 Q] w fun e w'=>∃E D,e=.returned (.tuple #[.pointer (some ⟨E,0,none⟩),.pointer (some ⟨D,0,none⟩)])/\pV w E D Q 0 0 kW w':=by
 refine(Nk Q qo w d h6).mono ?_;rintro e w' ⟨E,D,M,K,rfl,a,b,f,c⟩;exact⟨E,D,rfl,M,K,a,b,c⟩
theorem rL{c:World}(o:Gl c)(h6:6<=c.heap.size){E D Q m n k:Nat}{s i:Sto}{a:bY}{w:World}(h:pV c E D Q m n s w)(q:bY)(l:lU)(d:q.data.toList=l)(g:eN s l=(i,a))(j:lA k s)(p:k<=900000)(r:n<=800000)(v:m+400+l.length<=Q)(t:Q<=200000)(f:Q<=90000\/l.length<=100000):
 Calls prog 8 #[.pointer (some ⟨E,0,none⟩),.string q] w fun e w'=>e=.returned (.string a)/\∃b,pV c E D Q b (n+1) i w'/\b<=m+400+l.length:=by
 have x:q.size=l.length:=by rw[<-d,Array.length_toList];rfl
 refine(Xt o h6 h q (by rcases f with f|f<;>omega) j p r qo qo).mono ?_;rintro e w' ⟨rfl,b,h1,h2,h3,-⟩;rw[d,g] at h1;rw[d,g];exact⟨rfl,b,h1,qo⟩
theorem EF:str "ok"=⟨#[111,107]⟩:=by kernel_rfl
theorem Xu:str "denied Deny"=⟨#[100,101,110,105,101,100,32,68,101,110,121]⟩:=by kernel_rfl
theorem Xv:str "ok 7"=⟨#[111,107,32,55]⟩:=by kernel_rfl
theorem aDg:(⟨#[97,110,110,32,110,101,119,32,99]⟩:bY).data.toList=cX "ann new c":=by kernel_rfl
theorem aDh:(⟨#[97,110,110,32,119,114,105,116,101,32,99,32,102,32,55]⟩:bY).data.toList=cX "ann write c f 7":=by kernel_rfl
theorem aDi:(⟨#[97,110,110,32,112,111,108,105,99,121,32,112,111,108,105,99,121,32,112,32,102,105,114,115,116,32,123,32,100,101,110,121,32,100,32,119,104,101,110,32,40,97,99,116,105,111,110,46,110,97,109,101,32,61,32,35,119,114,105,116,101,41,59,32,112,101,114,109,105,116,32,114,59,32,125]⟩:bY).data.toList=EA:=by kernel_rfl
theorem aDj:(⟨#[97,110,110,32,119,114,105,116,101,32,99,32,102,32,56]⟩:bY).data.toList=cX "ann write c f 8":=by kernel_rfl
theorem aDk:(⟨#[98,111,98,32,114,101,97,100,32,99,32,102]⟩:bY).data.toList=cX "bob read c f":=by kernel_rfl
theorem ZS:∃s1 s2 a b c,eN kW (cX "ann new c")=(s1,⟨#[111,107]⟩)/\eN s1 (cX "ann write c f 7")=(s2,⟨#[111,107]⟩)/\eN s2 EA=(a,⟨#[111,107]⟩)/\eN a (cX "ann write c f 8")=(b,⟨#[100,101,110,105,101,100,32,68,101,110,121]⟩)/\eN b (cX "bob read c f")=(c,⟨#[111,107,32,55]⟩):=
 ⟨WZ.1,XA.1,XB.1,XC.1,Mm.1,by rw[<-EF,<-qO.1];rfl,by rw[<-EF,<-qO.2.1];rfl,by rw[<-EF,<-qO.2.2.1];rfl,by rw[<-Xu,<-qO.2.2.2.1];rfl,by rw[<-Xv,<-qO.2.2.2.2];rfl⟩
theorem tO{k:Nat}{s b:Sto}{q:lU}{a:bY}(h:lA k s)(c:eN s q=(b,a)):lA (k+1) b:=by
 have:=h.line q;rw[c] at this;exact this
theorem Np(w:World)(a:Gl w)(h6:6<=w.heap.size):Calls prog 10 #[] w (lG (.bool true) w):=by
 obtain⟨s1,s2,H,I,M,b,c,d,f,l⟩:=ZS;have o:=aA (XO 4000 qe w a h6);have g:=WY;have i:=tO g b;have j:=tO i c;have k:=tO j d;have n:=tO k f;have y:=aA (fun E D m (hm:m<=0) w1 (h:pV w E D 4000 m 0 kW w1)=>rL a h6 h _ _ aDg b g qe qe (by rw[show (cX "ann new c").length=9 from rfl];omega) qe (.inl qe));have z:=aA (fun E D m (hm:m<=500) w1 (h:pV w E D 4000 m 1 s1 w1)=>rL a h6 h _ _ aDh c i qe qe (by rw[show (cX "ann write c f 7").length=15 from rfl];omega) qe (.inl qe));have A:=aA (fun E D m (hm:m<=1000) w1 (h:pV w E D 4000 m 2 s2 w1)=>rL a h6 h _ _ aDi d j qe qe (by rw[show EA.length=75 from rfl];omega) qe (.inl qe));have B:=aA (fun E D m (hm:m<=1500) w1 (h:pV w E D 4000 m 3 H w1)=>rL a h6 h _ _ aDj f k qe qe (by rw[show (cX "ann write c f 8").length=15 from rfl];omega) qe (.inl qe));have C:=aA (fun E D m (hm:m<=2000) w1 (h:pV w E D 4000 m 4 I w1)=>rL a h6 h _ _ aDk l n qe qe (by rw[show (cX "bob read c f").length=12 from rfl];omega) qe (.inl qe));unfold lG;clear a h6 b c d f l g i j k n;go_enter func10,ntmps10;go_wp2_with fail;refine o.o.mono ?_;rintro e w1 ⟨E,D,rfl,h⟩;have H1:=y.o E D 0 qe w1 h;have H1:=aA H1;clear h o;go_wp2_with fail;refine H1.o.mono ?_;rintro e w2 ⟨rfl,m2,h,hm⟩;have r:=aA (z.o E D m2 (by rw[show (cX "ann new c").length=9 from rfl] at hm;omega) w2 h);have F:=aA hm;clear h hm;go_wp2_with fail;refine r.o.mono ?_;rintro e J ⟨rfl,m3,h,hm⟩;have p:Hid (m3<=1000):=aA (by have h2:=F.o;rw[show (cX "ann new c").length=9 from rfl] at h2;rw[show (cX "ann write c f 7").length=15 from rfl] at hm;omega)
 have s:=aA (A.o E D m3 p.o J h);clear h hm;go_wp2_with fail;refine s.o.mono ?_;rintro e K ⟨rfl,m4,h,hm⟩;have q:Hid (m4<=1500):=aA (by have h2:=p.o;rw[show EA.length=75 from rfl] at hm;omega);have t:=aA (B.o E D m4 q.o K h);clear h hm;go_wp2_with fail;refine t.o.mono ?_;rintro e L ⟨rfl,m5,h,hm⟩;have G:Hid (m5<=2000):=aA (by have h2:=q.o;rw[show (cX "ann write c f 8").length=15 from rfl] at hm;omega);have v:=aA (C.o E D m5 G.o L h);clear h hm;go_wp2_with fail;refine v.o.mono ?_;rintro e N ⟨rfl,m6,h,hm⟩;have x:=aA h.below;clear h hm;go_wp2;go_ret;exact⟨rfl,x.o⟩
theorem QCR{p:Prop}(h:p:=by
 rcases hM b hb with h|h
 .exact h2 b h
 .exact⟨qA h4.size,fun hp=>qA (h3 b hp)⟩):p:=h
theorem QBW{p:Prop}(h:p:=by
 exact((aJ (ok:=fun b=>b<w0.heap.size) h4).trans (hS.mono fun b _ hb hm=>by have:=(h2 b hm).1;have hb':b<w0.heap.size:=hb;omega)).below (B:=w0.heap.size) (fun k hk=>⟨hk,hk⟩)):p:=h
def Nq(w:World)(a:oD)(l:List ByteArray):Prop:=∀k (c:k<l.length),∃b off,a=some ⟨b,off,none⟩/\b<w.heap.size/\w.cell? ⟨b,off+k,none⟩=some (.string l[k])/\l[k].size<=maxLen
def sQ(a:World)(P:nP)(E D Q m n:Nat)(s:Sto)(w:World):Prop:=∃M K,sK w E D M K Q m n s/\(∀b,M b->a.heap.size<=b/\¬P b)/\(∀b,P b->b<w.heap.size)/\Below a.heap.size a w
theorem pV.one{a:World}{E D Q m n:Nat}{s:Sto}{w:World}(h:pV a E D Q m n s w):sQ a (fun _=>False) E D Q m n s w:=by
 obtain⟨M,K,h1,h2,h3⟩:=h;exact⟨M,K,h1,fun b c=>⟨h2 b c,id⟩,fun b h=>h.elim,h3⟩
theorem sQ.at0{a:World}{P:nP}{E D Q m n:Nat}{s:Sto}{w:World}(h:sQ a P E D Q m n s w):pV a E D Q m n s w:=by
 obtain⟨M,K,h1,h2,_,h3⟩:=h;exact⟨M,K,h1,fun b c=>(h2 b c).1,h3⟩
theorem sQ.sub{d:World}{P c:nP}{E D Q m n:Nat}{s:Sto}{w:World}(h:sQ d P E D Q m n s w)(hp:∀b,c b->P b):sQ d c E D Q m n s w:=by
 obtain⟨M,K,h1,h2,h3,h4⟩:=h;exact⟨M,K,h1,fun b a=>⟨(h2 b a).1,fun h=>(h2 b a).2 (hp b h)⟩,fun b a=>h3 b (hp b a),h4⟩
theorem sQ.on{c:World}{P:nP}{E D Q m n:Nat}{s:Sto}{w w':World}(h:sQ c P E D Q m n s w)(a:Below w.heap.size w w'):sQ c P E D Q m n s w':=by
 obtain⟨M,K,h1,h2,h3,h4⟩:=h;exact⟨M,K,h1.on a,h2,fun b hp=>lL (h3 b hp) a.size,aC h4 a⟩
theorem sQ.grow{c:World}{P:nP}{E D Q m n:Nat}{s:Sto}{w w':World}(h:sQ c P E D Q m n s w)(a:Below w.heap.size w w'):sQ c (fun b=>P b\/(w.heap.size<=b/\b<w'.heap.size)) E D Q m n s w':=by
 obtain⟨M,K,h1,h2,h3,h4⟩:=h;have d:∀b,M b->b<w.heap.size:=by
  obtain⟨J,base,vc,vr,vn,vo,vt,vu,vk,vb,la,lc,lu,h,ra,rc,ru,da,dc,bs,sy,H⟩:=h1;exact H.low
 exact⟨M,K,h1.on a,fun b hm=>⟨(h2 b hm).1,fun h=>h.elim (h2 b hm).2 (fun h=>qA (d b hm))⟩,fun b hp=>hp.elim (fun h=>lL (h3 b h) a.size) (fun h=>h.2),aC h4 a⟩
theorem XP{w0:World}(j:Gl w0)(h6:6<=w0.heap.size){P:nP}{E D Q m n k:Nat}{s:Sto}{w:World}(h:sQ w0 P E D Q m n s w)(q:bY)(x:q.size<=100000)(d:lA k s)(hk:k<=900000)(v:n<=800000)(i:m+400+q.size<=Q)(g:Q<=900000):
 Calls prog 8 #[.pointer (some ⟨E,0,none⟩),.string q] w fun e w'=>e=.returned (.string (eN s q.data.toList).2)/\∃a,sQ w0 P E D Q a (n+1) (eN s q.data.toList).1 w'/\aN P w w'/\m<=a/\a<=m+400+q.size/\(∀o,iT q.data.toList=some o->(cK s o).2.2.2≠0->a=m)/\(iT q.data.toList=none->a=m):=by
 obtain⟨M,K,h1,h2,h3,h4⟩:=h;refine(XN E D Q m n k s q x w h1 (j.on h4) (fun b hb=>qA ((h2 b hb).1)) d hk v i g).mono ?_;rintro e w' ⟨rfl,c,K',a,f,hM,y,hS,l,p,r,t⟩;refine⟨rfl,a,⟨c,K',f,fun b hb=> ?_,fun b hp=>lL (h3 b hp) hS.size,?_⟩,hS.mono fun b _ hp hm=>(h2 b hm).2 hp,l,p,r,t⟩
 .exact QCR
 .exact QBW
theorem own:ownKnob prog.godebug=none:=by kernel_rfl
theorem Bt:laidOutB prog=true:=by kernel_rfl
section
open Go.ChangeShapes Go.WideShapes Go.ChangeAt Go.Deep
def MK:List (String×DataW Unit):=[("math/bits.deBruijn32tab",Rows.laid_math_bits_deBruijn32tab),("math/bits.deBruijn64tab",Rows.laid_math_bits_deBruijn64tab),("internal/strconv.uint64pow10",Rows.laid_internal_strconv_uint64pow10),("strconv.ErrRange",Rows.laid_strconv_ErrRange),("strconv.ErrSyntax",Rows.laid_strconv_ErrSyntax)]
theorem aA4{W:World}(i:W.ShapedOpen prog)(h:laidMetH prog MK W):Gl W/\6<=W.heap.size:=by
 rw[MakeChecks.laidMetH_plain _ _ _ (by kernel_rfl)] at h;obtain⟨H,⟨g0,t0,q,f0,D,q0,z,A,C,x,⟨g1,t1,r,f1,E,q1,f,B,a,y,⟨g2,t2,s,f2,F,I,g,j,o,d,⟨g3,t3,t,f3,G,J,b,l,p,e,_,_⟩,_⟩,_⟩,_⟩,_⟩:=h;obtain rfl:=Option.some.inj ((show prog.globalNamed "strconv.ErrRange"=some 2 by kernel_rfl).symm.trans b);obtain rfl:=Option.some.inj ((show prog.globalNamed "math/bits.deBruijn64tab"=some 5 by kernel_rfl).symm.trans f);have m:(prog.globals[2]?).map (·.type)=some 126:=by kernel_rfl
 obtain rfl:=Option.some.inj (m.symm.trans l);have n:(prog.globals[3]?).map (·.type)=some 327:=by kernel_rfl
 obtain rfl:=Option.some.inj (XE.symm.trans g);obtain rfl:=Option.some.inj (n.symm.trans j);have h6:6<=W.heap.size:=by
  unfold World.var? at a;rw[show prog.globalNamed "math/bits.deBruijn64tab"=some 5 by kernel_rfl] at a
  rcases Nat.lt_or_ge 5 W.heap.size with h2|h2
  .exact h2
  .simp[Array.getElem?_eq_none h2] at a
 refine⟨⟨?_,(laysM220.s1_3 W i),?_⟩,h6⟩
 .obtain⟨w,u,v,c,_,_⟩:=iface_of_trod underlying126 e;have:=World.var?_cell b p 0;rw[Array.eq_one_of_toList c] at this;exact⟨_,by simpa using this,.inr ⟨u,v,rfl⟩⟩
 .unfold Lib.TabIs;rw[o,<-Lib.cells_of_tab (zs:=Lib.pow10Tab) (k:= .u64) underlying327 underlying60 (by kernel_rfl) (by kernel_rfl) d]
section
variable {H:Type} {enc:TypeId×Value->H} {P:Program} {W:World} {sp:Nat->Bool} {held:Bool}
theorem Gk{r:Reach}{b0:Nat}{t e:TypeId}{v:Value}{d:DataW H}{p:List MemPlace}(n:P.underlying t=some (.slice e))(he:P.underlying e=some .string)(s:P.cellsOf e=1)
 (D:Value.okWide P W r b0 t v)(h:DataW.Trod enc P W 0 sp held t v d p):
 ∃(a:oD) (cap:Nat) (l:List ByteArray),v=.slice a l.length cap/\l.length<=maxLen/\Nq W a l:=by
 obtain⟨a0,len,cap,rfl⟩:=okWide_slice n D;obtain⟨fuel,B⟩:=h
 rcases open_strings n he s B with ⟨f,_⟩|⟨a,J,F,j,f,_,I,hm,E,_,A,C⟩
 .simp[Value.cells] at f;obtain⟨rfl,rfl,rfl⟩:=f;exact⟨none,0,[],rfl,qs,fun k g=>absurd g qs⟩
 .simp[Value.cells] at f;obtain⟨rfl,rfl,rfl⟩:=f;have hlen:len<=j.length:=by rw[E];split<;>omega
  have m:(j.take len).length=len:=by rw[List.length_take];omega
  refine⟨some a,cap,j.take len,by rw[m],qo,fun k g=> ?_⟩;have G:k<len:=qo;have w:Sl W W.heap.size (some a) ((j.take len).map Value.string):=Sl.of_cells fun i x c=>by
   simp only[List.getElem?_map,List.getElem?_take] at c;split at c
   .rw[gE qo] at c;simp only[Option.map_some,Option.some.injEq] at c;subst c;rw[A i qo,List.getD_eq_getElem?_getD,gE qo];rfl
   .simp at c
  obtain⟨b,off,q,y,z⟩:=w (by intro o;have:=congrArg List.length o;simp only[List.length_map,m,List.length_nil] at this;omega);exact⟨b,off,q,y,z k _ (by rw[List.getElem?_map,gE g];rfl),C _ (List.mem_of_mem_take (List.getElem_mem g))⟩
end
theorem OH{H:Type}{enc:TypeId×Value->H}{a:Assume}{C:Checked}{os:Os}{f:FuncId}{fn:Func}{s:ChangeSpec}{conds:List PathCond}{apart fresh handsOn again:Bool}{X:World->Array Value->Prop}
 (k:∀(w w':World) (args:Array Value),w.heap=w'.heap->X w args->X w' args)
 (own:ownKnob C.prog.godebug=none)(started:os.Started)(y:C.prog.inits.idxOf? f=none)(l:C.prog.funcs[f]? =some fn)
 (witness:∃(w:World) (tape:Tape) (i:Input),w.os=os/\(w.forCall tape i).Shaped C.prog/\i.vars=[]/\Input.okWide C.prog (w.forCall tape i) .any w.heap.size f i/\
   ((s.pre enc C.prog fn conds apart (w.forCall tape i).memory i.args/\X (w.forCall tape i).memory i.args)/\sizedMet enc C.prog fn (OpenSpec.ofChange s) apart (w.forCall tape i).memory i.args)/\a.holds C.prog (lone (Frame.enter C.prog f i.args .normal) [] (w.forCall tape i)))
 (d:∀(W:World) (base:Nat) (args:Array Value) (b gs:List (DataW H)) (before:List MemPlace),W.ShapedOpen C.prog->
   (∀(j:Nat) t v,fn.params[j]? =some t->args[j]? =some v->Value.okWide C.prog W .any base t v)->
   DataW.Whole enc C.prog fn.params.toList s.vars apart W args.toList b gs before->X W args->
   Calls C.prog f args W fun e c=>∃v,e=.returned v/\s.post enc C.prog fn apart fresh handsOn again W args v c):
 ReturnsInHanded a C os f .any (fun w args=>(s.pre enc C.prog fn conds apart w args/\X w args)/\sizedMet enc C.prog fn (OpenSpec.ofChange s) apart w args) (s.post enc C.prog fn apart fresh handsOn again):=by
 refine returnsInHanded_of_calls own started y witness ?_;intro w tape i _ p _ n o A;obtain⟨_,_,_,g,m,_,_,_,_,q⟩:=n;have e:g=fn:=Option.some.inj (m.symm.trans l);subst e;obtain⟨⟨⟨b,gs,before,hw,z⟩,x⟩,B⟩:=o;have r:=DataW.Whole.of_heap (w':=w.forCall tape i) (by rfl) hw;refine(d (w.forCall tape i) w.heap.size i.args b gs before p q r (k _ _ _ (by rfl) x)).mono fun e c ⟨v,he,hp⟩=> ?_
 subst he;exact ChangeSpec.post_blind hp
theorem So(os:Os)(args:Array Value):laidMetH prog MK ((World.doorLaid prog 400 os).forCall (fun _ _=>0) ⟨#[],args,[]⟩).memory:=
 laidMetH_of_parts3 (fuel:=8) (laidMet_of_run' 8 (by kernel_rfl) (by kernel_rfl)) (by kernel_rfl) (by kernel_rfl)
end
theorem Xw(a v1 v2 p:Int)(x y:Nat)(g h:Bool)(v3:bY)(w:World):(Instr.field 32 (.agg #[.int .i64 a,.complex .f64 x y,.bool g,.int .i64 v1,.int .i64 v2,.string v3,.bool h,.int .i64 p]) 0).run prog w=.ok (.int .i64 a) w:=by kernel_rfl
theorem aAw{w0:World}(j:Gl w0){P:nP}{E D Q m n k:Nat}{s:Sto}{w:World}(h:sQ w0 P E D Q m n s w)(o:Op)(r:iU o)(d:lA k s)(hk:k<=900000)(q:n<=800000)(i:m+400+o.text.size<=Q)(g:Q<=900000):
 Calls prog 6 #[.pointer (some ⟨E,0,none⟩),eW o] w fun e w'=>e=.returned (.agg (eI (cK s o).2.1))/\∃a,sQ w0 P E D Q a (n+1) (cK s o).1 w'/\aN P w w'/\m<=a/\a<=m+400+o.text.size:=by
 obtain⟨M,K,h1,h2,h3,h4⟩:=h;refine(Bo E D Q m n k s o r w h1 ((j.on h4).aEt) d hk q i g).mono ?_;rintro e w' ⟨rfl,c,K',a,f,hM,t,hS,l,p,v⟩;refine⟨rfl,a,⟨c,K',f,fun b hb=> ?_,fun b hp=>lL (h3 b hp) hS.size,?_⟩,hS.mono fun b _ hp hm=>(h2 b hm).2 hp,l,p⟩
 .exact QCR
 .exact QBW
theorem aDl:(⟨#[98,111,115,115,32,110,101,119,32,99]⟩:bY).data.toList=cX "boss new c":=by kernel_rfl
theorem aDm:(⟨#[98,111,115,115,32,119,114,105,116,101,32,99,32,102,32,49]⟩:bY).data.toList=cX "boss write c f 1":=by kernel_rfl
theorem aDn(T:bY):(⟨#[98,111,115,115,32,112,111,108,105,99,121,32]⟩++T:bY).data.toList=cX "boss policy "++T.data.toList:=by
 rw[ByteArray.data_append,Array.toList_append];rfl
theorem Nr(T:bY)(t:T.size<=1000)(s:Sto)(v:Uq T.data.toList=(s,⟨#[111,107]⟩))(w:World)(a:Gl w)(h6:6<=w.heap.size):Calls prog 4 #[.string T] w fun e w'=>∃E D m,e=.returned (.pointer (some ⟨E,0,none⟩))/\pV w E D 200000 m 3 s w'/\m<=3000/\lA 3 s:=by
 have n:=aA (XO 200000 qe w a h6);have b:eN kW (cX "boss new c")=(MB.1,⟨#[111,107]⟩):=by rw[<-EF,<-MD.1];rfl
 have c:eN MB.1 (cX "boss write c f 1")=(MC.1,⟨#[111,107]⟩):=by rw[<-EF,<-MD.2];rfl
 have d:eN MC.1 (cX "boss policy "++T.data.toList)=(s,⟨#[111,107]⟩):=v;generalize MC.1=s2 at *;generalize MB.1=s1 at *;have f:=WY;have g:=tO f b;have i:=tO g c;have x:=aA (tO i d);have j:Hid ((cX "boss policy "++T.data.toList).length<=1012):=aA (by
  have h1:T.data.toList.length<=1000:=by rw[Array.length_toList];exact t
  have h2:(cX "boss policy ").length=12:=by kernel_rfl
  rw[aL,h2];omega)
 have C:¬((⟨#[98,111,115,115,32,112,111,108,105,99,121,32]⟩:bY).size+T.size > 9223372036854775807):=by
  have:(⟨#[98,111,115,115,32,112,111,108,105,99,121,32]⟩:bY).size=12:=by kernel_rfl
  omega
 have o:=aA (fun E D m (hm:m<=0) w1 (h:pV w E D 200000 m 0 kW w1)=>rL a h6 h _ _ aDl b f qe qe (by rw[show (cX "boss new c").length=10 from rfl];omega) qe (.inr (by rw[show (cX "boss new c").length=10 from rfl];omega)));have p:=aA (fun E D m (hm:m<=500) w1 (h:pV w E D 200000 m 1 s1 w1)=>rL a h6 h _ _ aDm c g qe qe (by rw[show (cX "boss write c f 1").length=16 from rfl];omega) qe (.inr (by rw[show (cX "boss write c f 1").length=16 from rfl];omega)));have q:=aA (fun E D m (hm:m<=1000) w1 (h:pV w E D 200000 m 2 s2 w1)=>rL a h6 h _ _ (aDn T) d i qe qe (qA j.o) qe (.inr (qA j.o)));clear a h6 b c d f g i v t;go_enter func4,ntmps4;go_wp2_with fail;refine n.o.mono ?_;rintro e w1 ⟨E,D,rfl,h⟩;have H1:=aA (o.o E D 0 qe w1 h);clear h n o;go_wp2_with fail;refine H1.o.mono ?_;rintro e w2 ⟨rfl,m2,h,hm⟩;have k:=aA (p.o E D m2 (by rw[show (cX "boss new c").length=10 from rfl] at hm;omega) w2 h);have z:Hid (m2<=500):=aA (by rw[show (cX "boss new c").length=10 from rfl] at hm;omega);clear h hm p H1;go_wp2_with fail;refine k.o.mono ?_;rintro e B ⟨rfl,m3,h,hm⟩;have r:Hid (m3<=1000):=aA (by have h2:=z.o;rw[show (cX "boss write c f 1").length=16 from rfl] at hm;omega);have l:=aA (q.o E D m3 r.o B h);clear h hm q k;go_wp2_with fail;refine l.o.mono ?_;rintro e F ⟨rfl,m4,h,hm⟩;have A:Hid (m4<=3000):=aA (by have h2:=r.o;have h3:=j.o;omega);have y:=aA h;clear h hm l;go_wp2;go_ret;exact⟨E,D,m4,rfl,y.o,A.o,x.o⟩
def OI:Sto:=⟨0,[⟨⟨#[99]⟩,⟨#[98,111,115,115]⟩,⟨#[111,112,101,110]⟩,[(⟨#[102]⟩,(2,1,⟨#[]⟩))],[⟨0,⟨#[98,111,115,115]⟩,⟨#[110,101,119]⟩⟩,⟨0,⟨#[98,111,115,115]⟩,⟨#[119,114,105,116,101]⟩⟩]⟩],[],[],[],nV,1⟩
theorem Sp:Uq Bl=(OI,⟨#[111,107]⟩):=by kernel_rfl
def vO(n:Int):Op:=⟨3,⟨#[98,111,115,115]⟩,⟨#[99]⟩,⟨#[102]⟩,⟨#[]⟩,(2,n,⟨#[]⟩),0,⟨#[]⟩,⟨#[]⟩,false⟩
theorem Xx:(List.range 1000).all (fun i=>decide ((cK OI (vO (1000+(i:Int)))).2.1.err=0))=true:=by kernel_rfl
theorem Ns{n:Int}(h0:0<=n)(h1:n<=999):(cK OI (vO (1000+n))).2.1.err=0:=by
 have h2:=List.all_eq_true.1 Xx n.toNat (List.mem_range.2 qo);rw[Int.toNat_of_nonneg h0] at h2;exact of_decide_eq_true h2
def BF(s:Sto):Prop:=s.aDA=nV/\∃c∈s.aDz,c.id=⟨#[99]⟩
theorem Nt:BF OI:=⟨rfl,_,List.mem_singleton.2 rfl,rfl⟩
theorem RI{s:Sto}(e:sD s)(h:BF s)(o:Op):BF (cK s o).1:=by
 obtain⟨h1,c,a,h2⟩:=h;obtain⟨d,b,f⟩:=(PU s o e).2.2 c a;exact⟨WU o h1,d,b,f.id.trans h2⟩
theorem Sq{s:Sto}(b:sD s)(h:BF s)(q:lU):BF (eN s q).1:=by
 rcases a:iT q with _|o
 .rw[QZ a];exact h
 .rw[xU a];exact RI b h o
theorem Bu{l:lU}{o:Op}(h:iT l=some o):fK o=true:=by
 rw[NZ] at h;unfold tV at h;split at h
 .split at h
  .rename_i a;injection h with h;rw[<-h];exact a
  .cases h
 .cases h
theorem Sr{s:Sto}(e:sD s)(h:BF s){q:lU}{o:Op}(a:iT q=some o)(d:o.aDy=2)(b:o.aDS=⟨#[102]⟩):(eN s q).2=str "hidden"\/(eN s q).2=str "error 10":=by
 rw[xU a];have h1:=ID o h.1 e.2 (Bu a) d (b.trans (show (⟨#[102]⟩:bY)=str "f" by kernel_rfl));dsimp only;rw[h1]
 cases dU s o.aDF with
 |none=>exact .inr rfl
 |some c=>exact .inl rfl
def Gn:List UInt8:=cX "ann read c f"
theorem Bv:iT Gn=some ⟨2,⟨#[97,110,110]⟩,⟨#[99]⟩,⟨#[102]⟩,⟨#[]⟩,(0,0,⟨#[]⟩),0,⟨#[]⟩,⟨#[]⟩,false⟩:=by kernel_rfl
theorem Ss{s:Sto}(a:sD s)(h:BF s):(eN s Gn).2=str "hidden":=by
 rw[xU Bv];have h1:=ID (s:=s) _ h.1 a.2 (Bu Bv) rfl (show (⟨#[102]⟩:bY)=str "f" by kernel_rfl);dsimp only;rw[h1];obtain⟨_,c,b,h2⟩:=h;obtain⟨k,d,rfl⟩:=List.getElem_of_mem b;have:=(Ed a.1.aEd d).2;rw[h2] at this;dsimp only;rw[this]
theorem Nu{p:Prop}(h:p:=by
 go_wp2;go_roundw
 case rel=>exact⟨k+1,m5,t,qo,by go_num,HA9,HM5,HBt,HIt,HS9⟩
 case measure=>simp[intOf];omega):p:=h
theorem Xy:(⟨#[112,111,108,105,99,121,32,112,32,100,101,110,121,111,118,101,114,32,123,32,100,101,110,121,32,113,32,119,104,101,110,32,40,97,99,116,105,111,110,46,110,97,109,101,32,61,32,35,112,111,108,105,99,121,41,59,32,112,101,114,109,105,116,32,114,32,111,110,32,112,101,114,109,105,116,32,114,101,100,97,99,116,32,102,59,32,125]⟩:bY).data.toList=Bl:=by kernel_rfl
theorem St:(⟨#[97,110,110,32,114,101,97,100,32,99,32,102]⟩:bY).data.toList=Gn:=by kernel_rfl
theorem Bw:str "hidden"=⟨#[104,105,100,100,101,110]⟩:=by kernel_rfl
theorem Bx:str "error 10"=⟨#[101,114,114,111,114,32,49,48]⟩:=by kernel_rfl
theorem Su{n:Int}(h0:0<=n)(h1:n<=999):iU (vO (1000+n)):=by
 simp only[iU,vO,cS,bK];exact⟨⟨qo,qo⟩,qe,qe,qe,qe,⟨⟨qo,qo⟩,⟨qo,qo⟩,qe⟩,⟨qo,qo⟩,qe,qe⟩
theorem OJ(a:oD)(c:Nat)(l:List ByteArray)(hl:l.length<=maxLen)(n:Int)(_: -9223372036854775808<=n)(_:n<=9223372036854775807)(w:World)(hs:Nq w a l)(M:Gl w)(h6:6<=w.heap.size):Calls prog 3 #[.slice a l.length c,.int .i64 n] w fun e w'=>e=.returned (.bool true)/\Below w.heap.size w w':=by
 have HF:=aA (Nr _ (by decide +kernel) OI (Xy▸Sp) w M h6);have bh:=aA (fun w' (d:Below w.heap.size w w')=>Np w' (M.on d) (lT h6 d.size));have ar:=aA (fun w'=>JQ n 0 999 w' qe qe qe);obtain⟨N,J⟩:=xE (kK n 0 999);have a7:0<=N:=by rw[J];exact OO n 0 999 qe
 have a6:N<=999:=by rw[J];exact OQ n 0 999 qe
 rw[<-J] at ar;have H:Hid (0<=N/\N<=999):=aA ⟨a7,a6⟩;obtain⟨F,H6,HS,bl⟩:=dE M h6 hs hl;clear M h6 hs hl J;have bz:IntKind.i64.wrap (1000+N)=1000+N:=IntWalk.i64_in _ qo;have b0:wrap64 (1000+N)=1000+N:=IntWalk.wrap64_in _ qo;clear a7 a6;go_enter func3,ntmps3;go_wp2_with fail;refine HF.o.mono ?_;rintro e w1 ⟨E,D,m0,rfl,aw,ba,au⟩;obtain⟨al,T,ag⟩:=aY ba au aw.one;clear aw ba au HF;go_wp2_with fail;refine(ar.o _).mono ?_;rintro e w2 ⟨rfl,rfl⟩;go_upto_region 5 with (refine fD rfl _ (.tmp 6) (.tmp 18) rfl w1.heap.size _ rfl rfl _ _ (aK _ _ _ rfl) (by kernel_rfl) rfl (by simp[Value.oneCell']) ?_;intro w3 Z ao)
 have ah:=aA (uP (lR _) ao.o);have ae:=aA (ag.o.grow ah.o);obtain⟨⟨x0,x1,x2⟩,-⟩:=cD Z.o;have zx:=aD Z.o;obtain⟨B,V,Y,U⟩:=dE (aAw F.o ae.o (vO (1000+N)) (Su H.o.1 H.o.2) T.o qe qe (by have:=al.o;show m0+400+0<=200000;omega) qe) (Ns H.o.1 H.o.2) (RI T.o.ok Nt (vO (1000+N))) (T.o.guard (vO (1000+N)));unfold eW bW vO eI at B;unfold vO at V Y U;dsimp only at B;obtain⟨G,hG⟩:=xE (cK OI ⟨3,⟨#[98,111,115,115]⟩,⟨#[99]⟩,⟨#[102]⟩,⟨#[]⟩,(2,1000+N,⟨#[]⟩),0,⟨#[]⟩,⟨#[]⟩,false⟩);rw[<-hG] at B V Y U;clear ao hG ag;go_wp2_with fail;refine B.o.mono ?_;rintro e w4 ⟨rfl,m4,hA4,bs,-,bb⟩;rw[V.o];have bx:= @Xw;have S:=aA hA4;have bo:Hid (m4<=4000):=aA (by have:=al.o;have h5:m4<=m0+400+0:=bb;omega);have ak:=aA (Nn (ok:=fun _=>True) a c l bl.o 30 qe w4 (fun k hk=>by
  obtain⟨b,off,h1,h2,h3,h4⟩:=HS.o k hk;have ax:=S.o.at0.below;exact⟨b,off,h1,lL h2 ax.size,(ax.cell (p:=⟨b,off+k,none⟩) h2).trans h3,h4⟩))
 clear hA4 bs bb B x0 x1 x2 zx bz b0 ae Z ah;go_wp2_with fail;refine ak.o.mono ?_;rintro e w5 ⟨v,rfl,R,d⟩;obtain⟨L,hL⟩:=xE (zF l 30);rw[<-hL] at R;have f:Hid (L.length<=30/\∀x∈L,x.size<=600):=aA (by
  rw[hL];unfold zF;refine⟨by rw[List.length_map,List.length_take];omega,fun x hx=> ?_⟩;obtain⟨y,_,rfl⟩:=List.mem_map.1 hx;exact Nl y)
 obtain⟨la,lc,rfl,-⟩:=R.slice;obtain⟨P,bf,bp⟩:∃P:nP,Hid (sQ w P E D 200000 m4 4 G.1 w5)/\Hid (∀b,w4.heap.size<=b/\b<w5.heap.size->P b):=⟨_,aA (S.o.grow d),aA (fun b d=> .inr d)⟩;have bm:=aA (aH.inb vV R);clear d R hL ak S bx;go_wp2;go_loopw [28] (fun i wr=>∃(k m:Nat) (s:Sto),k<=L.length/\i=.int .i64 k/\Hid (sQ w P E D 200000 m (k+4) s wr)/\Hid (m<=4000+1000 * k)/\Hid (lA (k+4) s)/\Hid (BF s)/\Hid (aN P w5 wr)) (fun i _=>L.length - (intOf i).toNat)
 case atStart=>exact⟨0,m4,G.1,qo,rfl,bf,bo,U,Y,aA (aJ (Below.refl _ _))⟩
 case round=>
  obtain⟨k,m,s,hk,rfl,HE,X,j,W,aq⟩:=hrel;by_cases a8:k<L.length
  .have bn:=aA (aH.aDH vV bm.o ((aq.o).mono fun b _ d=>by exact bp.o b ⟨d.1,d.2⟩));obtain⟨b,off,r,rfl,b1,b2,⟨rfl,a1⟩,hc⟩:=aH.at vV bn.o a8 qe;obtain⟨q,hq⟩:=xE (L[k]);rw[<-hq] at a1 hc;have bd:=hc 0 _ rfl;rw[Nat.mul_one,Nat.add_zero] at bd;have bc:q.size<=600:=by rw[hq];exact f.o.2 _ (List.getElem_mem a8)
   have I:=aA bc;have z:=aA (XP F.o H6.o HE.o q (qA I.o) j.o (qA f.o.1) (qA f.o.1) (qF I.o X.o f.o.1) qe);have bu:(k:Int)<(L.length:Int):=qo;clear hc a1 hq bc;go_wp2_with fail;refine z.o.mono ?_;rintro e w6 ⟨rfl,m5,hA6,av,-,bw,-⟩;obtain⟨t,Q⟩:=xE ((eN s q.data.toList).1);obtain⟨C,ad⟩:=xE ((eN s q.data.toList).2);rw[<-Q] at hA6;rw[<-ad];have HBt:Hid (lA (k+1+4) t):=aA (by rw[Q];exact(j.o.line _).more qo);have HIt:Hid (BF t):=aA (by rw[Q];exact Sq j.o.ok W.o _);have HM5:Hid (m5<=4000+1000 * (k+1)):=aA (qD X.o I.o);obtain⟨HP,bg,br,af⟩:=dE (QT q (qA I.o) w6 (F.o.on hA6.at0.below)) hA6 (aq.o.trans av) ad;clear Q ad hA6 av bw z bd;go_wp2_with fail;refine HP.o.mono ?_;rintro e w8 ⟨bt,rfl,az⟩;obtain⟨OP,ab⟩:=xE (iT q.data.toList);rw[<-ab];obtain⟨O,K⟩:=xE (OP.getD TK);obtain⟨be,hI⟩:=xE OP.isSome;rw[<-K,<-hI];have bq:Hid (be=true->O.aDy=2->O.aDS=⟨#[102]⟩->C=str "hidden"\/C=str "error 10"):=aA (fun h1 h2 h3=>by
    rw[af.o]
    rcases OP with _|o
    .rw[hI] at h1;cases h1
    .exact Sr j.o.ok W.o ab.symm (by rw[K] at h2;exact h2) (by rw[K] at h3;exact h3))
   have bk:=aA az;unfold eW bW;clear bt az ab HP K hI af;go_upto_region 12 with (refine fD rfl _ (.tmp 10) (.tmp 38) rfl w8.heap.size _ rfl rfl _ _ (aK _ _ _ rfl) (by kernel_rfl) rfl (by simp[Value.oneCell']) ?_;intro w9 aa HS9)
   have ai:=qB bk (uP (lR _) HS9.o);have HA9:=aA (bg.o.on ai.o);have HS9:=aA (br.o.trans (aJ ai.o));obtain⟨⟨o0,-,-,o3,-,-,-,-,-,-,-,-⟩,-⟩:=bL aa.o;have zo:=aD aa.o;have h40:=f.o.1;clear aa
   cases be
   .exact Nu
   by_cases g:O.aDy=2
   case neg=>
    have e2:(O.aDy==(2:Int))=false:=bN.2 g;clear g;exact Nu
   have e2:(O.aDy==(2:Int))=true:=bQ.2 g;by_cases A:O.aDS=⟨#[102]⟩
   case neg=>
    obtain⟨f1,f2⟩:=fB O.aDS [102] A;clear g A;exact Nu
   obtain⟨f1,f2⟩:=fC O.aDS [102] A
   rcases bq.o rfl g A with ha|ha
   .obtain⟨f3,f4⟩:=fC C [104,105,100,100,101,110] (ha.trans Bw);clear g A ha;exact Nu
   .obtain⟨f3,f4⟩:=fC C [101,114,114,111,114,32,49,48] (ha.trans Bx);obtain⟨f5,f6⟩:=fB C [104,105,100,100,101,110] (fun e=>by rw[ha,Bx] at e;exact absurd e qe);clear g A ha;exact Nu
  .have bu:¬((k:Int)<(L.length:Int)):=qo;have z:=aA (XP F.o H6.o HE.o ⟨#[97,110,110,32,114,101,97,100,32,99,32,102]⟩ qe j.o (qA f.o.1) (qA f.o.1) (by have:=X.o;have:=f.o.1;show m+400+12<=200000;omega) qe);rw[St,Ss j.o.ok W.o,Bw] at z;go_wp2_with fail;refine z.o.mono ?_;rintro e w6 ⟨rfl,m5,hA6,-⟩;have aj:=aA hA6.at0.below;clear hA6 z;go_wp2_with fail;refine(bh.o _ aj.o).mono ?_;rintro e w7 ⟨rfl,ay⟩;have bj:=qB aj ay;clear ay;go_wp2;go_returns;exact⟨rfl,bj.o⟩
section
namespace topHidden
open Go.ChangeShapes Go.WideShapes Go.ChangeAt
set_option maxRecDepth 100000 in
theorem aAx(os:Os)(started:os.Started)(H:Type)(enc:TypeId×Value->H):
 ReturnsInHanded {} checked os 3 .any (fun w args=>(Rows.topHiddenSpec.pre enc prog f3 [] false w args/\laidMetH prog MK w)/\sizedMet enc prog f3 (OpenSpec.ofChange Rows.topHiddenSpec) false w args)
  (Rows.topHiddenSpec.post enc prog f3 false true false false):=by
 refine OH (C:=checked) (X:=fun w _=>laidMetH prog MK w) (fun _ _ _ s h=>h.of_heap s) own started (by kernel_rfl) func3
  (ChangeSpec.witness_shaped (enc:=enc) (C:=checked) (os:=os) (X:=fun w _=>laidMetH prog MK w) false (World.doorLaid prog 400 os) #[.slice none 0 0,.int .i64 0] 8 rfl (World.shaped_of_RefB (by kernel_rfl) (by kernel_rfl)) (by kernel_rfl) (by kernel_rfl) (by kernel_rfl) (So os _)) ?_
 intro W base args k gs before A d c l;have b:∀(j:Nat) t v,f3.params[j]? =some t->args[j]? =some v->Value.okWide prog W .any base t v:=d;have o:=c;obtain⟨p,q,hA0,n,rfl,R,S⟩:=c;have hA:DataW.TrodAll enc prog W 0 (fun _=>true) true f3.params.toList args.toList k p:=hA0;rw[params3] at hA b;obtain⟨v0,T,d0,O,I,q0,Q,rfl,rfl,h0,K⟩:=trodAll_cons hA;obtain⟨v1,U,d1,P,J,q1,rfl,rfl,rfl,h1,L⟩:=trodAll_cons K;obtain⟨rfl,rfl,rfl⟩:=trodAll_nil L;obtain rfl:args=#[v0,v1]:=by cases args;simp_all
 obtain⟨rfl,rfl⟩:=trodVars_none n;have f:=h0;have E:∀x∈I,x.block<W.heap.size:=by obtain⟨m,hm⟩:=f;exact DataW.trod_lt m _ _ _ hm
 have g:=h1;have F:∀x∈J,x.block<W.heap.size:=by obtain⟨m,hm⟩:=g;exact DataW.trod_lt m _ _ _ hm
 obtain⟨a0,i,B,rfl,z,M⟩:=Gk underlying22 underlying9 (by kernel_rfl) (b 0 22 v0 rfl rfl) h0;obtain⟨G,rfl,rfl,rfl,w1⟩:=open_int underlying3 (b 1 3 v1 rfl rfl) h1;obtain⟨D,y⟩:=Gu w1;obtain⟨r,h6⟩:=aA4 A l;clear hA0 d;refine(OJ a0 i B z G D y W M r h6).mono fun e N ⟨he,a⟩=> ?_
 subst he;exact⟨_,rfl,_,_,_,[],_,[],o,trodAll_mk1 (shut_bool underlying4 _),(trodAll_cons_mk (Below.trod Bt (by kernel_rfl) (of_decide_eq_true (by kernel_rfl)) f a E) (trodAll_cons_mk (Below.trod Bt (by kernel_rfl) (of_decide_eq_true (by kernel_rfl)) g a F) trodAll_mk0)),rfl,a.frame _,fun h=>by cases h⟩
set_option maxRecDepth 100000 in
theorem aAy:joinedFacts checked.prog 3 f3 Rows.topHiddenSpec Rows.topHiddenRow=true:=by
 unfold joinedFacts;simp only[Bool.and_eq_true]
 repeat' apply And.intro
 all_goals (as_aux_lemma=>kernel_rfl)
set_option maxRecDepth 100000 in
theorem aDo:Rows.TopHiddenSaid:=
 OpenClaim.holds_of_wide 3 f3 rfl rfl rfl rfl rfl rfl rfl ⟨rfl,rfl,rfl,rfl,rfl⟩ rfl rfl rfl rfl rfl (by as_aux_lemma=>kernel_rfl) func3 aAy
  (of_decide_eq_true (by as_aux_lemma=>kernel_rfl)) (by unfold Func.isWrapper;first|(rw[iP (by decide +kernel)];kernel_rfl)|(rw[iN (by decide +kernel)];exact⟨rfl,rfl⟩))
  (fun os started H enc _=>aAx os started H enc)
theorem proved:Rows.TopHiddenCardSaid:=
 Claim7.holds_tied_plain_at .later [] [.data,.data,.data,.sentinel,.sentinel] true _ true
  aDo (fun _ h=>by cases h) (by as_aux_lemma=>kernel_rfl) (fun _ h=>by cases h) topHidden_row_tie rfl ⟨rfl,rfl⟩ (by as_aux_lemma=>kernel_rfl) rfl
  (fun f fn c d=>by
    obtain rfl:f=3:=Option.some.inj ((show prog.funcNamed Rows.topHiddenRow.func=some 3 by kernel_rfl).symm.trans c) |>.symm;obtain rfl:fn=f3:=(Option.some.inj (func3.symm.trans d)).symm;exact⟨by as_aux_lemma=>kernel_rfl,fun j t a=>by
     rw[params3] at a;have hm:t∈[22,3]:=by simpa using Array.mem_of_getElem? a
     have b:([22,3].all fun u=> !prog.wantsStandIn u)=true:=by kernel_rfl
     exact(show prog.wantsStandIn t=false by simpa using List.all_eq_true.1 b t hm)⟩)
  (by as_aux_lemma=>kernel_rfl)
#print axioms proved
end topHidden
end
end Go.Proofs.YtdfinmcogbkffaaGreatDoor
