/-
  THE STATEMENT Rows.TopSilentCardSaid PROVED: for every input bailiff/bailifftop.TopSilent returns true (of two stores that differ in a field that no request names, and that a duty always hides, every answer is the same, whatever is asked (under that policy)), and the arguments read afterwards as they read before.
  Conditions: none beyond the row's own (it lists five package-level variables of strconv and math/bits; the card ties them to the program's text).
-/
import Derived.Test.YthcgdgkpgdjahaaGreatDoorMbs
import Derived.LaidMore
import Derived.Stop.Joined
import Derived.SliceStrings
import Derived.Test.YthcgdgkpgdjahaaGreatDoorCards
import Derived.Test.YthcgdgkpgdjahaaGreatDoorTie
import Derived.SevenTiedAt
namespace Go.Proofs.YthcgdgkpgdjahaaGreatDoor
open Go.RowKit
set_option linter.unusedVariables false
set_option linter.unusedSimpArgs false
set_option maxHeartbeats 16000000
open _root_.Go.Proofs.Tryz
set_option maxRecDepth 20000
section
open Go.ChangeShapes Go.WideShapes Go.ChangeAt Go.Deep
def NC:List (String×DataW Unit):=[("math/bits.deBruijn32tab",Rows.laid_math_bits_deBruijn32tab),("math/bits.deBruijn64tab",Rows.laid_math_bits_deBruijn64tab),("internal/strconv.uint64pow10",Rows.laid_internal_strconv_uint64pow10),("strconv.ErrRange",Rows.laid_strconv_ErrRange),("strconv.ErrSyntax",Rows.laid_strconv_ErrSyntax)]
theorem aBk{W:World}(i:W.ShapedOpen prog)(h:laidMetH prog NC W):Gl W/\6<=W.heap.size:=by
 rw[MakeChecks.laidMetH_plain _ _ _ (by kernel_rfl)] at h;obtain⟨H,⟨g0,t0,q,f0,D,q0,z,A,C,x,⟨g1,t1,r,f1,E,q1,f,B,a,y,⟨g2,t2,s,f2,F,I,g,j,o,d,⟨g3,t3,t,f3,G,J,b,l,p,e,_,_⟩,_⟩,_⟩,_⟩,_⟩:=h;obtain rfl:=Option.some.inj ((show prog.globalNamed "strconv.ErrRange"=some 2 by kernel_rfl).symm.trans b);obtain rfl:=Option.some.inj ((show prog.globalNamed "math/bits.deBruijn64tab"=some 5 by kernel_rfl).symm.trans f);have m:(prog.globals[2]?).map (·.type)=some 132:=by kernel_rfl
 obtain rfl:=Option.some.inj (m.symm.trans l);have n:(prog.globals[3]?).map (·.type)=some 306:=by kernel_rfl
 obtain rfl:=Option.some.inj (XV.symm.trans g);obtain rfl:=Option.some.inj (n.symm.trans j);have h6:6<=W.heap.size:=by
  unfold World.var? at a;rw[show prog.globalNamed "math/bits.deBruijn64tab"=some 5 by kernel_rfl] at a
  rcases Nat.lt_or_ge 5 W.heap.size with h2|h2
  .exact h2
  .simp[Array.getElem?_eq_none h2] at a
 refine⟨⟨?_,(laysM220.s1_3 W i),?_⟩,h6⟩
 .obtain⟨w,u,v,c,_,_⟩:=iface_of_trod underlying132 e;have:=World.var?_cell b p 0;rw[Array.eq_one_of_toList c] at this;exact⟨_,by simpa using this,.inr ⟨u,v,rfl⟩⟩
 .unfold Lib.TabIs;rw[o,<-Lib.cells_of_tab (zs:=Lib.pow10Tab) (k:= .u64) underlying306 underlying64 (by kernel_rfl) (by kernel_rfl) d]
section
variable {H:Type} {enc:TypeId×Value->H} {P:Program} {W:World} {sp:Nat->Bool} {held:Bool}
theorem Hm{r:Reach}{b0:Nat}{t e:TypeId}{v:Value}{d:DataW H}{p:List MemPlace}(n:P.underlying t=some (.slice e))(he:P.underlying e=some .string)(s:P.cellsOf e=1)
 (D:Value.okWide P W r b0 t v)(h:DataW.Trod enc P W 0 sp held t v d p):
 ∃(a:oD) (cap:Nat) (l:List ByteArray),v=.slice a l.length cap/\l.length<=maxLen/\Oo W a l:=by
 obtain⟨a0,len,cap,rfl⟩:=okWide_slice n D;obtain⟨fuel,B⟩:=h
 rcases open_strings n he s B with ⟨f,_⟩|⟨a,J,F,j,f,_,I,hm,E,_,A,C⟩
 .simp[Value.cells] at f;obtain⟨rfl,rfl,rfl⟩:=f;exact⟨none,0,[],rfl,qs,fun k g=>absurd g qs⟩
 .simp[Value.cells] at f;obtain⟨rfl,rfl,rfl⟩:=f;have hlen:len<=j.length:=by rw[E];split<;>omega
  have m:(j.take len).length=len:=by rw[List.length_take];omega
  refine⟨some a,cap,j.take len,by rw[m],qo,fun k g=> ?_⟩;have G:k<len:=qo;have w:Sl W W.heap.size (some a) ((j.take len).map Value.string):=Sl.of_cells fun i x c=>by
   simp only[List.getElem?_map,List.getElem?_take] at c;split at c
   .rw[gE qo] at c;simp only[Option.map_some,Option.some.injEq] at c;subst c;rw[A i qo,List.getD_eq_getElem?_getD,gE qo];rfl
   .simp at c
  obtain⟨b,off,q,y,z⟩:=w (by intro o;have:=congrArg List.length o;simp only[List.length_map,m,List.length_nil] at this;omega);exact⟨b,off,q,y,z k _ (by rw[List.getElem?_map,gE g];rfl),C _ (List.mem_of_mem_take (List.getElem_mem g))⟩
end
theorem PC{H:Type}{enc:TypeId×Value->H}{a:Assume}{C:Checked}{os:Os}{f:FuncId}{fn:Func}{s:ChangeSpec}{conds:List PathCond}{apart fresh handsOn again:Bool}{X:World->Array Value->Prop}
 (k:∀(w w':World) (args:Array Value),w.heap=w'.heap->X w args->X w' args)
 (own:ownKnob C.prog.godebug=none)(started:os.Started)(y:C.prog.inits.idxOf? f=none)(l:C.prog.funcs[f]? =some fn)
 (witness:∃(w:World) (tape:Tape) (i:Input),w.os=os/\(w.forCall tape i).Shaped C.prog/\i.vars=[]/\Input.okWide C.prog (w.forCall tape i) .any w.heap.size f i/\
   ((s.pre enc C.prog fn conds apart (w.forCall tape i).memory i.args/\X (w.forCall tape i).memory i.args)/\sizedMet enc C.prog fn (OpenSpec.ofChange s) apart (w.forCall tape i).memory i.args)/\a.holds C.prog (lone (Frame.enter C.prog f i.args .normal) [] (w.forCall tape i)))
 (d:∀(W:World) (base:Nat) (args:Array Value) (b gs:List (DataW H)) (before:List MemPlace),W.ShapedOpen C.prog->
   (∀(j:Nat) t v,fn.params[j]? =some t->args[j]? =some v->Value.okWide C.prog W .any base t v)->
   DataW.Whole enc C.prog fn.params.toList s.vars apart W args.toList b gs before->X W args->
   Calls C.prog f args W fun e c=>∃v,e=.returned v/\s.post enc C.prog fn apart fresh handsOn again W args v c):
 ReturnsInHanded a C os f .any (fun w args=>(s.pre enc C.prog fn conds apart w args/\X w args)/\sizedMet enc C.prog fn (OpenSpec.ofChange s) apart w args) (s.post enc C.prog fn apart fresh handsOn again):=by
 refine returnsInHanded_of_calls own started y witness ?_;intro w tape i _ p _ n o A;obtain⟨_,_,_,g,m,_,_,_,_,q⟩:=n;have e:g=fn:=Option.some.inj (m.symm.trans l);subst e;obtain⟨⟨⟨b,gs,before,hw,z⟩,x⟩,B⟩:=o;have r:=DataW.Whole.of_heap (w':=w.forCall tape i) (by rfl) hw;refine(d (w.forCall tape i) w.heap.size i.args b gs before p q r (k _ _ _ (by rfl) x)).mono fun e c ⟨v,he,hp⟩=> ?_
 subst he;exact ChangeSpec.post_blind hp
theorem Tj(os:Os)(args:Array Value):laidMetH prog NC ((World.doorLaid prog 400 os).forCall (fun _ _=>0) ⟨#[],args,[]⟩).memory:=
 laidMetH_of_parts3 (fuel:=8) (laidMet_of_run' 8 (by kernel_rfl) (by kernel_rfl)) (by kernel_rfl) (by kernel_rfl)
end
theorem QCX{p:Prop}(h:p:=by
 obtain⟨h4,h5,h6⟩:=Hn h1 h2 h3 hM hK hS;exact⟨rfl,m1,⟨M,K,M2,K2,hE,h4,h5⟩,h6,hm2⟩):p:=h
theorem nQ.low{w:World}{E D:Nat}{M K:nP}{Q m n:Nat}{s:Sto}(H:nQ w E D M K Q m n s):(∀b,M b->b<w.heap.size)/\∀b,K b->¬M b/\b<w.heap.size:=by
 obtain⟨J,base,vc,vr,vn,vo,vt,vu,vk,vb,la,lc,lu,h,ra,rc,ru,da,dc,bs,sy,H⟩:=H;exact⟨H.low,H.kept⟩
structure YH (w0:World) (P M1 K1 M2 K2:Nat->Prop) (w:World):Prop where
 one:∀b,M1 b->w0.heap.size<=b/\¬P b/\¬M2 b/\¬K2 b
 two:∀b,M2 b->w0.heap.size<=b/\¬P b/\¬M1 b/\¬K1 b
 lt:∀b,P b->b<w.heap.size
 below:Below w0.heap.size w0 w
def nR(w0:World)(P:nP)(E D m n:Nat)(s:Sto)(b a c d:Nat)(e:Sto)(w:World):Prop:=∃M1 K1 M2 K2,nQ w E D M1 K1 200000 m n s/\nQ w b a M2 K2 200000 c d e/\YH w0 P M1 K1 M2 K2 w
theorem nR.swap{w0:World}{P:nP}{E D m n:Nat}{s:Sto}{b a c d:Nat}{e:Sto}{w:World}(h:nR w0 P E D m n s b a c d e w):nR w0 P b a c d e E D m n s w:=by
 obtain⟨M1,K1,M2,K2,h1,h2,h3⟩:=h;exact⟨M2,K2,M1,K1,h2,h1,h3.two,h3.one,h3.lt,h3.below⟩
theorem nR.below{w0:World}{P:nP}{E D m n:Nat}{s:Sto}{b a c d:Nat}{e:Sto}{w:World}(h:nR w0 P E D m n s b a c d e w):Below w0.heap.size w0 w:=by
 obtain⟨M1,K1,M2,K2,h1,h2,h3⟩:=h;exact h3.below
theorem nR.on{w0:World}{P:nP}{E D m n:Nat}{s:Sto}{d c e f:Nat}{g:Sto}{w w':World}(h:nR w0 P E D m n s d c e f g w)(a:Below w.heap.size w w'):nR w0 P E D m n s d c e f g w':=by
 obtain⟨M1,K1,M2,K2,h1,h2,h3⟩:=h;exact⟨M1,K1,M2,K2,h1.on a,h2.on a,h3.one,h3.two,fun b hp=>lL (h3.lt b hp) a.size,aC h3.below a⟩
theorem nR.grow{w0:World}{P:nP}{E D m n:Nat}{s:Sto}{d c e f:Nat}{g:Sto}{w w':World}(h:nR w0 P E D m n s d c e f g w)(a:Below w.heap.size w w'):nR w0 (fun b=>P b\/(w.heap.size<=b/\b<w'.heap.size)) E D m n s d c e f g w':=by
 obtain⟨M1,K1,M2,K2,h1,h2,h3⟩:=h;exact⟨M1,K1,M2,K2,h1.on a,h2.on a,fun b hm=>⟨(h3.one b hm).1,fun h=>h.elim (h3.one b hm).2.1 (fun h=>qA (h1.low.1 b hm)),(h3.one b hm).2.2⟩,fun b hm=>⟨(h3.two b hm).1,fun h=>h.elim (h3.two b hm).2.1 (fun h=>qA (h2.low.1 b hm)),(h3.two b hm).2.2⟩,fun b hp=>hp.elim (fun h=>lL (h3.lt b h) a.size) (fun h=>h.2),aC h3.below a⟩
theorem Hn{w0:World}{P M1 K1 M2 K2 M K:nP}{E D g f m n j l:Nat}{s o:Sto}{w w':World}(h1:nQ w E D M1 K1 200000 m n s)(h2:nQ w g f M2 K2 200000 j l o)(h3:YH w0 P M1 K1 M2 K2 w)(i:∀b,M b->M1 b\/w.heap.size<=b)(p:∀b,K b->K1 b\/w.heap.size<=b)(d:aN (fun b=>¬M1 b) w w'):nQ w' g f M2 K2 200000 j l o/\YH w0 P M K M2 K2 w'/\aN P w w':=by
 have e:=h2.low;refine⟨h2.stays d (fun b a hm=>a.elim (h3.one b hm).2.2.1 (h3.one b hm).2.2.2),⟨fun b a=> ?_,fun b a=>⟨(h3.two b a).1,(h3.two b a).2.1,fun hm=> ?_,fun c=> ?_⟩,fun b hp=>lL (h3.lt b hp) d.size,?_⟩,d.mono fun b _ hp hm=>(h3.one b hm).2.1 hp⟩
 .rcases i b a with h|h
  .exact h3.one b h
  .exact⟨qA h3.below.size,fun hp=>qA (h3.lt b hp),fun hm=>qA (e.1 b hm),fun c=>qA ((e.2 b c).2)⟩
 .rcases i b hm with h|h
  .exact(h3.two b a).2.2.1 h
  .have:=e.1 b a;omega
 .rcases p b c with h|h
  .exact(h3.two b a).2.2.2 h
  .have:=e.1 b a;omega
 .exact((aJ (ok:=fun b=>b<w0.heap.size) h3.below).trans (d.mono fun b _ a hm=>by have:=(h3.one b hm).1;have q:b<w0.heap.size:=a;omega)).below (B:=w0.heap.size) (fun k c=>⟨c,c⟩)
theorem BQ{w0:World}(o:Gl w0)(h6:6<=w0.heap.size){P:nP}{E D m n k:Nat}{s:Sto}{c a d f:Nat}{g:Sto}{w:World}(h:nR w0 P E D m n s c a d f g w)(q:bY)(t:q.size<=100000)(i:jD k s)(p:k<=900000)(r:n<=800000)(l:m+400+q.size<=200000):
 Calls prog 5 #[.pointer (some ⟨E,0,none⟩),.string q] w fun e w'=>e=.returned (.string (dN s q.data.toList).2)/\∃m1,nR w0 P E D m1 (n+1) (dN s q.data.toList).1 c a d f g w'/\aN P w w'/\m1<=m+400+q.size:=by
 obtain⟨M1,K1,M2,K2,h1,h2,h3⟩:=h;refine(YE E D 200000 m n k s q t w h1 (o.on h3.below) (fun b j=>qA ((h3.one b j).1)) i p r l qe).mono ?_;rintro e w' ⟨rfl,M,K,m1,hE,hM,hK,hS,v,hm2,-,-⟩;exact QCX
theorem Oq{w0:World}(j:Gl w0){P:nP}{E D m n k:Nat}{s:Sto}{b a c d:Nat}{f:Sto}{w:World}(h:nR w0 P E D m n s b a c d f w)(o:Op)(q:iU o)(g:jD k s)(l:k<=900000)(p:n<=800000)(i:m+400+o.text.size<=200000):
 Calls prog 7 #[.pointer (some ⟨E,0,none⟩),eZ o] w fun e w'=>e=.returned (.agg (eH (bO s o).2.1))/\∃m1,nR w0 P E D m1 (n+1) (bO s o).1 b a c d f w'/\aN P w w'/\m1<=m+400+o.text.size:=by
 obtain⟨M1,K1,M2,K2,h1,h2,h3⟩:=h;refine(Cn E D 200000 m n k s o q w h1 ((j.on h3.below).aEI) g l p i qe).mono ?_;rintro e w' ⟨rfl,M,K,m1,hE,hM,hK,hS,r,hm2,t⟩;exact QCX
theorem Ot{w0:World}(j:Gl w0)(h6:6<=w0.heap.size){E D m n:Nat}{s:Sto}{w:World}(h:sY w0 E D 200000 m n s w):Calls prog 4 #[.int .i64 200000] w fun e w'=>∃c a,e=.returned (.tuple #[.pointer (some ⟨c,0,none⟩),.pointer (some ⟨a,0,none⟩)])/\nR w0 (fun _=>False) E D m n s c a 0 0 jG w':=by
 obtain⟨M1,K1,h1,h2,h3⟩:=h;refine(SA 200000 qo w (j.on h3) (lT h6 h3.size)).mono ?_;rintro e w' ⟨c,a,M,K,rfl,g,d,i,f⟩;exact⟨c,a,rfl,M1,K1,M,K,h1.on f,g,fun b hm=>⟨h2 b hm,id,fun h=>qD (h1.low.1 b hm) (d b h),fun h=>qD (h1.low.1 b hm) (i b h)⟩,fun b hm=>⟨qD (d b hm) h3.size,id,fun h=>qD (h1.low.1 b h) (d b hm),fun h=>qD ((h1.low.2 b h).2) (d b hm)⟩,fun b h=>h.elim,aC h3 f⟩
theorem Yl(a v1 v2 p:Int)(x y:Nat)(g h:Bool)(v3:bY)(w:World):(Instr.field 37 (.agg #[.int .i64 a,.complex .f64 x y,.bool g,.int .i64 v1,.int .i64 v2,.string v3,.bool h,.int .i64 p]) 0).run prog w=.ok (.int .i64 a) w:=by kernel_rfl
def kY:Sto:=⟨0,[⟨⟨#[99]⟩,⟨#[97,110,110]⟩,⟨#[111,112,101,110]⟩,[],[⟨0,⟨#[97,110,110]⟩,⟨#[110,101,119]⟩⟩]⟩],[],[],[],iW,1⟩
theorem Ym:Xy=(kY,⟨#[111,107]⟩):=by kernel_rfl
def jE(n:Int):Op:=⟨3,⟨#[97,110,110]⟩,⟨#[99]⟩,⟨#[115,101,99,114,101,116,95,111,102,95,99,97,115,101,95]⟩,⟨#[]⟩,(2,n,⟨#[]⟩),0,⟨#[]⟩,⟨#[]⟩,false⟩
def aAL:List cB:=[⟨⟨#[99]⟩,⟨#[97,110,110]⟩,⟨#[111,112,101,110]⟩,[(⟨#[115,101,99,114,101,116,95,111,102,95,99,97,115,101,95]⟩,TG)],[⟨0,⟨#[97,110,110]⟩,⟨#[110,101,119]⟩⟩,⟨0,⟨#[97,110,110]⟩,⟨#[119,114,105,116,101]⟩⟩]⟩]
def Ct(n:Int):Bool:=
 let g:=bO kY (jE n)
 decide (g.2.1.err=0)&&(decide (g.1.aDX=0)&&(decide (g.1.aD0=1)&&(decide (g.1.aDO.map gI=aAL)&&(decide (g.1.aD1=[])&&(decide (g.1.aDQ.length=0)&&decide (g.1.aDV.length=0))))))
theorem Yn:(List.range 1000).all (fun i=>Ct (i:Int))=true:=by kernel_rfl
def Ho(s t:Sto):Prop:=s.aDP=iW/\t.aDP=iW/\dV s=dV t
theorem tV{n:Int}(h0:0<=n)(h1:n<=999):(bO kY (jE n)).2.1.err=0/\(bO kY (jE n)).1.aDP=iW/\dV (bO kY (jE n)).1=⟨0,aAL,[],[],[],iW,1⟩:=by
 have h2:=List.all_eq_true.1 Yn n.toNat (List.mem_range.2 qo);rw[Int.toNat_of_nonneg h0] at h2;unfold Ct at h2;have hp:=(yK (s:=kY) (jE n) rfl (show ¬(3:Int)=7 by decide)).2.2;generalize bO kY (jE n)=g at *;simp only[Bool.and_eq_true,decide_eq_true_eq] at h2;obtain⟨a,b,c,f,i,j,k⟩:=h2;refine⟨a,hp,?_⟩;obtain⟨⟨t,cs,o,l,ro,m,v⟩,r,d,e⟩:=g;dsimp only at *;unfold dV;dsimp only;rw[b,c,f,i,hp,List.eq_nil_of_length_eq_zero j,List.eq_nil_of_length_eq_zero k]
theorem Ou{a b:Int}(h0:0<=a)(h1:a<=999)(h2:0<=b)(h3:b<=999):Ho (bO kY (jE a)).1 (bO kY (jE b)).1:=⟨(tV h0 h1).2.1,(tV h2 h3).2.1,(tV h0 h1).2.2.trans (tV h2 h3).2.2.symm⟩
theorem Tk{s t:Sto}(h:Ho s t)(q:lU)(h7:∀o,kQ q=some o->o.aDN≠7):(dN s q).2=(dN t q).2/\Ho (dN s q).1 (dN t q).1:=by
 rcases a:kQ q with _|o
 .rw[EU a,EU a];exact⟨rfl,h⟩
 .rw[EV a,EV a];obtain⟨b,c,d,e⟩:=Gw o h.1 h.2.1 (h7 o a) h.2.2;exact⟨by dsimp only;rw[b],d,e,c⟩
theorem YI{n:Int}(h0:0<=n)(h1:n<=999):iU (jE n):=by
 simp only[iU,jE,cS,bL];exact⟨⟨qo,qo⟩,qe,qe,qe,qe,⟨⟨qo,qo⟩,⟨qo,qo⟩,qe⟩,⟨qo,qo⟩,qe,qe⟩
theorem Yo:str "ok"=⟨#[111,107]⟩:=by kernel_rfl
def aAM:List UInt8:=eL "ann policy policy p permitunless "++[123]++eL " permit r on permit redact secret_of_case_; "++[125]
theorem SC:dN jG (eL "ann new c")=(sR.1,⟨#[111,107]⟩)/\dN sR.1 aAM=(kY,⟨#[111,107]⟩):=⟨by rw[<-Yo,<-oN.1];rfl,Ym⟩
theorem ND{w:World}{ok:nP}:∀{L:List ByteArray},(∀x∈L,x.size<=maxLen)->aW (OY w ok) (L.map Value.string) L
 | [],_=>rfl
 |x::L,h=>⟨[.string x],L.map Value.string,rfl,⟨rfl,h x (List.mem_cons_self ..)⟩,ND fun y a=>h y (List.mem_cons_of_mem _ a)⟩
theorem Tl{w:World}{g:Nat}{L:List ByteArray}{t:TypeId}{cs:Array Value}(b:cs.toList=L.map Value.string)(h:w.heap[g]? =some (.cells cs t (0,0)))(e:∀x∈L,x.size<=maxLen)(c:L.length<=1000000){ok:nP}(d:ok g):aH OY w ok (.slice (some ⟨g,0,none⟩) L.length L.length) L:=
 ⟨_,_,L.map Value.string,rfl,fun _=>⟨g,0,rfl,d,fun i x a=>by rw[Nat.zero_add];exact aQ h i x (by rw[<-b] at a;rwa [Array.getElem?_toList] at a)⟩,ND e,c⟩
def NF:List ByteArray:=[⟨#[97,110,110,32,110,101,119,32,99]⟩,⟨#[97,110,110,32,112,111,108,105,99,121,32,112,111,108,105,99,121,32,112,32,112,101,114,109,105,116,117,110,108,101,115,115,32,123,32,112,101,114,109,105,116,32,114,32,111,110,32,112,101,114,109,105,116,32,114,101,100,97,99,116,32,115,101,99,114,101,116,95,111,102,95,99,97,115,101,95,59,32,125]⟩]
def Ov:Nat->Sto
 |0=>jG
 |1=>sR.1
 |_=>kY
theorem aDB:(⟨#[97,110,110,32,110,101,119,32,99]⟩:bY).data.toList=eL "ann new c":=by kernel_rfl
theorem aDC:(⟨#[97,110,110,32,112,111,108,105,99,121,32,112,111,108,105,99,121,32,112,32,112,101,114,109,105,116,117,110,108,101,115,115,32,123,32,112,101,114,109,105,116,32,114,32,111,110,32,112,101,114,109,105,116,32,114,101,100,97,99,116,32,115,101,99,114,101,116,95,111,102,95,99,97,115,101,95,59,32,125]⟩:bY).data.toList=aAM:=by kernel_rfl
theorem Yp{k:Nat}(a:k<NF.length):dN (Ov k) NF[k].data.toList=(Ov (k+1),⟨#[111,107]⟩):=by
 have h5:NF.length=2:=rfl;have:k=0\/k=1:=qo
 rcases this with rfl|rfl
 .show dN jG (⟨#[97,110,110,32,110,101,119,32,99]⟩:bY).data.toList=(sR.1,_);rw[aDB];exact SC.1
 .show dN sR.1 (⟨#[97,110,110,32,112,111,108,105,99,121,32,112,111,108,105,99,121,32,112,32,112,101,114,109,105,116,117,110,108,101,115,115,32,123,32,112,101,114,109,105,116,32,114,32,111,110,32,112,101,114,109,105,116,32,114,101,100,97,99,116,32,115,101,99,114,101,116,95,111,102,95,99,97,115,101,95,59,32,125]⟩:bY).data.toList=(kY,_);rw[aDC];exact SC.2
theorem Cu:∀x∈NF,x.size<=100:=by
 intro x a;have h:NF.all (fun x=>decide (x.size<=100))=true:=by kernel_rfl
 exact of_decide_eq_true (List.all_eq_true.1 h x a)
theorem YJ{w W wa d:World}(h0:Below w.heap.size w W)(ha:aN (fun b=>b≠w.heap.size) W wa)(a:aN (fun b=>b≠w.heap.size+1) wa d):Below w.heap.size w d:=
 (((aJ (ok:=fun b=>b<w.heap.size) h0).trans (ha.mono fun b _ a=>by have:b<w.heap.size:=a;show b≠w.heap.size;omega)).trans (a.mono fun b _ a=>by have:b<w.heap.size:=a;show b≠w.heap.size+1;omega)).below (B:=w.heap.size) (fun k c=>⟨c,c⟩)
theorem PD(a:oD)(c:Nat)(l:List ByteArray)(hl:l.length<=maxLen)(T:Int)(_: -9223372036854775808<=T)(_:T<=9223372036854775807)(U:Int)(_: -9223372036854775808<=U)(_:U<=9223372036854775807)(w:World)(hs:Oo w a l)(hg:Gl w)(h6:6<=w.heap.size):Calls prog 3 #[.slice a l.length c,.int .i64 T,.int .i64 U] w fun e w'=>e=.returned (.bool true)/\Below w.heap.size w w':=by
 have HF:=aA (YF 200000 qe w hg h6);have dr:=aA (fun w' (f:Below w.heap.size w w')=>On w' (hg.on f) (lT h6 f.size));have ct:=aA (fun w'=>zS T 0 999 w' qe qe qe);have cu:=aA (fun w'=>zS U 0 999 w' qe qe qe);obtain⟨Q,au⟩:=xE (jV T 0 999);obtain⟨J,av⟩:=xE (jV U 0 999);have Y:Hid (0<=Q/\Q<=999):=aA ⟨by rw[au];exact CL T 0 999 qe,by rw[au];exact CM T 0 999 qe⟩;have Z:Hid (0<=J/\J<=999):=aA ⟨by rw[av];exact CL U 0 999 qe,by rw[av];exact CM U 0 999 qe⟩;rw[<-au] at ct;rw[<-av] at cu;obtain⟨G,H6,HS,du⟩:=dH hg h6 hs hl;clear hg h6 hs hl au av;go_enter func3,ntmps3;go_wp2_with fail;refine HF.o.mono ?_;rintro e w1 ⟨E,D,rfl,ah⟩;have cb:=aA (Ot G.o H6.o ah);clear ah HF;go_wp2_with fail;refine cb.o.mono ?_;rintro e w2 ⟨j,F,rfl,ah⟩;have b4:=aA ah;clear ah cb;go_upto_region 6 with (fail)
 generalize bx:w2.alloc _=w3;have b5:Hid (Below w2.heap.size w2 w3):=aA (by rw[<-bx];exact aB _ _);have bg:Hid (w3.heap[w2.heap.size]? =some (.cells #[.string ⟨#[97,110,110,32,110,101,119,32,99]⟩,.string ⟨#[97,110,110,32,112,111,108,105,99,121,32,112,111,108,105,99,121,32,112,32,112,101,114,109,105,116,117,110,108,101,115,115,32,123,32,112,101,114,109,105,116,32,114,32,111,110,32,112,101,114,109,105,116,32,114,101,100,97,99,116,32,115,101,99,114,101,116,95,111,102,95,99,97,115,101,95,59,32,125]⟩] 9 (0,0))):=aA (by rw[<-bx];exact aK _ _ _ rfl);have cv:=aA (aD bg.o);clear bx;obtain⟨P,dn,ec⟩:∃P:nP,Hid (nR w P E D 0 0 jG j F 0 0 jG w3)/\Hid (P w2.heap.size):=⟨_,aA (b4.o.grow b5.o),aA (.inr ⟨lR _,cv.o⟩)⟩;have aq:Hid (aH OY w3 P (.slice (some ⟨w2.heap.size,0,none⟩) 2 2) NF):=aA (Tl (L:=NF) rfl bg.o (fun x hx=>by have:=Cu x hx;unfold maxLen;omega) qe ec.o);clear b4 b5 bg cv;go_wp2;go_loopw [39] (fun i wr=>∃(k m d:Nat),k<=2/\i=.int .i64 k/\Hid (nR w P E D m k (Ov k) j F d k (Ov k) wr)/\Hid (m<=600 * k/\d<=600 * k)/\Hid (jD k (Ov k))/\Hid (aN P w3 wr)) (fun i _=>2 - (intOf i).toNat)
 case atStart=>exact⟨0,0,0,qo,rfl,dn,aA ⟨qo,qo⟩,aA XQ,aA (aJ (Below.refl _ _))⟩
 case round=>
  obtain⟨k,m,d,hk,rfl,N,I,z,cn⟩:=hrel;by_cases az:k<2
  .have bw:k<NF.length:=az;obtain⟨b,off,r,e0,en,eo,⟨rfl,ax⟩,R⟩:=aH.at rV (aH.aDW rV aq.o cn.o) bw qe;injection e0 with e0;injection e0 with e1 e2;subst e1 e2;have a7:=Yp bw;have aa:=Cu _ (List.getElem_mem bw);obtain⟨q,hq⟩:=xE (NF[k]);rw[<-hq] at R a7 aa;have a8:=R 0 _ rfl;rw[Nat.mul_one,Nat.add_zero,Nat.zero_add] at a8;have g:=aA aa;have H:=aA (BQ G.o H6.o N.o q (qA g.o) z.o qo qo (qD g.o I.o));have bt:=z.o.line q.data.toList;rw[a7] at H bt;have ds:=aA bt;have ej:=aA a7;have ay:(k:Int)<(2:Int):=qo;clear R ax hq aa a7 bt;go_wp2_with fail;refine H.o.mono ?_;rintro e w4 ⟨rfl,m1,hA4,db,df⟩;have ea:=aA df;have eh:=aA db;have A:=BQ G.o H6.o hA4.swap q (qA g.o) z.o qo qo (qD g.o I.o);rw[ej.o] at A;have A:=aA A;clear hA4 db df H a8;go_wp2_with fail;refine A.o.mono ?_;rintro e C ⟨rfl,m2,hA5,ag,a6⟩;have dp:=aA hA5.swap;have ei:=aA ((cn.o.trans eh.o).trans ag);have eb:Hid (m1<=600 * (k+1)/\m2<=600 * (k+1)):=aA ⟨qF I.o ea.o g.o,qD I.o g.o⟩;clear hA5 ag a6 A;go_wp2;go_roundw
   case rel=>exact⟨k+1,m1,m2,qo,by go_num,dp,eb,ds,ei⟩
   case measure=>simp[intOf];omega
  .have ay:¬((k:Int)<(2:Int)):=qo;obtain rfl:k=2:=qo;have b9:Hid (nR w P E D m 2 kY j F d 2 kY wr):=N;have ak:Hid (jD 2 kY):=z;clear N z aq;go_wp2_with fail;refine(ct.o _).mono ?_;rintro e w4 ⟨rfl,rfl⟩;go_wp2_with fail;refine(cu.o _).mono ?_;rintro e w4 ⟨rfl,rfl⟩;go_upto_region 13 with (first
    |(refine eG rfl _ (.tmp 14) (.tmp 56) rfl wr.heap.size _ rfl rfl _ _ (aE (aK _ _ _ rfl) (aB _ _)) (by kernel_rfl) rfl (by simp[Value.oneCell']) ?_;intro wa ck bo)
    |(refine eG rfl _ (.tmp 15) (.tmp 59) rfl (wr.heap.size+1) _ rfl rfl _ _ (aF (aK (wr.alloc _) _ _ qs) bo.o (show wr.heap.size+1≠wr.heap.size by omega)) (by kernel_rfl) rfl (by simp[Value.oneCell']) ?_;intro wb cl bp))
   have bf:=qS ck bp.o (show wr.heap.size≠wr.heap.size+1 by omega);have al:=aA (YJ (aC (aB _ _) (aB _ _)) bo.o bp.o);obtain⟨⟨a0,a1,a2⟩,-⟩:=cF bf.o;have za:=aD bf.o;clear ck bo bp;go_upto_region 14 with (refine eG rfl _ (.tmp 16) (.tmp 61) rfl wb.heap.size _ rfl rfl _ _ (aK _ _ _ rfl) (by kernel_rfl) rfl (by simp[Value.oneCell']) ?_;intro wc af cq)
   have ad:=aA (rU (lR _) cq.o);obtain⟨⟨c0,c1,c2,c3,c4,c5,c6,c7,c8,c9,br,bs⟩,-⟩:=bK af.o;have zc:=aD af.o;clear cq a0 a1 a2 za bf;go_upto_region 15 with (refine eG rfl _ (.tmp 17) (.tmp 62) rfl wc.heap.size _ rfl rfl _ _ (aK _ _ _ rfl) (by kernel_rfl) rfl (by simp[Value.oneCell']) ?_;intro wd bl cr)
   have ao:=aA (rU (lR _) cr.o);have bj:=qK cl (aC ad.o ao.o);obtain⟨⟨b0,b1,b2⟩,-⟩:=cF bj.o;have zb:=aD bj.o;obtain⟨cm,ek,cw⟩:=aZ (aE af.o ao.o) (aD bl.o) (aD af.o);clear cr c0 c1 c2 c3 c4 c5 c6 c7 c8 c9 br bs zc cl af;go_upto_region 16 with (refine DY rfl _ (.tmp 64) (.tmp 63) rfl wc.heap.size 5 _ rfl rfl _ _ _ bl.o (by kernel_rfl) (by show 5+3<=12;omega) rfl (by simp[Value.oneCell']) ?_;intro we bm bq)
   have dt:Hid (Below wr.heap.size wr we):=aA (((aJ (ok:=fun b=>b<wr.heap.size) (aC al.o (aC ad.o ao.o))).trans (bq.o.mono fun b _ f=>by have:b<wr.heap.size:=f;have:=al.o.size;have:=ad.o.size;show b≠wc.heap.size;omega)).below (B:=wr.heap.size) (fun k hk=>⟨hk,hk⟩));have bk:=qS cm bq.o (show wb.heap.size≠wc.heap.size by have:=cw.o;omega);have el:=aA (aD bm.o);obtain⟨P2,V,ey,ee⟩:∃P2:nP,Hid (nR w P2 E D m 2 kY j F d 2 kY we)/\Hid (∀b,P b->P2 b)/\Hid (P2 wc.heap.size):=⟨_,aA (b9.o.grow dt.o),aA (fun b f=> .inl f),aA (.inr ⟨qD al.o.size ad.o.size,el.o⟩)⟩;have ae:=aA (Oq G.o V.o (jE Q) (YI Y.o.1 Y.o.2) ak.o qe qe (by have:=I.o.1;show m+400+0<=200000;omega));have bb:=aA (tV Y.o.1 Y.o.2).1;have bc:=aA (tV Z.o.1 Z.o.2).1;obtain⟨bd,cc,cd⟩:=aZ (Ou Y.o.1 Y.o.2 Z.o.1 Z.o.2) (ak.o.guard (jE Q)) (ak.o.guard (jE J));have W:Hid (∀(C:World) (m1:Nat),nR w P2 E D m1 3 (bO kY (jE Q)).1 j F d 2 kY C->Calls prog 7 #[.pointer (some ⟨j,0,none⟩),eZ (jE J)] C fun e w'=>e=.returned (.agg (eH (bO kY (jE J)).2.1))/\∃m2,nR w P2 E D m1 3 (bO kY (jE Q)).1 j F m2 3 (bO kY (jE J)).1 w'/\m2<=d+400):=aA (fun C m1 h=>by
    refine(Oq G.o h.swap (jE J) (YI Z.o.1 Z.o.2) ak.o qe qe (by have:=I.o.2;show d+400+0<=200000;omega)).mono ?_;rintro e w' ⟨rfl,m2,hA,-,hm⟩;exact⟨rfl,m2,hA.swap,hm⟩)
   obtain⟨GA,cx⟩:=xE (bO kY (jE Q));obtain⟨GB,cy⟩:=xE (bO kY (jE J));rw[<-cx] at ae bb bd cc W;rw[<-cy] at bc bd cd W;unfold eZ bX jE eH at ae W;dsimp only at ae W;have ev:= @Yl;obtain⟨⟨c0,c1,c2,c3,c4,c5,c6,c7,c8,c9,br,bs⟩,-⟩:=bK bk.o;have zc:=aD bk.o;clear cx cy bq b9 al ad ao bj b0 b1 b2 zb cm bl ek cw V;go_wp2_with fail;refine ae.o.mono ?_;rintro e C ⟨rfl,m1,hA5,ag,a6⟩;rw[bb.o];have dw:Hid (m1<=1600):=aA (by have:=I.o.1;have h9:m1<=m+400+0:=a6;omega);have b8:=aA (W.o C m1 hA5);have bn:=qS bm ag ee.o;obtain⟨⟨d0,d1,d2,d3,d4,d5,d6,d7,d8,d9,d10,d11⟩,-⟩:=bK bn.o;have zd:=aD bn.o;clear hA5 ag a6 ae W c0 c1 c2 c3 c4 c5 c6 c7 c8 c9 br bs zc bk bm;go_wp2_with fail;refine b8.o.mono ?_;rintro e w6 ⟨rfl,m3,hA6,et⟩;rw[bc.o];have dz:Hid (m3<=1600):=aA (qA I.o.2);have V:=aA hA6;clear hA6 et b8 d0 d1 d2 d3 d4 d5 d6 d7 d8 d9 d10 d11 zd bn bb bc;have cg:=aA (Om (ok:=fun _=>True) a c l du.o 30 qe w6 (fun k hk=>by
    obtain⟨b,off,h1,h2,h3,h4⟩:=HS.o k hk;have dd:=V.o.below;exact⟨b,off,h1,lL h2 dd.size,(dd.cell (p:=⟨b,off+k,none⟩) h2).trans h3,h4⟩))
   go_wp2_with fail;refine cg.o.mono ?_;rintro e w7 ⟨v,rfl,hv,f⟩;obtain⟨L,hL⟩:=xE (zJ l 30);rw[<-hL] at hv;have ch:Hid (L.length<=30/\∀x∈L,x.size<=600):=aA (by
    rw[hL];unfold zJ;refine⟨by rw[List.length_map,List.length_take];omega,fun x hx=> ?_⟩;obtain⟨y,_,rfl⟩:=List.mem_map.1 hx;exact Ol y)
   obtain⟨la,lc,rfl,-⟩:=hv.slice;obtain⟨K,dq,ed⟩:∃K:nP,Hid (nR w K E D m1 3 GA.1 j F m3 3 GB.1 w7)/\Hid (∀b,w6.heap.size<=b/\b<w7.heap.size->K b):=⟨_,aA (V.o.grow f),aA (fun b f=> .inr f)⟩;have aq:=aA (aH.inb rV hv);clear f hv hL cg V ev ay;go_wp2;go_loopw [80] (fun i dk=>∃(k m d n M:Nat) (s t:Sto),k<=L.length/\i=.int .i64 k/\Hid (nR w K E D m n s j F d M t dk)/\Hid (n<=3+k/\M<=3+k/\m<=1600+1000 * k/\d<=1600+1000 * k)/\Hid (jD (3+k) s/\jD (3+k) t)/\Hid (Ho s t)/\Hid (aN K w7 dk)) (fun i _=>L.length - (intOf i).toNat)
   case atStart=>exact⟨0,m1,m3,3,3,GA.1,GB.1,qo,rfl,dq,aA ⟨qo,qo,qA dw.o,qA dz.o⟩,aA ⟨cc.o,cd.o⟩,bd,aA (aJ (Below.refl _ _))⟩
   case round=>
    obtain⟨k,m,d,n,M,s,t,hk,rfl,N,X,z,HI,cp⟩:=hrel;by_cases az:k<L.length
    .have dv:=aA (aH.aDW rV aq.o ((cp.o).mono fun b _ f=>by exact ed.o b ⟨f.1,f.2⟩));obtain⟨b,off,r,rfl,en,eo,⟨rfl,ax⟩,R⟩:=aH.at rV dv.o az qe;obtain⟨q,hq⟩:=xE (L[k]);rw[<-hq] at ax R;have a8:=R 0 _ rfl;rw[Nat.mul_one,Nat.add_zero] at a8;have aa:q.size<=600:=by rw[hq];exact ch.o.2 _ (List.getElem_mem az)
     have g:=aA aa;have ay:(k:Int)<(L.length:Int):=qo;have cj:=aA (RS q (qA g.o) wr (G.o.on N.o.below));have h40:=ch.o.1;clear R ax hq aa;go_wp2_with fail;refine cj.o.mono ?_;rintro e w8 ⟨ep,rfl,ai⟩;have ba:=aA ai;obtain⟨OP,aw⟩:=xE (kQ q.data.toList);rw[<-aw];obtain⟨O,hO⟩:=xE (OP.getD UD);obtain⟨aj,bu⟩:=xE OP.isSome;rw[<-hO,<-bu];have H7:Hid (¬(aj=true/\O.aDN=7)->∀o,kQ q.data.toList=some o->o.aDN≠7):=aA (fun h o ho h7=>h ⟨by rw[bu,aw,ho];rfl,by rw[hO,aw,ho];exact h7⟩);unfold eZ bX;clear ep ai aw cj hO bu;go_upto_region 22 with (refine eG rfl _ (.tmp 20) (.tmp 87) rfl w8.heap.size _ rfl rfl _ _ (aK _ _ _ rfl) (by kernel_rfl) rfl (by simp[Value.oneCell']) ?_;intro w9 bh ar)
     have b6:=qB ba (rU (lR _) ar.o);have ca:=aA (N.o.on b6.o);have ar:=aA (cp.o.trans (aJ b6.o));obtain⟨⟨o0,-,-,-,-,-,-,-,-,-,-,-⟩,-⟩:=bK bh.o;have zo:=aD bh.o;clear bh;by_cases S:aj=true/\O.aDN=7
     .obtain⟨rfl,S⟩:=S;have e7:(O.aDN==(7:Int))=true:=bQ.2 S;have ab:Hid (jD (3+(k+1)) s/\jD (3+(k+1)) t):=aA ⟨z.o.1.more qo,z.o.2.more qo⟩;clear S;go_wp2;go_roundw
      case rel=>exact⟨k+1,m,d,n,M,s,t,qo,by go_num,ca,aA (qA X.o),ab,HI,ar⟩
      case measure=>simp[intOf];omega
     .have h7:=H7.o S;obtain⟨e1,e2⟩:=Tk HI.o q.data.toList h7;obtain⟨be,b3,H⟩:=aZ e2 e1 (BQ G.o H6.o ca.o q (qA g.o) z.o.1 qo (qA X.o) (qD g.o X.o));have A:Hid (∀(C:World) (m1:Nat),nR w K E D m1 (n+1) (dN s q.data.toList).1 j F d M t C->Calls prog 5 #[.pointer (some ⟨j,0,none⟩),.string q] C fun e w'=>e=.returned (.string (dN s q.data.toList).2)/\∃m2,nR w K E D m1 (n+1) (dN s q.data.toList).1 j F m2 (M+1) (dN t q.data.toList).1 w'/\aN K C w'/\m2<=d+400+q.size):=aA (fun C m1 h=>by
       refine(BQ G.o H6.o h.swap q (qA g.o) z.o.2 qo (qA X.o) (qD g.o X.o)).mono ?_;rintro e w' ⟨rfl,m2,hA,hS,hm⟩;exact⟨by rw[b3.o],m2,hA.swap,hS,hm⟩)
      have ab:Hid (jD (3+(k+1)) (dN s q.data.toList).1/\jD (3+(k+1)) (dN t q.data.toList).1):=aA ⟨(z.o.1.line _).more qo,(z.o.2.line _).more qo⟩;obtain⟨an,dc⟩:=xE ((dN s q.data.toList).2);rw[<-dc] at H A;obtain⟨s1,dh⟩:=xE ((dN s q.data.toList).1);obtain⟨t1,di⟩:=xE ((dN t q.data.toList).1);rw[<-dh] at H A ab be;rw[<-di] at A ab be;have ez:(an.toList==an.toList)=true:=by simp
      have eu:aj=false\/(aj=true/\(O.aDN==(7:Int))=false):=by
       cases aj
       .exact .inl rfl
       .exact .inr ⟨rfl,bN.2 (fun h=>S ⟨rfl,h⟩)⟩
      clear e1 e2 h7 S dc dh di b3 H7
      rcases eu with rfl|⟨rfl,e7⟩
      all_goals (
       go_wp2_with fail;refine H.o.mono ?_;rintro e ew ⟨rfl,bz,hA10,cz,de⟩;obtain⟨cf,ef,dx⟩:=aZ (A.o ew bz hA10) cz de;clear hA10 cz de H A;go_wp2_with fail;refine cf.o.mono ?_;rintro e e3 ⟨rfl,dj,hA11,da,er⟩;have dm:=aA hA11;have eg:=aA ((ar.o.trans ef.o).trans da);have dy:Hid (n+1<=3+(k+1)/\M+1<=3+(k+1)/\bz<=1600+1000 * (k+1)/\dj<=1600+1000 * (k+1)):=aA (qF X.o dx.o g.o);clear hA11 da er cf;go_wp2;go_roundw
       case rel=>exact⟨k+1,bz,dj,n+1,M+1,s1,t1,qo,by go_num,dm,dy,ab,be,eg⟩
       case measure=>simp[intOf];omega)
    .have ay:¬((k:Int)<(L.length:Int)):=qo;have b7:=aA N.o.below;go_wp2_with fail;refine(dr.o _ b7.o).mono ?_;rintro e w8 ⟨rfl,ai⟩;have ba:=qB b7 ai;clear ai;go_wp2;go_returns;exact⟨rfl,ba.o⟩
section
namespace topSilent
open Go.ChangeShapes Go.WideShapes Go.ChangeAt
set_option maxRecDepth 100000 in
theorem aAN(os:Os)(started:os.Started)(H:Type)(enc:TypeId×Value->H):
 ReturnsInHanded {} checked os 3 .any (fun w args=>(Rows.topSilentSpec.pre enc prog f3 [] false w args/\laidMetH prog NC w)/\sizedMet enc prog f3 (OpenSpec.ofChange Rows.topSilentSpec) false w args)
  (Rows.topSilentSpec.post enc prog f3 false true false false):=by
 refine PC (C:=checked) (X:=fun w _=>laidMetH prog NC w) (fun _ _ _ y h=>h.of_heap y) own started (by kernel_rfl) func3
  (ChangeSpec.witness_shaped (enc:=enc) (C:=checked) (os:=os) (X:=fun w _=>laidMetH prog NC w) false (World.doorLaid prog 400 os) #[.slice none 0 0,.int .i64 0,.int .i64 0] 8 rfl (World.shaped_of_RefB (by kernel_rfl) (by kernel_rfl)) (by kernel_rfl) (by kernel_rfl) (by kernel_rfl) (Tj os _)) ?_
 intro W base args l gs before D d c n;have b:∀(j:Nat) t v,f3.params[j]? =some t->args[j]? =some v->Value.okWide prog W .any base t v:=d;have r:=c;obtain⟨p,q,hA0,o,rfl,ab,ad⟩:=c;have hA:DataW.TrodAll enc prog W 0 (fun _=>true) true f3.params.toList args.toList l p:=hA0;rw[params3] at hA b;obtain⟨v0,ae,d0,V,N,q0,aa,rfl,rfl,h0,Q⟩:=trodAll_cons hA;obtain⟨v1,af,d1,Y,O,q1,rfl,rfl,rfl,h1,R⟩:=trodAll_cons Q;obtain⟨v2,ag,d2,Z,P,q2,rfl,rfl,rfl,h2,S⟩:=trodAll_cons R;obtain⟨rfl,rfl,rfl⟩:=trodAll_nil S;obtain rfl:args=#[v0,v1,v2]:=by cases args;simp_all
 obtain⟨rfl,rfl⟩:=trodVars_none o;have f:=h0;have I:∀x∈N,x.block<W.heap.size:=by obtain⟨m,hm⟩:=f;exact DataW.trod_lt m _ _ _ hm
 have g:=h1;have J:∀x∈O,x.block<W.heap.size:=by obtain⟨m,hm⟩:=g;exact DataW.trod_lt m _ _ _ hm
 have i:=h2;have K:∀x∈P,x.block<W.heap.size:=by obtain⟨m,hm⟩:=i;exact DataW.trod_lt m _ _ _ hm
 obtain⟨a0,k,E,rfl,B,T⟩:=Hm underlying22 underlying9 (by kernel_rfl) (b 0 22 v0 rfl rfl) h0;obtain⟨L,rfl,rfl,rfl,w1⟩:=open_int underlying3 (b 1 3 v1 rfl rfl) h1;obtain⟨F,z⟩:=PG w1;obtain⟨M,rfl,rfl,rfl,w2⟩:=open_int underlying3 (b 2 3 v2 rfl rfl) h2;obtain⟨G,A⟩:=PG w2;obtain⟨s,h6⟩:=aBk D n;clear hA0 d;refine(PD a0 k E B L F z M G A W T s h6).mono fun e U ⟨he,a⟩=> ?_
 subst he;exact⟨_,rfl,_,_,_,[],_,[],r,trodAll_mk1 (shut_bool underlying4 _),(trodAll_cons_mk (Below.trod PA (by kernel_rfl) (of_decide_eq_true (by kernel_rfl)) f a I) (trodAll_cons_mk (Below.trod PA (by kernel_rfl) (of_decide_eq_true (by kernel_rfl)) g a J) (trodAll_cons_mk (Below.trod PA (by kernel_rfl) (of_decide_eq_true (by kernel_rfl)) i a K) trodAll_mk0))),rfl,a.frame _,fun h=>by cases h⟩
set_option maxRecDepth 100000 in
theorem aAO:joinedFacts checked.prog 3 f3 Rows.topSilentSpec Rows.topSilentRow=true:=by
 unfold joinedFacts;simp only[Bool.and_eq_true]
 repeat' apply And.intro
 all_goals (as_aux_lemma=>kernel_rfl)
set_option maxRecDepth 100000 in
theorem aDD:Rows.TopSilentSaid:=
 OpenClaim.holds_of_wide 3 f3 rfl rfl rfl rfl rfl rfl rfl ⟨rfl,rfl,rfl,rfl,rfl⟩ rfl rfl rfl rfl rfl (by as_aux_lemma=>kernel_rfl) func3 aAO
  (of_decide_eq_true (by as_aux_lemma=>kernel_rfl)) (by unfold Func.isWrapper;first|(rw[iP (by decide +kernel)];kernel_rfl)|(rw[iN (by decide +kernel)];exact⟨rfl,rfl⟩))
  (fun os started H enc _=>aAN os started H enc)
theorem proved:Rows.TopSilentCardSaid:=
 Claim7.holds_tied_plain_at .later [] [.data,.data,.data,.sentinel,.sentinel] true _ true
  aDD (fun _ h=>by cases h) (by as_aux_lemma=>kernel_rfl) (fun _ h=>by cases h) topSilent_row_tie rfl ⟨rfl,rfl⟩ (by as_aux_lemma=>kernel_rfl) rfl
  (fun f fn c d=>by
    obtain rfl:f=3:=Option.some.inj ((show prog.funcNamed Rows.topSilentRow.func=some 3 by kernel_rfl).symm.trans c) |>.symm;obtain rfl:fn=f3:=(Option.some.inj (func3.symm.trans d)).symm;exact⟨by as_aux_lemma=>kernel_rfl,fun j t a=>by
     rw[params3] at a;have hm:t∈[22,3,3]:=by simpa using Array.mem_of_getElem? a
     have b:([22,3,3].all fun u=> !prog.wantsStandIn u)=true:=by kernel_rfl
     exact(show prog.wantsStandIn t=false by simpa using List.all_eq_true.1 b t hm)⟩)
  (by as_aux_lemma=>kernel_rfl)
#print axioms proved
end topSilent
end
end Go.Proofs.YthcgdgkpgdjahaaGreatDoor
