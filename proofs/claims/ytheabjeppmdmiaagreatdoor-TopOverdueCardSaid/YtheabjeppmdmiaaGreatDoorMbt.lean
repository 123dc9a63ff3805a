/-
  THE STATEMENT Rows.TopOverdueCardSaid PROVED: for every input bailiff/bailifftop.TopOverdue returns true (a break-glass review that nobody closes is overdue guard.After ticks later, at every later moment, and its subject breaks no glass from then on; another one with the role does), and the argument reads afterwards as it read before.
  Conditions: none beyond the row's own (it lists five package-level variables of strconv and math/bits; the card ties them to the program's text).
-/
import Derived.Test.YtheabjeppmdmiaaGreatDoorMbs
import Derived.Test.YtheabjeppmdmiaaGreatDoorCards
import Derived.Test.YtheabjeppmdmiaaGreatDoorTie
import Derived.SevenTiedAt
namespace Go.Proofs.YtheabjeppmdmiaaGreatDoor
open Go.RowKit
set_option linter.unusedVariables false
set_option linter.unusedSimpArgs false
set_option maxHeartbeats 16000000
open _root_.Go.Proofs.Tryz
set_option maxRecDepth 20000
section
open Go.ChangeShapes Go.WideShapes Go.ChangeAt Go.Deep
theorem Nr{H:Type}{enc:TypeId×Value->H}{P:Program}{W:World}{sp:Nat->Bool}{held:Bool}{r:Reach}{b0:Nat}{t e:TypeId}{v:Value}{d:DataW H}{p:List MemPlace}(b:P.underlying t=some (.slice e))(he:P.underlying e=some (.int .i64))(hC:P.cellsOf e=1)
 (c:Value.okWide P W r b0 t v)(h:DataW.Trod enc P W 0 sp held t v d p):
 ∃(a:oD) (cap:Nat) (l:List Int),v=.slice a l.length cap/\l.length<=cap/\cap<=maxLen/\Sl W W.heap.size a (EP .i64 l):=by
 obtain⟨a,cap,l,rfl,h1,h2,_,h4⟩:=NG b he hC c h;exact⟨a,cap,l,rfl,h1,h2,h4⟩
end
theorem Ya(a v1 v2 p:Int)(x y:Nat)(g h:Bool)(v3:bY)(w:World):(Instr.field 36 (.agg #[.int .i64 a,.complex .f64 x y,.bool g,.int .i64 v1,.int .i64 v2,.string v3,.bool h,.int .i64 p]) 0).run prog w=.ok (.int .i64 a) w:=by kernel_rfl
theorem aAB{w0:World}(j:Gl w0){P:nP}{E D Q m n k:Nat}{s:Sto}{w:World}(h:oS w0 P E D Q m n s w)(o:Op)(r:iF o)(d:kW k s)(hk:k<=900000)(q:n<=800000)(i:m+400+o.text.size<=Q)(g:Q<=900000):
 Calls prog 7 #[.pointer (some ⟨E,0,none⟩),eY o] w fun e w'=>e=.returned (.agg (dZ (bZ s o).2.1))/\∃a,oS w0 P E D Q a (n+1) (bZ s o).1 w'/\aN P w w'/\m<=a/\a<=m+400+o.text.size:=by
 obtain⟨M,K,h1,h2,h3,h4⟩:=h;refine(Bu E D Q m n k s o r w h1 ((j.on h4).aEs) d hk q i g).mono ?_;rintro e w' ⟨rfl,c,K',a,f,hM,t,hS,l,p,v⟩;refine⟨rfl,a,⟨c,K',f,fun b hb=> ?_,fun b hp=>lL (h3 b hp) hS.size,?_⟩,hS.mono fun b _ hp hm=>(h2 b hm).2 hp,l,p⟩
 .exact QCQ
 .exact QBV
def zK:Po:= .mk (str "p") false 1 [] [⟨str "w",true,[[[⟨⟨2,str "name",false⟩,1,(5,0,str "write")⟩]]],[],[]⟩,⟨str "r",false,[],[],[]⟩] [] []
theorem XV:fC zK=0:=by kernel_rfl
theorem EN(k:Int):cC k=str "write"↔k=3:=by
 unfold cC;by_cases h:k<1\/7<k
 .rw[iP h];exact⟨fun e=>absurd e (by decide +kernel),fun e=>by omega⟩
 .rw[iN h];exact Zh
theorem Ns(s:Sto)(o:Op):rT (lM s o) [[[⟨⟨2,str "name",false⟩,1,(5,0,str "write")⟩]]]=if o.aDG=3 then 2 else 0:=by
 rw[Xm,Mj (y:=cC o.aDG) rfl (Rz s o)];by_cases h:o.aDG=3
 .rw[iP ((EN _).2 h),iP h];rfl
 .rw[iN (fun e=>h ((EN _).1 e)),iN h];rfl
theorem BP(s:Sto)(o:Op):gD (lM s o) zK=if o.aDG=3 then (((0,4),[]),0) else (((4,0),[]),0):=by
 rw[Fx rfl XV];have h1:=Ns s o;generalize lM s o=g at *;show (cU g 4 zK,0)=_;unfold cU zK;dsimp only[Po.aDR,Po.aDK,Po.aDV,Po.aDX,Po.alg,List.map];rw[show rT g []=2 from rfl,iN qe];unfold iC;dsimp only;rw[h1,show rT g []=2 from rfl];by_cases h:o.aDG=3
 .rw[iP h,iP h];rfl
 .rw[iN h,iN h];rfl
def MU:=dQ kM (cW "boss new c")
def MV:=dQ MU.1 (cW "boss role ann glass")
def MW:=dQ MV.1 (cW "boss role bob glass")
def MX:=dQ MW.1 (cW "boss policy policy p denyover "++[123]++cW " deny w when (action.name = #write); permit r; "++[125])
def vP:=dQ MX.1 (cW "ann !fire write c f 1")
theorem sO:MU.2=str "ok"/\MV.2=str "ok"/\MW.2=str "ok"/\MX.2=str "ok"/\vP.2=str "glass":=by refine⟨?_,?_,?_,?_,?_⟩<;>kernel_rfl
def MY(x:Sto)(t:Int):Sto:={x with aDP:=t}
def cS(t:Int):Sto:=MY vP.1 t
theorem ZY{x:Sto}{t:Int}(h:x.aDP=t):MY x t=x:=by subst h;rfl
theorem Gn:vP.1.aDP=0:=by kernel_rfl
theorem RR:cS 0=vP.1:=ZY Gn
theorem yK(t:Int):(cS t).aDI=zK:=by
 have h:vP.1.aDI=zK:=by kernel_rfl
 unfold cS MY;dsimp only;exact h
def iH(a:String):Op:={CU with aDG:=3,aDW:=str a,aDN:=str "c",aD1:=str "g",val:=(2,0,ByteArray.empty),aD8:=true,aD4:=str "x"}
def gY(n:Int):Op:={CU with aDG:=8,aDW:=str "boss",aD3:=n}
theorem MZ{s:Sto}{o:Op}(h0:dO s o=0)(b:o.aDG=3)(a:gD (lM s o) s.aDI=(((0,4),[]),0))(d:kC s=false)(e:kC (dA (fT s o o.aD4) o)=false):
 (bZ s o).2.2.2=0/\(bZ s o).2.1.aD8=gS s o (0,4):=by
 rw[AD];have c:pC s o=(0,0):=by unfold pC;rw[iN (fun h=>by rw[b] at h;exact absurd h.2 qe),h0]
 rw[c,iN (fun h=>h rfl)];unfold Al;rw[a];dsimp only;rw[iN (fun h=>h rfl),dF (show ¬((0,4):Mk)=(4,0) by decide)]
 cases f:gS s o (0,4)
 .simp only[Bool.or_false,Bool.false_eq_true,if_false,List.foldl_nil,d];refine⟨?_,?_⟩<;>first|trivial |rfl
 .simp only[Bool.or_true,if_true,List.foldl_nil,e,Bool.false_eq_true,if_false];refine⟨?_,?_⟩<;>first|trivial |rfl
theorem RS(t:Int):AB (cS t) (str "ann")=decide (100<=t):=by
 have h:(fun t=>AB (cS t) (str "ann"))=fun t=>(decide (100<=t - 0)||false):=by kernel_rfl
 have:=congrFun h t;rw[Bool.or_false,Int.sub_zero] at this;exact this
theorem Sr(t:Int):(bZ (cS t) (iH "ann")).2.2.2=0/\(bZ (cS t) (iH "ann")).2.1.aD8= !decide (100<=t):=by
 have h0:(fun t=>dO (cS t) (iH "ann"))=fun _=>0:=by kernel_rfl
 have h1:(fun t=>kC (cS t))=fun _=>false:=by kernel_rfl
 have h2:(fun t=>kC (dA (fT (cS t) (iH "ann") (iH "ann").aD4) (iH "ann")))=fun _=>false:=by kernel_rfl
 have h3:(fun t=>rC (cS t) (str "ann") CV)=fun _=>true:=by kernel_rfl
 have h:=MZ (s:=cS t) (o:=iH "ann") (congrFun h0 t) rfl (by rw[yK,BP,iP (show (iH _).aDG=3 from rfl)]) (congrFun h1 t) (congrFun h2 t);refine⟨h.1,h.2.trans ?_⟩;unfold gS;rw[show (iH "ann").aDW=str "ann" from rfl,RS,congrFun h3 t,dX (show ((0,4):Mk)=(0,4) from rfl)];simp[iH]
theorem Ss(t:Int):(bZ (cS t) (iH "bob")).2.2.2=0/\(bZ (cS t) (iH "bob")).2.1.aD8=true:=by
 have h0:(fun t=>dO (cS t) (iH "bob"))=fun _=>0:=by kernel_rfl
 have h1:(fun t=>kC (cS t))=fun _=>false:=by kernel_rfl
 have h2:(fun t=>kC (dA (fT (cS t) (iH "bob") (iH "bob").aD4) (iH "bob")))=fun _=>false:=by kernel_rfl
 have h3:(fun t=>gS (cS t) (iH "bob") (0,4))=fun _=>true:=by kernel_rfl
 have h:=MZ (s:=cS t) (o:=iH "bob") (congrFun h0 t) rfl (by rw[yK,BP,iP (show (iH _).aDG=3 from rfl)]) (congrFun h1 t) (congrFun h2 t);exact⟨h.1,h.2.trans (congrFun h3 t)⟩
def Uv(t:Int):ByteArray:=(dQ (cS t) (cW "bob close 1")).2
def Uw(t:Int):ByteArray:=(dQ (dQ (cS t) (cW "bob close 1")).1 (cW "ann !fire write c f 2")).2
theorem RT(t:Int):Uv t=str "ok"/\Uw t=str "glass":=by
 have h0:Uv=fun _=>str "ok":=by kernel_rfl
 have h1:Uw=fun _=>str "glass":=by kernel_rfl
 rw[h0,h1];exact⟨rfl,rfl⟩
theorem Nt(t:Int):1<=(cS t).aDJ.length/\((cS t).aDJ.head?.map (·.aDP))=some 0:=by
 have h0:vP.1.aDJ.length=1:=by kernel_rfl
 have h1:vP.1.aDJ.head?.map (·.aDP)=some 0:=by kernel_rfl
 unfold cS MY;dsimp only;rw[h0,h1];exact⟨lR _,rfl⟩
theorem Nu{n:Int}(h1:1<=n)(h2:n<=60):gF (gY n)=true:=by
 unfold gF;have a:eL (gY n).aDW=true:=by show eL (str "boss")=true;kernel_rfl
 have b:mY (gY n)=true:=rfl;have c:¬4096<(gY n).text.size:=by show ¬4096<0;omega
 rw[iN (by rw[a,b];simp[c])];have d:kN (gY n).aDN=true:=rfl;have e:kN (gY n).aD1=true:=rfl;have f:kN (gY n).to_=true:=rfl;rw[iN (by rw[d,e,f];simp[gY,CU])];unfold fP;dsimp only;rw[show (gY n).aDG=8 from rfl,iN qe,iN qe,iN qe,iN qe,iN qe,iN qe,iP qe];have g:decide (KO (gY n)={CU with aDG:=8,aD3:=(gY n).aD3})=true:=dX rfl;rw[dX (show 0<(gY n).aD3 by show 0<n;omega),dX (show (gY n).aD3<=1099511627776 by show n<=1099511627776;omega),g];rfl
theorem Nv{t n:Int}(h0:0<=t)(e:t<=100000)(h1:1<=n)(h2:n<=60):(bZ (cS t) (gY n)).1=cS (t+n)/\(bZ (cS t) (gY n)).2.1.err=0:=by
 have a:dO (cS t) (gY n)=0:=by
  unfold dO;rw[Nu h1 h2,show (gY n).aDG=8 from rfl,iN qe,iN qe,iN qe,iN qe,iN qe,iP qe,iN (by show ¬1099511627776 - n<t;omega)]
 rw[AD];have c:pC (cS t) (gY n)=(0,0):=by unfold pC;rw[iN (fun h=>absurd h.2 (by show ¬(8:Int)=7;decide)),a]
 rw[c,iN (fun h=>h rfl)];unfold Al;rw[yK,BP,iN (show ¬(gY n).aDG=3 from (by decide:¬(8:Int)=3))];dsimp only;rw[iN (fun h=>h rfl),SM];have b:dA (cS t) (gY n)=cS (t+n):=by
  unfold dA;rw[a,iN (fun h=>h rfl)];rfl
 have d:kC (cS (t+n))=false:=by
  have h1:(fun t=>kC (cS t))=fun _=>false:=by kernel_rfl
  exact congrFun h1 _
 simp only[decide_true,Bool.or_false,if_true,Bool.false_eq_true,if_false,List.foldl_nil,b,d];refine⟨?_,?_⟩<;>first|trivial |rfl
def NA:List ByteArray:=[⟨#[98,111,115,115,32,110,101,119,32,99]⟩,⟨#[98,111,115,115,32,114,111,108,101,32,97,110,110,32,103,108,97,115,115]⟩,⟨#[98,111,115,115,32,114,111,108,101,32,98,111,98,32,103,108,97,115,115]⟩,⟨#[98,111,115,115,32,112,111,108,105,99,121,32,112,111,108,105,99,121,32,112,32,100,101,110,121,111,118,101,114,32,123,32,100,101,110,121,32,119,32,119,104,101,110,32,40,97,99,116,105,111,110,46,110,97,109,101,32,61,32,35,119,114,105,116,101,41,59,32,112,101,114,109,105,116,32,114,59,32,125]⟩,⟨#[97,110,110,32,33,102,105,114,101,32,119,114,105,116,101,32,99,32,102,32,49]⟩]
def Ux:Nat->Sto
 |0=>kM
 |1=>MU.1
 |2=>MV.1
 |3=>MW.1
 |4=>MX.1
 |_=>vP.1
def RU(k:Nat):ByteArray:=if k=4 then ⟨#[103,108,97,115,115]⟩ else ⟨#[111,107]⟩
theorem RV:str "glass"=⟨#[103,108,97,115,115]⟩:=by kernel_rfl
theorem aDr:(⟨#[98,111,115,115,32,110,101,119,32,99]⟩:bY).data.toList=cW "boss new c":=by kernel_rfl
theorem aDs:(⟨#[98,111,115,115,32,114,111,108,101,32,97,110,110,32,103,108,97,115,115]⟩:bY).data.toList=cW "boss role ann glass":=by kernel_rfl
theorem aDt:(⟨#[98,111,115,115,32,114,111,108,101,32,98,111,98,32,103,108,97,115,115]⟩:bY).data.toList=cW "boss role bob glass":=by kernel_rfl
theorem aDu:(⟨#[98,111,115,115,32,112,111,108,105,99,121,32,112,111,108,105,99,121,32,112,32,100,101,110,121,111,118,101,114,32,123,32,100,101,110,121,32,119,32,119,104,101,110,32,40,97,99,116,105,111,110,46,110,97,109,101,32,61,32,35,119,114,105,116,101,41,59,32,112,101,114,109,105,116,32,114,59,32,125]⟩:bY).data.toList=cW "boss policy policy p denyover "++[123]++cW " deny w when (action.name = #write); permit r; "++[125]:=by kernel_rfl
theorem aDv:(⟨#[97,110,110,32,33,102,105,114,101,32,119,114,105,116,101,32,99,32,102,32,49]⟩:bY).data.toList=cW "ann !fire write c f 1":=by kernel_rfl
theorem Yb{k:Nat}(a:k<NA.length):dQ (Ux k) NA[k].data.toList=(Ux (k+1),RU k):=by
 have h5:NA.length=5:=rfl;have:k=0\/k=1\/k=2\/k=3\/k=4:=qo
 rcases this with rfl|rfl|rfl|rfl|rfl
 .show dQ kM (⟨#[98,111,115,115,32,110,101,119,32,99]⟩:bY).data.toList=(MU.1,_);rw[aDr];exact Prod.ext rfl (sO.1.trans uP)
 .show dQ MU.1 (⟨#[98,111,115,115,32,114,111,108,101,32,97,110,110,32,103,108,97,115,115]⟩:bY).data.toList=(MV.1,_);rw[aDs];exact Prod.ext rfl (sO.2.1.trans uP)
 .show dQ MV.1 (⟨#[98,111,115,115,32,114,111,108,101,32,98,111,98,32,103,108,97,115,115]⟩:bY).data.toList=(MW.1,_);rw[aDt];exact Prod.ext rfl (sO.2.2.1.trans uP)
 .show dQ MW.1 (⟨#[98,111,115,115,32,112,111,108,105,99,121,32,112,111,108,105,99,121,32,112,32,100,101,110,121,111,118,101,114,32,123,32,100,101,110,121,32,119,32,119,104,101,110,32,40,97,99,116,105,111,110,46,110,97,109,101,32,61,32,35,119,114,105,116,101,41,59,32,112,101,114,109,105,116,32,114,59,32,125]⟩:bY).data.toList=(MX.1,_);rw[aDu];exact Prod.ext rfl (sO.2.2.2.1.trans uP)
 .show dQ MX.1 (⟨#[97,110,110,32,33,102,105,114,101,32,119,114,105,116,101,32,99,32,102,32,49]⟩:bY).data.toList=(vP.1,_);rw[aDv];exact Prod.ext rfl (sO.2.2.2.2.trans RV)
theorem Cb:∀x∈NA,x.size<=80:=by
 intro x a;have h:NA.all (fun x=>decide (x.size<=80))=true:=by kernel_rfl
 exact of_decide_eq_true (List.all_eq_true.1 h x a)
def qU(n:Int):Op:=⟨8,⟨#[98,111,115,115]⟩,⟨#[]⟩,⟨#[]⟩,⟨#[]⟩,(0,0,⟨#[]⟩),n,⟨#[]⟩,⟨#[]⟩,false⟩
def nH(a:bY):Op:=⟨3,a,⟨#[99]⟩,⟨#[103]⟩,⟨#[]⟩,(2,0,⟨#[]⟩),0,⟨#[]⟩,⟨#[120]⟩,true⟩
theorem Nw(n:Int):gY n=qU n:=by
 unfold gY qU;rw[show str "boss"=⟨#[98,111,115,115]⟩ by kernel_rfl];rfl
theorem Gp:iH "ann"=nH ⟨#[97,110,110]⟩:=by kernel_rfl
theorem Gq:iH "bob"=nH ⟨#[98,111,98]⟩:=by kernel_rfl
theorem Yc{t n:Int}(h0:0<=t)(a:t<=100000)(h1:1<=n)(h2:n<=60):(bZ (cS t) (qU n)).1=cS (t+n)/\(bZ (cS t) (qU n)).2.1.err=0:=by
 rw[<-Nw];exact Nv h0 a h1 h2
theorem aAC(t:Int):(bZ (cS t) (nH ⟨#[97,110,110]⟩)).2.2.2=0/\(bZ (cS t) (nH ⟨#[97,110,110]⟩)).2.1.aD8= !decide (100<=t):=by
 rw[<-Gp];exact Sr t
theorem aAD(t:Int):(bZ (cS t) (nH ⟨#[98,111,98]⟩)).2.2.2=0/\(bZ (cS t) (nH ⟨#[98,111,98]⟩)).2.1.aD8=true:=by
 rw[<-Gq];exact Ss t
theorem Yd(t:Int):AB (cS t) ⟨#[97,110,110]⟩=decide (100<=t):=by
 rw[<-RS,show str "ann"=⟨#[97,110,110]⟩ by kernel_rfl]
theorem Ye(t:Int):∃h:0<(cS t).aDJ.length,(cS t).aDJ[0].aDP=0:=by
 obtain⟨h1,h2⟩:=Nt t;refine⟨qo,?_⟩;rw[List.head?_eq_getElem?,gE qo] at h2;exact Option.some.inj h2
theorem St{n:Int}(h1:1<=n)(h2:n<=60):iF (qU n):=by
 simp only[iF,qU,cR,bJ];exact⟨⟨qo,qo⟩,qe,qe,qe,qe,⟨⟨qo,qo⟩,⟨qo,qo⟩,qe⟩,⟨qo,qo⟩,qe,qe⟩
theorem XW{a:bY}(h:a.size<=cQ):iF (nH a):=by
 simp only[iF,nH,cR,bJ];exact⟨⟨qo,qo⟩,h,qe,qe,qe,⟨⟨qo,qo⟩,⟨qo,qo⟩,qe⟩,⟨qo,qo⟩,qe,qe⟩
theorem Yf(t:Int):∃s1 s2,dQ (cS t) (cW "bob close 1")=(s1,⟨#[111,107]⟩)/\dQ s1 (cW "ann !fire write c f 2")=(s2,⟨#[103,108,97,115,115]⟩):=
 ⟨(dQ (cS t) (cW "bob close 1")).1,(dQ (dQ (cS t) (cW "bob close 1")).1 (cW "ann !fire write c f 2")).1,Prod.ext rfl ((RT t).1.trans uP),Prod.ext rfl ((RT t).2.trans RV)⟩
theorem Nx:(⟨#[98,111,98,32,99,108,111,115,101,32,49]⟩:bY).data.toList=cW "bob close 1":=by kernel_rfl
theorem Su:(⟨#[97,110,110,32,33,102,105,114,101,32,119,114,105,116,101,32,99,32,102,32,50]⟩:bY).data.toList=cW "ann !fire write c f 2":=by kernel_rfl
theorem NC{w:World}{ok:nP}:∀{L:List ByteArray},(∀x∈L,x.size<=maxLen)->aX (Gk w ok) (L.map Value.string) L
 | [],_=>rfl
 |x::L,h=>⟨[.string x],L.map Value.string,rfl,⟨rfl,h x (List.mem_cons_self ..)⟩,NC fun y a=>h y (List.mem_cons_of_mem _ a)⟩
theorem Sv{w:World}{g:Nat}{L:List ByteArray}{t:TypeId}{cs:Array Value}(b:cs.toList=L.map Value.string)(h:w.heap[g]? =some (.cells cs t (0,0)))(e:∀x∈L,x.size<=maxLen)(c:L.length<=1000000){ok:nP}(d:ok g):aH Gk w ok (.slice (some ⟨g,0,none⟩) L.length L.length) L:=
 ⟨_,_,L.map Value.string,rfl,fun _=>⟨g,0,rfl,d,fun i x a=>by rw[Nat.zero_add];exact aQ h i x (by rw[<-b] at a;rwa [Array.getElem?_toList] at a)⟩,NC e,c⟩
theorem QBp{p:Prop}(h:p:=by
 go_wp2_with fail;refine HL1.o.mono ?_;rintro e w3 ⟨rfl,m3,hA3,-,-,hm3,-⟩;have HL2:=aA (HTL.o w3 m3 hA3 hm3);clear hA3 hm3 HL1;go_wp2_with fail;refine HL2.o.mono ?_;rintro e w4 ⟨rfl,hb4⟩;have HW4:=aA hb4;clear hb4 HL2;go_wp2_with fail;refine(HAW.o _ HW4.o).mono ?_;rintro e w5 ⟨rfl,hb5⟩;have HB5:=qB HW4 hb5;clear hb5;go_wp2;go_returns;exact⟨rfl,HB5.o⟩):p:=h
theorem IW{w W wa d wc:World}(h0:Below w.heap.size w W)(ha:aN (fun b=>b≠w.heap.size) W wa)(a:aN (fun b=>b≠w.heap.size+1) wa d)(e:aN (fun b=>b≠w.heap.size+1+1) d wc):Below w.heap.size w wc:=
 ((((aJ (ok:=fun b=>b<w.heap.size) h0).trans (ha.mono fun b _ a=>by have:b<w.heap.size:=a;show b≠w.heap.size;omega)).trans (a.mono fun b _ a=>by have:b<w.heap.size:=a;show b≠w.heap.size+1;omega)).trans (e.mono fun b _ a=>by have:b<w.heap.size:=a;show b≠w.heap.size+1+1;omega)).below (B:=w.heap.size) (fun k c=>⟨c,c⟩)
theorem ND(a:oD)(c:Nat)(l:List Int)(hl:l.length<=c)(hm:c<=maxLen)(w:World)(M:Sl w w.heap.size a (EP .i64 l))(hg:Gl w)(h6:6<=w.heap.size):Calls prog 3 #[.slice a l.length c] w fun e w'=>e=.returned (.bool true)/\Below w.heap.size w w':=by
 have HF:=aA (XU 200000 qe w hg h6);have HAW:=aA (fun w' (p:Below w.heap.size w w')=>Np w' (hg.on p) (lT h6 p.size));obtain⟨I,H6,HS⟩:=aY hg h6 M;clear hg h6 M hl hm;go_enter func3,ntmps3;go_wp2_with fail;refine HF.o.mono ?_;rintro e w1 ⟨E,D,rfl,Y⟩;have bt:=aA Y.one;clear Y HF;go_upto_region 5 with (fail)
 generalize bs:w1.alloc _=w2;have bu:Hid (Below w1.heap.size w1 w2):=aA (by rw[<-bs];exact aB _ _);have a1:Hid (w2.heap[w1.heap.size]? =some (.cells #[.string ⟨#[98,111,115,115,32,110,101,119,32,99]⟩,.string ⟨#[98,111,115,115,32,114,111,108,101,32,97,110,110,32,103,108,97,115,115]⟩,.string ⟨#[98,111,115,115,32,114,111,108,101,32,98,111,98,32,103,108,97,115,115]⟩,.string ⟨#[98,111,115,115,32,112,111,108,105,99,121,32,112,111,108,105,99,121,32,112,32,100,101,110,121,111,118,101,114,32,123,32,100,101,110,121,32,119,32,119,104,101,110,32,40,97,99,116,105,111,110,46,110,97,109,101,32,61,32,35,119,114,105,116,101,41,59,32,112,101,114,109,105,116,32,114,59,32,125]⟩,.string ⟨#[97,110,110,32,33,102,105,114,101,32,119,114,105,116,101,32,99,32,102,32,49]⟩] 9 (0,0))):=aA (by rw[<-bs];exact aK _ _ _ rfl);have b8:=aA (aD a1.o);clear bs;obtain⟨P,cj,cn⟩:∃P:nP,Hid (oS w P E D 200000 0 0 kM w2)/\Hid (P w1.heap.size):=⟨_,aA (bt.o.grow bu.o),aA (.inr ⟨lR _,b8.o⟩)⟩;have bz:Hid (aH Gk w2 P (.slice (some ⟨w1.heap.size,0,none⟩) 5 5) NA):=aA (Sv (L:=NA) rfl a1.o (fun x C=>by have:=Cb x C;unfold maxLen;omega) qe cn.o);clear bt bu a1 b8;go_wp2;go_loopw [31] (fun i wr=>∃(k m:Nat),k<=5/\i=.int .i64 k/\Hid (oS w P E D 200000 m k (Ux k) wr)/\Hid (m<=500 * k)/\Hid (kW k (Ux k))/\Hid (aN P w2 wr)) (fun i _=>5 - (intOf i).toNat)
 case atStart=>exact⟨0,0,qo,rfl,cj,aA qo,aA XE,aA (aJ (Below.refl _ _))⟩
 case round=>
  obtain⟨k,m,hk,rfl,z,HM,y,V⟩:=hrel;by_cases J:k<5
  .have bo:k<NA.length:=J;obtain⟨b,off,r,e0,dk,cx,⟨rfl,c6⟩,hc⟩:=aH.at Ca (aH.aDQ Ca bz.o V.o) bo qe;injection e0 with e0;injection e0 with e1 e2;subst e1 e2;have br:=Yb bo;have bp:=Cb _ (List.getElem_mem bo);obtain⟨q,hq⟩:=xE (NA[k]);rw[<-hq] at hc br bp;have ch:=hc 0 _ rfl;rw[Nat.mul_one,Nat.add_zero,Nat.zero_add] at ch;have HQ:=aA bp;have aw:=aA (KC I.o H6.o z.o q (qA HQ.o) y.o qo qo (qD HQ.o HM.o) qe);have B:=y.o.line q.data.toList;rw[br] at aw B;have N:=aA B;have c7:(k:Int)<(5:Int):=qo;clear hc c6 hq bp br B;go_wp2_with fail;refine aw.o.mono ?_;rintro e w3 ⟨rfl,m3,hA3,ao,-,hm3,-⟩;have ar:=aA hA3;have b2:=aA (V.o.trans ao);have ah:Hid (m3<=500 * (k+1)):=aA (qD HM.o HQ.o);clear hA3 ao hm3 aw ch;by_cases h4:k=4
   .subst h4;have he:RU 4=⟨#[103,108,97,115,115]⟩:=rfl;obtain⟨f1,f2⟩:=fK (RU 4) [103,108,97,115,115] he;obtain⟨f3,f4⟩:=fJ (RU 4) [111,107] (fun e=>by rw[he] at e;exact absurd e qe);clear he;generalize RU 4=an at *;go_wp2;go_roundw
    case rel=>exact⟨5,m3,qo,by go_num,ar,ah,N,b2⟩
    case measure=>simp[intOf]
   .have he:RU k=⟨#[111,107]⟩:=iN h4;obtain⟨f1,f2⟩:=fK (RU k) [111,107] he;clear he h4;generalize RU k=an at *;go_wp2;go_roundw
    case rel=>exact⟨k+1,m3,qo,by go_num,ar,ah,N,b2⟩
    case measure=>simp[intOf];omega
  .have c7:¬((k:Int)<(5:Int)):=qo;obtain rfl:k=5:=qo;have cm:Hid (oS w P E D 200000 m 5 (cS 0) wr):=aA (by rw[RR];exact z.o);have HB5:Hid (kW 5 (cS 0)):=aA (by rw[RR];exact y.o);clear z y bz;go_wp2;go_loopw [9,10] (fun now i dh=>∃(k m:Nat) (T:Int),k<=12/\i=.int .i64 k/\now=.int .i64 T/\Hid (0<=T/\T<=60 * (k:Int))/\Hid (oS w P E D 200000 m (5+k) (cS T) dh)/\Hid (m<=2500+500 * k)/\Hid (kW (5+k) (cS T))) (fun _ i _=>12 - (intOf i).toNat)
   case atStart=>exact⟨0,m,0,qo,rfl,rfl,aA qo,cm,aA (qA HM.o),HB5⟩
   case round=>
    obtain⟨k,m2,T,dp,rfl,rfl,W,z,ag,y⟩:=hrel;by_cases bn:k<l.length/\k<12
    .have g0:(k:Int)<(l.length:Int):=qo;have g1:decide (k<l.length)=true:=dX bn.1;have g2:decide ((k:Int)<12)=true:=dX qo;have g3:(k:Int)<12:=qo;obtain⟨b,off,rfl,p,hc⟩:=(HS.o.below z.o.at0.below).at (show (EP .i64 l)[k]? =some (.int .i64 l[k]) by simp[EP,bn.1]);have cx:b<wr.heap.size:=lL p z.o.at0.below.size;obtain⟨x,C⟩:=xE (l[k]);rw[<-C] at hc;obtain⟨n,hn⟩:=xE (1+iU x 0 59);have b7:=aA (KE x 0 59 wr qe qe qe);have A:Hid (1<=n/\n<=60):=aA ⟨by rw[hn];have:=wY x 0 59 qe;omega,by rw[hn];have:=wZ x 0 59 qe;omega⟩;have db:IntKind.i64.wrap (1+iU x 0 59)=n:=by rw[hn];exact IntWalk.i64_in _ (by have:=wY x 0 59 qe;have:=wZ x 0 59 qe;omega)
     have dc:wrap64 (1+iU x 0 59)=n:=by rw[hn];exact IntWalk.wrap64_in _ (by have:=wY x 0 59 qe;have:=wZ x 0 59 qe;omega)
     generalize iU x 0 59=v at *;clear C hn bn;go_wp2_with fail;refine b7.o.mono ?_;rintro e dq ⟨rfl,rfl⟩;have H:=aA (aAB I.o z.o (qU n) (St A.o.1 A.o.2) y.o qo qo (by have:=ag.o;show m2+400+0<=200000;omega) qe);have bk:=aA (Yc (t:=T) W.o.1 (qA W.o.2) A.o.1 A.o.2);have f:=y.o.guard (qU n);rw[bk.o.1] at H f;have f:=aA f;have ad:=aA bk.o.2;have da:= @Ya;unfold eY bW qU dZ at H;unfold qU at ad;dsimp only at H;generalize bZ (cS T) _=G at H ad;clear b7 bk;go_wp2_with fail;refine H.o.mono ?_;rintro e w3 ⟨rfl,m3,hA3,ao,-,hm3⟩;rw[ad.o];obtain⟨g,aq⟩:=xE (T+n);have cu:Hid (0<=g/\g<=60 * ((k:Int)+1)):=aA (qD W.o A.o);have dd:IntKind.i64.wrap (T+n)=g:=by rw[aq];exact IntWalk.i64_in _ (qD W.o A.o)
     have de:wrap64 (T+n)=g:=by rw[aq];exact IntWalk.wrap64_in _ (qD W.o A.o)
     rw[<-aq] at hA3 f;have ah:Hid (m3<=2500+500 * (k+1)):=aA (by have h9:m3<=m2+400+0:=hm3;have:=ag.o;omega);obtain⟨F,Q,ax,a8⟩:=dI (aAC g) (aAD g) (Yd g) (Ye g);obtain⟨s,M⟩:=xE (cS g);rw[<-M] at hA3 f F Q ax a8;obtain⟨lt,J⟩:∃b:Bool,b=decide (100<=g):=⟨_,rfl⟩;rw[<-J] at F ax;have cz:decide (g ≥ 100)=lt:=J.symm;have c1:decide ((100:Int)<=g)=lt:=J.symm;obtain⟨b5,ar,V⟩:=aY M hA3 (Nq hA3);clear hA3 ao hm3 H aq M J ad;go_wp2_with fail;refine V.o.mono ?_;rintro e w4 ⟨K,vc,vr,vn,vo,vt,vu,vk,vb,rfl,bq,Y,hb4⟩;obtain⟨ca,cc,ra,rc,na,nc,oa,oc,ta,tc,ua,uc,ka,kc,ba,bc,rfl,-,rfl,-,rfl,-,rfl,-,rfl,-,rfl,-,rfl,-,rfl,-⟩:=bq.sl;have b6:=aA bq;have au:=aA (Y.sub (P':=P) fun b p=> .inl p);unfold aV;clear bq Y hb4 V da cz c1 db dc dd de;go_upto_region 22 with (refine dP rfl _ (.tmp 13) (.tmp 78) rfl w4.heap.size _ rfl rfl _ _ (aK _ _ _ rfl) (by kernel_rfl) rfl (by simp[Value.oneCell']) ?_;intro w5 a6 b4)
     have HB5:=aA (xW (lR _) b4.o);have af:=aA (RF s _ _ _ _ _ _ _ _ ⟨#[97,110,110]⟩ w5 (b6.o.on HB5.o) (fun x C=>⟨(f.o.ok.1.aEl x C).1,(f.o.ok.1.aEl x C).2,f.o.ok.1.aDP.2⟩));rw[ax.o] at af;unfold aP aV at af;obtain⟨⟨t0,t1,t2,t3,t4,t5,t6,t7,t8,t9,t10,t11,t12⟩,-⟩:=bS a6.o;have zt:=aD a6.o;clear b4;go_wp2_with fail;refine af.o.mono ?_;rintro e w6 ⟨rfl,bm⟩;have O:=qB HB5 bm;have aj:=qK a6 bm;have be:=aA (b6.o.on O.o);clear t0 t1 t2 t3 t4 t5 t6 t7 t8 t9 t10 t11 t12 zt bm af;obtain⟨⟨t0,t1,t2,t3,t4,t5,t6,t7,t8,t9,t10,t11,t12⟩,-⟩:=bS aj.o;have zt:=aD aj.o;obtain⟨cw,cb⟩:=a8.o;obtain⟨b3,df,r3,rfl,_,dm,⟨rfl,cy⟩,cg⟩:=aH.at cV be.o.aDJ cw qe;have x1:=cg 1 _ rfl;rw[Nat.zero_mul,Nat.add_zero] at x1;have di:w6.cell? ⟨b3,df+1,none⟩=some (.int .i64 0):=by rw[x1,cb]
     have l1:decide (s.aDJ.length<1)=false:=dF qo;have l2:decide ((s.aDJ.length:Int)<1)=false:=dF qo;have l3:(0:Int)<(s.aDJ.length:Int):=qo;have R:=aA (fun w' (p:Below w6.heap.size w6 w')=>yJ s _ _ _ _ _ _ _ _ (nH ⟨#[97,110,110]⟩) (XW qe) w' (be.o.on p) ((I.o.on (aC (aC au.o.at0.below O.o) p)).aEs) f.o.ok (qA f.o.ok.1.aDU) ⟨f.o.2.1,qA f.o.2.2⟩);have S:=aA (fun w' (p:Below w6.heap.size w6 w')=>yJ s _ _ _ _ _ _ _ _ (nH ⟨#[98,111,98]⟩) (XW qe) w' (be.o.on p) ((I.o.on (aC (aC au.o.at0.below O.o) p)).aEs) f.o.ok (qA f.o.ok.1.aDU) ⟨f.o.2.1,qA f.o.2.2⟩);have bb:=aA (BI F.o.1);have bd:=aA (BI Q.o.1);obtain⟨GA,cd⟩:=xE (bZ s (nH ⟨#[97,110,110]⟩));obtain⟨GB,cf⟩:=xE (bZ s (nH ⟨#[98,111,98]⟩));rw[<-cd] at R F bb;rw[<-cf] at S Q bd;unfold aV eY bW nH at R S;dsimp only at R S;clear cg cy x1 cb cd cf a8;go_wp2_with fail;refine(R.o _ (Below.refl _ _)).mono ?_;rintro e j ⟨dx,ef,eb,ed,eh,ej,dz,dv,vd,rfl,X,hd,Z⟩;rw[F.o.1];obtain⟨d,aa⟩:=bb.o;rw[aa] at hd;obtain⟨vl,rfl,ab⟩:=hd;obtain⟨dr,dt,rfl,-⟩:=ab.slice;have b9:=aA Z;have U:=aA (FK X);clear ab aa X Z R bb t0 t1 t2 t3 t4 t5 t6 t7 t8 t9 t10 t11 t12 zt;unfold dZ lC;go_upto_region 25 with (first
      |(refine dP rfl _ (.tmp 14) (.tmp 102) rfl j.heap.size _ rfl rfl _ _ (aE (aE (aK _ _ _ rfl) (aB _ _)) (aB _ _)) (by kernel_rfl) rfl U.o ?_;intro wa cp ak)
      |(refine dP rfl _ (.tmp 15) (.tmp 103) rfl (j.heap.size+1) _ rfl rfl _ _ (aF (aE (aK (j.alloc _) _ _ qs) (aB _ _)) ak.o (show j.heap.size+1≠j.heap.size by omega)) (by kernel_rfl) rfl (by simp[Value.oneCell']) ?_;intro wb b0 bf)
      |(refine dP rfl _ (.tmp 16) (.tmp 104) rfl (j.heap.size+1+1) _ rfl rfl _ _ (aF (aF (aK ((j.alloc _).alloc _) _ _ qs) ak.o (show j.heap.size+1+1≠j.heap.size by omega)) bf.o (show j.heap.size+1+1≠j.heap.size+1 by omega)) (by kernel_rfl) rfl (by simp[Value.oneCell']) ?_;intro wc cq bg))
     have bw:=aA (IW (aC (aC (aB _ _) (aB _ _)) (aB _ _)) ak.o bf.o bg.o);have az:=qS b0 bg.o (show j.heap.size+1≠j.heap.size+1+1 by omega);have ae:=qB b9 bw.o;have a7:=qK aj ae.o;obtain⟨⟨t0,t1,t2,t3,t4,t5,t6,t7,t8,t9,t10,t11,t12⟩,-⟩:=bS a7.o;have zt:=aD a7.o;rw[F.o.2] at az;clear cp ak b0 bf cq bg U l1 l2 l3 di b9 bw;go_wp2_with fail;refine(S.o _ ae.o).mono ?_;rintro e o ⟨dy,eg,ec,ee,ei,ek,ea,dw,vd,rfl,X,hd,Z⟩;rw[Q.o.1];obtain⟨d,aa⟩:=bd.o;rw[aa] at hd;obtain⟨vl,rfl,ab⟩:=hd;obtain⟨ds,du,rfl,-⟩:=ab.slice;have bl:=aA Z;have U:=aA (FK X);clear ab aa X Z S bd t0 t1 t2 t3 t4 t5 t6 t7 t8 t9 t10 t11 t12 zt;unfold dZ lC;go_upto_region 26 with (first
      |(refine dP rfl _ (.tmp 18) (.tmp 111) rfl o.heap.size _ rfl rfl _ _ (aE (aE (aK _ _ _ rfl) (aB _ _)) (aB _ _)) (by kernel_rfl) rfl U.o ?_;intro wd cr al)
      |(refine dP rfl _ (.tmp 19) (.tmp 112) rfl (o.heap.size+1) _ rfl rfl _ _ (aF (aE (aK (o.alloc _) _ _ qs) (aB _ _)) al.o (show o.heap.size+1≠o.heap.size by omega)) (by kernel_rfl) rfl (by simp[Value.oneCell']) ?_;intro we b1 bh)
      |(refine dP rfl _ (.tmp 20) (.tmp 113) rfl (o.heap.size+1+1) _ rfl rfl _ _ (aF (aF (aK ((o.alloc _).alloc _) _ _ qs) al.o (show o.heap.size+1+1≠o.heap.size by omega)) bh.o (show o.heap.size+1+1≠o.heap.size+1 by omega)) (by kernel_rfl) rfl (by simp[Value.oneCell']) ?_;intro wf ct bj))
     have av:=aA (IW (aC (aC (aB _ _) (aB _ _)) (aB _ _)) al.o bh.o bj.o);have ai:=qS b1 bj.o (show o.heap.size+1≠o.heap.size+1+1 by omega);rw[Q.o.2] at ai;have ay:=qK az (aC bl.o av.o);obtain⟨⟨-,-,r2,-,-,-,-,-⟩,-⟩:=mP ay.o;have zr:=aD ay.o;obtain⟨⟨-,-,q2,-,-,-,-,-⟩,-⟩:=mP ai.o;have zq:=aD ai.o;have dn:((!lt)==lt)=false:=by cases lt<;>rfl
     have ck:Hid (oS w P E D 200000 m3 (5+(k+1)) (cS g) wf):=aA (by rw[<-b5.o];exact au.o.on (aC O.o (aC ae.o (aC bl.o av.o))));have cl:Hid (kW (5+(k+1)) (cS g)):=aA (by rw[<-b5.o];exact f.o);have cv:Hid (0<=g/\g<=60 * ((k+1:Nat):Int)):=aA (qA cu.o);clear cr al b1 bh ct bj U ae a7 aj O az ai ay bl av;go_wp2;go_roundw
     case rel=>exact⟨k+1,m3,g,qo,by go_num,rfl,cv,ck,ah,cl⟩
     case measure=>simp[intOf];omega
    .have dj:=y;obtain⟨s1,s2,e1,e2⟩:=Yf T;have HL1:=KC I.o H6.o z.o ⟨#[98,111,98,32,99,108,111,115,101,32,49]⟩ qe y.o qo qo (by have:=ag.o;show m2+400+11<=200000;omega) qe;have B:=y.o.line (⟨#[98,111,98,32,99,108,111,115,101,32,49]⟩:bY).data.toList;rw[Nx,e1] at HL1 B;obtain⟨HL1,N,bx⟩:=aY HL1 B e2;clear e1 e2 B;have c8:¬k<l.length\/(k<l.length/\¬k<12):=qo;have g9:¬((k:Int)<(l.length:Int))\/((k:Int)<(l.length:Int)/\¬((k:Int)<12)):=qo;have tail:∀(w3:World) (m3:Nat),oS w P E D 200000 m3 (5+k+1) s1 w3->m3<=m2+400+11->Calls prog 5 #[.pointer (some ⟨E,0,none⟩),.string ⟨#[97,110,110,32,33,102,105,114,101,32,119,114,105,116,101,32,99,32,102,32,50]⟩] w3 fun e w'=>e=.returned (.string ⟨#[103,108,97,115,115]⟩)/\Below w.heap.size w w':=fun w3 m3 h hm=>by
      have HL2:=KC I.o H6.o h ⟨#[97,110,110,32,33,102,105,114,101,32,119,114,105,116,101,32,99,32,102,32,50]⟩ qe N.o qo qo (by have:=ag.o;show m3+400+21<=200000;omega) qe;rw[Su,bx.o] at HL2;refine HL2.mono ?_;rintro e w' ⟨rfl,m4,hA,-⟩;exact⟨rfl,hA.at0.below⟩
     have HTL:=aA tail;clear tail N bx
     rcases c8 with h1|⟨h1,h2⟩
     .have g1:decide (k<l.length)=false:=dF h1;have g2:¬((k:Int)<(l.length:Int)):=qo;clear g9 h1;exact QBp
     .have g1:decide (k<l.length)=true:=dX h1;have g2:(k:Int)<(l.length:Int):=qo;have g3:decide ((k:Int)<12)=false:=dF qo;have g4:¬(k:Int)<12:=qo;clear g9 h1 h2;exact QBp
section
namespace topOverdue
open Go.ChangeShapes Go.WideShapes Go.ChangeAt
set_option maxRecDepth 100000 in
theorem aAE(os:Os)(started:os.Started)(H:Type)(enc:TypeId×Value->H):
 ReturnsInHanded {} checked os 3 .any (fun w args=>(Rows.topOverdueSpec.pre enc prog f3 [] false w args/\laidMetH prog MT w)/\sizedMet enc prog f3 (OpenSpec.ofChange Rows.topOverdueSpec) false w args)
  (Rows.topOverdueSpec.post enc prog f3 false true false false):=by
 refine OY (C:=checked) (X:=fun w _=>laidMetH prog MT w) (fun _ _ _ r h=>h.of_heap r) own started (by kernel_rfl) func3
  (ChangeSpec.witness_shaped (enc:=enc) (C:=checked) (os:=os) (X:=fun w _=>laidMetH prog MT w) false (World.doorLaid prog 400 os) #[.slice none 0 0] 8 rfl (World.shaped_of_RefB (by kernel_rfl) (by kernel_rfl)) (by kernel_rfl) (by kernel_rfl) (by kernel_rfl) (Sq os _)) ?_
 intro W base args i gs before z d b k;have c:∀(j:Nat) t v,f3.params[j]? =some t->args[j]? =some v->Value.okWide prog W .any base t v:=d;have n:=b;obtain⟨p,q,hA0,l,rfl,K,L⟩:=b;have hA:DataW.TrodAll enc prog W 0 (fun _=>true) true f3.params.toList args.toList i p:=hA0;rw[params3] at hA c;obtain⟨v0,M,d0,I,D,q0,J,rfl,rfl,h0,E⟩:=trodAll_cons hA;obtain⟨rfl,rfl,rfl⟩:=trodAll_nil E;obtain rfl:args=#[v0]:=by cases args;simp_all
 obtain⟨rfl,rfl⟩:=trodVars_none l;have f:=h0;have B:∀x∈D,x.block<W.heap.size:=by obtain⟨m,hm⟩:=f;exact DataW.trod_lt m _ _ _ hm
 obtain⟨a0,g,A,rfl,s,y,F⟩:=Nr underlying22 underlying3 (by kernel_rfl) (c 0 22 v0 rfl rfl) h0;obtain⟨o,h6⟩:=aBa z k;clear hA0 d;refine(ND a0 g A s y W F o h6).mono fun e G ⟨he,a⟩=> ?_
 subst he;exact⟨_,rfl,_,_,_,[],_,[],n,trodAll_mk1 (shut_bool underlying4 _),(trodAll_cons_mk (Below.trod Xz (by kernel_rfl) (of_decide_eq_true (by kernel_rfl)) f a B) trodAll_mk0),rfl,a.frame _,fun h=>by cases h⟩
set_option maxRecDepth 100000 in
theorem aAF:joinedFacts checked.prog 3 f3 Rows.topOverdueSpec Rows.topOverdueRow=true:=by
 unfold joinedFacts;simp only[Bool.and_eq_true]
 repeat' apply And.intro
 all_goals (as_aux_lemma=>kernel_rfl)
set_option maxRecDepth 100000 in
theorem aDw:Rows.TopOverdueSaid:=
 OpenClaim.holds_of_wide 3 f3 rfl rfl rfl rfl rfl rfl rfl ⟨rfl,rfl,rfl,rfl,rfl⟩ rfl rfl rfl rfl rfl (by as_aux_lemma=>kernel_rfl) func3 aAF
  (of_decide_eq_true (by as_aux_lemma=>kernel_rfl)) (by unfold Func.isWrapper;first|(rw[iP (by decide +kernel)];kernel_rfl)|(rw[iN (by decide +kernel)];exact⟨rfl,rfl⟩))
  (fun os started H enc _=>aAE os started H enc)
theorem proved:Rows.TopOverdueCardSaid:=
 Claim7.holds_tied_plain_at .later [] [.data,.data,.data,.sentinel,.sentinel] true _ true
  aDw (fun _ h=>by cases h) (by as_aux_lemma=>kernel_rfl) (fun _ h=>by cases h) topOverdue_row_tie rfl ⟨rfl,rfl⟩ (by as_aux_lemma=>kernel_rfl) rfl
  (fun f fn c d=>by
    obtain rfl:f=3:=Option.some.inj ((show prog.funcNamed Rows.topOverdueRow.func=some 3 by kernel_rfl).symm.trans c) |>.symm;obtain rfl:fn=f3:=(Option.some.inj (func3.symm.trans d)).symm;exact⟨by as_aux_lemma=>kernel_rfl,fun j t a=>by
     rw[params3] at a;have hm:t∈[22]:=by simpa using Array.mem_of_getElem? a
     have b:([22].all fun u=> !prog.wantsStandIn u)=true:=by kernel_rfl
     exact(show prog.wantsStandIn t=false by simpa using List.all_eq_true.1 b t hm)⟩)
  (by as_aux_lemma=>kernel_rfl)
#print axioms proved
end topOverdue
end
end Go.Proofs.YtheabjeppmdmiaaGreatDoor
