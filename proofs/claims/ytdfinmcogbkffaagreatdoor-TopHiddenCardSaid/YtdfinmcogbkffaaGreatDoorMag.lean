/- Lemmas. -/
import Derived.Test.YtdfinmcogbkffaaGreatDoorMaf
import Derived.Deep.RegionHeld3
import Derived.Deep.RegionLaw
import Derived.Deep.Cut
import Derived.Deep.CutRange
import Derived.Deep.DeepCutAuto
import Derived.Deep.CutBlock
namespace Go.Proofs.YtdfinmcogbkffaaGreatDoor
open Go.RowKit
set_option linter.unusedVariables false
set_option linter.unusedSimpArgs false
set_option maxHeartbeats 16000000
open _root_.Go.Proofs.Tryz
set_option maxRecDepth 20000
namespace Pv
theorem Ct(w:World)(x y z:Value)(t:TypeId):(w.alloc (.cells #[x,y,z] t)).cell? ⟨w.heap.size,0,none⟩=some x/\(w.alloc (.cells #[x,y,z] t)).cell? ⟨w.heap.size,1,none⟩=some y/\(w.alloc (.cells #[x,y,z] t)).cell? ⟨w.heap.size,2,none⟩=some z:=
 ⟨vY w _ _ _ 0 _ rfl,vY w _ _ _ 1 _ rfl,vY w _ _ _ 2 _ rfl⟩
def CK(v:V3):List UInt8:=nI v.1++(if v.1=3\/v.1=5 then vB v.2.2.data.toList else nI v.2.1)
def Yz(v:V3):Prop:=bK v.1/\bK v.2.1/\v.2.2.size<=1000000
theorem Ia{v:V3}(h:v.1=3\/v.1=5):CK v=nI v.1++vB v.2.2.data.toList:=by unfold CK;rw[iP h]
theorem Pc{v:V3}(h:¬(v.1=3\/v.1=5)):CK v=nI v.1++nI v.2.1:=by unfold CK;rw[iN h]
theorem OW(k:Int)(w:World):Calls prog 143 #[.int .i64 k] w fun e w'=>e=.returned (.bool (decide (k=3\/k=5)))/\w=w':=by
 by_cases h1:k=3
 .have HF:Hid (decide (k=3\/k=5)=true):=aA (dX (.inl h1));have b1:(k==3)=true:=bQ.2 h1;go_enter func143,ntmps143;exact ZW
 .have b1:(k==3)=false:=bN.2 h1;by_cases h2:k=5
  .have HF:Hid (decide (k=3\/k=5)=true):=aA (dX (.inr h2));have b2:(k==5)=true:=bQ.2 h2;go_enter func143,ntmps143;exact ZW
  .have HF:Hid (decide (k=3\/k=5)=false):=aA (dF (fun h=>h.elim h1 h2));have b2:(k==5)=false:=bN.2 h2;go_enter func143,ntmps143;exact ZW
theorem qL{w:World}{l:lU}{e:Ending}{w':World}(h:oP w l e w'):∃A c,e=.returned (.slice A l.length c)/\Sl w' w'.heap.size A (bF l)/\w'.ownsRow w.heap.size 5 1 (.slice A l.length c) l.length (bF l)/\Below w.heap.size w w':=by
 obtain⟨v,rfl,a,b⟩:=h;obtain⟨A,c,rfl,_,d,_⟩:=lO a;exact⟨A,c,rfl,d,a,b⟩
theorem Pd(a:oD)(c n:Nat)(l:lU)(G:l.length=n)(v:V3)(j:Yz v)(w:World)(I:l.length<=100000000)(H:Sl w w.heap.size a (bF l)):
 Calls prog 95 #[.slice a n c,.agg #[.int .i64 v.1,.int .i64 v.2.1,.string v.2.2]] w (oP w (l++CK v)):=by
 have C:=aB w (.cells #[.int .i64 v.1,.int .i64 v.2.1,.string v.2.2] 27);have t:=aA (EG a c n v.1 l G _ j.1.1 j.1.2 qo (H.on C));obtain⟨z0,s,z2⟩:=Ct w (.int .i64 v.1) (.int .i64 v.2.1) (.string v.2.2) 27;have f:w.heap.size<(w.alloc (.cells #[.int .i64 v.1,.int .i64 v.2.1,.string v.2.2] 27)).heap.size:=by simp
 have g:=aA C;have B:=aA j;have h10:=sS v.1 j.1.1 j.1.2;have F:Hid ((l++nI v.1).length<=100000010):=aA (by rw[aL];omega);clear H G I C j h10;by_cases i:v.1=3\/v.1=5
 .have y:Hid (l++CK v=(l++nI v.1)++vB v.2.2.data.toList):=aA (by rw[Ia i,List.append_assoc]);have b:=OW v.1;rw[dX i] at b;have b:=aA b;clear i;generalize l++nI v.1=T at *;obtain⟨v0,v1,v2⟩:=v;simp only at z0 s z2 b g f;go_enter func95,ntmps95;go_wp2_with fail;refine t.o.mono ?_;intro e w1 h;obtain⟨A,c1,rfl,r,D,d⟩:=qL h;have E:=(d.cell (p:=⟨w.heap.size,0,none⟩) f).trans z0;have K:=(d.cell (p:=⟨w.heap.size,2,none⟩) f).trans z2;have k:=qB g d;have m:=aA (SS A c1 T.length v2 T rfl w1 (by have:=B.o.2.2;simp only at this;omega) (qA F.o) r);clear t h r D d z0 s z2 f g;go_wp2_with (go_at_call 143;refine(b.o w1).mono ?_;rintro e w' ⟨rfl,rfl⟩;clear b)
  refine m.o.mono ?_;rintro e w2 ⟨v,rfl,q,o⟩;have z:=aA (sU q k.o.size);have x:=qB k o;clear m q o E K;go_wp2;go_ret;exact⟨_,rfl,by rw[y.o];exact z.o,x.o⟩
 .have y:Hid (l++CK v=(l++nI v.1)++nI v.2.1):=aA (by rw[Pc i,List.append_assoc]);have b:=OW v.1;rw[dF i] at b;have b:=aA b;clear i;generalize l++nI v.1=T at *;obtain⟨v0,v1,v2⟩:=v;simp only at z0 s z2 b g f;go_enter func95,ntmps95;go_wp2_with fail;refine t.o.mono ?_;intro e w1 h;obtain⟨A,c1,rfl,r,D,d⟩:=qL h;have E:=(d.cell (p:=⟨w.heap.size,0,none⟩) f).trans z0;have J:=(d.cell (p:=⟨w.heap.size,1,none⟩) f).trans s;have k:=qB g d;have m:=aA (EG A c1 T.length v1 T rfl w1 B.o.2.1.1 B.o.2.1.2 (qA F.o) r);clear t h r D d z0 s z2 f g;go_wp2_with (go_at_call 143;refine(b.o w1).mono ?_;rintro e w' ⟨rfl,rfl⟩;clear b)
  refine m.o.mono ?_;rintro e w2 ⟨v,rfl,q,o⟩;have z:=aA (sU q k.o.size);have x:=qB k o;clear m q o E J;go_wp2;go_ret;exact⟨_,rfl,by rw[y.o];exact z.o,x.o⟩
end Pv
theorem Za{p:Prop}(h:p:=by
 have:k=1\/k=2\/k=3\/k=4\/k=5\/k=6\/k=7:=qo
 rcases this with rfl|rfl|rfl|rfl|rfl|rfl|rfl<;>decide +kernel):p:=h
structure Op where
 aDy:Int
 aDO:ByteArray
 aDF:ByteArray
 aDS:ByteArray
 to_:ByteArray
 val:V3
 aDV:Int
 text:ByteArray
 aDX:ByteArray
 aD1:Bool
deriving DecidableEq
def TK:Op:=⟨0,ByteArray.empty,ByteArray.empty,ByteArray.empty,ByteArray.empty,bD,0,ByteArray.empty,ByteArray.empty,false⟩
structure uC where
 aDI:Int
 aD8:ByteArray
 aEF:ByteArray
deriving DecidableEq
structure cG where
 id:ByteArray
 aD2:ByteArray
 aDU:ByteArray
 aDE:List (ByteArray×V3)
 log:List uC
deriving DecidableEq
structure wF where
 id:Int
 aDI:Int
 aDO:ByteArray
 aDF:ByteArray
 action:ByteArray
 aDX:ByteArray
 open_:Bool
deriving DecidableEq
structure xV where
 aDI:Int
 aDF:ByteArray
 arg:ByteArray
deriving DecidableEq
structure Sto where
 aDI:Int
 aDz:List cG
 aDC:List wF
 aDG:List xV
 aDM:List (ByteArray×ByteArray)
 aDA:Po
 aDL:Int
def xA:ByteArray:=⟨#[112,111,108,105,99,121,32,111,112,101,110,32,112,101,114,109,105,116,117,110,108,101,115,115,32,123,32,125]⟩
def kW:Sto:=⟨0,[],[],[],[],(fG xA).1,0⟩
def gU(a b:bY):Bool:=decide (¬b.toList<a.toList)
def aV(s:Sto)(id:bY):Nat×Bool:=
 let i:=s.aDz.findIdx (fun c=>gU id c.id)
 if i<s.aDz.length then (i,decide (((s.aDz[i]?).map (·.id))=some id)) else (s.aDz.length,false)
def dU(s:Sto)(id:bY):Option cG:=if (aV s id).2 then s.aDz[(aV s id).1]? else none
def rX(s:Sto)(subject role:bY):Bool:=s.aDM.any (fun r=>decide (r=(subject,role)))
def gK(c:cG)(name:bY):V3:=((c.aDE.find? (fun f=>decide (f.1=name))).map (·.2)).getD bD
def zQ:ByteArray:=str "open"
def vE:ByteArray:=str "work"
def EO:ByteArray:=str "done"
def oF:ByteArray:=str "closed"
def gY(a b:bY):Bool:=
 if a=zQ then decide (b=vE) else if a=vE then decide (b=EO) else if a=EO then decide (b=vE)||decide (b=oF) else false
def xW:List ByteArray:=["new","read","write","move","close","role","policy"].map str
def cF(kind:Int):ByteArray:=if kind<1\/7<kind then str "tick" else (xW[(kind - 1).toNat]?).getD (str "tick")
def mT(s:bY):Bool:=decide (s.size=0)||eM s
def kA(o:Op):Bool:=
 if o.aD1=false then decide (o.aDX.size=0) else (decide (1<=o.aDy/\o.aDy<=4)&&(decide (o.aDX.size≠0)&&decide (o.aDX.size<=64)))
def SH(o:Op):Op:={o with aDO:=ByteArray.empty,aDX:=ByteArray.empty,aD1:=false}
def fW(o:Op):Bool:=
 let b:=SH o
 let k:={TK with aDy:=o.aDy}
 if o.aDy=1 then decide (o.aDF.size≠0)&&decide (b={k with aDF:=o.aDF})
 else if o.aDy=2\/o.aDy=6 then (decide (o.aDF.size≠0)&&decide (o.aDS.size≠0))&&decide (b={k with aDF:=o.aDF,aDS:=o.aDS})
 else if o.aDy=3 then ((decide (o.aDF.size≠0)&&decide (o.aDS.size≠0))&&decide (o.val≠bD))&&decide (b={k with aDF:=o.aDF,aDS:=o.aDS,val:=o.val})
 else if o.aDy=4 then (decide (o.aDF.size≠0)&&decide (o.to_.size≠0))&&decide (b={k with aDF:=o.aDF,to_:=o.to_})
 else if o.aDy=5 then decide (0<o.aDV)&&decide (b={k with aDV:=o.aDV})
 else if o.aDy=7 then decide (b={k with text:=o.text})
 else if o.aDy=8 then (decide (0<o.aDV)&&decide (o.aDV<=1099511627776))&&decide (b={k with aDV:=o.aDV})
 else false
def fK(o:Op):Bool:=
 if eM o.aDO=false\/kA o=false\/4096<o.text.size then false
 else if mT o.aDF=false\/mT o.aDS=false\/mT o.to_=false\/(o.val≠bD/\aT o.val=false) then false
 else fW o
def iA(s:Sto)(o:Op):Int:=
 match dU s o.aDF with
 |none=>10
 |some c=>
  if o.aDy=3/\16<=c.aDE.length/\gK c o.aDS=bD then 6
  else if o.aDy≠2/\256<=c.log.length then 6
  else if (o.aDy=3/\c.aDU=oF)\/(o.aDy=4/\gY c.aDU o.to_=false) then 13
  else 0
def iS(s:Sto)(o:Op):Int:=
 if (s.aDC.length:Int)<o.aDV then 10
 else match s.aDC[(o.aDV - 1).toNat]? with
  |none=>10
  |some r=>if r.open_=false then 10 else if r.aDO=o.aDO then 12 else 0
def dN(s:Sto)(o:Op):Int:=
 if fK o=false then 1
 else if o.aDy=1 then (if (aV s o.aDF).2 then 11 else if 64<=s.aDz.length then 6 else 0)
 else if o.aDy=2\/o.aDy=3\/o.aDy=4 then iA s o
 else if o.aDy=5 then iS s o
 else if o.aDy=6 then (if 64<=s.aDM.length/\rX s o.aDF o.aDS=false then 6 else 0)
 else if o.aDy=8 then (if 1099511627776 - o.aDV<s.aDI then 6 else 0)
 else 0
def sO(s:bY):V3:=(5,0,s)
def oU(cat:Int)(name:String)(bag:List V3):Gv:=(cat,str name,bag)
def nM(c:cG)(subject:bY):List Gv:=
 [oU 3 "id" [sO c.id],oU 3 "owner" [sO c.aD2],oU 3 "state" [sO c.aDU],oU 3 "events" [(2,c.log.length,ByteArray.empty)],
   oU 3 "took" [cI (c.log.any (fun h=>decide (h.aD8=subject)))]]
 ++(match c.log.getLast? with |some h=>[oU 3 "last" [sO h.aD8]]|none=>[])
 ++((c.aDE.filter (fun f=>decide (f.1.size<=14))).map (fun f=>((3,str "f_"++f.1,[f.2]):Gv)))
def mJ(s:Sto)(o:Op):List Gv:=
 [oU 1 "id" [sO o.aDO],oU 1 "role" (((s.aDM.filter (fun r=>decide (r.1=o.aDO))).take 16).map (fun r=>sO r.2)),oU 2 "name" [sO (cF o.aDy)]]
 ++(if o.aDS.size≠0 then [oU 2 "field" [sO o.aDS]] else [])
 ++(if o.to_.size≠0 then [oU 2 "to" [sO o.to_]] else [])
 ++[oU 4 "now" [(4,s.aDI,ByteArray.empty)]]
 ++(match dU s o.aDF with |some c=>if o.aDy≠6 then nM c o.aDO else []|none=>[])
def oH(s:Sto)(c:cG)(actor what:bY):cG:={c with log:=c.log++[⟨s.aDI,actor,what⟩]}
def nZ(c:cG)(name:bY)(v:V3):cG:=
 let i:=c.aDE.findIdx (fun f=>gU name f.1)
 match c.aDE[i]? with
 |none=>{c with aDE:=c.aDE++[(name,v)]}
 |some f=>if f.1=name then {c with aDE:=c.aDE.set i (name,v)} else {c with aDE:=c.aDE.take i++[(name,v)]++c.aDE.drop i}
def fH(s:Sto)(i:Nat)(f:cG->cG):Sto:={s with aDz:=match s.aDz[i]? with |some c=>s.aDz.set i (f c)|none=>s.aDz}
def cY(s:Sto)(o:Op):Sto:=
 if dN s o≠0 then s
 else
  let i:=(aV s o.aDF).1
  if o.aDy=1 then {s with aDz:=s.aDz.take i++[oH s ⟨o.aDF,o.aDO,zQ,[],[]⟩ o.aDO (str "new")]++s.aDz.drop i}
  else if o.aDy=3 then fH s i (fun c=>oH s (nZ c o.aDS o.val) o.aDO (str "write"))
  else if o.aDy=4 then fH s i (fun c=>oH s {c with aDU:=o.to_} o.aDO o.to_)
  else if o.aDy=5 then {s with aDC:=match s.aDC[(o.aDV - 1).toNat]? with |some r=>s.aDC.set (o.aDV - 1).toNat {r with open_:=false} |none=>s.aDC}
  else if o.aDy=6 then (if rX s o.aDF o.aDS then s else {s with aDM:=s.aDM++[(o.aDF,o.aDS)]})
  else if o.aDy=7 then (if (fG o.text).2.1=0 then {s with aDA:=(fG o.text).1,aDL:=s.aDL+1} else s)
  else if o.aDy=8 then {s with aDI:=s.aDI+o.aDV}
  else s
def OX:ByteArray:=str "glass"
def SI(s:Sto)(subject:bY):Bool:=s.aDC.any (fun r=>decide (r.aDO=subject)&&(r.open_&&decide (100<=s.aDI - r.aDI)))
def iH(s:Sto)(o:Op)(m:Mk):Bool:=o.aD1&&((decide (m=(0,4))||decide (m=(0,0)))&&(rX s o.aDO OX&& !SI s o.aDO))
def gC(s:Sto)(o:Op)(reason:bY):Sto:={s with aDC:=s.aDC++[⟨s.aDC.length+1,s.aDI,o.aDO,o.aDF,cF o.aDy,reason,true⟩]}
def lY(s:Sto)(o:Op)(what:bY):Sto:=
 let i:=s.aDz.findIdx (fun c=>decide (c.id=o.aDF))
 if i<s.aDz.length/\o.aDy≠6 then fH s i (fun c=>oH s c o.aDO what) else s
def cU(o:Op)(done:Bool)(s:Sto)(x:Ob):Sto:=
 if x.aDy=1/\done=true then lY s o x.arg
 else if x.aDy=3 then gC s o x.arg
 else if x.aDy=4 then {s with aDG:=s.aDG++[⟨s.aDI,o.aDF,x.arg⟩]}
 else s
def pL(s:Sto):Bool:=decide (256<s.aDC.length)||(decide (256<s.aDG.length)||s.aDz.any (fun c=>decide (256<c.log.length)))
structure Rpl where
 err:Int
 mark:Mk
 aD1:Bool
 val:V3
 hidden:Bool
 at_:Int
def pM:Rpl:=⟨0,(0,0),false,bD,false,0⟩
structure Deci where
 op:Op
 aDL:Int
 mark:Mk
 aD1:Bool
 aDP:List Ob
def cK(s:Sto)(o:Op):Sto×Rpl×Option Deci×Int:=
 let e:=dN s o
 let a:Int×Int:=if e=0/\o.aDy=7 then (fG o.text).2 else (e,0)
 if a.1≠0 then (s,{pM with err:=a.1,at_:=a.2},none,a.1)
 else
  let (r,e2):=gI (mJ s o) s.aDA
  if e2≠0 then (s,{pM with err:=e2,at_:=a.2},none,e2)
  else
   let glass:=iH s o r.1
   let done:=decide (r.1=(4,0))||glass
   let b:=if glass then gC s o o.aDX else s
   let f:=if done then cY b o else b
   let hidden:=done&&(decide (o.aDy=2)&&r.2.any (fun x=>decide (x.aDy=2)&&decide (x.arg=o.aDS)))
   let val:=if done&&(decide (o.aDy=2)&& !hidden) then ((dU s o.aDF).map (fun c=>gK c o.aDS)).getD bD else bD
   let d:=r.2.foldl (cU o done) f
   if pL d then (s,{pM with err:=6,at_:=a.2},none,6)
   else (d,⟨if done then 0 else 12,r.1,glass,val,hidden,0⟩,some ⟨o,s.aDL,r.1,glass,r.2⟩,0)
def cO(l:lU):List UInt8×List UInt8:=(l.takeWhile (fun c=>decide (c.toNat≠32)),(l.dropWhile (fun c=>decide (c.toNat≠32))).drop 1)
def oV(l:lU):Option V3:=
 match jP l with
 |([t,_],0,_)=>
  if t.aDy=2 then some (2,t.num,t.str) else if t.aDy=3 then some (4,t.num,t.str) else if t.aDy=4 then some (5,t.num,t.str)
  else if t.aDy=5 then some (3,t.num,t.str)
  else if t.aDy=1 then (if t.str=str "true" then some (1,1,ByteArray.empty) else if t.str=str "false" then some (1,0,ByteArray.empty) else none)
  else none
 |_=>none
def jI(l:lU):Int:=if l=[]\/9<l.length\/l.head?=some 48\/l.all bA=false then 0 else (pW l:Int)
def oK(w:lU):Int:=let i:=(xW++[str "tick"]).findIdx (fun x=>decide (x=bs w));if i<8 then (i:Int)+1 else 0
def kB(a:lU):Bool×List UInt8×List UInt8:=match a with
 |33 ::r=>(true,(cO r).1,(cO r).2)
 |r=>(false,[],r)
def iT(l:lU):Option Op:=
 let (subj,r0):=cO l
 let (glass,reason,r1):=kB r0
 let (w,r2):=cO r1
 let k:=oK w
 let base:Op:={TK with aDy:=k,aDO:=bs subj,aDX:=bs reason,aD1:=glass}
 let o:Option Op:=
  if k=1 then some {base with aDF:=bs r2}
  else if k=2\/k=6 then some {base with aDF:=bs (cO r2).1,aDS:=bs (cO r2).2}
  else if k=3 then (oV (cO (cO r2).2).2).map (fun v=>{base with aDF:=bs (cO r2).1,aDS:=bs (cO (cO r2).2).1,val:=v})
  else if k=4 then some {base with aDF:=bs (cO r2).1,to_:=bs (cO r2).2}
  else if k=5\/k=8 then some {base with aDV:=jI r2}
  else if k=7 then some {base with text:=bs r2}
  else some base
 match o with
 |some o=>if fK o then some o else none
 |none=>none
theorem QDm{p:Prop}(h:p:=by
 go_wp2;refine bR (.agg #[.int .i64 1,.int .i64 1,.string ⟨#[]⟩]) ?_;exact⟨rfl,HBE.o _ _⟩):p:=h
theorem QDl{p:Prop}(h:p:=by
 go_wp2;refine bR (.agg #[.int .i64 1,.int .i64 0,.string ⟨#[]⟩]) ?_;exact⟨rfl,HBE.o _ _⟩):p:=h
abbrev pT:=ByteArray×V3
abbrev xB:=ByteArray×ByteArray
def vR(h:uC):Prop:=bK h.aDI/\h.aD8.size<=cQ/\h.aEF.size<=cQ
def CL(h:uC):List Value:=[.int .i64 h.aDI,.string h.aD8,.string h.aEF]
def EP(f:pT):Prop:=f.1.size<=cQ/\cS f.2
def uD(f:pT):List Value:=[.string f.1,.int .i64 f.2.1,.int .i64 f.2.2.1,.string f.2.2.2]
def ER(r:wF):Prop:=bK r.id/\bK r.aDI/\r.aDO.size<=cQ/\r.aDF.size<=cQ/\r.action.size<=cQ/\r.aDX.size<=cQ
def KA(r:wF):List Value:=[.int .i64 r.id,.int .i64 r.aDI,.string r.aDO,.string r.aDF,.string r.action,.string r.aDX,.bool r.open_]
def ES(n:xV):Prop:=bK n.aDI/\n.aDF.size<=cQ/\n.arg.size<=cQ
def KC(n:xV):List Value:=[.int .i64 n.aDI,.string n.aDF,.string n.arg]
def MT(r:xB):Prop:=r.1.size<=cQ/\r.2.size<=cQ
def TL(r:xB):List Value:=[.string r.1,.string r.2]
def mU:Rep uC:=mN CL vR
def lH:Rep pT:=mN uD EP
def sZ:Rep wF:=mN KA ER
def wG:Rep xV:=mN KC ES
def qX:Rep xB:=mN TL MT
theorem cC:Firm mU 3:=gF (fun _=>rfl) (fun x v h=>by simp only[CL,List.mem_cons,List.not_mem_nil,or_false] at h;rcases h with rfl|rfl|rfl<;>rfl)
theorem bP:Firm lH 4:=gF (fun _=>rfl) (fun x v h=>by simp only[uD,List.mem_cons,List.not_mem_nil,or_false] at h;rcases h with rfl|rfl|rfl|rfl<;>rfl)
theorem cV:Firm sZ 7:=gF (fun _=>rfl) (fun x v h=>by simp only[KA,List.mem_cons,List.not_mem_nil,or_false] at h;rcases h with rfl|rfl|rfl|rfl|rfl|rfl|rfl<;>rfl)
theorem eB:Firm wG 3:=gF (fun _=>rfl) (fun x v h=>by simp only[KC,List.mem_cons,List.not_mem_nil,or_false] at h;rcases h with rfl|rfl|rfl<;>rfl)
theorem dC:Firm qX 2:=gF (fun _=>rfl) (fun x v h=>by simp only[TL,List.mem_cons,List.not_mem_nil,or_false] at h;rcases h with rfl|rfl<;>rfl)
def oW(w:World)(ok:nP)(c:cG)(a b:Value):Prop:=c.id.size<=cQ/\c.aD2.size<=cQ/\c.aDU.size<=cQ/\aH lH w ok a c.aDE/\aH mU w ok b c.log
def qC:Rep cG:=fun w ok cs c=>∃a b,cs=[.string c.id,.string c.aD2,.string c.aDU,a,b]/\oW w ok c a b
theorem oW.aDH{w w':World}{ok:nP}{c:cG}{b d:Value}(h:oW w ok c b d)(a:aN ok w w'):oW w' ok c b d:=⟨h.1,h.2.1,h.2.2.1,aH.aDH bP h.2.2.2.1 a,aH.aDH cC h.2.2.2.2 a⟩
theorem oW.more{w:World}{ok ok':nP}{c:cG}{d e:Value}(h:oW w ok c d e)(a:∀b,ok b->ok' b):oW w ok' c d e:=⟨h.1,h.2.1,h.2.2.1,aH.more bP h.2.2.2.1 a,aH.more cC h.2.2.2.2 a⟩
theorem oW.inb{w:World}{ok:nP}{c:cG}{a d:Value}(h:oW w ok c a d):oW w (fun b=>ok b/\b<w.heap.size) c a d:=⟨h.1,h.2.1,h.2.2.1,aH.inb bP h.2.2.2.1,aH.inb cC h.2.2.2.2⟩
theorem dV:Firm qC 5:={
 aDH:=fun⟨a,b,e,h⟩ d=>⟨a,b,e,h.aDH d⟩
 more:=fun⟨a,b,e,h⟩ f=>⟨a,b,e,h.more f⟩
 len:=fun⟨a,b,e,h⟩=>by rw[e];rfl
 one:=fun⟨a,b,e,h⟩=>by
  intro v c;rw[e] at c;simp only[List.mem_cons,List.not_mem_nil,or_false] at c
  rcases c with rfl|rfl|rfl|rfl|rfl
  .rfl
  .rfl
  .rfl
  .exact kU h.2.2.2.1
  .exact kU h.2.2.2.2
 inb:=fun⟨a,b,e,h⟩=>⟨a,b,e,h.inb⟩}
def FT(w:World)(ok:nP)(g:Gv)(vb:Value):Prop:=bK g.1/\g.2.1.size<=cQ/\aH VR w ok vb g.2.2
def jQ:Rep Gv:=fun w ok cs g=>∃vb,cs=[.int .i64 g.1,.string g.2.1,vb]/\FT w ok g vb
theorem FT.aDH{w w':World}{ok:nP}{g:Gv}{vb:Value}(h:FT w ok g vb)(a:aN ok w w'):FT w' ok g vb:=⟨h.1,h.2.1,aH.aDH bG h.2.2 a⟩
theorem FT.more{w:World}{ok ok':nP}{g:Gv}{vb:Value}(h:FT w ok g vb)(a:∀b,ok b->ok' b):FT w ok' g vb:=⟨h.1,h.2.1,aH.more bG h.2.2 a⟩
theorem FT.inb{w:World}{ok:nP}{g:Gv}{vb:Value}(h:FT w ok g vb):FT w (fun b=>ok b/\b<w.heap.size) g vb:=⟨h.1,h.2.1,aH.inb bG h.2.2⟩
theorem bZ:Firm jQ 3:={
 aDH:=fun⟨vb,e,h⟩ b=>⟨vb,e,h.aDH b⟩
 more:=fun⟨vb,e,h⟩ c=>⟨vb,e,h.more c⟩
 len:=fun⟨vb,e,h⟩=>by rw[e];rfl
 one:=fun⟨vb,e,h⟩=>by
  intro v a;rw[e] at a;simp only[List.mem_cons,List.not_mem_nil,or_false] at a
  rcases a with rfl|rfl|rfl
  .rfl
  .rfl
  .exact kU h.2.2
 inb:=fun⟨vb,e,h⟩=>⟨vb,e,h.inb⟩}
def MU(v:Value):Prop:=∀a n c,v=.slice a n c->n<=c
theorem IS:MU (.slice none 0 0):=fun a n c e=>by injection e with _ b d;omega
structure fM (w:World) (ok:Nat->Prop) (s:Sto) (vc vr vn vo vt vu vk vb:Value):Prop where
 aDI:bK s.aDI
 aDL:bK s.aDL
 aDz:aH qC w ok vc s.aDz
 aDC:aH sZ w ok vr s.aDC
 aDG:aH wG w ok vn s.aDG
 aDM:aH qX w ok vo s.aDM
 aDA:fO 3 w ok s.aDA vt vu vk vb
 aEA:MU vr/\MU vn/\MU vo
def aX(s:Sto)(vc vr vn vo vt vu vk vb:Value):Array Value:=#[.int .i64 s.aDI,vc,vr,vn,vo,.string s.aDA.id,.bool s.aDA.set,.int .i64 s.aDA.alg,vt,vu,vk,vb,.int .i64 s.aDL]
theorem fM.aDH{w w':World}{ok:nP}{s:Sto}{vc vr vn vo vt vu vk vb:Value}(h:fM w ok s vc vr vn vo vt vu vk vb)(a:aN ok w w'):fM w' ok s vc vr vn vo vt vu vk vb:=
 ⟨h.aDI,h.aDL,aH.aDH dV h.aDz a,aH.aDH cV h.aDC a,aH.aDH eB h.aDG a,aH.aDH dC h.aDM a,h.aDA.aDH a,h.aEA⟩
theorem fM.more{w:World}{ok ok':nP}{s:Sto}{vc vr vn vo vt vu vk vb:Value}(h:fM w ok s vc vr vn vo vt vu vk vb)(a:∀b,ok b->ok' b):fM w ok' s vc vr vn vo vt vu vk vb:=
 ⟨h.aDI,h.aDL,aH.more dV h.aDz a,aH.more cV h.aDC a,aH.more eB h.aDG a,aH.more dC h.aDM a,h.aDA.more a,h.aEA⟩
theorem fM.inb{w:World}{ok:nP}{s:Sto}{vc vr vn vo vt vu vk vb:Value}(h:fM w ok s vc vr vn vo vt vu vk vb):fM w (fun b=>ok b/\b<w.heap.size) s vc vr vn vo vt vu vk vb:=
 ⟨h.aDI,h.aDL,aH.inb dV h.aDz,aH.inb cV h.aDC,aH.inb eB h.aDG,aH.inb dC h.aDM,h.aDA.inb,h.aEA⟩
theorem fM.on{w w':World}{ok:nP}{s:Sto}{vc vr vn vo vt vu vk vb:Value}(h:fM w ok s vc vr vn vo vt vu vk vb)(a:Below w.heap.size w w'):fM w' ok s vc vr vn vo vt vu vk vb:=h.aDH (aJ a)
def iU(o:Op):Prop:=bK o.aDy/\o.aDO.size<=cQ/\o.aDF.size<=cQ/\o.aDS.size<=cQ/\o.to_.size<=cQ/\cS o.val/\bK o.aDV/\o.text.size<=cQ/\o.aDX.size<=cQ
def bW(o:Op):Array Value:=#[.int .i64 o.aDy,.string o.aDO,.string o.aDF,.string o.aDS,.string o.to_,.int .i64 o.val.1,.int .i64 o.val.2.1,.string o.val.2.2,.int .i64 o.aDV,.string o.text,.string o.aDX,.bool o.aD1]
def eW(o:Op):Value:= .agg (bW o)
theorem aM.cut{α:Type}{R:Rep α}{s:Nat}{e:TypeId}{w:World}{base:Nat}{ok:nP}(F:Firm R s){a:oD}{n c:Nat}{l:List α}(h:aM R s e w base ok (.slice a n c) l)(m:Nat)(hm:m<=l.length):aM R s e w base ok (.slice a m c) (l.take m):=by
 obtain⟨cs,h1,h2⟩:=h;have q:(Value.slice a m c).ownBlock=(Value.slice a n c).ownBlock:=by cases a<;>rfl
 have p:(l.take m).length=m:=by rw[List.length_take];omega
 refine⟨cs.take (m * s),?_,?_⟩
 .rw[p];refine⟨by rw[List.length_take,h1.1];exact Nat.min_eq_left (Nat.mul_le_mul_right s hm),?_⟩
  rcases h1.2 with ⟨d,t⟩|⟨g,cap,cur,d,h3,h4,h5,h6,h7,h8⟩
  .injection d with f o i;subst f i;exact .inl ⟨by rw[show m=0 by omega],qo⟩
  .injection d with f o i;subst f i;refine .inr ⟨g,c,cur,rfl,h3,h4,qo,h6,h7,?_⟩;rw[<-h8,List.take_take]
   congr 1
   exact(Nat.min_eq_left (Nat.mul_le_mul_right s hm)).symm
 .exact(aW.split (fun _ _ k=>F.len k) m h2 hm).1.mono fun r x k=>F.more k fun b j=>⟨j.1,j.2.1,by rw[q];exact j.2.2⟩
theorem aM.place{α:Type}{R:Rep α}{s:Nat}{e:TypeId}{w:World}{base:Nat}{ok:nP}{a:oD}{n c:Nat}{l:List α}(h:aM R s e w base ok (.slice a n c) l):((a=none/\c=0)\/∃g,a=some ⟨g,0,none⟩)/\l.length<=c/\c<=maxLen:=by
 obtain⟨cs,h1,h2⟩:=h
 rcases h1.2 with ⟨b,j⟩|⟨g,cap,cur,b,h3,h4,h5,h6,h7,h8⟩
 .injection b with d i f;exact⟨.inl ⟨d,f⟩,qo,by unfold maxLen;omega⟩
 .injection b with d i f;subst f;exact⟨.inr ⟨g,d⟩,h5,h6⟩
theorem iZ{α:Type}{R:Rep α}{s:Nat}{P:Program}{w:World}{t e:TypeId}{bytes:Nat}{base:Nat}{ok:nP}(E:dY P t e s bytes)(F:Firm R s){ops:Array Oper}{o:Oper}{a:Act}{K:Act->World->Prop}{Q:Exit->Act->World->Prop}{G:Prop}(k:o.guard=none)(d x:Operand)
 (m:o.op=.call {callee:= .builtin .append,args:=#[d,x],argTypes:=#[t,t]})
 (v:Value)(l:List α)(p:a.eval d=v)(f:aM R s e w base ok v l)
 (g c:Nat)(cs:Array Value)(ty:TypeId)(fr:Nat×Nat)(y:α)(q:a.eval x=.slice (some ⟨g,0,none⟩) 1 c)(hc:w.heap[g]? =some (.cells cs ty fr))(hy:R w (fun b=>ok b/\b<w.heap.size/\some b≠v.ownBlock) cs.toList y)
 (h63:l.length<=1000000)(hbytes:bytes<=10000)(j:base<=w.heap.size)
 (h:∀l',Hid (l'=l++[y])->∀A' c' w',aM R s e w' base ok (.slice A' l'.length c') l'->w.grownBy w' v.ownBlock->((Value.slice A' l'.length c').ownBlock=v.ownBlock\/(Value.slice A' l'.length c').ownBlock=some w.heap.size)->K (a.put o.dst (.slice A' l'.length c')) w'):if Region.wanted o (yielded ops a.tmps)=true then Oper.wp P o a w K Q else G:=by
 obtain⟨xs,n,hcs⟩:=f;have hlen:cs.toList.length=1 * s:=by rw[F.len hy];omega
 refine Oa E k d x m base v l.length xs p n (some ⟨g,0,none⟩) 1 c cs.toList q hlen ?_ (F.one hy) (by unfold maxLen;omega) ?_ j fun A' c' w' h1 h2 h3=> ?_
 .exact QCu
 .exact QCM
 .exact QCf
theorem QDe{p:Prop}(h:p:=by
 subst hji;obtain⟨v1,hv1,he⟩:=hy w hw;exact Cu hi hv1 ⟨fun _=>hw,by rw[he];exact H⟩):p:=h
abbrev Tj:Exit->Act->World->Prop:=fun _ _ _=>False
section
variable {P:Program} {ops:Array Oper} {md:Region.Mode} {C:World->Prop} {Q:Exit->Act->World->Prop}
def uZ(P:Program)(ops:Array Oper)(i:Nat)(K:Act->World->Prop)(a:Act)(w:World):Prop:=
 match ops[i]? with
 |none=>False
 |some o=>if Region.wanted o (yielded ops a.tmps)=true then o.wp P a w K Tj else K (a.put o.dst undef) w
theorem tA{o:Oper}{a:Act}{K K':Act->World->Prop}{g:Exit->Act->World->Prop}(h:∀a w,K a w->K' a w){r:Result Next}(b:o.upon P a K Tj r):o.upon P a K' g r:=by
 cases r with
 |ok n w'=>
  cases n with
  |value v=>exact h _ _ b
  |skip=>exact h _ _ b
  |enter f args=>
   refine Calls.mono b fun e i d=> ?_
   cases e with
   |returned v=>exact h _ _ d
   |panicked c=>exact(d:False).elim
   |outgrown=>obtain⟨_,_,h0⟩:=(d:LetsOut Tj);exact(h0:False).elim
  |row r args=>exact Rows.mono b fun v i d=>h _ _ d
  |_=>first|exact(b:False).elim|exact h _ _ b
 |halt x w'=>
  cases x with
  |panic v=>exact(b:False).elim
  |_=>exact(b:False).elim
theorem TM{i:Nat}{K K':Act->World->Prop}{a:Act}{w:World}(h:∀a w,K a w->K' a w)(b:uZ P ops i K a w):uZ P ops i K' a w:=by
 unfold uZ at *;split
 .rename_i h0;simp only[h0] at b
 .rename_i o h0;simp only[h0] at b;split
  .rename_i hw;rw[iP hw] at b;exact tA h b
  .rename_i hw;rw[iN hw] at b;exact h _ _ b
theorem XW{i:Nat}{K K':Act->World->Prop}{a:Act}{w:World}(h:∀a w,K a w->K' a w)(b:uZ P ops i K a w):wpOp P ops Q i K' a w:=by
 unfold uZ at b;unfold wpOp;split
 .rename_i h0;simp only[h0] at b
 .rename_i o h0;simp only[h0] at b;split
  .rename_i hw;rw[iP hw] at b;exact .inl (tA h b)
  .rename_i hw;rw[iN hw] at b;exact h _ _ b
theorem Vp{j:Nat}{g i:Oper}{v:Value}(hj:ops[j]? =some i)(p:g.apart ops i=true)
 (y:∀cs b,g.op≠ .select cs b)(s:∀cs b,i.op≠ .select cs b){K:Act->World->Prop}{a:Act}{w:World}{Y:Act->Prop}
 (k:∀a u,Y a->Y (a.put i.dst u))(q:∀a d,Y a->Y {a with defers:=d::a.defers})(l:Y a)(h:uZ P ops j K (a.put g.dst v) w):
 uZ P ops j (fun o w'=>Y o/\K (o.put g.dst v) w') a w:=by
 obtain⟨h1,h2,h3⟩:=Oper.apart_spec p;unfold uZ at *;simp only[hj] at *;rw[wanted_put i a g.dst v h1] at h;split
 .rename_i hw;simp only[hw,if_true] at h;unfold Oper.wp at *;rw[execOp_put i s a g.dst v h1] at h;generalize (execOp a.eval i).run P w=r at *
  cases r with
  |ok n w'=>
   cases n with
   |value u=>exact⟨k a u l,by rw[<-Act.put_comm a v u h2];exact h⟩
   |skip=>exact⟨k a undef l,by rw[<-Act.put_comm a v undef h2];exact h⟩
   |enter f args=>
    refine Calls.mono h fun e t m=> ?_
    cases e with
    |returned u=>exact⟨k a u l,by rw[<-Act.put_comm a v u h2];exact m⟩
    |panicked c=>exact m
    |outgrown=>exact m
   |row r args=>exact Rows.mono h fun u t m=>⟨k a u l,by rw[<-Act.put_comm a v u h2];exact m⟩
   |_=>
    first
    |exact(h:False).elim
    |(rename_i d
      refine⟨k _ undef (q a d l),?_⟩;have h4:K (({a.put g.dst v with defers:=d::(a.put g.dst v).defers}:Act).put i.dst undef) w':=h;rw[Act.put_defers,Act.put_comm _ v undef h2] at h4;exact h4)
  |halt x w'=>
   cases x with
   |panic v=>exact(h:False).elim
   |_=>exact(h:False).elim
 .rename_i hw;simp only[hw] at h;exact⟨k a undef l,by rw[<-Act.put_comm a v undef h2];exact h⟩
def oX(P:Program)(md:Region.Mode)(ops:Array Oper)(C:World->Prop)(n:Nat)(Q:Act->World->Prop):Nat->Array Bool->Act->World->Prop
 |0,listed,a,w=>Region.ready md ops listed=[]/\Q a w
 |f+1,listed,a,w=>(Region.ready md ops listed=[]->Q a w)/\∀i∈Region.ready md ops listed,uZ P ops i (fun b w'=>(i<n->C w')/\oX P md ops C n Q f (listed.setIfInBounds i true) b w') a w
theorem xX{n:Nat}:∀(f:Nat) (listed:Array Bool) (a:Act) (w:World),oX P md ops C n (fun a w=>Q .normal a w) f listed a w->wpAny P md ops Q f listed a w
 |0,_,_,_,h=>h
 |f+1,_,_,_,h=>⟨h.1,fun i d=>XW (fun b w' c=>xX f _ b w' c.2) (h.2 i d)⟩
def CM(P:Program)(ops:Array Oper)(C:World->Prop)(o:Oper)(v:Value)(a:Act):Prop:=∀w,C w->∃v1,YieldsAt P ops w o v1 a/\a.put o.dst v1=a.put o.dst v
theorem Cu{i:Nat}{o:Oper}{v:Value}{a:Act}{w:World}(d:ops[i]? =some o)(g:YieldsAt P ops w o v a){K:Act->World->Prop}(h:K (a.put o.dst v) w):uZ P ops i K a w:=by
 unfold uZ;simp only[d]
 rcases g with ⟨hw,b|⟨b,rfl⟩|⟨f,args,b,c⟩⟩|⟨hw,rfl⟩
 .simp only[hw,if_true,Oper.wp,b,Oper.upon];exact h
 .simp only[hw,if_true,Oper.wp,b,Oper.upon];exact h
 .simp only[hw,if_true,Oper.wp,b,Oper.upon];refine c.mono fun e j he=> ?_
  obtain⟨rfl,rfl⟩:=he;exact h
 .simp only[hw,Bool.false_eq_true,if_false];exact h
theorem KD{n i:Nat}{c:Oper}{v:Value}{Q:Act->World->Prop}(hi:ops[i]? =some c)(z:∀(j:Nat) (o:Oper) cs b,ops[j]? =some o->o.op≠ .select cs b)
 (S:Region.sinkB md ops n=true)(G:Region.chainB md ops n=true)(N:n<ops.size)(K:i<n):
 ∀(f:Nat) (listed:Array Bool) (a:Act) (w:World),HeadInv md ops n listed->
  (∀j g,ops[j]? =some g->j≠i->listed.getD j true=false->(∀e∈g.after,Region.binds md e=true->e.on≠i)->c.apart ops g=true)->
  i∈Region.ready md ops listed->C w->CM P ops C c v a->
  oX P md ops C n Q f (listed.setIfInBounds i true) (a.put c.dst v) w->oX P md ops C n Q (f+1) listed a w:=by
 intro f
 induction f with
 |zero=>
  intro listed a w inv _ l hw hy H;refine⟨fun h=>(by rw[h] at l;cases l),fun j hj=> ?_⟩;by_cases hji:j=i
  .exact QDe
  .have:=ready_mono hj hji;rw[H.1] at this
   cases this
 |succ f T=>
  intro listed a w inv s l hw hy H;refine⟨fun h=>(by rw[h] at l;cases l),fun j hj=> ?_⟩;by_cases hji:j=i
  .exact QDe
  .have h1:=H.2 j (ready_mono hj hji);obtain⟨y,g,q,E⟩:=mem_ready.1 hj;have x:j<n:=by
    rcases Nat.lt_or_ge j n with h|h
    .exact h
    .exact absurd hj (tail_waits S G N inv (n - i) i rfl K (mem_ready.1 l).1 j h)
   have R:∀e∈g.after,Region.binds md e=true->e.on≠i:=fun e he F heq=>by
    have h1:=E e he F;have h0:=(mem_ready.1 l).1;rw[heq] at h1
    rcases Nat.lt_or_ge i listed.size with m|m
    .simp[m] at h0 h1;rw[h0] at h1;cases h1
    .simp[Array.getElem?_eq_none m] at h1
   have p:=s j g q hji y R;obtain⟨_,_,h3⟩:=Oper.apart_spec p;obtain⟨_,r,_⟩:=Oper.apart_spec p;have A:∀cs b,c.op≠ .select cs b:=fun cs b=>z i c cs b hi
   have keep:∀(a:Act) (u:Value),CM P ops C c v a->CM P ops C c v (a.put g.dst u):=fun a u h w hw=>by
    obtain⟨v1,hv1,he⟩:=h w hw;refine⟨v1,hv1.of_same (execOp_put c A a g.dst u h3) (wanted_put c a g.dst u h3),?_⟩;rw[<-Act.put_comm a v1 u r,<-Act.put_comm a v u r,he]
   have U:∀(a:Act) (d:Deferred),CM P ops C c v a->CM P ops C c v {a with defers:=d::a.defers}:=fun a d h w hw=>by
    obtain⟨v1,hv1,he⟩:=h w hw;have I:execOp ({a with defers:=d::a.defers}:Act).eval c=execOp a.eval c:=rfl;refine⟨v1,hv1.of_same I rfl,?_⟩;rw[<-Act.put_defers,<-Act.put_defers,he]
   have h2:=Vp q p A (fun cs b=>z j g cs b q) keep U hy h1;have J:∀k ok,ops[k]? =some ok->k≠i->(listed.setIfInBounds j true).getD k true=false->
    (∀e∈ok.after,Region.binds md e=true->e.on≠i)->c.apart ops ok=true:=fun k ok L M B O=>by
    refine s k ok L M ?_ O;by_cases t:j=k
    .subst t;exact y
    .rw[getD_set_ne true t] at B;exact B
   refine TM (fun D w' h3=>⟨h3.2.1,T (listed.setIfInBounds j true) D w' (inv.set hj x) J (ready_mono l (Ne.symm hji)) (h3.2.1 x) h3.1 ?_⟩) h2;rw[Array.setIfInBounds_comm _ _ hji];exact h3.2.2
theorem IT{n k f:Nat}{Q:Act->World->Prop}{listed:Array Bool}{a:Act}{w:World}(c:Region.ready md ops listed=[k])(h:uZ P ops k (fun d w'=>(k<n->C w')/\oX P md ops C n Q f (listed.setIfInBounds k true) d w') a w):oX P md ops C n Q (f+1) listed a w:=
 ⟨fun h0=>(by rw[c] at h0;cases h0),fun i b=>(by rw[c,List.mem_singleton] at b;subst b;exact h)⟩
def rd(P:Program)(ops:Array Oper)(o:Oper)(a:Act)(w:World)(K:Act->Prop):Prop:=if Region.wanted o (yielded ops a.tmps)=true then o.still P a w K else K (a.put o.dst undef)
def mv(P:Program)(ops:Array Oper)(o:Oper)(a:Act)(w:World)(K:Act->World->Prop):Prop:=if Region.wanted o (yielded ops a.tmps)=true then o.wp P a w K Tj else K (a.put o.dst undef) w
def cJ(P:Program)(ops:Array Oper)(C:World->Prop)(n:Nat)(Q:Act->World->Prop):List (Nat×Bool)->Act->World->Prop
 | [],a,w=>Q a w
 |(k,false)::r,a,w=>match ops[k]? with
  |none=>False
  |some o=>rd P ops o a w (fun b=>(∀w1,C w1->rd P ops o a w1 (fun c=>c=b))/\cJ P ops C n Q r b w)
 |(k,true)::r,a,w=>match ops[k]? with
  |none=>False
  |some o=>mv P ops o a w (fun b w'=>(k<n->C w')/\cJ P ops C n Q r b w')
def ET(md:Region.Mode)(ops:Array Oper):List (Nat×Bool)->Array Bool->Bool
 | [],listed=>(Region.ready md ops listed).isEmpty
 |(k,fl)::r,listed=>fl&&(Region.ready md ops listed==[k])&&ET md ops r (listed.setIfInBounds k true)
def EU(md:Region.Mode)(ops:Array Oper)(n:Nat)(T:List (Nat×Bool)):List (Nat×Bool)->Array Bool->Bool
 | [],listed=>ET md ops T listed
 |(k,fl)::r,listed=>(if fl=true then Region.ready md ops listed==[k] else (Region.ready md ops listed).contains k&&Region.free md ops listed k)&&decide (k<n)&&EU md ops n T r (listed.setIfInBounds k true)
def Tk(md:Region.Mode)(ops:Array Oper)(n:Nat)(H T:List (Nat×Bool)):Bool:=
 Region.noSelect ops&&decide (n<ops.size)&&Region.sinkB md ops n&&Region.chainB md ops n&&decide (H.length+T.length=ops.size)&&EU md ops n T H (Array.replicate ops.size false)
theorem EV{k:Nat}{o:Oper}(h:ops[k]? =some o){a:Act}{w:World}{K:Act->Prop}:stOp P ops w k K a↔rd P ops o a w K:=by unfold stOp rd;simp only[h]
theorem CN{n:Nat}{Q:Act->World->Prop}:∀(T:List (Nat×Bool)) (listed:Array Bool) (a:Act) (w:World),ET md ops T listed=true->cJ P ops C n Q T a w->oX P md ops C n Q T.length listed a w
 | [],listed,a,w,hB,h=>⟨by simpa [ET] using hB,h⟩
 |(k,false)::r,listed,a,w,hB,h=>by simp[ET] at hB
 |(k,true)::r,listed,a,w,hB,h=>by
  simp only[ET,Bool.and_eq_true,bQ,true_and] at hB;refine IT hB.1 ?_;unfold cJ at h;unfold uZ
  cases c:ops[k]? with
  |none=>simp only[c] at h
  |some o=>
   simp only[c] at h ⊢;unfold mv at h;split
   .rename_i hw;rw[iP hw] at h;exact tA (fun d w' b=>⟨b.1,CN r _ d w' hB.2 b.2⟩) h
   .rename_i hw;rw[iN hw] at h;exact⟨h.1,CN r _ _ w hB.2 h.2⟩
theorem uE{n:Nat}{Q:Act->World->Prop}{T:List (Nat×Bool)}(l:Region.noSelect ops=true)(j:Region.sinkB md ops n=true)(e:Region.chainB md ops n=true)(f:n<ops.size):∀(H:List (Nat×Bool)) (listed:Array Bool) (a:Act) (w:World),HeadInv md ops n listed->C w->EU md ops n T H listed=true->cJ P ops C n Q (H++T) a w->oX P md ops C n Q (H.length+T.length) listed a w
 | [],listed,a,w,inv,hw,hB,h=>by
   rw[List.length_nil,Nat.zero_add];exact CN T listed a w hB h
 |(k,true)::r,listed,a,w,inv,hw,hB,h=>by
  simp only[EU,if_true,Bool.and_eq_true,bQ,decide_eq_true_eq] at hB;obtain⟨⟨g,c⟩,d⟩:=hB;rw[List.length_cons,show r.length+1+T.length=(r.length+T.length)+1 by omega];refine IT g ?_;have s:=inv.set (i:=k) (by rw[g];exact List.mem_singleton.2 rfl) c;rw[List.cons_append] at h;unfold cJ at h;unfold uZ
  cases b:ops[k]? with
  |none=>simp only[b] at h
  |some o=>
   simp only[b] at h ⊢;unfold mv at h;split
   .rename_i p;rw[iP p] at h;exact tA (fun t w' m=>⟨m.1,uE l j e f r _ t w' s (m.1 c) d m.2⟩) h
   .rename_i p;rw[iN p] at h;exact⟨h.1,uE l j e f r _ _ w s (h.1 c) d h.2⟩
 |(k,false)::r,listed,a,w,inv,hw,hB,h=>by
  simp only[EU,Bool.false_eq_true,if_false,Bool.and_eq_true,decide_eq_true_eq] at hB;obtain⟨⟨⟨g,x⟩,c⟩,d⟩:=hB;have q:k∈Region.ready md ops listed:=by simpa using g
  rw[List.length_cons,show r.length+1+T.length=(r.length+T.length)+1 by omega];rw[List.cons_append] at h;unfold cJ at h
  cases b:ops[k]? with
  |none=>simp only[b] at h
  |some o=>
   simp only[b] at h;obtain⟨v,z,h1,h2⟩:=yieldsAt_of_stOp b ((EV b).2 h);exact KD b (Region.noSelect_spec l) j e f c _ listed a w inv (Region.free_spec b x) q hw
    (fun w1 y=>yieldsAt_of_stOp b ((EV b).2 (h1 w1 y)))
    (uE l j e f r _ _ w (inv.set q c) hw d h2)
theorem cB{id:Nat}{a:Act}{w:World}{l:List Oper}(n:Nat)(H T:List (Nat×Bool))(C:World->Prop)(hm:P.follows .mixedOrders=true)(c:Tk .any l.toArray n H T=true)(hC:C w.drew)
 (h:cJ P l.toArray C n (fun a w=>Q .normal a w) (H++T) a w.drew):(Code.region id l.toArray true).wp P Q a w:=by
 simp only[Tk,Bool.and_eq_true,decide_eq_true_eq] at c;obtain⟨⟨⟨⟨⟨i,f⟩,g⟩,e⟩,b⟩,d⟩:=c;have m:HeadInv .any l.toArray n (Array.replicate l.toArray.size false):=
  ⟨qs,fun j o _ b=>(by rw[getD_replicate_false] at b;cases b),fun t _ k=>getD_in (by simpa using k) (getD_replicate_false _ _)⟩
 have h1:=uE (md:= .any) i g e f H _ a w.drew m hC d h;rw[b] at h1;exact wp_region_any hm (xX _ _ _ _ h1)
theorem dI{n k:Nat}{Q:Act->World->Prop}{r:List (Nat×Bool)}{a:Act}{w:World}{o:Oper}(d:ops[k]? =some o)(h:∀K:Act->Prop,(∀b,(∀w1,C w1->rd P ops o a w1 (fun c=>c=b))->cJ P ops C n Q r b w->K b)->rd P ops o a w K):cJ P ops C n Q ((k,false)::r) a w:=by
 unfold cJ;simp only[d];exact h _ (fun b h1 h2=>⟨h1,h2⟩)
theorem bJ{n k:Nat}{Q:Act->World->Prop}{r:List (Nat×Bool)}{a:Act}{w:World}{o:Oper}(c:ops[k]? =some o)(h:∀K:Act->World->Prop,(∀b w',(k<n->C w')->cJ P ops C n Q r b w'->K b w')->mv P ops o a w K):cJ P ops C n Q ((k,true)::r) a w:=by
 unfold cJ;simp only[c];exact h _ (fun b w' h1 h2=>⟨h1,h2⟩)
end
end Go.Proofs.YtdfinmcogbkffaaGreatDoor
