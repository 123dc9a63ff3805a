/- Lemmas. -/
import Derived.Test.YtheabjeppmdmiaaGreatDoorMaf
import Derived.Deep.RegionHeld3
import Derived.Deep.RegionLaw
import Derived.Deep.Cut
import Derived.Deep.CutRange
import Derived.Deep.DeepCutAuto
import Derived.Deep.CutBlock
namespace Go.Proofs.YtheabjeppmdmiaaGreatDoor
open Go.RowKit
set_option linter.unusedVariables false
set_option linter.unusedSimpArgs false
set_option maxHeartbeats 16000000
open _root_.Go.Proofs.Tryz
set_option maxRecDepth 20000
namespace Pv
theorem Cx(w:World)(x y z:Value)(t:TypeId):(w.alloc (.cells #[x,y,z] t)).cell? ⟨w.heap.size,0,none⟩=some x/\(w.alloc (.cells #[x,y,z] t)).cell? ⟨w.heap.size,1,none⟩=some y/\(w.alloc (.cells #[x,y,z] t)).cell? ⟨w.heap.size,2,none⟩=some z:=
 ⟨vY w _ _ _ 0 _ rfl,vY w _ _ _ 1 _ rfl,vY w _ _ _ 2 _ rfl⟩
def CT(v:V3):List UInt8:=nN v.1++(if v.1=3\/v.1=5 then vB v.2.2.data.toList else nN v.2.1)
def Zg(v:V3):Prop:=bJ v.1/\bJ v.2.1/\v.2.2.size<=1000000
theorem Ib{v:V3}(h:v.1=3\/v.1=5):CT v=nN v.1++vB v.2.2.data.toList:=by unfold CT;rw[iP h]
theorem Pf{v:V3}(h:¬(v.1=3\/v.1=5)):CT v=nN v.1++nN v.2.1:=by unfold CT;rw[iN h]
theorem PI(k:Int)(w:World):Calls prog 155 #[.int .i64 k] w fun e w'=>e=.returned (.bool (decide (k=3\/k=5)))/\w=w':=by
 by_cases h1:k=3
 .have HF:Hid (decide (k=3\/k=5)=true):=aA (dX (.inl h1));have b1:(k==3)=true:=bQ.2 h1;go_enter func155,ntmps155;exact Ac
 .have b1:(k==3)=false:=bN.2 h1;by_cases h2:k=5
  .have HF:Hid (decide (k=3\/k=5)=true):=aA (dX (.inr h2));have b2:(k==5)=true:=bQ.2 h2;go_enter func155,ntmps155;exact Ac
  .have HF:Hid (decide (k=3\/k=5)=false):=aA (dF (fun h=>h.elim h1 h2));have b2:(k==5)=false:=bN.2 h2;go_enter func155,ntmps155;exact Ac
theorem qO{w:World}{l:lU}{e:Ending}{w':World}(h:oT w l e w'):∃A c,e=.returned (.slice A l.length c)/\Sl w' w'.heap.size A (bF l)/\w'.ownsRow w.heap.size 5 1 (.slice A l.length c) l.length (bF l)/\Below w.heap.size w w':=by
 obtain⟨v,rfl,a,b⟩:=h;obtain⟨A,c,rfl,_,d,_⟩:=lV a;exact⟨A,c,rfl,d,a,b⟩
theorem Pg(a:oD)(c n:Nat)(l:lU)(G:l.length=n)(v:V3)(j:Zg v)(w:World)(I:l.length<=100000000)(H:Sl w w.heap.size a (bF l)):
 Calls prog 106 #[.slice a n c,.agg #[.int .i64 v.1,.int .i64 v.2.1,.string v.2.2]] w (oT w (l++CT v)):=by
 have C:=aB w (.cells #[.int .i64 v.1,.int .i64 v.2.1,.string v.2.2] 34);have t:=aA (EO a c n v.1 l G _ j.1.1 j.1.2 qo (H.on C));obtain⟨z0,s,z2⟩:=Cx w (.int .i64 v.1) (.int .i64 v.2.1) (.string v.2.2) 34;have f:w.heap.size<(w.alloc (.cells #[.int .i64 v.1,.int .i64 v.2.1,.string v.2.2] 34)).heap.size:=by simp
 have g:=aA C;have B:=aA j;have h10:=sV v.1 j.1.1 j.1.2;have F:Hid ((l++nN v.1).length<=100000010):=aA (by rw[aL];omega);clear H G I C j h10;by_cases i:v.1=3\/v.1=5
 .have y:Hid (l++CT v=(l++nN v.1)++vB v.2.2.data.toList):=aA (by rw[Ib i,List.append_assoc]);have b:=PI v.1;rw[dX i] at b;have b:=aA b;clear i;generalize l++nN v.1=T at *;obtain⟨v0,v1,v2⟩:=v;simp only at z0 s z2 b g f;go_enter func106,ntmps106;go_wp2_with fail;refine t.o.mono ?_;intro e w1 h;obtain⟨A,c1,rfl,r,D,d⟩:=qO h;have E:=(d.cell (p:=⟨w.heap.size,0,none⟩) f).trans z0;have K:=(d.cell (p:=⟨w.heap.size,2,none⟩) f).trans z2;have k:=qB g d;have m:=aA (TC A c1 T.length v2 T rfl w1 (by have:=B.o.2.2;simp only at this;omega) (qA F.o) r);clear t h r D d z0 s z2 f g;go_wp2_with (go_at_call 155;refine(b.o w1).mono ?_;rintro e w' ⟨rfl,rfl⟩;clear b)
  refine m.o.mono ?_;rintro e w2 ⟨v,rfl,q,o⟩;have z:=aA (sW q k.o.size);have x:=qB k o;clear m q o E K;go_wp2;go_ret;exact⟨_,rfl,by rw[y.o];exact z.o,x.o⟩
 .have y:Hid (l++CT v=(l++nN v.1)++nN v.2.1):=aA (by rw[Pf i,List.append_assoc]);have b:=PI v.1;rw[dF i] at b;have b:=aA b;clear i;generalize l++nN v.1=T at *;obtain⟨v0,v1,v2⟩:=v;simp only at z0 s z2 b g f;go_enter func106,ntmps106;go_wp2_with fail;refine t.o.mono ?_;intro e w1 h;obtain⟨A,c1,rfl,r,D,d⟩:=qO h;have E:=(d.cell (p:=⟨w.heap.size,0,none⟩) f).trans z0;have J:=(d.cell (p:=⟨w.heap.size,1,none⟩) f).trans s;have k:=qB g d;have m:=aA (EO A c1 T.length v1 T rfl w1 B.o.2.1.1 B.o.2.1.2 (qA F.o) r);clear t h r D d z0 s z2 f g;go_wp2_with (go_at_call 155;refine(b.o w1).mono ?_;rintro e w' ⟨rfl,rfl⟩;clear b)
  refine m.o.mono ?_;rintro e w2 ⟨v,rfl,q,o⟩;have z:=aA (sW q k.o.size);have x:=qB k o;clear m q o E J;go_wp2;go_ret;exact⟨_,rfl,by rw[y.o];exact z.o,x.o⟩
end Pv
theorem Zh{p:Prop}(h:p:=by
 have:k=1\/k=2\/k=3\/k=4\/k=5\/k=6\/k=7:=qo
 rcases this with rfl|rfl|rfl|rfl|rfl|rfl|rfl<;>decide +kernel):p:=h
structure Op where
 aDG:Int
 aDW:ByteArray
 aDN:ByteArray
 aD1:ByteArray
 to_:ByteArray
 val:V3
 aD3:Int
 text:ByteArray
 aD4:ByteArray
 aD8:Bool
deriving DecidableEq
def CU:Op:=⟨0,ByteArray.empty,ByteArray.empty,ByteArray.empty,ByteArray.empty,bD,0,ByteArray.empty,ByteArray.empty,false⟩
structure uC where
 aDP:Int
 aEg:ByteArray
 aEO:ByteArray
deriving DecidableEq
structure cH where
 id:ByteArray
 aEa:ByteArray
 aD2:ByteArray
 aDM:List (ByteArray×V3)
 log:List uC
deriving DecidableEq
structure wF where
 id:Int
 aDP:Int
 aDW:ByteArray
 aDN:ByteArray
 action:ByteArray
 aD4:ByteArray
 open_:Bool
deriving DecidableEq
structure xX where
 aDP:Int
 aDN:ByteArray
 arg:ByteArray
deriving DecidableEq
structure Sto where
 aDP:Int
 aDH:List cH
 aDJ:List wF
 aDO:List xX
 aDU:List (ByteArray×ByteArray)
 aDI:Po
 aDT:Int
def xC:ByteArray:=⟨#[112,111,108,105,99,121,32,111,112,101,110,32,112,101,114,109,105,116,117,110,108,101,115,115,32,123,32,125]⟩
def kM:Sto:=⟨0,[],[],[],[],(fG xC).1,0⟩
def gW(a b:bY):Bool:=decide (¬b.toList<a.toList)
def aW(s:Sto)(id:bY):Nat×Bool:=
 let i:=s.aDH.findIdx (fun c=>gW id c.id)
 if i<s.aDH.length then (i,decide (((s.aDH[i]?).map (·.id))=some id)) else (s.aDH.length,false)
def eW(s:Sto)(id:bY):Option cH:=if (aW s id).2 then s.aDH[(aW s id).1]? else none
def rC(s:Sto)(subject role:bY):Bool:=s.aDU.any (fun r=>decide (r=(subject,role)))
def gL(c:cH)(name:bY):V3:=((c.aDM.find? (fun f=>decide (f.1=name))).map (·.2)).getD bD
def zZ:ByteArray:=str "open"
def vE:ByteArray:=str "work"
def EY:ByteArray:=str "done"
def oI:ByteArray:=str "closed"
def iB(a b:bY):Bool:=
 if a=zZ then decide (b=vE) else if a=vE then decide (b=EY) else if a=EY then decide (b=vE)||decide (b=oI) else false
def xY:List ByteArray:=["new","read","write","move","close","role","policy"].map str
def cC(kind:Int):ByteArray:=if kind<1\/7<kind then str "tick" else (xY[(kind - 1).toNat]?).getD (str "tick")
def kN(s:bY):Bool:=decide (s.size=0)||eL s
def mY(o:Op):Bool:=
 if o.aD8=false then decide (o.aD4.size=0) else (decide (1<=o.aDG/\o.aDG<=4)&&(decide (o.aD4.size≠0)&&decide (o.aD4.size<=64)))
def KO(o:Op):Op:={o with aDW:=ByteArray.empty,aD4:=ByteArray.empty,aD8:=false}
def fP(o:Op):Bool:=
 let b:=KO o
 let k:={CU with aDG:=o.aDG}
 if o.aDG=1 then decide (o.aDN.size≠0)&&decide (b={k with aDN:=o.aDN})
 else if o.aDG=2\/o.aDG=6 then (decide (o.aDN.size≠0)&&decide (o.aD1.size≠0))&&decide (b={k with aDN:=o.aDN,aD1:=o.aD1})
 else if o.aDG=3 then ((decide (o.aDN.size≠0)&&decide (o.aD1.size≠0))&&decide (o.val≠bD))&&decide (b={k with aDN:=o.aDN,aD1:=o.aD1,val:=o.val})
 else if o.aDG=4 then (decide (o.aDN.size≠0)&&decide (o.to_.size≠0))&&decide (b={k with aDN:=o.aDN,to_:=o.to_})
 else if o.aDG=5 then decide (0<o.aD3)&&decide (b={k with aD3:=o.aD3})
 else if o.aDG=7 then decide (b={k with text:=o.text})
 else if o.aDG=8 then (decide (0<o.aD3)&&decide (o.aD3<=1099511627776))&&decide (b={k with aD3:=o.aD3})
 else false
def gF(o:Op):Bool:=
 if eL o.aDW=false\/mY o=false\/4096<o.text.size then false
 else if kN o.aDN=false\/kN o.aD1=false\/kN o.to_=false\/(o.val≠bD/\aT o.val=false) then false
 else fP o
def iL(s:Sto)(o:Op):Int:=
 match eW s o.aDN with
 |none=>10
 |some c=>
  if o.aDG=3/\16<=c.aDM.length/\gL c o.aD1=bD then 6
  else if o.aDG≠2/\256<=c.log.length then 6
  else if (o.aDG=3/\c.aD2=oI)\/(o.aDG=4/\iB c.aD2 o.to_=false) then 13
  else 0
def iX(s:Sto)(o:Op):Int:=
 if (s.aDJ.length:Int)<o.aD3 then 10
 else match s.aDJ[(o.aD3 - 1).toNat]? with
  |none=>10
  |some r=>if r.open_=false then 10 else if r.aDW=o.aDW then 12 else 0
def dO(s:Sto)(o:Op):Int:=
 if gF o=false then 1
 else if o.aDG=1 then (if (aW s o.aDN).2 then 11 else if 64<=s.aDH.length then 6 else 0)
 else if o.aDG=2\/o.aDG=3\/o.aDG=4 then iL s o
 else if o.aDG=5 then iX s o
 else if o.aDG=6 then (if 64<=s.aDU.length/\rC s o.aDN o.aD1=false then 6 else 0)
 else if o.aDG=8 then (if 1099511627776 - o.aD3<s.aDP then 6 else 0)
 else 0
def sQ(s:bY):V3:=(5,0,s)
def oY(cat:Int)(name:String)(bag:List V3):Gv:=(cat,str name,bag)
def nS(c:cH)(subject:bY):List Gv:=
 [oY 3 "id" [sQ c.id],oY 3 "owner" [sQ c.aEa],oY 3 "state" [sQ c.aD2],oY 3 "events" [(2,c.log.length,ByteArray.empty)],
   oY 3 "took" [cJ (c.log.any (fun h=>decide (h.aEg=subject)))]]
 ++(match c.log.getLast? with |some h=>[oY 3 "last" [sQ h.aEg]]|none=>[])
 ++((c.aDM.filter (fun f=>decide (f.1.size<=14))).map (fun f=>((3,str "f_"++f.1,[f.2]):Gv)))
def lM(s:Sto)(o:Op):List Gv:=
 [oY 1 "id" [sQ o.aDW],oY 1 "role" (((s.aDU.filter (fun r=>decide (r.1=o.aDW))).take 16).map (fun r=>sQ r.2)),oY 2 "name" [sQ (cC o.aDG)]]
 ++(if o.aD1.size≠0 then [oY 2 "field" [sQ o.aD1]] else [])
 ++(if o.to_.size≠0 then [oY 2 "to" [sQ o.to_]] else [])
 ++[oY 4 "now" [(4,s.aDP,ByteArray.empty)]]
 ++(match eW s o.aDN with |some c=>if o.aDG≠6 then nS c o.aDW else []|none=>[])
def oK(s:Sto)(c:cH)(actor what:bY):cH:={c with log:=c.log++[⟨s.aDP,actor,what⟩]}
def oB(c:cH)(name:bY)(v:V3):cH:=
 let i:=c.aDM.findIdx (fun f=>gW name f.1)
 match c.aDM[i]? with
 |none=>{c with aDM:=c.aDM++[(name,v)]}
 |some f=>if f.1=name then {c with aDM:=c.aDM.set i (name,v)} else {c with aDM:=c.aDM.take i++[(name,v)]++c.aDM.drop i}
def fH(s:Sto)(i:Nat)(f:cH->cH):Sto:={s with aDH:=match s.aDH[i]? with |some c=>s.aDH.set i (f c)|none=>s.aDH}
def dA(s:Sto)(o:Op):Sto:=
 if dO s o≠0 then s
 else
  let i:=(aW s o.aDN).1
  if o.aDG=1 then {s with aDH:=s.aDH.take i++[oK s ⟨o.aDN,o.aDW,zZ,[],[]⟩ o.aDW (str "new")]++s.aDH.drop i}
  else if o.aDG=3 then fH s i (fun c=>oK s (oB c o.aD1 o.val) o.aDW (str "write"))
  else if o.aDG=4 then fH s i (fun c=>oK s {c with aD2:=o.to_} o.aDW o.to_)
  else if o.aDG=5 then {s with aDJ:=match s.aDJ[(o.aD3 - 1).toNat]? with |some r=>s.aDJ.set (o.aD3 - 1).toNat {r with open_:=false} |none=>s.aDJ}
  else if o.aDG=6 then (if rC s o.aDN o.aD1 then s else {s with aDU:=s.aDU++[(o.aDN,o.aD1)]})
  else if o.aDG=7 then (if (fG o.text).2.1=0 then {s with aDI:=(fG o.text).1,aDT:=s.aDT+1} else s)
  else if o.aDG=8 then {s with aDP:=s.aDP+o.aD3}
  else s
def CV:ByteArray:=str "glass"
def AB(s:Sto)(subject:bY):Bool:=s.aDJ.any (fun r=>decide (r.aDW=subject)&&(r.open_&&decide (100<=s.aDP - r.aDP)))
def gS(s:Sto)(o:Op)(m:Mk):Bool:=o.aD8&&((decide (m=(0,4))||decide (m=(0,0)))&&(rC s o.aDW CV&& !AB s o.aDW))
def fT(s:Sto)(o:Op)(reason:bY):Sto:={s with aDJ:=s.aDJ++[⟨s.aDJ.length+1,s.aDP,o.aDW,o.aDN,cC o.aDG,reason,true⟩]}
def mC(s:Sto)(o:Op)(what:bY):Sto:=
 let i:=s.aDH.findIdx (fun c=>decide (c.id=o.aDN))
 if i<s.aDH.length/\o.aDG≠6 then fH s i (fun c=>oK s c o.aDW what) else s
def dB(o:Op)(done:Bool)(s:Sto)(x:Ob):Sto:=
 if x.aDG=1/\done=true then mC s o x.arg
 else if x.aDG=3 then fT s o x.arg
 else if x.aDG=4 then {s with aDO:=s.aDO++[⟨s.aDP,o.aDN,x.arg⟩]}
 else s
def kC(s:Sto):Bool:=decide (256<s.aDJ.length)||(decide (256<s.aDO.length)||s.aDH.any (fun c=>decide (256<c.log.length)))
structure Rpl where
 err:Int
 mark:Mk
 aD8:Bool
 val:V3
 hidden:Bool
 at_:Int
def qX:Rpl:=⟨0,(0,0),false,bD,false,0⟩
structure Deci where
 op:Op
 aDT:Int
 mark:Mk
 aD8:Bool
 aDX:List Ob
def bZ(s:Sto)(o:Op):Sto×Rpl×Option Deci×Int:=
 let e:=dO s o
 let a:Int×Int:=if e=0/\o.aDG=7 then (fG o.text).2 else (e,0)
 if a.1≠0 then (s,{qX with err:=a.1,at_:=a.2},none,a.1)
 else
  let (r,e2):=gD (lM s o) s.aDI
  if e2≠0 then (s,{qX with err:=e2,at_:=a.2},none,e2)
  else
   let glass:=gS s o r.1
   let done:=decide (r.1=(4,0))||glass
   let b:=if glass then fT s o o.aD4 else s
   let f:=if done then dA b o else b
   let hidden:=done&&(decide (o.aDG=2)&&r.2.any (fun x=>decide (x.aDG=2)&&decide (x.arg=o.aD1)))
   let val:=if done&&(decide (o.aDG=2)&& !hidden) then ((eW s o.aDN).map (fun c=>gL c o.aD1)).getD bD else bD
   let d:=r.2.foldl (dB o done) f
   if kC d then (s,{qX with err:=6,at_:=a.2},none,6)
   else (d,⟨if done then 0 else 12,r.1,glass,val,hidden,0⟩,some ⟨o,s.aDT,r.1,glass,r.2⟩,0)
def cO(l:lU):List UInt8×List UInt8:=(l.takeWhile (fun c=>decide (c.toNat≠32)),(l.dropWhile (fun c=>decide (c.toNat≠32))).drop 1)
def oZ(l:lU):Option V3:=
 match jR l with
 |([t,_],0,_)=>
  if t.aDG=2 then some (2,t.num,t.str) else if t.aDG=3 then some (4,t.num,t.str) else if t.aDG=4 then some (5,t.num,t.str)
  else if t.aDG=5 then some (3,t.num,t.str)
  else if t.aDG=1 then (if t.str=str "true" then some (1,1,ByteArray.empty) else if t.str=str "false" then some (1,0,ByteArray.empty) else none)
  else none
 |_=>none
def jK(l:lU):Int:=if l=[]\/9<l.length\/l.head?=some 48\/l.all bA=false then 0 else (qC l:Int)
def oN(w:lU):Int:=let i:=(xY++[str "tick"]).findIdx (fun x=>decide (x=bs w));if i<8 then (i:Int)+1 else 0
def kD(a:lU):Bool×List UInt8×List UInt8:=match a with
 |33 ::r=>(true,(cO r).1,(cO r).2)
 |r=>(false,[],r)
def mD(l:lU):Option Op:=
 let (subj,r0):=cO l
 let (glass,reason,r1):=kD r0
 let (w,r2):=cO r1
 let k:=oN w
 let base:Op:={CU with aDG:=k,aDW:=bs subj,aD4:=bs reason,aD8:=glass}
 let o:Option Op:=
  if k=1 then some {base with aDN:=bs r2}
  else if k=2\/k=6 then some {base with aDN:=bs (cO r2).1,aD1:=bs (cO r2).2}
  else if k=3 then (oZ (cO (cO r2).2).2).map (fun v=>{base with aDN:=bs (cO r2).1,aD1:=bs (cO (cO r2).2).1,val:=v})
  else if k=4 then some {base with aDN:=bs (cO r2).1,to_:=bs (cO r2).2}
  else if k=5\/k=8 then some {base with aD3:=jK r2}
  else if k=7 then some {base with text:=bs r2}
  else some base
 match o with
 |some o=>if gF o then some o else none
 |none=>none
theorem QDl{p:Prop}(h:p:=by
 go_wp2;refine bR (.agg #[.int .i64 1,.int .i64 1,.string ⟨#[]⟩]) ?_;exact⟨rfl,HBE.o _ _⟩):p:=h
theorem QDk{p:Prop}(h:p:=by
 go_wp2;refine bR (.agg #[.int .i64 1,.int .i64 0,.string ⟨#[]⟩]) ?_;exact⟨rfl,HBE.o _ _⟩):p:=h
abbrev pY:=ByteArray×V3
abbrev xD:=ByteArray×ByteArray
def vS(h:uC):Prop:=bJ h.aDP/\h.aEg.size<=cQ/\h.aEO.size<=cQ
def CW(h:uC):List Value:=[.int .i64 h.aDP,.string h.aEg,.string h.aEO]
def EZ(f:pY):Prop:=f.1.size<=cQ/\cR f.2
def uD(f:pY):List Value:=[.string f.1,.int .i64 f.2.1,.int .i64 f.2.2.1,.string f.2.2.2]
def FA(r:wF):Prop:=bJ r.id/\bJ r.aDP/\r.aDW.size<=cQ/\r.aDN.size<=cQ/\r.action.size<=cQ/\r.aD4.size<=cQ
def KP(r:wF):List Value:=[.int .i64 r.id,.int .i64 r.aDP,.string r.aDW,.string r.aDN,.string r.action,.string r.aD4,.bool r.open_]
def FB(n:xX):Prop:=bJ n.aDP/\n.aDN.size<=cQ/\n.arg.size<=cQ
def KQ(n:xX):List Value:=[.int .i64 n.aDP,.string n.aDN,.string n.arg]
def NP(r:xD):Prop:=r.1.size<=cQ/\r.2.size<=cQ
def TT(r:xD):List Value:=[.string r.1,.string r.2]
def mZ:Rep uC:=mS CW vS
def lN:Rep pY:=mS uD EZ
def tB:Rep wF:=mS KP FA
def wG:Rep xX:=mS KQ FB
def rD:Rep xD:=mS TT NP
theorem cD:Firm mZ 3:=gH (fun _=>rfl) (fun x v h=>by simp only[CW,List.mem_cons,List.not_mem_nil,or_false] at h;rcases h with rfl|rfl|rfl<;>rfl)
theorem bP:Firm lN 4:=gH (fun _=>rfl) (fun x v h=>by simp only[uD,List.mem_cons,List.not_mem_nil,or_false] at h;rcases h with rfl|rfl|rfl|rfl<;>rfl)
theorem cV:Firm tB 7:=gH (fun _=>rfl) (fun x v h=>by simp only[KP,List.mem_cons,List.not_mem_nil,or_false] at h;rcases h with rfl|rfl|rfl|rfl|rfl|rfl|rfl<;>rfl)
theorem eD:Firm wG 3:=gH (fun _=>rfl) (fun x v h=>by simp only[KQ,List.mem_cons,List.not_mem_nil,or_false] at h;rcases h with rfl|rfl|rfl<;>rfl)
theorem dD:Firm rD 2:=gH (fun _=>rfl) (fun x v h=>by simp only[TT,List.mem_cons,List.not_mem_nil,or_false] at h;rcases h with rfl|rfl<;>rfl)
def pA(w:World)(ok:nP)(c:cH)(a b:Value):Prop:=c.id.size<=cQ/\c.aEa.size<=cQ/\c.aD2.size<=cQ/\aH lN w ok a c.aDM/\aH mZ w ok b c.log
def qI:Rep cH:=fun w ok cs c=>∃a b,cs=[.string c.id,.string c.aEa,.string c.aD2,a,b]/\pA w ok c a b
theorem pA.aDQ{w w':World}{ok:nP}{c:cH}{b d:Value}(h:pA w ok c b d)(a:aN ok w w'):pA w' ok c b d:=⟨h.1,h.2.1,h.2.2.1,aH.aDQ bP h.2.2.2.1 a,aH.aDQ cD h.2.2.2.2 a⟩
theorem pA.more{w:World}{ok ok':nP}{c:cH}{d e:Value}(h:pA w ok c d e)(a:∀b,ok b->ok' b):pA w ok' c d e:=⟨h.1,h.2.1,h.2.2.1,aH.more bP h.2.2.2.1 a,aH.more cD h.2.2.2.2 a⟩
theorem pA.inb{w:World}{ok:nP}{c:cH}{a d:Value}(h:pA w ok c a d):pA w (fun b=>ok b/\b<w.heap.size) c a d:=⟨h.1,h.2.1,h.2.2.1,aH.inb bP h.2.2.2.1,aH.inb cD h.2.2.2.2⟩
theorem dY:Firm qI 5:={
 aDQ:=fun⟨a,b,e,h⟩ d=>⟨a,b,e,h.aDQ d⟩
 more:=fun⟨a,b,e,h⟩ f=>⟨a,b,e,h.more f⟩
 len:=fun⟨a,b,e,h⟩=>by rw[e];rfl
 one:=fun⟨a,b,e,h⟩=>by
  intro v c;rw[e] at c;simp only[List.mem_cons,List.not_mem_nil,or_false] at c
  rcases c with rfl|rfl|rfl|rfl|rfl
  .rfl
  .rfl
  .rfl
  .exact lA h.2.2.2.1
  .exact lA h.2.2.2.2
 inb:=fun⟨a,b,e,h⟩=>⟨a,b,e,h.inb⟩}
def GJ(w:World)(ok:nP)(g:Gv)(vb:Value):Prop:=bJ g.1/\g.2.1.size<=cQ/\aH VR w ok vb g.2.2
def jS:Rep Gv:=fun w ok cs g=>∃vb,cs=[.int .i64 g.1,.string g.2.1,vb]/\GJ w ok g vb
theorem GJ.aDQ{w w':World}{ok:nP}{g:Gv}{vb:Value}(h:GJ w ok g vb)(a:aN ok w w'):GJ w' ok g vb:=⟨h.1,h.2.1,aH.aDQ bG h.2.2 a⟩
theorem GJ.more{w:World}{ok ok':nP}{g:Gv}{vb:Value}(h:GJ w ok g vb)(a:∀b,ok b->ok' b):GJ w ok' g vb:=⟨h.1,h.2.1,aH.more bG h.2.2 a⟩
theorem GJ.inb{w:World}{ok:nP}{g:Gv}{vb:Value}(h:GJ w ok g vb):GJ w (fun b=>ok b/\b<w.heap.size) g vb:=⟨h.1,h.2.1,aH.inb bG h.2.2⟩
theorem cA:Firm jS 3:={
 aDQ:=fun⟨vb,e,h⟩ b=>⟨vb,e,h.aDQ b⟩
 more:=fun⟨vb,e,h⟩ c=>⟨vb,e,h.more c⟩
 len:=fun⟨vb,e,h⟩=>by rw[e];rfl
 one:=fun⟨vb,e,h⟩=>by
  intro v a;rw[e] at a;simp only[List.mem_cons,List.not_mem_nil,or_false] at a
  rcases a with rfl|rfl|rfl
  .rfl
  .rfl
  .exact lA h.2.2
 inb:=fun⟨vb,e,h⟩=>⟨vb,e,h.inb⟩}
def NQ(v:Value):Prop:=∀a n c,v=.slice a n c->n<=c
theorem JF:NQ (.slice none 0 0):=fun a n c e=>by injection e with _ b d;omega
structure fD (w:World) (ok:Nat->Prop) (s:Sto) (vc vr vn vo vt vu vk vb:Value):Prop where
 aDP:bJ s.aDP
 aDT:bJ s.aDT
 aDH:aH qI w ok vc s.aDH
 aDJ:aH tB w ok vr s.aDJ
 aDO:aH wG w ok vn s.aDO
 aDU:aH rD w ok vo s.aDU
 aDI:fO 3 w ok s.aDI vt vu vk vb
 aEI:NQ vr/\NQ vn/\NQ vo
def aV(s:Sto)(vc vr vn vo vt vu vk vb:Value):Array Value:=#[.int .i64 s.aDP,vc,vr,vn,vo,.string s.aDI.id,.bool s.aDI.set,.int .i64 s.aDI.alg,vt,vu,vk,vb,.int .i64 s.aDT]
theorem fD.aDQ{w w':World}{ok:nP}{s:Sto}{vc vr vn vo vt vu vk vb:Value}(h:fD w ok s vc vr vn vo vt vu vk vb)(a:aN ok w w'):fD w' ok s vc vr vn vo vt vu vk vb:=
 ⟨h.aDP,h.aDT,aH.aDQ dY h.aDH a,aH.aDQ cV h.aDJ a,aH.aDQ eD h.aDO a,aH.aDQ dD h.aDU a,h.aDI.aDQ a,h.aEI⟩
theorem fD.more{w:World}{ok ok':nP}{s:Sto}{vc vr vn vo vt vu vk vb:Value}(h:fD w ok s vc vr vn vo vt vu vk vb)(a:∀b,ok b->ok' b):fD w ok' s vc vr vn vo vt vu vk vb:=
 ⟨h.aDP,h.aDT,aH.more dY h.aDH a,aH.more cV h.aDJ a,aH.more eD h.aDO a,aH.more dD h.aDU a,h.aDI.more a,h.aEI⟩
theorem fD.inb{w:World}{ok:nP}{s:Sto}{vc vr vn vo vt vu vk vb:Value}(h:fD w ok s vc vr vn vo vt vu vk vb):fD w (fun b=>ok b/\b<w.heap.size) s vc vr vn vo vt vu vk vb:=
 ⟨h.aDP,h.aDT,aH.inb dY h.aDH,aH.inb cV h.aDJ,aH.inb eD h.aDO,aH.inb dD h.aDU,h.aDI.inb,h.aEI⟩
theorem fD.on{w w':World}{ok:nP}{s:Sto}{vc vr vn vo vt vu vk vb:Value}(h:fD w ok s vc vr vn vo vt vu vk vb)(a:Below w.heap.size w w'):fD w' ok s vc vr vn vo vt vu vk vb:=h.aDQ (aJ a)
def iF(o:Op):Prop:=bJ o.aDG/\o.aDW.size<=cQ/\o.aDN.size<=cQ/\o.aD1.size<=cQ/\o.to_.size<=cQ/\cR o.val/\bJ o.aD3/\o.text.size<=cQ/\o.aD4.size<=cQ
def bW(o:Op):Array Value:=#[.int .i64 o.aDG,.string o.aDW,.string o.aDN,.string o.aD1,.string o.to_,.int .i64 o.val.1,.int .i64 o.val.2.1,.string o.val.2.2,.int .i64 o.aD3,.string o.text,.string o.aD4,.bool o.aD8]
def eY(o:Op):Value:= .agg (bW o)
theorem aM.cut{α:Type}{R:Rep α}{s:Nat}{e:TypeId}{w:World}{base:Nat}{ok:nP}(F:Firm R s){a:oD}{n c:Nat}{l:List α}(h:aM R s e w base ok (.slice a n c) l)(m:Nat)(hm:m<=l.length):aM R s e w base ok (.slice a m c) (l.take m):=by
 obtain⟨cs,h1,h2⟩:=h;have q:(Value.slice a m c).ownBlock=(Value.slice a n c).ownBlock:=by cases a<;>rfl
 have p:(l.take m).length=m:=by rw[List.length_take];omega
 refine⟨cs.take (m * s),?_,?_⟩
 .rw[p];refine⟨by rw[List.length_take,h1.1];exact Nat.min_eq_left (Nat.mul_le_mul_right s hm),?_⟩
  rcases h1.2 with ⟨d,t⟩|⟨g,cap,cur,d,h3,h4,h5,h6,h7,h8⟩
  .injection d with f o i;subst f i;exact .inl ⟨by rw[show m=0 by omega],qo⟩
  .injection d with f o i;subst f i;refine .inr ⟨g,c,cur,rfl,h3,h4,qo,h6,h7,?_⟩;rw[<-h8,List.take_take]
   congr 1
   exact(Nat.min_eq_left (Nat.mul_le_mul_right s hm)).symm
 .exact(aX.split (fun _ _ k=>F.len k) m h2 hm).1.mono fun r x k=>F.more k fun b j=>⟨j.1,j.2.1,by rw[q];exact j.2.2⟩
theorem aM.place{α:Type}{R:Rep α}{s:Nat}{e:TypeId}{w:World}{base:Nat}{ok:nP}{a:oD}{n c:Nat}{l:List α}(h:aM R s e w base ok (.slice a n c) l):((a=none/\c=0)\/∃g,a=some ⟨g,0,none⟩)/\l.length<=c/\c<=maxLen:=by
 obtain⟨cs,h1,h2⟩:=h
 rcases h1.2 with ⟨b,j⟩|⟨g,cap,cur,b,h3,h4,h5,h6,h7,h8⟩
 .injection b with d i f;exact⟨.inl ⟨d,f⟩,qo,by unfold maxLen;omega⟩
 .injection b with d i f;subst f;exact⟨.inr ⟨g,d⟩,h5,h6⟩
theorem jT{α:Type}{R:Rep α}{s:Nat}{P:Program}{w:World}{t e:TypeId}{bytes:Nat}{base:Nat}{ok:nP}(E:eF P t e s bytes)(F:Firm R s){ops:Array Oper}{o:Oper}{a:Act}{K:Act->World->Prop}{Q:Exit->Act->World->Prop}{G:Prop}(k:o.guard=none)(d x:Operand)
 (m:o.op=.call {callee:= .builtin .append,args:=#[d,x],argTypes:=#[t,t]})
 (v:Value)(l:List α)(p:a.eval d=v)(f:aM R s e w base ok v l)
 (g c:Nat)(cs:Array Value)(ty:TypeId)(fr:Nat×Nat)(y:α)(q:a.eval x=.slice (some ⟨g,0,none⟩) 1 c)(hc:w.heap[g]? =some (.cells cs ty fr))(hy:R w (fun b=>ok b/\b<w.heap.size/\some b≠v.ownBlock) cs.toList y)
 (h63:l.length<=1000000)(hbytes:bytes<=10000)(j:base<=w.heap.size)
 (h:∀l',Hid (l'=l++[y])->∀A' c' w',aM R s e w' base ok (.slice A' l'.length c') l'->w.grownBy w' v.ownBlock->((Value.slice A' l'.length c').ownBlock=v.ownBlock\/(Value.slice A' l'.length c').ownBlock=some w.heap.size)->K (a.put o.dst (.slice A' l'.length c')) w'):if Region.wanted o (yielded ops a.tmps)=true then Oper.wp P o a w K Q else G:=by
 obtain⟨xs,n,hcs⟩:=f;have hlen:cs.toList.length=1 * s:=by rw[F.len hy];omega
 refine Oe E k d x m base v l.length xs p n (some ⟨g,0,none⟩) 1 c cs.toList q hlen ?_ (F.one hy) (by unfold maxLen;omega) ?_ j fun A' c' w' h1 h2 h3=> ?_
 .exact QCt
 .exact QCL
 .exact QCe
theorem QDd{p:Prop}(h:p:=by
 subst hji;obtain⟨v1,hv1,he⟩:=hy w hw;exact Cy hi hv1 ⟨fun _=>hw,by rw[he];exact H⟩):p:=h
abbrev Tk:Exit->Act->World->Prop:=fun _ _ _=>False
section
variable {P:Program} {ops:Array Oper} {md:Region.Mode} {C:World->Prop} {Q:Exit->Act->World->Prop}
def uZ(P:Program)(ops:Array Oper)(i:Nat)(K:Act->World->Prop)(a:Act)(w:World):Prop:=
 match ops[i]? with
 |none=>False
 |some o=>if Region.wanted o (yielded ops a.tmps)=true then o.wp P a w K Tk else K (a.put o.dst undef) w
theorem tC{o:Oper}{a:Act}{K K':Act->World->Prop}{g:Exit->Act->World->Prop}(h:∀a w,K a w->K' a w){r:Result Next}(b:o.upon P a K Tk r):o.upon P a K' g r:=by
 cases r with
 |ok n w'=>
  cases n with
  |value v=>exact h _ _ b
  |skip=>exact h _ _ b
  |enter f args=>
   refine Calls.mono b fun e i d=> ?_
   cases e with
   |returned v=>exact h _ _ d
   |panicked c=>exact(d:False).elim
   |outgrown=>obtain⟨_,_,h0⟩:=(d:LetsOut Tk);exact(h0:False).elim
  |row r args=>exact Rows.mono b fun v i d=>h _ _ d
  |_=>first|exact(b:False).elim|exact h _ _ b
 |halt x w'=>
  cases x with
  |panic v=>exact(b:False).elim
  |_=>exact(b:False).elim
theorem TU{i:Nat}{K K':Act->World->Prop}{a:Act}{w:World}(h:∀a w,K a w->K' a w)(b:uZ P ops i K a w):uZ P ops i K' a w:=by
 unfold uZ at *;split
 .rename_i h0;simp only[h0] at b
 .rename_i o h0;simp only[h0] at b;split
  .rename_i hw;rw[iP hw] at b;exact tC h b
  .rename_i hw;rw[iN hw] at b;exact h _ _ b
theorem YD{i:Nat}{K K':Act->World->Prop}{a:Act}{w:World}(h:∀a w,K a w->K' a w)(b:uZ P ops i K a w):wpOp P ops Q i K' a w:=by
 unfold uZ at b;unfold wpOp;split
 .rename_i h0;simp only[h0] at b
 .rename_i o h0;simp only[h0] at b;split
  .rename_i hw;rw[iP hw] at b;exact .inl (tC h b)
  .rename_i hw;rw[iN hw] at b;exact h _ _ b
theorem Vs{j:Nat}{g i:Oper}{v:Value}(hj:ops[j]? =some i)(p:g.apart ops i=true)
 (y:∀cs b,g.op≠ .select cs b)(s:∀cs b,i.op≠ .select cs b){K:Act->World->Prop}{a:Act}{w:World}{Y:Act->Prop}
 (k:∀a u,Y a->Y (a.put i.dst u))(q:∀a d,Y a->Y {a with defers:=d::a.defers})(l:Y a)(h:uZ P ops j K (a.put g.dst v) w):
 uZ P ops j (fun o w'=>Y o/\K (o.put g.dst v) w') a w:=by
 obtain⟨h1,h2,h3⟩:=Oper.apart_spec p;unfold uZ at *;simp only[hj] at *;rw[wanted_put i a g.dst v h1] at h;split
 .rename_i hw;simp only[hw,if_true] at h;unfold Oper.wp at *;rw[execOp_put i s a g.dst v h1] at h;generalize (execOp a.eval i).run P w=r at *
  cases r with
  |ok n w'=>
   cases n with
   |value u=>exact⟨k a u l,by rw[<-Act.put_comm a v u h2];exact h⟩
   |skip=>exact⟨k a undef l,by rw[<-Act.put_comm a v undef h2];exact h⟩
   |enter f args=>
    refine Calls.mono h fun e t m=> ?_
    cases e with
    |returned u=>exact⟨k a u l,by rw[<-Act.put_comm a v u h2];exact m⟩
    |panicked c=>exact m
    |outgrown=>exact m
   |row r args=>exact Rows.mono h fun u t m=>⟨k a u l,by rw[<-Act.put_comm a v u h2];exact m⟩
   |_=>
    first
    |exact(h:False).elim
    |(rename_i d
      refine⟨k _ undef (q a d l),?_⟩;have h4:K (({a.put g.dst v with defers:=d::(a.put g.dst v).defers}:Act).put i.dst undef) w':=h;rw[Act.put_defers,Act.put_comm _ v undef h2] at h4;exact h4)
  |halt x w'=>
   cases x with
   |panic v=>exact(h:False).elim
   |_=>exact(h:False).elim
 .rename_i hw;simp only[hw] at h;exact⟨k a undef l,by rw[<-Act.put_comm a v undef h2];exact h⟩
def pB(P:Program)(md:Region.Mode)(ops:Array Oper)(C:World->Prop)(n:Nat)(Q:Act->World->Prop):Nat->Array Bool->Act->World->Prop
 |0,listed,a,w=>Region.ready md ops listed=[]/\Q a w
 |f+1,listed,a,w=>(Region.ready md ops listed=[]->Q a w)/\∀i∈Region.ready md ops listed,uZ P ops i (fun b w'=>(i<n->C w')/\pB P md ops C n Q f (listed.setIfInBounds i true) b w') a w
theorem xZ{n:Nat}:∀(f:Nat) (listed:Array Bool) (a:Act) (w:World),pB P md ops C n (fun a w=>Q .normal a w) f listed a w->wpAny P md ops Q f listed a w
 |0,_,_,_,h=>h
 |f+1,_,_,_,h=>⟨h.1,fun i d=>YD (fun b w' c=>xZ f _ b w' c.2) (h.2 i d)⟩
def CX(P:Program)(ops:Array Oper)(C:World->Prop)(o:Oper)(v:Value)(a:Act):Prop:=∀w,C w->∃v1,YieldsAt P ops w o v1 a/\a.put o.dst v1=a.put o.dst v
theorem Cy{i:Nat}{o:Oper}{v:Value}{a:Act}{w:World}(d:ops[i]? =some o)(g:YieldsAt P ops w o v a){K:Act->World->Prop}(h:K (a.put o.dst v) w):uZ P ops i K a w:=by
 unfold uZ;simp only[d]
 rcases g with ⟨hw,b|⟨b,rfl⟩|⟨f,args,b,c⟩⟩|⟨hw,rfl⟩
 .simp only[hw,if_true,Oper.wp,b,Oper.upon];exact h
 .simp only[hw,if_true,Oper.wp,b,Oper.upon];exact h
 .simp only[hw,if_true,Oper.wp,b,Oper.upon];refine c.mono fun e j he=> ?_
  obtain⟨rfl,rfl⟩:=he;exact h
 .simp only[hw,Bool.false_eq_true,if_false];exact h
theorem KR{n i:Nat}{c:Oper}{v:Value}{Q:Act->World->Prop}(hi:ops[i]? =some c)(z:∀(j:Nat) (o:Oper) cs b,ops[j]? =some o->o.op≠ .select cs b)
 (S:Region.sinkB md ops n=true)(G:Region.chainB md ops n=true)(N:n<ops.size)(K:i<n):
 ∀(f:Nat) (listed:Array Bool) (a:Act) (w:World),HeadInv md ops n listed->
  (∀j g,ops[j]? =some g->j≠i->listed.getD j true=false->(∀e∈g.after,Region.binds md e=true->e.on≠i)->c.apart ops g=true)->
  i∈Region.ready md ops listed->C w->CX P ops C c v a->
  pB P md ops C n Q f (listed.setIfInBounds i true) (a.put c.dst v) w->pB P md ops C n Q (f+1) listed a w:=by
 intro f
 induction f with
 |zero=>
  intro listed a w inv _ l hw hy H;refine⟨fun h=>(by rw[h] at l;cases l),fun j hj=> ?_⟩;by_cases hji:j=i
  .exact QDd
  .have:=ready_mono hj hji;rw[H.1] at this
   cases this
 |succ f T=>
  intro listed a w inv s l hw hy H;refine⟨fun h=>(by rw[h] at l;cases l),fun j hj=> ?_⟩;by_cases hji:j=i
  .exact QDd
  .have h1:=H.2 j (ready_mono hj hji);obtain⟨y,g,q,E⟩:=mem_ready.1 hj;have x:j<n:=by
    rcases Nat.lt_or_ge j n with h|h
    .exact h
    .exact absurd hj (tail_waits S G N inv (n - i) i rfl K (mem_ready.1 l).1 j h)
   have R:∀e∈g.after,Region.binds md e=true->e.on≠i:=fun e he F heq=>by
    have h1:=E e he F;have h0:=(mem_ready.1 l).1;rw[heq] at h1
    rcases Nat.lt_or_ge i listed.size with m|m
    .simp[m] at h0 h1;rw[h0] at h1;cases h1
    .simp[Array.getElem?_eq_none m] at h1
   have p:=s j g q hji y R;obtain⟨_,_,h3⟩:=Oper.apart_spec p;obtain⟨_,r,_⟩:=Oper.apart_spec p;have A:∀cs b,c.op≠ .select cs b:=fun cs b=>z i c cs b hi
   have keep:∀(a:Act) (u:Value),CX P ops C c v a->CX P ops C c v (a.put g.dst u):=fun a u h w hw=>by
    obtain⟨v1,hv1,he⟩:=h w hw;refine⟨v1,hv1.of_same (execOp_put c A a g.dst u h3) (wanted_put c a g.dst u h3),?_⟩;rw[<-Act.put_comm a v1 u r,<-Act.put_comm a v u r,he]
   have U:∀(a:Act) (d:Deferred),CX P ops C c v a->CX P ops C c v {a with defers:=d::a.defers}:=fun a d h w hw=>by
    obtain⟨v1,hv1,he⟩:=h w hw;have I:execOp ({a with defers:=d::a.defers}:Act).eval c=execOp a.eval c:=rfl;refine⟨v1,hv1.of_same I rfl,?_⟩;rw[<-Act.put_defers,<-Act.put_defers,he]
   have h2:=Vs q p A (fun cs b=>z j g cs b q) keep U hy h1;have J:∀k ok,ops[k]? =some ok->k≠i->(listed.setIfInBounds j true).getD k true=false->
    (∀e∈ok.after,Region.binds md e=true->e.on≠i)->c.apart ops ok=true:=fun k ok L M B O=>by
    refine s k ok L M ?_ O;by_cases t:j=k
    .subst t;exact y
    .rw[getD_set_ne true t] at B;exact B
   refine TU (fun D w' h3=>⟨h3.2.1,T (listed.setIfInBounds j true) D w' (inv.set hj x) J (ready_mono l (Ne.symm hji)) (h3.2.1 x) h3.1 ?_⟩) h2;rw[Array.setIfInBounds_comm _ _ hji];exact h3.2.2
theorem JG{n k f:Nat}{Q:Act->World->Prop}{listed:Array Bool}{a:Act}{w:World}(c:Region.ready md ops listed=[k])(h:uZ P ops k (fun d w'=>(k<n->C w')/\pB P md ops C n Q f (listed.setIfInBounds k true) d w') a w):pB P md ops C n Q (f+1) listed a w:=
 ⟨fun h0=>(by rw[c] at h0;cases h0),fun i b=>(by rw[c,List.mem_singleton] at b;subst b;exact h)⟩
def rd(P:Program)(ops:Array Oper)(o:Oper)(a:Act)(w:World)(K:Act->Prop):Prop:=if Region.wanted o (yielded ops a.tmps)=true then o.still P a w K else K (a.put o.dst undef)
def mv(P:Program)(ops:Array Oper)(o:Oper)(a:Act)(w:World)(K:Act->World->Prop):Prop:=if Region.wanted o (yielded ops a.tmps)=true then o.wp P a w K Tk else K (a.put o.dst undef) w
def cK(P:Program)(ops:Array Oper)(C:World->Prop)(n:Nat)(Q:Act->World->Prop):List (Nat×Bool)->Act->World->Prop
 | [],a,w=>Q a w
 |(k,false)::r,a,w=>match ops[k]? with
  |none=>False
  |some o=>rd P ops o a w (fun b=>(∀w1,C w1->rd P ops o a w1 (fun c=>c=b))/\cK P ops C n Q r b w)
 |(k,true)::r,a,w=>match ops[k]? with
  |none=>False
  |some o=>mv P ops o a w (fun b w'=>(k<n->C w')/\cK P ops C n Q r b w')
def FC(md:Region.Mode)(ops:Array Oper):List (Nat×Bool)->Array Bool->Bool
 | [],listed=>(Region.ready md ops listed).isEmpty
 |(k,fl)::r,listed=>fl&&(Region.ready md ops listed==[k])&&FC md ops r (listed.setIfInBounds k true)
def FD(md:Region.Mode)(ops:Array Oper)(n:Nat)(T:List (Nat×Bool)):List (Nat×Bool)->Array Bool->Bool
 | [],listed=>FC md ops T listed
 |(k,fl)::r,listed=>(if fl=true then Region.ready md ops listed==[k] else (Region.ready md ops listed).contains k&&Region.free md ops listed k)&&decide (k<n)&&FD md ops n T r (listed.setIfInBounds k true)
def Tl(md:Region.Mode)(ops:Array Oper)(n:Nat)(H T:List (Nat×Bool)):Bool:=
 Region.noSelect ops&&decide (n<ops.size)&&Region.sinkB md ops n&&Region.chainB md ops n&&decide (H.length+T.length=ops.size)&&FD md ops n T H (Array.replicate ops.size false)
theorem FE{k:Nat}{o:Oper}(h:ops[k]? =some o){a:Act}{w:World}{K:Act->Prop}:stOp P ops w k K a↔rd P ops o a w K:=by unfold stOp rd;simp only[h]
theorem CY{n:Nat}{Q:Act->World->Prop}:∀(T:List (Nat×Bool)) (listed:Array Bool) (a:Act) (w:World),FC md ops T listed=true->cK P ops C n Q T a w->pB P md ops C n Q T.length listed a w
 | [],listed,a,w,hB,h=>⟨by simpa [FC] using hB,h⟩
 |(k,false)::r,listed,a,w,hB,h=>by simp[FC] at hB
 |(k,true)::r,listed,a,w,hB,h=>by
  simp only[FC,Bool.and_eq_true,bQ,true_and] at hB;refine JG hB.1 ?_;unfold cK at h;unfold uZ
  cases c:ops[k]? with
  |none=>simp only[c] at h
  |some o=>
   simp only[c] at h ⊢;unfold mv at h;split
   .rename_i hw;rw[iP hw] at h;exact tC (fun d w' b=>⟨b.1,CY r _ d w' hB.2 b.2⟩) h
   .rename_i hw;rw[iN hw] at h;exact⟨h.1,CY r _ _ w hB.2 h.2⟩
theorem uE{n:Nat}{Q:Act->World->Prop}{T:List (Nat×Bool)}(l:Region.noSelect ops=true)(j:Region.sinkB md ops n=true)(e:Region.chainB md ops n=true)(f:n<ops.size):∀(H:List (Nat×Bool)) (listed:Array Bool) (a:Act) (w:World),HeadInv md ops n listed->C w->FD md ops n T H listed=true->cK P ops C n Q (H++T) a w->pB P md ops C n Q (H.length+T.length) listed a w
 | [],listed,a,w,inv,hw,hB,h=>by
   rw[List.length_nil,Nat.zero_add];exact CY T listed a w hB h
 |(k,true)::r,listed,a,w,inv,hw,hB,h=>by
  simp only[FD,if_true,Bool.and_eq_true,bQ,decide_eq_true_eq] at hB;obtain⟨⟨g,c⟩,d⟩:=hB;rw[List.length_cons,show r.length+1+T.length=(r.length+T.length)+1 by omega];refine JG g ?_;have s:=inv.set (i:=k) (by rw[g];exact List.mem_singleton.2 rfl) c;rw[List.cons_append] at h;unfold cK at h;unfold uZ
  cases b:ops[k]? with
  |none=>simp only[b] at h
  |some o=>
   simp only[b] at h ⊢;unfold mv at h;split
   .rename_i p;rw[iP p] at h;exact tC (fun t w' m=>⟨m.1,uE l j e f r _ t w' s (m.1 c) d m.2⟩) h
   .rename_i p;rw[iN p] at h;exact⟨h.1,uE l j e f r _ _ w s (h.1 c) d h.2⟩
 |(k,false)::r,listed,a,w,inv,hw,hB,h=>by
  simp only[FD,Bool.false_eq_true,if_false,Bool.and_eq_true,decide_eq_true_eq] at hB;obtain⟨⟨⟨g,x⟩,c⟩,d⟩:=hB;have q:k∈Region.ready md ops listed:=by simpa using g
  rw[List.length_cons,show r.length+1+T.length=(r.length+T.length)+1 by omega];rw[List.cons_append] at h;unfold cK at h
  cases b:ops[k]? with
  |none=>simp only[b] at h
  |some o=>
   simp only[b] at h;obtain⟨v,z,h1,h2⟩:=yieldsAt_of_stOp b ((FE b).2 h);exact KR b (Region.noSelect_spec l) j e f c _ listed a w inv (Region.free_spec b x) q hw
    (fun w1 y=>yieldsAt_of_stOp b ((FE b).2 (h1 w1 y)))
    (uE l j e f r _ _ w (inv.set q c) hw d h2)
theorem cF{id:Nat}{a:Act}{w:World}{l:List Oper}(n:Nat)(H T:List (Nat×Bool))(C:World->Prop)(hm:P.follows .mixedOrders=true)(c:Tl .any l.toArray n H T=true)(hC:C w.drew)
 (h:cK P l.toArray C n (fun a w=>Q .normal a w) (H++T) a w.drew):(Code.region id l.toArray true).wp P Q a w:=by
 simp only[Tl,Bool.and_eq_true,decide_eq_true_eq] at c;obtain⟨⟨⟨⟨⟨i,f⟩,g⟩,e⟩,b⟩,d⟩:=c;have m:HeadInv .any l.toArray n (Array.replicate l.toArray.size false):=
  ⟨qs,fun j o _ b=>(by rw[getD_replicate_false] at b;cases b),fun t _ k=>getD_in (by simpa using k) (getD_replicate_false _ _)⟩
 have h1:=uE (md:= .any) i g e f H _ a w.drew m hC d h;rw[b] at h1;exact wp_region_any hm (xZ _ _ _ _ h1)
theorem dK{n k:Nat}{Q:Act->World->Prop}{r:List (Nat×Bool)}{a:Act}{w:World}{o:Oper}(d:ops[k]? =some o)(h:∀K:Act->Prop,(∀b,(∀w1,C w1->rd P ops o a w1 (fun c=>c=b))->cK P ops C n Q r b w->K b)->rd P ops o a w K):cK P ops C n Q ((k,false)::r) a w:=by
 unfold cK;simp only[d];exact h _ (fun b h1 h2=>⟨h1,h2⟩)
theorem bK{n k:Nat}{Q:Act->World->Prop}{r:List (Nat×Bool)}{a:Act}{w:World}{o:Oper}(c:ops[k]? =some o)(h:∀K:Act->World->Prop,(∀b w',(k<n->C w')->cK P ops C n Q r b w'->K b w')->mv P ops o a w K):cK P ops C n Q ((k,true)::r) a w:=by
 unfold cK;simp only[c];exact h _ (fun b w' h1 h2=>⟨h1,h2⟩)
end
end Go.Proofs.YtheabjeppmdmiaaGreatDoor
