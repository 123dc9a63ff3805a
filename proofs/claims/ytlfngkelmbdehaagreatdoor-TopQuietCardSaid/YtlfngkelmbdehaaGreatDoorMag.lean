/- Lemmas. -/
import Derived.Test.YtlfngkelmbdehaaGreatDoorMaf
import Derived.Deep.RegionHeld3
import Derived.Deep.RegionLaw
import Derived.Deep.Cut
import Derived.Deep.CutRange
import Derived.Deep.DeepCutAuto
import Derived.Deep.CutBlock
namespace Go.Proofs.YtlfngkelmbdehaaGreatDoor
open Go.RowKit
set_option linter.unusedVariables false
set_option linter.unusedSimpArgs false
set_option maxHeartbeats 16000000
open _root_.Go.Proofs.Tryz
set_option maxRecDepth 20000
namespace Pv
theorem Bn(w:World)(x y z:Value)(t:TypeId):(w.alloc (.cells #[x,y,z] t)).cell? ⟨w.heap.size,0,none⟩=some x/\(w.alloc (.cells #[x,y,z] t)).cell? ⟨w.heap.size,1,none⟩=some y/\(w.alloc (.cells #[x,y,z] t)).cell? ⟨w.heap.size,2,none⟩=some z:=
 ⟨vN w _ _ _ 0 _ rfl,vN w _ _ _ 1 _ rfl,vN w _ _ _ 2 _ rfl⟩
def CC(v:V3):List UInt8:=nE v.1++(if v.1=3\/v.1=5 then uQ v.2.2.data.toList else nE v.2.1)
def Xb(v:V3):Prop:=bK v.1/\bK v.2.1/\v.2.2.size<=1000000
theorem Gi{v:V3}(h:v.1=3\/v.1=5):CC v=nE v.1++uQ v.2.2.data.toList:=by unfold CC;rw[iP h]
theorem Nc{v:V3}(h:¬(v.1=3\/v.1=5)):CC v=nE v.1++nE v.2.1:=by unfold CC;rw[iN h]
theorem NV(k:Int)(w:World):Calls prog 157 #[.int .i64 k] w fun e w'=>e=.returned (.bool (decide (k=3\/k=5)))/\w=w':=by
 by_cases h1:k=3
 .have HF:Hid (decide (k=3\/k=5)=true):=aA (dX (.inl h1));have b1:(k==3)=true:=bQ.2 h1;go_enter func157,ntmps157;exact YV
 .have b1:(k==3)=false:=bN.2 h1;by_cases h2:k=5
  .have HF:Hid (decide (k=3\/k=5)=true):=aA (dX (.inr h2));have b2:(k==5)=true:=bQ.2 h2;go_enter func157,ntmps157;exact YV
  .have HF:Hid (decide (k=3\/k=5)=false):=aA (dF (fun h=>h.elim h1 h2));have b2:(k==5)=false:=bN.2 h2;go_enter func157,ntmps157;exact YV
theorem pZ{w:World}{l:lU}{e:Ending}{w':World}(h:oK w l e w'):∃A c,e=.returned (.slice A l.length c)/\Sl w' w'.heap.size A (bF l)/\w'.ownsRow w.heap.size 5 1 (.slice A l.length c) l.length (bF l)/\Below w.heap.size w w':=by
 obtain⟨v,rfl,a,b⟩:=h;obtain⟨A,c,rfl,_,d,_⟩:=lH a;exact⟨A,c,rfl,d,a,b⟩
theorem Nd(a:oD)(c n:Nat)(l:lU)(G:l.length=n)(v:V3)(j:Xb v)(w:World)(I:l.length<=100000000)(H:Sl w w.heap.size a (bF l)):
 Calls prog 139 #[.slice a n c,.agg #[.int .i64 v.1,.int .i64 v.2.1,.string v.2.2]] w (oK w (l++CC v)):=by
 have C:=aB w (.cells #[.int .i64 v.1,.int .i64 v.2.1,.string v.2.2] 44);have t:=aA (DX a c n v.1 l G _ j.1.1 j.1.2 qo (H.on C));obtain⟨z0,s,z2⟩:=Bn w (.int .i64 v.1) (.int .i64 v.2.1) (.string v.2.2) 44;have f:w.heap.size<(w.alloc (.cells #[.int .i64 v.1,.int .i64 v.2.1,.string v.2.2] 44)).heap.size:=by simp
 have g:=aA C;have B:=aA j;have h10:=sK v.1 j.1.1 j.1.2;have F:Hid ((l++nE v.1).length<=100000010):=aA (by rw[aL];omega);clear H G I C j h10;by_cases i:v.1=3\/v.1=5
 .have y:Hid (l++CC v=(l++nE v.1)++uQ v.2.2.data.toList):=aA (by rw[Gi i,List.append_assoc]);have b:=NV v.1;rw[dX i] at b;have b:=aA b;clear i;generalize l++nE v.1=T at *;obtain⟨v0,v1,v2⟩:=v;simp only at z0 s z2 b g f;go_enter func139,ntmps139;go_wp2_with fail;refine t.o.mono ?_;intro e w1 h;obtain⟨A,c1,rfl,r,D,d⟩:=pZ h;have E:=(d.cell (p:=⟨w.heap.size,0,none⟩) f).trans z0;have K:=(d.cell (p:=⟨w.heap.size,2,none⟩) f).trans z2;have k:=qB g d;have m:=aA (RU A c1 T.length v2 T rfl w1 (by have:=B.o.2.2;simp only at this;omega) (qA F.o) r);clear t h r D d z0 s z2 f g;go_wp2_with (go_at_call 157;refine(b.o w1).mono ?_;rintro e w' ⟨rfl,rfl⟩;clear b)
  refine m.o.mono ?_;rintro e w2 ⟨v,rfl,q,o⟩;have z:=aA (sL q k.o.size);have x:=qB k o;clear m q o E K;go_wp2;go_ret;exact⟨_,rfl,by rw[y.o];exact z.o,x.o⟩
 .have y:Hid (l++CC v=(l++nE v.1)++nE v.2.1):=aA (by rw[Nc i,List.append_assoc]);have b:=NV v.1;rw[dF i] at b;have b:=aA b;clear i;generalize l++nE v.1=T at *;obtain⟨v0,v1,v2⟩:=v;simp only at z0 s z2 b g f;go_enter func139,ntmps139;go_wp2_with fail;refine t.o.mono ?_;intro e w1 h;obtain⟨A,c1,rfl,r,D,d⟩:=pZ h;have E:=(d.cell (p:=⟨w.heap.size,0,none⟩) f).trans z0;have J:=(d.cell (p:=⟨w.heap.size,1,none⟩) f).trans s;have k:=qB g d;have m:=aA (DX A c1 T.length v1 T rfl w1 B.o.2.1.1 B.o.2.1.2 (qA F.o) r);clear t h r D d z0 s z2 f g;go_wp2_with (go_at_call 157;refine(b.o w1).mono ?_;rintro e w' ⟨rfl,rfl⟩;clear b)
  refine m.o.mono ?_;rintro e w2 ⟨v,rfl,q,o⟩;have z:=aA (sL q k.o.size);have x:=qB k o;clear m q o E J;go_wp2;go_ret;exact⟨_,rfl,by rw[y.o];exact z.o,x.o⟩
end Pv
structure Op where
 aCF:Int
 aCT:ByteArray
 aCK:ByteArray
 aCY:ByteArray
 to_:ByteArray
 val:V3
 aC0:Int
 text:ByteArray
 aC2:ByteArray
 aC7:Bool
deriving DecidableEq
def SL:Op:=⟨0,ByteArray.empty,ByteArray.empty,ByteArray.empty,ByteArray.empty,bD,0,ByteArray.empty,ByteArray.empty,false⟩
structure tS where
 aCN:Int
 aDd:ByteArray
 aDL:ByteArray
deriving DecidableEq
structure cF where
 id:ByteArray
 aC6:ByteArray
 aCZ:ByteArray
 aCJ:List (ByteArray×V3)
 log:List tS
deriving DecidableEq
structure vQ where
 id:Int
 aCN:Int
 aCT:ByteArray
 aCK:ByteArray
 action:ByteArray
 aC2:ByteArray
 open_:Bool
deriving DecidableEq
structure xL where
 aCN:Int
 aCK:ByteArray
 arg:ByteArray
deriving DecidableEq
structure Sto where
 aCN:Int
 aCD:List cF
 aCG:List vQ
 aCL:List xL
 aCR:List (ByteArray×ByteArray)
 aCE:Po
 aCQ:Int
def wP:ByteArray:=⟨#[112,111,108,105,99,121,32,111,112,101,110,32,112,101,114,109,105,116,117,110,108,101,115,115,32,123,32,125]⟩
def mN:Sto:=⟨0,[],[],[],[],(fD wP).1,0⟩
def gR(a b:bY):Bool:=decide (¬b.toList<a.toList)
def aW(s:Sto)(id:bY):Nat×Bool:=
 let i:=s.aCD.findIdx (fun c=>gR id c.id)
 if i<s.aCD.length then (i,decide (((s.aCD[i]?).map (·.id))=some id)) else (s.aCD.length,false)
def eR(s:Sto)(id:bY):Option cF:=if (aW s id).2 then s.aCD[(aW s id).1]? else none
def rQ(s:Sto)(subject role:bY):Bool:=s.aCR.any (fun r=>decide (r=(subject,role)))
def gH(c:cF)(name:bY):V3:=((c.aCJ.find? (fun f=>decide (f.1=name))).map (·.2)).getD bD
def zI:ByteArray:=str "open"
def uT:ByteArray:=str "work"
def EF:ByteArray:=str "done"
def nZ:ByteArray:=str "closed"
def gV(a b:bY):Bool:=
 if a=zI then decide (b=uT) else if a=uT then decide (b=EF) else if a=EF then decide (b=uT)||decide (b=nZ) else false
def xM:List ByteArray:=["new","read","write","move","close","role","policy"].map str
def cJ(kind:Int):ByteArray:=if kind<1\/7<kind then str "tick" else (xM[(kind - 1).toNat]?).getD (str "tick")
def mO(s:bY):Bool:=decide (s.size=0)||eL s
def oA(o:Op):Bool:=
 if o.aC7=false then decide (o.aC2.size=0) else (decide (1<=o.aCF/\o.aCF<=4)&&(decide (o.aC2.size≠0)&&decide (o.aC2.size<=64)))
def RH(o:Op):Op:={o with aCT:=ByteArray.empty,aC2:=ByteArray.empty,aC7:=false}
def fU(o:Op):Bool:=
 let b:=RH o
 let k:={SL with aCF:=o.aCF}
 if o.aCF=1 then decide (o.aCK.size≠0)&&decide (b={k with aCK:=o.aCK})
 else if o.aCF=2\/o.aCF=6 then (decide (o.aCK.size≠0)&&decide (o.aCY.size≠0))&&decide (b={k with aCK:=o.aCK,aCY:=o.aCY})
 else if o.aCF=3 then ((decide (o.aCK.size≠0)&&decide (o.aCY.size≠0))&&decide (o.val≠bD))&&decide (b={k with aCK:=o.aCK,aCY:=o.aCY,val:=o.val})
 else if o.aCF=4 then (decide (o.aCK.size≠0)&&decide (o.to_.size≠0))&&decide (b={k with aCK:=o.aCK,to_:=o.to_})
 else if o.aCF=5 then decide (0<o.aC0)&&decide (b={k with aC0:=o.aC0})
 else if o.aCF=7 then decide (b={k with text:=o.text})
 else if o.aCF=8 then (decide (0<o.aC0)&&decide (o.aC0<=1099511627776))&&decide (b={k with aC0:=o.aC0})
 else false
def gO(o:Op):Bool:=
 if eL o.aCT=false\/oA o=false\/4096<o.text.size then false
 else if mO o.aCK=false\/mO o.aCY=false\/mO o.to_=false\/(o.val≠bD/\aT o.val=false) then false
 else fU o
def iF(s:Sto)(o:Op):Int:=
 match eR s o.aCK with
 |none=>10
 |some c=>
  if o.aCF=3/\16<=c.aCJ.length/\gH c o.aCY=bD then 6
  else if o.aCF≠2/\256<=c.log.length then 6
  else if (o.aCF=3/\c.aCZ=nZ)\/(o.aCF=4/\gV c.aCZ o.to_=false) then 13
  else 0
def iQ(s:Sto)(o:Op):Int:=
 if (s.aCG.length:Int)<o.aC0 then 10
 else match s.aCG[(o.aC0 - 1).toNat]? with
  |none=>10
  |some r=>if r.open_=false then 10 else if r.aCT=o.aCT then 12 else 0
def dR(s:Sto)(o:Op):Int:=
 if gO o=false then 1
 else if o.aCF=1 then (if (aW s o.aCK).2 then 11 else if 64<=s.aCD.length then 6 else 0)
 else if o.aCF=2\/o.aCF=3\/o.aCF=4 then iF s o
 else if o.aCF=5 then iQ s o
 else if o.aCF=6 then (if 64<=s.aCR.length/\rQ s o.aCK o.aCY=false then 6 else 0)
 else if o.aCF=8 then (if 1099511627776 - o.aC0<s.aCN then 6 else 0)
 else 0
def CD(s:bY):V3:=(5,0,s)
def rR(cat:Int)(name:String)(bag:List V3):Gv:=(cat,str name,bag)
def nI(c:cF)(subject:bY):List Gv:=
 [rR 3 "id" [CD c.id],rR 3 "owner" [CD c.aC6],rR 3 "state" [CD c.aCZ],rR 3 "events" [(2,c.log.length,ByteArray.empty)],
   rR 3 "took" [cH (c.log.any (fun h=>decide (h.aDd=subject)))]]
 ++(match c.log.getLast? with |some h=>[rR 3 "last" [CD h.aDd]]|none=>[])
 ++((c.aCJ.filter (fun f=>decide (f.1.size<=14))).map (fun f=>((3,str "f_"++f.1,[f.2]):Gv)))
def pT(s:Sto)(o:Op):List Gv:=
 [rR 1 "id" [CD o.aCT],rR 1 "role" (((s.aCR.filter (fun r=>decide (r.1=o.aCT))).take 16).map (fun r=>CD r.2)),rR 2 "name" [CD (cJ o.aCF)]]
 ++(if o.aCY.size≠0 then [rR 2 "field" [CD o.aCY]] else [])
 ++(if o.to_.size≠0 then [rR 2 "to" [CD o.to_]] else [])
 ++[rR 4 "now" [(4,s.aCN,ByteArray.empty)]]
 ++(match eR s o.aCK with |some c=>if o.aCF≠6 then nI c o.aCT else []|none=>[])
def oC(s:Sto)(c:cF)(actor what:bY):cF:={c with log:=c.log++[⟨s.aCN,actor,what⟩]}
def nT(c:cF)(name:bY)(v:V3):cF:=
 let i:=c.aCJ.findIdx (fun f=>gR name f.1)
 match c.aCJ[i]? with
 |none=>{c with aCJ:=c.aCJ++[(name,v)]}
 |some f=>if f.1=name then {c with aCJ:=c.aCJ.set i (name,v)} else {c with aCJ:=c.aCJ.take i++[(name,v)]++c.aCJ.drop i}
def fE(s:Sto)(i:Nat)(f:cF->cF):Sto:={s with aCD:=match s.aCD[i]? with |some c=>s.aCD.set i (f c)|none=>s.aCD}
def dJ(s:Sto)(o:Op):Sto:=
 if dR s o≠0 then s
 else
  let i:=(aW s o.aCK).1
  if o.aCF=1 then {s with aCD:=s.aCD.take i++[oC s ⟨o.aCK,o.aCT,zI,[],[]⟩ o.aCT (str "new")]++s.aCD.drop i}
  else if o.aCF=3 then fE s i (fun c=>oC s (nT c o.aCY o.val) o.aCT (str "write"))
  else if o.aCF=4 then fE s i (fun c=>oC s {c with aCZ:=o.to_} o.aCT o.to_)
  else if o.aCF=5 then {s with aCG:=match s.aCG[(o.aC0 - 1).toNat]? with |some r=>s.aCG.set (o.aC0 - 1).toNat {r with open_:=false} |none=>s.aCG}
  else if o.aCF=6 then (if rQ s o.aCK o.aCY then s else {s with aCR:=s.aCR++[(o.aCK,o.aCY)]})
  else if o.aCF=7 then (if (fD o.text).2.1=0 then {s with aCE:=(fD o.text).1,aCQ:=s.aCQ+1} else s)
  else if o.aCF=8 then {s with aCN:=s.aCN+o.aC0}
  else s
def NX:ByteArray:=str "glass"
def RI(s:Sto)(subject:bY):Bool:=s.aCG.any (fun r=>decide (r.aCT=subject)&&(r.open_&&decide (100<=s.aCN - r.aCN)))
def kS(s:Sto)(o:Op)(m:Mk):Bool:=o.aC7&&((decide (m=(0,4))||decide (m=(0,0)))&&(rQ s o.aCT NX&& !RI s o.aCT))
def gA(s:Sto)(o:Op)(reason:bY):Sto:={s with aCG:=s.aCG++[⟨s.aCG.length+1,s.aCN,o.aCT,o.aCK,cJ o.aCF,reason,true⟩]}
def lO(s:Sto)(o:Op)(what:bY):Sto:=
 let i:=s.aCD.findIdx (fun c=>decide (c.id=o.aCK))
 if i<s.aCD.length/\o.aCF≠6 then fE s i (fun c=>oC s c o.aCT what) else s
def cW(o:Op)(done:Bool)(s:Sto)(x:Ob):Sto:=
 if x.aCF=1/\done=true then lO s o x.arg
 else if x.aCF=3 then gA s o x.arg
 else if x.aCF=4 then {s with aCL:=s.aCL++[⟨s.aCN,o.aCK,x.arg⟩]}
 else s
def qJ(s:Sto):Bool:=decide (256<s.aCG.length)||(decide (256<s.aCL.length)||s.aCD.any (fun c=>decide (256<c.log.length)))
structure Rpl where
 err:Int
 mark:Mk
 aC7:Bool
 val:V3
 hidden:Bool
 at_:Int
def qL:Rpl:=⟨0,(0,0),false,bD,false,0⟩
structure Deci where
 op:Op
 aCQ:Int
 mark:Mk
 aC7:Bool
 aCU:List Ob
def dE(s:Sto)(o:Op):Sto×Rpl×Option Deci×Int:=
 let e:=dR s o
 let a:Int×Int:=if e=0/\o.aCF=7 then (fD o.text).2 else (e,0)
 if a.1≠0 then (s,{qL with err:=a.1,at_:=a.2},none,a.1)
 else
  let (r,e2):=iE (pT s o) s.aCE
  if e2≠0 then (s,{qL with err:=e2,at_:=a.2},none,e2)
  else
   let glass:=kS s o r.1
   let done:=decide (r.1=(4,0))||glass
   let b:=if glass then gA s o o.aC2 else s
   let f:=if done then dJ b o else b
   let hidden:=done&&(decide (o.aCF=2)&&r.2.any (fun x=>decide (x.aCF=2)&&decide (x.arg=o.aCY)))
   let val:=if done&&(decide (o.aCF=2)&& !hidden) then ((eR s o.aCK).map (fun c=>gH c o.aCY)).getD bD else bD
   let d:=r.2.foldl (cW o done) f
   if qJ d then (s,{qL with err:=6,at_:=a.2},none,6)
   else (d,⟨if done then 0 else 12,r.1,glass,val,hidden,0⟩,some ⟨o,s.aCQ,r.1,glass,r.2⟩,0)
def cN(l:lU):List UInt8×List UInt8:=(l.takeWhile (fun c=>decide (c.toNat≠32)),(l.dropWhile (fun c=>decide (c.toNat≠32))).drop 1)
def oQ(l:lU):Option V3:=
 match jL l with
 |([t,_],0,_)=>
  if t.aCF=2 then some (2,t.num,t.str) else if t.aCF=3 then some (4,t.num,t.str) else if t.aCF=4 then some (5,t.num,t.str)
  else if t.aCF=5 then some (3,t.num,t.str)
  else if t.aCF=1 then (if t.str=str "true" then some (1,1,ByteArray.empty) else if t.str=str "false" then some (1,0,ByteArray.empty) else none)
  else none
 |_=>none
def jE(l:lU):Int:=if l=[]\/9<l.length\/l.head?=some 48\/l.all bA=false then 0 else (pQ l:Int)
def oG(w:lU):Int:=let i:=(xM++[str "tick"]).findIdx (fun x=>decide (x=bs w));if i<8 then (i:Int)+1 else 0
def jU(a:lU):Bool×List UInt8×List UInt8:=match a with
 |33 ::r=>(true,(cN r).1,(cN r).2)
 |r=>(false,[],r)
def kU(l:lU):Option Op:=
 let (subj,r0):=cN l
 let (glass,reason,r1):=jU r0
 let (w,r2):=cN r1
 let k:=oG w
 let base:Op:={SL with aCF:=k,aCT:=bs subj,aC2:=bs reason,aC7:=glass}
 let o:Option Op:=
  if k=1 then some {base with aCK:=bs r2}
  else if k=2\/k=6 then some {base with aCK:=bs (cN r2).1,aCY:=bs (cN r2).2}
  else if k=3 then (oQ (cN (cN r2).2).2).map (fun v=>{base with aCK:=bs (cN r2).1,aCY:=bs (cN (cN r2).2).1,val:=v})
  else if k=4 then some {base with aCK:=bs (cN r2).1,to_:=bs (cN r2).2}
  else if k=5\/k=8 then some {base with aC0:=jE r2}
  else if k=7 then some {base with text:=bs r2}
  else some base
 match o with
 |some o=>if gO o then some o else none
 |none=>none
theorem QDj{p:Prop}(h:p:=by
 go_wp2;refine bR (.agg #[.int .i64 1,.int .i64 1,.string ⟨#[]⟩]) ?_;exact⟨rfl,HBE.o _ _⟩):p:=h
theorem QDi{p:Prop}(h:p:=by
 go_wp2;refine bR (.agg #[.int .i64 1,.int .i64 0,.string ⟨#[]⟩]) ?_;exact⟨rfl,HBE.o _ _⟩):p:=h
abbrev pO:=ByteArray×V3
abbrev wQ:=ByteArray×ByteArray
def vG(h:tS):Prop:=bK h.aCN/\h.aDd.size<=cP/\h.aDL.size<=cP
def CE(h:tS):List Value:=[.int .i64 h.aCN,.string h.aDd,.string h.aDL]
def EG(f:pO):Prop:=f.1.size<=cP/\cR f.2
def tT(f:pO):List Value:=[.string f.1,.int .i64 f.2.1,.int .i64 f.2.2.1,.string f.2.2.2]
def EH(r:vQ):Prop:=bK r.id/\bK r.aCN/\r.aCT.size<=cP/\r.aCK.size<=cP/\r.action.size<=cP/\r.aC2.size<=cP
def JQ(r:vQ):List Value:=[.int .i64 r.id,.int .i64 r.aCN,.string r.aCT,.string r.aCK,.string r.action,.string r.aC2,.bool r.open_]
def EI(n:xL):Prop:=bK n.aCN/\n.aCK.size<=cP/\n.arg.size<=cP
def JR(n:xL):List Value:=[.int .i64 n.aCN,.string n.aCK,.string n.arg]
def MC(r:wQ):Prop:=r.1.size<=cP/\r.2.size<=cP
def SM(r:wQ):List Value:=[.string r.1,.string r.2]
def mP:Rep tS:=mG CE vG
def lC:Rep pO:=mG tT EG
def sQ:Rep vQ:=mG JQ EH
def vR:Rep xL:=mG JR EI
def qQ:Rep wQ:=mG SM MC
theorem cC:Firm mP 3:=gC (fun _=>rfl) (fun x v h=>by simp only[CE,List.mem_cons,List.not_mem_nil,or_false] at h;rcases h with rfl|rfl|rfl<;>rfl)
theorem bP:Firm lC 4:=gC (fun _=>rfl) (fun x v h=>by simp only[tT,List.mem_cons,List.not_mem_nil,or_false] at h;rcases h with rfl|rfl|rfl|rfl<;>rfl)
theorem cS:Firm sQ 7:=gC (fun _=>rfl) (fun x v h=>by simp only[JQ,List.mem_cons,List.not_mem_nil,or_false] at h;rcases h with rfl|rfl|rfl|rfl|rfl|rfl|rfl<;>rfl)
theorem dZ:Firm vR 3:=gC (fun _=>rfl) (fun x v h=>by simp only[JR,List.mem_cons,List.not_mem_nil,or_false] at h;rcases h with rfl|rfl|rfl<;>rfl)
theorem cZ:Firm qQ 2:=gC (fun _=>rfl) (fun x v h=>by simp only[SM,List.mem_cons,List.not_mem_nil,or_false] at h;rcases h with rfl|rfl<;>rfl)
def oR(w:World)(ok:nP)(c:cF)(a b:Value):Prop:=c.id.size<=cP/\c.aC6.size<=cP/\c.aCZ.size<=cP/\aH lC w ok a c.aCJ/\aH mP w ok b c.log
def pU:Rep cF:=fun w ok cs c=>∃a b,cs=[.string c.id,.string c.aC6,.string c.aCZ,a,b]/\oR w ok c a b
theorem oR.aCM{w w':World}{ok:nP}{c:cF}{b d:Value}(h:oR w ok c b d)(a:aN ok w w'):oR w' ok c b d:=⟨h.1,h.2.1,h.2.2.1,aH.aCM bP h.2.2.2.1 a,aH.aCM cC h.2.2.2.2 a⟩
theorem oR.more{w:World}{ok ok':nP}{c:cF}{d e:Value}(h:oR w ok c d e)(a:∀b,ok b->ok' b):oR w ok' c d e:=⟨h.1,h.2.1,h.2.2.1,aH.more bP h.2.2.2.1 a,aH.more cC h.2.2.2.2 a⟩
theorem oR.inb{w:World}{ok:nP}{c:cF}{a d:Value}(h:oR w ok c a d):oR w (fun b=>ok b/\b<w.heap.size) c a d:=⟨h.1,h.2.1,h.2.2.1,aH.inb bP h.2.2.2.1,aH.inb cC h.2.2.2.2⟩
theorem dS:Firm pU 5:={
 aCM:=fun⟨a,b,e,h⟩ d=>⟨a,b,e,h.aCM d⟩
 more:=fun⟨a,b,e,h⟩ f=>⟨a,b,e,h.more f⟩
 len:=fun⟨a,b,e,h⟩=>by rw[e];rfl
 one:=fun⟨a,b,e,h⟩=>by
  intro v c;rw[e] at c;simp only[List.mem_cons,List.not_mem_nil,or_false] at c
  rcases c with rfl|rfl|rfl|rfl|rfl
  .rfl
  .rfl
  .rfl
  .exact kR h.2.2.2.1
  .exact kR h.2.2.2.2
 inb:=fun⟨a,b,e,h⟩=>⟨a,b,e,h.inb⟩}
def FL(w:World)(ok:nP)(g:Gv)(vb:Value):Prop:=bK g.1/\g.2.1.size<=cP/\aH VR w ok vb g.2.2
def jM:Rep Gv:=fun w ok cs g=>∃vb,cs=[.int .i64 g.1,.string g.2.1,vb]/\FL w ok g vb
theorem FL.aCM{w w':World}{ok:nP}{g:Gv}{vb:Value}(h:FL w ok g vb)(a:aN ok w w'):FL w' ok g vb:=⟨h.1,h.2.1,aH.aCM bG h.2.2 a⟩
theorem FL.more{w:World}{ok ok':nP}{g:Gv}{vb:Value}(h:FL w ok g vb)(a:∀b,ok b->ok' b):FL w ok' g vb:=⟨h.1,h.2.1,aH.more bG h.2.2 a⟩
theorem FL.inb{w:World}{ok:nP}{g:Gv}{vb:Value}(h:FL w ok g vb):FL w (fun b=>ok b/\b<w.heap.size) g vb:=⟨h.1,h.2.1,aH.inb bG h.2.2⟩
theorem bZ:Firm jM 3:={
 aCM:=fun⟨vb,e,h⟩ b=>⟨vb,e,h.aCM b⟩
 more:=fun⟨vb,e,h⟩ c=>⟨vb,e,h.more c⟩
 len:=fun⟨vb,e,h⟩=>by rw[e];rfl
 one:=fun⟨vb,e,h⟩=>by
  intro v a;rw[e] at a;simp only[List.mem_cons,List.not_mem_nil,or_false] at a
  rcases a with rfl|rfl|rfl
  .rfl
  .rfl
  .exact kR h.2.2
 inb:=fun⟨vb,e,h⟩=>⟨vb,e,h.inb⟩}
def MD(v:Value):Prop:=∀a n c,v=.slice a n c->n<=c
theorem II:MD (.slice none 0 0):=fun a n c e=>by injection e with _ b d;omega
structure eY (w:World) (ok:Nat->Prop) (s:Sto) (vc vr vn vo vt vu vk vb:Value):Prop where
 aCN:bK s.aCN
 aCQ:bK s.aCQ
 aCD:aH pU w ok vc s.aCD
 aCG:aH sQ w ok vr s.aCG
 aCL:aH vR w ok vn s.aCL
 aCR:aH qQ w ok vo s.aCR
 aCE:fK 3 w ok s.aCE vt vu vk vb
 aDF:MD vr/\MD vn/\MD vo
def aV(s:Sto)(vc vr vn vo vt vu vk vb:Value):Array Value:=#[.int .i64 s.aCN,vc,vr,vn,vo,.string s.aCE.id,.bool s.aCE.set,.int .i64 s.aCE.alg,vt,vu,vk,vb,.int .i64 s.aCQ]
theorem eY.aCM{w w':World}{ok:nP}{s:Sto}{vc vr vn vo vt vu vk vb:Value}(h:eY w ok s vc vr vn vo vt vu vk vb)(a:aN ok w w'):eY w' ok s vc vr vn vo vt vu vk vb:=
 ⟨h.aCN,h.aCQ,aH.aCM dS h.aCD a,aH.aCM cS h.aCG a,aH.aCM dZ h.aCL a,aH.aCM cZ h.aCR a,h.aCE.aCM a,h.aDF⟩
theorem eY.more{w:World}{ok ok':nP}{s:Sto}{vc vr vn vo vt vu vk vb:Value}(h:eY w ok s vc vr vn vo vt vu vk vb)(a:∀b,ok b->ok' b):eY w ok' s vc vr vn vo vt vu vk vb:=
 ⟨h.aCN,h.aCQ,aH.more dS h.aCD a,aH.more cS h.aCG a,aH.more dZ h.aCL a,aH.more cZ h.aCR a,h.aCE.more a,h.aDF⟩
theorem eY.inb{w:World}{ok:nP}{s:Sto}{vc vr vn vo vt vu vk vb:Value}(h:eY w ok s vc vr vn vo vt vu vk vb):eY w (fun b=>ok b/\b<w.heap.size) s vc vr vn vo vt vu vk vb:=
 ⟨h.aCN,h.aCQ,aH.inb dS h.aCD,aH.inb cS h.aCG,aH.inb dZ h.aCL,aH.inb cZ h.aCR,h.aCE.inb,h.aDF⟩
theorem eY.on{w w':World}{ok:nP}{s:Sto}{vc vr vn vo vt vu vk vb:Value}(h:eY w ok s vc vr vn vo vt vu vk vb)(a:Below w.heap.size w w'):eY w' ok s vc vr vn vo vt vu vk vb:=h.aCM (aJ a)
def kE(o:Op):Prop:=bK o.aCF/\o.aCT.size<=cP/\o.aCK.size<=cP/\o.aCY.size<=cP/\o.to_.size<=cP/\cR o.val/\bK o.aC0/\o.text.size<=cP/\o.aC2.size<=cP
def bW(o:Op):Array Value:=#[.int .i64 o.aCF,.string o.aCT,.string o.aCK,.string o.aCY,.string o.to_,.int .i64 o.val.1,.int .i64 o.val.2.1,.string o.val.2.2,.int .i64 o.aC0,.string o.text,.string o.aC2,.bool o.aC7]
def eT(o:Op):Value:= .agg (bW o)
theorem aM.cut{α:Type}{R:Rep α}{s:Nat}{e:TypeId}{w:World}{base:Nat}{ok:nP}(F:Firm R s){a:oD}{n c:Nat}{l:List α}(h:aM R s e w base ok (.slice a n c) l)(m:Nat)(hm:m<=l.length):aM R s e w base ok (.slice a m c) (l.take m):=by
 obtain⟨cs,h1,h2⟩:=h;have q:(Value.slice a m c).ownBlock=(Value.slice a n c).ownBlock:=by cases a<;>rfl
 have p:(l.take m).length=m:=by rw[List.length_take];omega
 refine⟨cs.take (m * s),?_,?_⟩
 .rw[p];refine⟨by rw[List.length_take,h1.1];exact Nat.min_eq_left (Nat.mul_le_mul_right s hm),?_⟩
  rcases h1.2 with ⟨d,t⟩|⟨g,cap,cur,d,h3,h4,h5,h6,h7,h8⟩
  .injection d with f o i;subst f i;exact .inl ⟨by rw[show m=0 by omega],qo⟩
  .injection d with f o i;subst f i;refine .inr ⟨g,c,cur,rfl,h3,h4,qo,h6,h7,?_⟩;rw[<-h8,List.take_take]
   congr 1
   exact(Nat.min_eq_left (Nat.mul_le_mul_right s hm)).symm
 .exact(aX.split (fun _ _ k=>F.len k) m h2 hm).1.mono fun r x k=>F.more k fun b j=>⟨j.1,j.2.1,by rw[q];exact j.2.2⟩
theorem aM.place{α:Type}{R:Rep α}{s:Nat}{e:TypeId}{w:World}{base:Nat}{ok:nP}{a:oD}{n c:Nat}{l:List α}(h:aM R s e w base ok (.slice a n c) l):((a=none/\c=0)\/∃g,a=some ⟨g,0,none⟩)/\l.length<=c/\c<=maxLen:=by
 obtain⟨cs,h1,h2⟩:=h
 rcases h1.2 with ⟨b,j⟩|⟨g,cap,cur,b,h3,h4,h5,h6,h7,h8⟩
 .injection b with d i f;exact⟨.inl ⟨d,f⟩,qo,by unfold maxLen;omega⟩
 .injection b with d i f;subst f;exact⟨.inr ⟨g,d⟩,h5,h6⟩
theorem iV{α:Type}{R:Rep α}{s:Nat}{P:Program}{w:World}{t e:TypeId}{bytes:Nat}{base:Nat}{ok:nP}(E:dV P t e s bytes)(F:Firm R s){ops:Array Oper}{o:Oper}{a:Act}{K:Act->World->Prop}{Q:Exit->Act->World->Prop}{G:Prop}(k:o.guard=none)(d x:Operand)
 (m:o.op=.call {callee:= .builtin .append,args:=#[d,x],argTypes:=#[t,t]})
 (v:Value)(l:List α)(p:a.eval d=v)(f:aM R s e w base ok v l)
 (g c:Nat)(cs:Array Value)(ty:TypeId)(fr:Nat×Nat)(y:α)(q:a.eval x=.slice (some ⟨g,0,none⟩) 1 c)(hc:w.heap[g]? =some (.cells cs ty fr))(hy:R w (fun b=>ok b/\b<w.heap.size/\some b≠v.ownBlock) cs.toList y)
 (h63:l.length<=1000000)(hbytes:bytes<=10000)(j:base<=w.heap.size)
 (h:∀l',Hid (l'=l++[y])->∀A' c' w',aM R s e w' base ok (.slice A' l'.length c') l'->w.grownBy w' v.ownBlock->((Value.slice A' l'.length c').ownBlock=v.ownBlock\/(Value.slice A' l'.length c').ownBlock=some w.heap.size)->K (a.put o.dst (.slice A' l'.length c')) w'):if Region.wanted o (yielded ops a.tmps)=true then Oper.wp P o a w K Q else G:=by
 obtain⟨xs,n,hcs⟩:=f;have hlen:cs.toList.length=1 * s:=by rw[F.len hy];omega
 refine Mg E k d x m base v l.length xs p n (some ⟨g,0,none⟩) 1 c cs.toList q hlen ?_ (F.one hy) (by unfold maxLen;omega) ?_ j fun A' c' w' h1 h2 h3=> ?_
 .exact QCq
 .exact QCJ
 .exact QCb
theorem QDb{p:Prop}(h:p:=by
 subst hji;obtain⟨v1,hv1,he⟩:=hy w hw;exact Bo hi hv1 ⟨fun _=>hw,by rw[he];exact H⟩):p:=h
abbrev Ri:Exit->Act->World->Prop:=fun _ _ _=>False
section
variable {P:Program} {ops:Array Oper} {md:Region.Mode} {C:World->Prop} {Q:Exit->Act->World->Prop}
def uO(P:Program)(ops:Array Oper)(i:Nat)(K:Act->World->Prop)(a:Act)(w:World):Prop:=
 match ops[i]? with
 |none=>False
 |some o=>if Region.wanted o (yielded ops a.tmps)=true then o.wp P a w K Ri else K (a.put o.dst undef) w
theorem sR{o:Oper}{a:Act}{K K':Act->World->Prop}{g:Exit->Act->World->Prop}(h:∀a w,K a w->K' a w){r:Result Next}(b:o.upon P a K Ri r):o.upon P a K' g r:=by
 cases r with
 |ok n w'=>
  cases n with
  |value v=>exact h _ _ b
  |skip=>exact h _ _ b
  |enter f args=>
   refine Calls.mono b fun e i d=> ?_
   cases e with
   |returned v=>exact h _ _ d
   |panicked c=>exact(d:False).elim
   |outgrown=>obtain⟨_,_,h0⟩:=(d:LetsOut Ri);exact(h0:False).elim
  |row r args=>exact Rows.mono b fun v i d=>h _ _ d
  |_=>first|exact(b:False).elim|exact h _ _ b
 |halt x w'=>
  cases x with
  |panic v=>exact(b:False).elim
  |_=>exact(b:False).elim
theorem SN{i:Nat}{K K':Act->World->Prop}{a:Act}{w:World}(h:∀a w,K a w->K' a w)(b:uO P ops i K a w):uO P ops i K' a w:=by
 unfold uO at *;split
 .rename_i h0;simp only[h0] at b
 .rename_i o h0;simp only[h0] at b;split
  .rename_i hw;rw[iP hw] at b;exact sR h b
  .rename_i hw;rw[iN hw] at b;exact h _ _ b
theorem WY{i:Nat}{K K':Act->World->Prop}{a:Act}{w:World}(h:∀a w,K a w->K' a w)(b:uO P ops i K a w):wpOp P ops Q i K' a w:=by
 unfold uO at b;unfold wpOp;split
 .rename_i h0;simp only[h0] at b
 .rename_i o h0;simp only[h0] at b;split
  .rename_i hw;rw[iP hw] at b;exact .inl (sR h b)
  .rename_i hw;rw[iN hw] at b;exact h _ _ b
theorem Tt{j:Nat}{g i:Oper}{v:Value}(hj:ops[j]? =some i)(p:g.apart ops i=true)
 (y:∀cs b,g.op≠ .select cs b)(s:∀cs b,i.op≠ .select cs b){K:Act->World->Prop}{a:Act}{w:World}{Y:Act->Prop}
 (k:∀a u,Y a->Y (a.put i.dst u))(q:∀a d,Y a->Y {a with defers:=d::a.defers})(l:Y a)(h:uO P ops j K (a.put g.dst v) w):
 uO P ops j (fun o w'=>Y o/\K (o.put g.dst v) w') a w:=by
 obtain⟨h1,h2,h3⟩:=Oper.apart_spec p;unfold uO at *;simp only[hj] at *;rw[wanted_put i a g.dst v h1] at h;split
 .rename_i hw;simp only[hw,if_true] at h;unfold Oper.wp at *;rw[execOp_put i s a g.dst v h1] at h;generalize (execOp a.eval i).run P w=r at *
  cases r with
  |ok n w'=>
   cases n with
   |value u=>exact⟨k a u l,by rw[<-Act.put_comm a v u h2];exact h⟩
   |skip=>exact⟨k a undef l,by rw[<-Act.put_comm a v undef h2];exact h⟩
   |enter f args=>
    refine Calls.mono h fun e t m=> ?_
    cases e with
    |returned u=>exact⟨k a u l,by rw[<-Act.put_comm a v u h2];exact m⟩
    |panicked c=>exact m
    |outgrown=>exact m
   |row r args=>exact Rows.mono h fun u t m=>⟨k a u l,by rw[<-Act.put_comm a v u h2];exact m⟩
   |_=>
    first
    |exact(h:False).elim
    |(rename_i d
      refine⟨k _ undef (q a d l),?_⟩;have h4:K (({a.put g.dst v with defers:=d::(a.put g.dst v).defers}:Act).put i.dst undef) w':=h;rw[Act.put_defers,Act.put_comm _ v undef h2] at h4;exact h4)
  |halt x w'=>
   cases x with
   |panic v=>exact(h:False).elim
   |_=>exact(h:False).elim
 .rename_i hw;simp only[hw] at h;exact⟨k a undef l,by rw[<-Act.put_comm a v undef h2];exact h⟩
def oS(P:Program)(md:Region.Mode)(ops:Array Oper)(C:World->Prop)(n:Nat)(Q:Act->World->Prop):Nat->Array Bool->Act->World->Prop
 |0,listed,a,w=>Region.ready md ops listed=[]/\Q a w
 |f+1,listed,a,w=>(Region.ready md ops listed=[]->Q a w)/\∀i∈Region.ready md ops listed,uO P ops i (fun b w'=>(i<n->C w')/\oS P md ops C n Q f (listed.setIfInBounds i true) b w') a w
theorem xN{n:Nat}:∀(f:Nat) (listed:Array Bool) (a:Act) (w:World),oS P md ops C n (fun a w=>Q .normal a w) f listed a w->wpAny P md ops Q f listed a w
 |0,_,_,_,h=>h
 |f+1,_,_,_,h=>⟨h.1,fun i d=>WY (fun b w' c=>xN f _ b w' c.2) (h.2 i d)⟩
def CF(P:Program)(ops:Array Oper)(C:World->Prop)(o:Oper)(v:Value)(a:Act):Prop:=∀w,C w->∃v1,YieldsAt P ops w o v1 a/\a.put o.dst v1=a.put o.dst v
theorem Bo{i:Nat}{o:Oper}{v:Value}{a:Act}{w:World}(d:ops[i]? =some o)(g:YieldsAt P ops w o v a){K:Act->World->Prop}(h:K (a.put o.dst v) w):uO P ops i K a w:=by
 unfold uO;simp only[d]
 rcases g with ⟨hw,b|⟨b,rfl⟩|⟨f,args,b,c⟩⟩|⟨hw,rfl⟩
 .simp only[hw,if_true,Oper.wp,b,Oper.upon];exact h
 .simp only[hw,if_true,Oper.wp,b,Oper.upon];exact h
 .simp only[hw,if_true,Oper.wp,b,Oper.upon];refine c.mono fun e j he=> ?_
  obtain⟨rfl,rfl⟩:=he;exact h
 .simp only[hw,Bool.false_eq_true,if_false];exact h
theorem JS{n i:Nat}{c:Oper}{v:Value}{Q:Act->World->Prop}(hi:ops[i]? =some c)(z:∀(j:Nat) (o:Oper) cs b,ops[j]? =some o->o.op≠ .select cs b)
 (S:Region.sinkB md ops n=true)(G:Region.chainB md ops n=true)(N:n<ops.size)(K:i<n):
 ∀(f:Nat) (listed:Array Bool) (a:Act) (w:World),HeadInv md ops n listed->
  (∀j g,ops[j]? =some g->j≠i->listed.getD j true=false->(∀e∈g.after,Region.binds md e=true->e.on≠i)->c.apart ops g=true)->
  i∈Region.ready md ops listed->C w->CF P ops C c v a->
  oS P md ops C n Q f (listed.setIfInBounds i true) (a.put c.dst v) w->oS P md ops C n Q (f+1) listed a w:=by
 intro f
 induction f with
 |zero=>
  intro listed a w inv _ l hw hy H;refine⟨fun h=>(by rw[h] at l;cases l),fun j hj=> ?_⟩;by_cases hji:j=i
  .exact QDb
  .have:=ready_mono hj hji;rw[H.1] at this
   cases this
 |succ f T=>
  intro listed a w inv s l hw hy H;refine⟨fun h=>(by rw[h] at l;cases l),fun j hj=> ?_⟩;by_cases hji:j=i
  .exact QDb
  .have h1:=H.2 j (ready_mono hj hji);obtain⟨y,g,q,E⟩:=mem_ready.1 hj;have x:j<n:=by
    rcases Nat.lt_or_ge j n with h|h
    .exact h
    .exact absurd hj (tail_waits S G N inv (n - i) i rfl K (mem_ready.1 l).1 j h)
   have R:∀e∈g.after,Region.binds md e=true->e.on≠i:=fun e he F heq=>by
    have h1:=E e he F;have h0:=(mem_ready.1 l).1;rw[heq] at h1
    rcases Nat.lt_or_ge i listed.size with m|m
    .simp[m] at h0 h1;rw[h0] at h1;cases h1
    .simp[Array.getElem?_eq_none m] at h1
   have p:=s j g q hji y R;obtain⟨_,_,h3⟩:=Oper.apart_spec p;obtain⟨_,r,_⟩:=Oper.apart_spec p;have A:∀cs b,c.op≠ .select cs b:=fun cs b=>z i c cs b hi
   have keep:∀(a:Act) (u:Value),CF P ops C c v a->CF P ops C c v (a.put g.dst u):=fun a u h w hw=>by
    obtain⟨v1,hv1,he⟩:=h w hw;refine⟨v1,hv1.of_same (execOp_put c A a g.dst u h3) (wanted_put c a g.dst u h3),?_⟩;rw[<-Act.put_comm a v1 u r,<-Act.put_comm a v u r,he]
   have U:∀(a:Act) (d:Deferred),CF P ops C c v a->CF P ops C c v {a with defers:=d::a.defers}:=fun a d h w hw=>by
    obtain⟨v1,hv1,he⟩:=h w hw;have I:execOp ({a with defers:=d::a.defers}:Act).eval c=execOp a.eval c:=rfl;refine⟨v1,hv1.of_same I rfl,?_⟩;rw[<-Act.put_defers,<-Act.put_defers,he]
   have h2:=Tt q p A (fun cs b=>z j g cs b q) keep U hy h1;have J:∀k ok,ops[k]? =some ok->k≠i->(listed.setIfInBounds j true).getD k true=false->
    (∀e∈ok.after,Region.binds md e=true->e.on≠i)->c.apart ops ok=true:=fun k ok L M B O=>by
    refine s k ok L M ?_ O;by_cases t:j=k
    .subst t;exact y
    .rw[getD_set_ne true t] at B;exact B
   refine SN (fun D w' h3=>⟨h3.2.1,T (listed.setIfInBounds j true) D w' (inv.set hj x) J (ready_mono l (Ne.symm hji)) (h3.2.1 x) h3.1 ?_⟩) h2;rw[Array.setIfInBounds_comm _ _ hji];exact h3.2.2
theorem IJ{n k f:Nat}{Q:Act->World->Prop}{listed:Array Bool}{a:Act}{w:World}(c:Region.ready md ops listed=[k])(h:uO P ops k (fun d w'=>(k<n->C w')/\oS P md ops C n Q f (listed.setIfInBounds k true) d w') a w):oS P md ops C n Q (f+1) listed a w:=
 ⟨fun h0=>(by rw[c] at h0;cases h0),fun i b=>(by rw[c,List.mem_singleton] at b;subst b;exact h)⟩
def rd(P:Program)(ops:Array Oper)(o:Oper)(a:Act)(w:World)(K:Act->Prop):Prop:=if Region.wanted o (yielded ops a.tmps)=true then o.still P a w K else K (a.put o.dst undef)
def mv(P:Program)(ops:Array Oper)(o:Oper)(a:Act)(w:World)(K:Act->World->Prop):Prop:=if Region.wanted o (yielded ops a.tmps)=true then o.wp P a w K Ri else K (a.put o.dst undef) w
def cI(P:Program)(ops:Array Oper)(C:World->Prop)(n:Nat)(Q:Act->World->Prop):List (Nat×Bool)->Act->World->Prop
 | [],a,w=>Q a w
 |(k,false)::r,a,w=>match ops[k]? with
  |none=>False
  |some o=>rd P ops o a w (fun b=>(∀w1,C w1->rd P ops o a w1 (fun c=>c=b))/\cI P ops C n Q r b w)
 |(k,true)::r,a,w=>match ops[k]? with
  |none=>False
  |some o=>mv P ops o a w (fun b w'=>(k<n->C w')/\cI P ops C n Q r b w')
def EJ(md:Region.Mode)(ops:Array Oper):List (Nat×Bool)->Array Bool->Bool
 | [],listed=>(Region.ready md ops listed).isEmpty
 |(k,fl)::r,listed=>fl&&(Region.ready md ops listed==[k])&&EJ md ops r (listed.setIfInBounds k true)
def EK(md:Region.Mode)(ops:Array Oper)(n:Nat)(T:List (Nat×Bool)):List (Nat×Bool)->Array Bool->Bool
 | [],listed=>EJ md ops T listed
 |(k,fl)::r,listed=>(if fl=true then Region.ready md ops listed==[k] else (Region.ready md ops listed).contains k&&Region.free md ops listed k)&&decide (k<n)&&EK md ops n T r (listed.setIfInBounds k true)
def Rj(md:Region.Mode)(ops:Array Oper)(n:Nat)(H T:List (Nat×Bool)):Bool:=
 Region.noSelect ops&&decide (n<ops.size)&&Region.sinkB md ops n&&Region.chainB md ops n&&decide (H.length+T.length=ops.size)&&EK md ops n T H (Array.replicate ops.size false)
theorem EL{k:Nat}{o:Oper}(h:ops[k]? =some o){a:Act}{w:World}{K:Act->Prop}:stOp P ops w k K a↔rd P ops o a w K:=by unfold stOp rd;simp only[h]
theorem CG{n:Nat}{Q:Act->World->Prop}:∀(T:List (Nat×Bool)) (listed:Array Bool) (a:Act) (w:World),EJ md ops T listed=true->cI P ops C n Q T a w->oS P md ops C n Q T.length listed a w
 | [],listed,a,w,hB,h=>⟨by simpa [EJ] using hB,h⟩
 |(k,false)::r,listed,a,w,hB,h=>by simp[EJ] at hB
 |(k,true)::r,listed,a,w,hB,h=>by
  simp only[EJ,Bool.and_eq_true,bQ,true_and] at hB;refine IJ hB.1 ?_;unfold cI at h;unfold uO
  cases c:ops[k]? with
  |none=>simp only[c] at h
  |some o=>
   simp only[c] at h ⊢;unfold mv at h;split
   .rename_i hw;rw[iP hw] at h;exact sR (fun d w' b=>⟨b.1,CG r _ d w' hB.2 b.2⟩) h
   .rename_i hw;rw[iN hw] at h;exact⟨h.1,CG r _ _ w hB.2 h.2⟩
theorem tU{n:Nat}{Q:Act->World->Prop}{T:List (Nat×Bool)}(l:Region.noSelect ops=true)(j:Region.sinkB md ops n=true)(e:Region.chainB md ops n=true)(f:n<ops.size):∀(H:List (Nat×Bool)) (listed:Array Bool) (a:Act) (w:World),HeadInv md ops n listed->C w->EK md ops n T H listed=true->cI P ops C n Q (H++T) a w->oS P md ops C n Q (H.length+T.length) listed a w
 | [],listed,a,w,inv,hw,hB,h=>by
   rw[List.length_nil,Nat.zero_add];exact CG T listed a w hB h
 |(k,true)::r,listed,a,w,inv,hw,hB,h=>by
  simp only[EK,if_true,Bool.and_eq_true,bQ,decide_eq_true_eq] at hB;obtain⟨⟨g,c⟩,d⟩:=hB;rw[List.length_cons,show r.length+1+T.length=(r.length+T.length)+1 by omega];refine IJ g ?_;have s:=inv.set (i:=k) (by rw[g];exact List.mem_singleton.2 rfl) c;rw[List.cons_append] at h;unfold cI at h;unfold uO
  cases b:ops[k]? with
  |none=>simp only[b] at h
  |some o=>
   simp only[b] at h ⊢;unfold mv at h;split
   .rename_i p;rw[iP p] at h;exact sR (fun t w' m=>⟨m.1,tU l j e f r _ t w' s (m.1 c) d m.2⟩) h
   .rename_i p;rw[iN p] at h;exact⟨h.1,tU l j e f r _ _ w s (h.1 c) d h.2⟩
 |(k,false)::r,listed,a,w,inv,hw,hB,h=>by
  simp only[EK,Bool.false_eq_true,if_false,Bool.and_eq_true,decide_eq_true_eq] at hB;obtain⟨⟨⟨g,x⟩,c⟩,d⟩:=hB;have q:k∈Region.ready md ops listed:=by simpa using g
  rw[List.length_cons,show r.length+1+T.length=(r.length+T.length)+1 by omega];rw[List.cons_append] at h;unfold cI at h
  cases b:ops[k]? with
  |none=>simp only[b] at h
  |some o=>
   simp only[b] at h;obtain⟨v,z,h1,h2⟩:=yieldsAt_of_stOp b ((EL b).2 h);exact JS b (Region.noSelect_spec l) j e f c _ listed a w inv (Region.free_spec b x) q hw
    (fun w1 y=>yieldsAt_of_stOp b ((EL b).2 (h1 w1 y)))
    (tU l j e f r _ _ w (inv.set q c) hw d h2)
theorem cB{id:Nat}{a:Act}{w:World}{l:List Oper}(n:Nat)(H T:List (Nat×Bool))(C:World->Prop)(hm:P.follows .mixedOrders=true)(c:Rj .any l.toArray n H T=true)(hC:C w.drew)
 (h:cI P l.toArray C n (fun a w=>Q .normal a w) (H++T) a w.drew):(Code.region id l.toArray true).wp P Q a w:=by
 simp only[Rj,Bool.and_eq_true,decide_eq_true_eq] at c;obtain⟨⟨⟨⟨⟨i,f⟩,g⟩,e⟩,b⟩,d⟩:=c;have m:HeadInv .any l.toArray n (Array.replicate l.toArray.size false):=
  ⟨qs,fun j o _ b=>(by rw[getD_replicate_false] at b;cases b),fun t _ k=>getD_in (by simpa using k) (getD_replicate_false _ _)⟩
 have h1:=tU (md:= .any) i g e f H _ a w.drew m hC d h;rw[b] at h1;exact wp_region_any hm (xN _ _ _ _ h1)
theorem dG{n k:Nat}{Q:Act->World->Prop}{r:List (Nat×Bool)}{a:Act}{w:World}{o:Oper}(d:ops[k]? =some o)(h:∀K:Act->Prop,(∀b,(∀w1,C w1->rd P ops o a w1 (fun c=>c=b))->cI P ops C n Q r b w->K b)->rd P ops o a w K):cI P ops C n Q ((k,false)::r) a w:=by
 unfold cI;simp only[d];exact h _ (fun b h1 h2=>⟨h1,h2⟩)
theorem bJ{n k:Nat}{Q:Act->World->Prop}{r:List (Nat×Bool)}{a:Act}{w:World}{o:Oper}(c:ops[k]? =some o)(h:∀K:Act->World->Prop,(∀b w',(k<n->C w')->cI P ops C n Q r b w'->K b w')->mv P ops o a w K):cI P ops C n Q ((k,true)::r) a w:=by
 unfold cI;simp only[c];exact h _ (fun b w' h1 h2=>⟨h1,h2⟩)
end
end Go.Proofs.YtlfngkelmbdehaaGreatDoor
