/- Lemmas. -/
import Derived.Test.YthcgdgkpgdjahaaGreatDoorMaf
import Derived.Deep.RegionHeld3
import Derived.Deep.RegionLaw
import Derived.Deep.Cut
import Derived.Deep.CutRange
import Derived.Deep.DeepCutAuto
import Derived.Deep.CutBlock
namespace Go.Proofs.YthcgdgkpgdjahaaGreatDoor
open Go.RowKit
set_option linter.unusedVariables false
set_option linter.unusedSimpArgs false
set_option maxHeartbeats 16000000
open _root_.Go.Proofs.Tryz
set_option maxRecDepth 20000
namespace Pv
theorem Dq(w:World)(x y z:Value)(t:TypeId):(w.alloc (.cells #[x,y,z] t)).cell? ⟨w.heap.size,0,none⟩=some x/\(w.alloc (.cells #[x,y,z] t)).cell? ⟨w.heap.size,1,none⟩=some y/\(w.alloc (.cells #[x,y,z] t)).cell? ⟨w.heap.size,2,none⟩=some z:=
 ⟨wG w _ _ _ 0 _ rfl,wG w _ _ _ 1 _ rfl,wG w _ _ _ 2 _ rfl⟩
def CX(v:V3):List UInt8:=nS v.1++(if v.1=3\/v.1=5 then vG v.2.2.data.toList else nS v.2.1)
def Zq(v:V3):Prop:=bL v.1/\bL v.2.1/\v.2.2.size<=1000000
theorem Iz{v:V3}(h:v.1=3\/v.1=5):CX v=nS v.1++vG v.2.2.data.toList:=by unfold CX;rw[iP h]
theorem Qa{v:V3}(h:¬(v.1=3\/v.1=5)):CX v=nS v.1++nS v.2.1:=by unfold CX;rw[iN h]
theorem PO(k:Int)(w:World):Calls prog 154 #[.int .i64 k] w fun e w'=>e=.returned (.bool (decide (k=3\/k=5)))/\w=w':=by
 by_cases h1:k=3
 .have HF:Hid (decide (k=3\/k=5)=true):=aA (dX (.inl h1));have b1:(k==3)=true:=bQ.2 h1;go_enter func154,ntmps154;exact Av
 .have b1:(k==3)=false:=bN.2 h1;by_cases h2:k=5
  .have HF:Hid (decide (k=3\/k=5)=true):=aA (dX (.inr h2));have b2:(k==5)=true:=bQ.2 h2;go_enter func154,ntmps154;exact Av
  .have HF:Hid (decide (k=3\/k=5)=false):=aA (dF (fun h=>h.elim h1 h2));have b2:(k==5)=false:=bN.2 h2;go_enter func154,ntmps154;exact Av
theorem qU{w:World}{l:lU}{e:Ending}{w':World}(h:oW w l e w'):∃A c,e=.returned (.slice A l.length c)/\Sl w' w'.heap.size A (bF l)/\w'.ownsRow w.heap.size 5 1 (.slice A l.length c) l.length (bF l)/\Below w.heap.size w w':=by
 obtain⟨v,rfl,a,b⟩:=h;obtain⟨A,c,rfl,_,d,_⟩:=lX a;exact⟨A,c,rfl,d,a,b⟩
theorem Qb(a:oD)(c n:Nat)(l:lU)(G:l.length=n)(v:V3)(j:Zq v)(w:World)(I:l.length<=100000000)(H:Sl w w.heap.size a (bF l)):
 Calls prog 103 #[.slice a n c,.agg #[.int .i64 v.1,.int .i64 v.2.1,.string v.2.2]] w (oW w (l++CX v)):=by
 have C:=aB w (.cells #[.int .i64 v.1,.int .i64 v.2.1,.string v.2.2] 30);have t:=aA (EW a c n v.1 l G _ j.1.1 j.1.2 qo (H.on C));obtain⟨z0,s,z2⟩:=Dq w (.int .i64 v.1) (.int .i64 v.2.1) (.string v.2.2) 30;have f:w.heap.size<(w.alloc (.cells #[.int .i64 v.1,.int .i64 v.2.1,.string v.2.2] 30)).heap.size:=by simp
 have g:=aA C;have B:=aA j;have h10:=tA v.1 j.1.1 j.1.2;have F:Hid ((l++nS v.1).length<=100000010):=aA (by rw[aL];omega);clear H G I C j h10;by_cases i:v.1=3\/v.1=5
 .have y:Hid (l++CX v=(l++nS v.1)++vG v.2.2.data.toList):=aA (by rw[Iz i,List.append_assoc]);have b:=PO v.1;rw[dX i] at b;have b:=aA b;clear i;generalize l++nS v.1=T at *;obtain⟨v0,v1,v2⟩:=v;simp only at z0 s z2 b g f;go_enter func103,ntmps103;go_wp2_with fail;refine t.o.mono ?_;intro e w1 h;obtain⟨A,c1,rfl,r,D,d⟩:=qU h;have E:=(d.cell (p:=⟨w.heap.size,0,none⟩) f).trans z0;have K:=(d.cell (p:=⟨w.heap.size,2,none⟩) f).trans z2;have k:=qB g d;have m:=aA (TM A c1 T.length v2 T rfl w1 (by have:=B.o.2.2;simp only at this;omega) (qA F.o) r);clear t h r D d z0 s z2 f g;go_wp2_with (go_at_call 154;refine(b.o w1).mono ?_;rintro e w' ⟨rfl,rfl⟩;clear b)
  refine m.o.mono ?_;rintro e w2 ⟨v,rfl,q,o⟩;have z:=aA (tB q k.o.size);have x:=qB k o;clear m q o E K;go_wp2;go_ret;exact⟨_,rfl,by rw[y.o];exact z.o,x.o⟩
 .have y:Hid (l++CX v=(l++nS v.1)++nS v.2.1):=aA (by rw[Qa i,List.append_assoc]);have b:=PO v.1;rw[dF i] at b;have b:=aA b;clear i;generalize l++nS v.1=T at *;obtain⟨v0,v1,v2⟩:=v;simp only at z0 s z2 b g f;go_enter func103,ntmps103;go_wp2_with fail;refine t.o.mono ?_;intro e w1 h;obtain⟨A,c1,rfl,r,D,d⟩:=qU h;have E:=(d.cell (p:=⟨w.heap.size,0,none⟩) f).trans z0;have J:=(d.cell (p:=⟨w.heap.size,1,none⟩) f).trans s;have k:=qB g d;have m:=aA (EW A c1 T.length v1 T rfl w1 B.o.2.1.1 B.o.2.1.2 (qA F.o) r);clear t h r D d z0 s z2 f g;go_wp2_with (go_at_call 154;refine(b.o w1).mono ?_;rintro e w' ⟨rfl,rfl⟩;clear b)
  refine m.o.mono ?_;rintro e w2 ⟨v,rfl,q,o⟩;have z:=aA (tB q k.o.size);have x:=qB k o;clear m q o E J;go_wp2;go_ret;exact⟨_,rfl,by rw[y.o];exact z.o,x.o⟩
end Pv
structure Op where
 aDN:Int
 aD3:ByteArray
 aDU:ByteArray
 aD7:ByteArray
 to_:ByteArray
 val:V3
 aEa:Int
 text:ByteArray
 aEc:ByteArray
 aEh:Bool
deriving DecidableEq
def UD:Op:=⟨0,ByteArray.empty,ByteArray.empty,ByteArray.empty,ByteArray.empty,aY,0,ByteArray.empty,ByteArray.empty,false⟩
structure uI where
 aDX:Int
 aEn:ByteArray
 aEU:ByteArray
deriving DecidableEq
structure cB where
 id:ByteArray
 aEg:ByteArray
 aD9:ByteArray
 aDT:List (ByteArray×V3)
 log:List uI
deriving DecidableEq
structure wJ where
 id:Int
 aDX:Int
 aD3:ByteArray
 aDU:ByteArray
 action:ByteArray
 aEc:ByteArray
 open_:Bool
deriving DecidableEq
structure xY where
 aDX:Int
 aDU:ByteArray
 arg:ByteArray
deriving DecidableEq
structure Sto where
 aDX:Int
 aDO:List cB
 aDQ:List wJ
 aDV:List xY
 aD1:List (ByteArray×ByteArray)
 aDP:Po
 aD0:Int
def xF:ByteArray:=⟨#[112,111,108,105,99,121,32,111,112,101,110,32,112,101,114,109,105,116,117,110,108,101,115,115,32,123,32,125]⟩
def jG:Sto:=⟨0,[],[],[],[],(fH xF).1,0⟩
def fK(a b:bY):Bool:=decide (¬b.toList<a.toList)
def aV(s:Sto)(id:bY):Nat×Bool:=
 let i:=s.aDO.findIdx (fun c=>fK id c.id)
 if i<s.aDO.length then (i,decide (((s.aDO[i]?).map (·.id))=some id)) else (s.aDO.length,false)
def dU(s:Sto)(id:bY):Option cB:=if (aV s id).2 then s.aDO[(aV s id).1]? else none
def qL(s:Sto)(subject role:bY):Bool:=s.aD1.any (fun r=>decide (r=(subject,role)))
def eB(c:cB)(name:bY):V3:=((c.aDT.find? (fun f=>decide (f.1=name))).map (·.2)).getD aY
def AD:ByteArray:=str "open"
def vJ:ByteArray:=str "work"
def FE:ByteArray:=str "done"
def oL:ByteArray:=str "closed"
def iB(a b:bY):Bool:=
 if a=AD then decide (b=vJ) else if a=vJ then decide (b=FE) else if a=FE then decide (b=vJ)||decide (b=oL) else false
def xZ:List ByteArray:=["new","read","write","move","close","role","policy"].map str
def cK(kind:Int):ByteArray:=if kind<1\/7<kind then str "tick" else (xZ[(kind - 1).toNat]?).getD (str "tick")
def mZ(s:bY):Bool:=decide (s.size=0)||eT s
def oM(o:Op):Bool:=
 if o.aEh=false then decide (o.aEc.size=0) else (decide (1<=o.aDN/\o.aDN<=4)&&(decide (o.aEc.size≠0)&&decide (o.aEc.size<=64)))
def TA(o:Op):Op:={o with aD3:=ByteArray.empty,aEc:=ByteArray.empty,aEh:=false}
def fX(o:Op):Bool:=
 let b:=TA o
 let k:={UD with aDN:=o.aDN}
 if o.aDN=1 then decide (o.aDU.size≠0)&&decide (b={k with aDU:=o.aDU})
 else if o.aDN=2\/o.aDN=6 then (decide (o.aDU.size≠0)&&decide (o.aD7.size≠0))&&decide (b={k with aDU:=o.aDU,aD7:=o.aD7})
 else if o.aDN=3 then ((decide (o.aDU.size≠0)&&decide (o.aD7.size≠0))&&decide (o.val≠aY))&&decide (b={k with aDU:=o.aDU,aD7:=o.aD7,val:=o.val})
 else if o.aDN=4 then (decide (o.aDU.size≠0)&&decide (o.to_.size≠0))&&decide (b={k with aDU:=o.aDU,to_:=o.to_})
 else if o.aDN=5 then decide (0<o.aEa)&&decide (b={k with aEa:=o.aEa})
 else if o.aDN=7 then decide (b={k with text:=o.text})
 else if o.aDN=8 then (decide (0<o.aEa)&&decide (o.aEa<=1099511627776))&&decide (b={k with aEa:=o.aEa})
 else false
def gW(o:Op):Bool:=
 if eT o.aD3=false\/oM o=false\/4096<o.text.size then false
 else if mZ o.aDU=false\/mZ o.aD7=false\/mZ o.to_=false\/(o.val≠aY/\aT o.val=false) then false
 else fX o
def gC(s:Sto)(o:Op):Int:=
 match dU s o.aDU with
 |none=>10
 |some c=>
  if o.aDN=3/\16<=c.aDT.length/\eB c o.aD7=aY then 6
  else if o.aDN≠2/\256<=c.log.length then 6
  else if (o.aDN=3/\c.aD9=oL)\/(o.aDN=4/\iB c.aD9 o.to_=false) then 13
  else 0
def iT(s:Sto)(o:Op):Int:=
 if (s.aDQ.length:Int)<o.aEa then 10
 else match s.aDQ[(o.aEa - 1).toNat]? with
  |none=>10
  |some r=>if r.open_=false then 10 else if r.aD3=o.aD3 then 12 else 0
def dJ(s:Sto)(o:Op):Int:=
 if gW o=false then 1
 else if o.aDN=1 then (if (aV s o.aDU).2 then 11 else if 64<=s.aDO.length then 6 else 0)
 else if o.aDN=2\/o.aDN=3\/o.aDN=4 then gC s o
 else if o.aDN=5 then iT s o
 else if o.aDN=6 then (if 64<=s.aD1.length/\qL s o.aDU o.aD7=false then 6 else 0)
 else if o.aDN=8 then (if 1099511627776 - o.aEa<s.aDX then 6 else 0)
 else 0
def CY(s:bY):V3:=(5,0,s)
def sH(cat:Int)(name:String)(bag:List V3):Gv:=(cat,str name,bag)
def nW(c:cB)(subject:bY):List Gv:=
 [sH 3 "id" [CY c.id],sH 3 "owner" [CY c.aEg],sH 3 "state" [CY c.aD9],sH 3 "events" [(2,c.log.length,ByteArray.empty)],
   sH 3 "took" [cI (c.log.any (fun h=>decide (h.aEn=subject)))]]
 ++(match c.log.getLast? with |some h=>[sH 3 "last" [CY h.aEn]]|none=>[])
 ++((c.aDT.filter (fun f=>decide (f.1.size<=14))).map (fun f=>((3,str "f_"++f.1,[f.2]):Gv)))
def qM(s:Sto)(o:Op):List Gv:=
 [sH 1 "id" [CY o.aD3],sH 1 "role" (((s.aD1.filter (fun r=>decide (r.1=o.aD3))).take 16).map (fun r=>CY r.2)),sH 2 "name" [CY (cK o.aDN)]]
 ++(if o.aD7.size≠0 then [sH 2 "field" [CY o.aD7]] else [])
 ++(if o.to_.size≠0 then [sH 2 "to" [CY o.to_]] else [])
 ++[sH 4 "now" [(4,s.aDX,ByteArray.empty)]]
 ++(match dU s o.aDU with |some c=>if o.aDN≠6 then nW c o.aD3 else []|none=>[])
def nA(s:Sto)(c:cB)(actor what:bY):cB:={c with log:=c.log++[⟨s.aDX,actor,what⟩]}
def mD(c:cB)(name:bY)(v:V3):cB:=
 let i:=c.aDT.findIdx (fun f=>fK name f.1)
 match c.aDT[i]? with
 |none=>{c with aDT:=c.aDT++[(name,v)]}
 |some f=>if f.1=name then {c with aDT:=c.aDT.set i (name,v)} else {c with aDT:=c.aDT.take i++[(name,v)]++c.aDT.drop i}
def eQ(s:Sto)(i:Nat)(f:cB->cB):Sto:={s with aDO:=match s.aDO[i]? with |some c=>s.aDO.set i (f c)|none=>s.aDO}
def cT(s:Sto)(o:Op):Sto:=
 if dJ s o≠0 then s
 else
  let i:=(aV s o.aDU).1
  if o.aDN=1 then {s with aDO:=s.aDO.take i++[nA s ⟨o.aDU,o.aD3,AD,[],[]⟩ o.aD3 (str "new")]++s.aDO.drop i}
  else if o.aDN=3 then eQ s i (fun c=>nA s (mD c o.aD7 o.val) o.aD3 (str "write"))
  else if o.aDN=4 then eQ s i (fun c=>nA s {c with aD9:=o.to_} o.aD3 o.to_)
  else if o.aDN=5 then {s with aDQ:=match s.aDQ[(o.aEa - 1).toNat]? with |some r=>s.aDQ.set (o.aEa - 1).toNat {r with open_:=false} |none=>s.aDQ}
  else if o.aDN=6 then (if qL s o.aDU o.aD7 then s else {s with aD1:=s.aD1++[(o.aDU,o.aD7)]})
  else if o.aDN=7 then (if (fH o.text).2.1=0 then {s with aDP:=(fH o.text).1,aD0:=s.aD0+1} else s)
  else if o.aDN=8 then {s with aDX:=s.aDX+o.aEa}
  else s
def PQ:ByteArray:=str "glass"
def TB(s:Sto)(subject:bY):Bool:=s.aDQ.any (fun r=>decide (r.aD3=subject)&&(r.open_&&decide (100<=s.aDX - r.aDX)))
def jM(s:Sto)(o:Op)(m:Mk):Bool:=o.aEh&&((decide (m=(0,4))||decide (m=(0,0)))&&(qL s o.aD3 PQ&& !TB s o.aD3))
def gG(s:Sto)(o:Op)(reason:bY):Sto:={s with aDQ:=s.aDQ++[⟨s.aDQ.length+1,s.aDX,o.aD3,o.aDU,cK o.aDN,reason,true⟩]}
def mE(s:Sto)(o:Op)(what:bY):Sto:=
 let i:=s.aDO.findIdx (fun c=>decide (c.id=o.aDU))
 if i<s.aDO.length/\o.aDN≠6 then eQ s i (fun c=>nA s c o.aD3 what) else s
def cU(o:Op)(done:Bool)(s:Sto)(x:Ob):Sto:=
 if x.aDN=1/\done=true then mE s o x.arg
 else if x.aDN=3 then gG s o x.arg
 else if x.aDN=4 then {s with aDV:=s.aDV++[⟨s.aDX,o.aDU,x.arg⟩]}
 else s
def kF(s:Sto):Bool:=decide (256<s.aDQ.length)||(decide (256<s.aDV.length)||s.aDO.any (fun c=>decide (256<c.log.length)))
structure Rpl where
 err:Int
 mark:Mk
 aEh:Bool
 val:V3
 hidden:Bool
 at_:Int
def rC:Rpl:=⟨0,(0,0),false,aY,false,0⟩
structure Deci where
 op:Op
 aD0:Int
 mark:Mk
 aEh:Bool
 aD4:List Ob
def bO(s:Sto)(o:Op):Sto×Rpl×Option Deci×Int:=
 let e:=dJ s o
 let a:Int×Int:=if e=0/\o.aDN=7 then (fH o.text).2 else (e,0)
 if a.1≠0 then (s,{rC with err:=a.1,at_:=a.2},none,a.1)
 else
  let (r,e2):=gN (qM s o) s.aDP
  if e2≠0 then (s,{rC with err:=e2,at_:=a.2},none,e2)
  else
   let glass:=jM s o r.1
   let done:=decide (r.1=(4,0))||glass
   let b:=if glass then gG s o o.aEc else s
   let f:=if done then cT b o else b
   let hidden:=done&&(decide (o.aDN=2)&&r.2.any (fun x=>decide (x.aDN=2)&&decide (x.arg=o.aD7)))
   let val:=if done&&(decide (o.aDN=2)&& !hidden) then ((dU s o.aDU).map (fun c=>eB c o.aD7)).getD aY else aY
   let d:=r.2.foldl (cU o done) f
   if kF d then (s,{rC with err:=6,at_:=a.2},none,6)
   else (d,⟨if done then 0 else 12,r.1,glass,val,hidden,0⟩,some ⟨o,s.aD0,r.1,glass,r.2⟩,0)
def cO(l:lU):List UInt8×List UInt8:=(l.takeWhile (fun c=>decide (c.toNat≠32)),(l.dropWhile (fun c=>decide (c.toNat≠32))).drop 1)
def pC(l:lU):Option V3:=
 match jU l with
 |([t,_],0,_)=>
  if t.aDN=2 then some (2,t.num,t.str) else if t.aDN=3 then some (4,t.num,t.str) else if t.aDN=4 then some (5,t.num,t.str)
  else if t.aDN=5 then some (3,t.num,t.str)
  else if t.aDN=1 then (if t.str=str "true" then some (1,1,ByteArray.empty) else if t.str=str "false" then some (1,0,ByteArray.empty) else none)
  else none
 |_=>none
def jN(l:lU):Int:=if l=[]\/9<l.length\/l.head?=some 48\/l.all bB=false then 0 else (qH l:Int)
def oR(w:lU):Int:=let i:=(xZ++[str "tick"]).findIdx (fun x=>decide (x=bs w));if i<8 then (i:Int)+1 else 0
def kG(a:lU):Bool×List UInt8×List UInt8:=match a with
 |33 ::r=>(true,(cO r).1,(cO r).2)
 |r=>(false,[],r)
def kQ(l:lU):Option Op:=
 let (subj,r0):=cO l
 let (glass,reason,r1):=kG r0
 let (w,r2):=cO r1
 let k:=oR w
 let base:Op:={UD with aDN:=k,aD3:=bs subj,aEc:=bs reason,aEh:=glass}
 let o:Option Op:=
  if k=1 then some {base with aDU:=bs r2}
  else if k=2\/k=6 then some {base with aDU:=bs (cO r2).1,aD7:=bs (cO r2).2}
  else if k=3 then (pC (cO (cO r2).2).2).map (fun v=>{base with aDU:=bs (cO r2).1,aD7:=bs (cO (cO r2).2).1,val:=v})
  else if k=4 then some {base with aDU:=bs (cO r2).1,to_:=bs (cO r2).2}
  else if k=5\/k=8 then some {base with aEa:=jN r2}
  else if k=7 then some {base with text:=bs r2}
  else some base
 match o with
 |some o=>if gW o then some o else none
 |none=>none
theorem QDk{p:Prop}(h:p:=by
 go_wp2;refine bR (.agg #[.int .i64 1,.int .i64 1,.string ⟨#[]⟩]) ?_;exact⟨rfl,HBE.o _ _⟩):p:=h
theorem QDj{p:Prop}(h:p:=by
 go_wp2;refine bR (.agg #[.int .i64 1,.int .i64 0,.string ⟨#[]⟩]) ?_;exact⟨rfl,HBE.o _ _⟩):p:=h
abbrev qE:=ByteArray×V3
abbrev xG:=ByteArray×ByteArray
def vW(h:uI):Prop:=bL h.aDX/\h.aEn.size<=cQ/\h.aEU.size<=cQ
def CZ(h:uI):List Value:=[.int .i64 h.aDX,.string h.aEn,.string h.aEU]
def FF(f:qE):Prop:=f.1.size<=cQ/\cS f.2
def uJ(f:qE):List Value:=[.string f.1,.int .i64 f.2.1,.int .i64 f.2.2.1,.string f.2.2.2]
def FG(r:wJ):Prop:=bL r.id/\bL r.aDX/\r.aD3.size<=cQ/\r.aDU.size<=cQ/\r.action.size<=cQ/\r.aEc.size<=cQ
def KT(r:wJ):List Value:=[.int .i64 r.id,.int .i64 r.aDX,.string r.aD3,.string r.aDU,.string r.action,.string r.aEc,.bool r.open_]
def FH(n:xY):Prop:=bL n.aDX/\n.aDU.size<=cQ/\n.arg.size<=cQ
def KU(n:xY):List Value:=[.int .i64 n.aDX,.string n.aDU,.string n.arg]
def NP(r:xG):Prop:=r.1.size<=cQ/\r.2.size<=cQ
def UE(r:xG):List Value:=[.string r.1,.string r.2]
def nB:Rep uI:=mS CZ vW
def lO:Rep qE:=mS uJ FF
def tG:Rep wJ:=mS KT FG
def wK:Rep xY:=mS KU FH
def rH:Rep xG:=mS UE NP
theorem cE:Firm nB 3:=gK (fun _=>rfl) (fun x v h=>by simp only[CZ,List.mem_cons,List.not_mem_nil,or_false] at h;rcases h with rfl|rfl|rfl<;>rfl)
theorem bS:Firm lO 4:=gK (fun _=>rfl) (fun x v h=>by simp only[uJ,List.mem_cons,List.not_mem_nil,or_false] at h;rcases h with rfl|rfl|rfl|rfl<;>rfl)
theorem cV:Firm tG 7:=gK (fun _=>rfl) (fun x v h=>by simp only[KT,List.mem_cons,List.not_mem_nil,or_false] at h;rcases h with rfl|rfl|rfl|rfl|rfl|rfl|rfl<;>rfl)
theorem eD:Firm wK 3:=gK (fun _=>rfl) (fun x v h=>by simp only[KU,List.mem_cons,List.not_mem_nil,or_false] at h;rcases h with rfl|rfl|rfl<;>rfl)
theorem dB:Firm rH 2:=gK (fun _=>rfl) (fun x v h=>by simp only[UE,List.mem_cons,List.not_mem_nil,or_false] at h;rcases h with rfl|rfl<;>rfl)
def pD(w:World)(ok:nP)(c:cB)(a b:Value):Prop:=c.id.size<=cQ/\c.aEg.size<=cQ/\c.aD9.size<=cQ/\aH lO w ok a c.aDT/\aH nB w ok b c.log
def qN:Rep cB:=fun w ok cs c=>∃a b,cs=[.string c.id,.string c.aEg,.string c.aD9,a,b]/\pD w ok c a b
theorem pD.aDW{w w':World}{ok:nP}{c:cB}{b d:Value}(h:pD w ok c b d)(a:aN ok w w'):pD w' ok c b d:=⟨h.1,h.2.1,h.2.2.1,aH.aDW bS h.2.2.2.1 a,aH.aDW cE h.2.2.2.2 a⟩
theorem pD.more{w:World}{ok ok':nP}{c:cB}{d e:Value}(h:pD w ok c d e)(a:∀b,ok b->ok' b):pD w ok' c d e:=⟨h.1,h.2.1,h.2.2.1,aH.more bS h.2.2.2.1 a,aH.more cE h.2.2.2.2 a⟩
theorem pD.inb{w:World}{ok:nP}{c:cB}{a d:Value}(h:pD w ok c a d):pD w (fun b=>ok b/\b<w.heap.size) c a d:=⟨h.1,h.2.1,h.2.2.1,aH.inb bS h.2.2.2.1,aH.inb cE h.2.2.2.2⟩
theorem dW:Firm qN 5:={
 aDW:=fun⟨a,b,e,h⟩ d=>⟨a,b,e,h.aDW d⟩
 more:=fun⟨a,b,e,h⟩ f=>⟨a,b,e,h.more f⟩
 len:=fun⟨a,b,e,h⟩=>by rw[e];rfl
 one:=fun⟨a,b,e,h⟩=>by
  intro v c;rw[e] at c;simp only[List.mem_cons,List.not_mem_nil,or_false] at c
  rcases c with rfl|rfl|rfl|rfl|rfl
  .rfl
  .rfl
  .rfl
  .exact lD h.2.2.2.1
  .exact lD h.2.2.2.2
 inb:=fun⟨a,b,e,h⟩=>⟨a,b,e,h.inb⟩}
def GQ(w:World)(ok:nP)(g:Gv)(vb:Value):Prop:=bL g.1/\g.2.1.size<=cQ/\aH VR w ok vb g.2.2
def jW:Rep Gv:=fun w ok cs g=>∃vb,cs=[.int .i64 g.1,.string g.2.1,vb]/\GQ w ok g vb
theorem GQ.aDW{w w':World}{ok:nP}{g:Gv}{vb:Value}(h:GQ w ok g vb)(a:aN ok w w'):GQ w' ok g vb:=⟨h.1,h.2.1,aH.aDW bG h.2.2 a⟩
theorem GQ.more{w:World}{ok ok':nP}{g:Gv}{vb:Value}(h:GQ w ok g vb)(a:∀b,ok b->ok' b):GQ w ok' g vb:=⟨h.1,h.2.1,aH.more bG h.2.2 a⟩
theorem GQ.inb{w:World}{ok:nP}{g:Gv}{vb:Value}(h:GQ w ok g vb):GQ w (fun b=>ok b/\b<w.heap.size) g vb:=⟨h.1,h.2.1,aH.inb bG h.2.2⟩
theorem cA:Firm jW 3:={
 aDW:=fun⟨vb,e,h⟩ b=>⟨vb,e,h.aDW b⟩
 more:=fun⟨vb,e,h⟩ c=>⟨vb,e,h.more c⟩
 len:=fun⟨vb,e,h⟩=>by rw[e];rfl
 one:=fun⟨vb,e,h⟩=>by
  intro v a;rw[e] at a;simp only[List.mem_cons,List.not_mem_nil,or_false] at a
  rcases a with rfl|rfl|rfl
  .rfl
  .rfl
  .exact lD h.2.2
 inb:=fun⟨vb,e,h⟩=>⟨vb,e,h.inb⟩}
def NQ(v:Value):Prop:=∀a n c,v=.slice a n c->n<=c
theorem JM:NQ (.slice none 0 0):=fun a n c e=>by injection e with _ b d;omega
structure fM (w:World) (ok:Nat->Prop) (s:Sto) (vc vr vn vo vt vu vk vb:Value):Prop where
 aDX:bL s.aDX
 aD0:bL s.aD0
 aDO:aH qN w ok vc s.aDO
 aDQ:aH tG w ok vr s.aDQ
 aDV:aH wK w ok vn s.aDV
 aD1:aH rH w ok vo s.aD1
 aDP:fO 3 w ok s.aDP vt vu vk vb
 aEP:NQ vr/\NQ vn/\NQ vo
def aX(s:Sto)(vc vr vn vo vt vu vk vb:Value):Array Value:=#[.int .i64 s.aDX,vc,vr,vn,vo,.string s.aDP.id,.bool s.aDP.set,.int .i64 s.aDP.alg,vt,vu,vk,vb,.int .i64 s.aD0]
theorem fM.aDW{w w':World}{ok:nP}{s:Sto}{vc vr vn vo vt vu vk vb:Value}(h:fM w ok s vc vr vn vo vt vu vk vb)(a:aN ok w w'):fM w' ok s vc vr vn vo vt vu vk vb:=
 ⟨h.aDX,h.aD0,aH.aDW dW h.aDO a,aH.aDW cV h.aDQ a,aH.aDW eD h.aDV a,aH.aDW dB h.aD1 a,h.aDP.aDW a,h.aEP⟩
theorem fM.more{w:World}{ok ok':nP}{s:Sto}{vc vr vn vo vt vu vk vb:Value}(h:fM w ok s vc vr vn vo vt vu vk vb)(a:∀b,ok b->ok' b):fM w ok' s vc vr vn vo vt vu vk vb:=
 ⟨h.aDX,h.aD0,aH.more dW h.aDO a,aH.more cV h.aDQ a,aH.more eD h.aDV a,aH.more dB h.aD1 a,h.aDP.more a,h.aEP⟩
theorem fM.inb{w:World}{ok:nP}{s:Sto}{vc vr vn vo vt vu vk vb:Value}(h:fM w ok s vc vr vn vo vt vu vk vb):fM w (fun b=>ok b/\b<w.heap.size) s vc vr vn vo vt vu vk vb:=
 ⟨h.aDX,h.aD0,aH.inb dW h.aDO,aH.inb cV h.aDQ,aH.inb eD h.aDV,aH.inb dB h.aD1,h.aDP.inb,h.aEP⟩
theorem fM.on{w w':World}{ok:nP}{s:Sto}{vc vr vn vo vt vu vk vb:Value}(h:fM w ok s vc vr vn vo vt vu vk vb)(a:Below w.heap.size w w'):fM w' ok s vc vr vn vo vt vu vk vb:=h.aDW (aJ a)
def iU(o:Op):Prop:=bL o.aDN/\o.aD3.size<=cQ/\o.aDU.size<=cQ/\o.aD7.size<=cQ/\o.to_.size<=cQ/\cS o.val/\bL o.aEa/\o.text.size<=cQ/\o.aEc.size<=cQ
def bX(o:Op):Array Value:=#[.int .i64 o.aDN,.string o.aD3,.string o.aDU,.string o.aD7,.string o.to_,.int .i64 o.val.1,.int .i64 o.val.2.1,.string o.val.2.2,.int .i64 o.aEa,.string o.text,.string o.aEc,.bool o.aEh]
def eZ(o:Op):Value:= .agg (bX o)
theorem aM.cut{α:Type}{R:Rep α}{s:Nat}{e:TypeId}{w:World}{base:Nat}{ok:nP}(F:Firm R s){a:oD}{n c:Nat}{l:List α}(h:aM R s e w base ok (.slice a n c) l)(m:Nat)(hm:m<=l.length):aM R s e w base ok (.slice a m c) (l.take m):=by
 obtain⟨cs,h1,h2⟩:=h;have q:(Value.slice a m c).ownBlock=(Value.slice a n c).ownBlock:=by cases a<;>rfl
 have p:(l.take m).length=m:=by rw[List.length_take];omega
 refine⟨cs.take (m * s),?_,?_⟩
 .rw[p];refine⟨by rw[List.length_take,h1.1];exact Nat.min_eq_left (Nat.mul_le_mul_right s hm),?_⟩
  rcases h1.2 with ⟨d,t⟩|⟨g,cap,cur,d,h3,h4,h5,h6,h7,h8⟩
  .injection d with f o i;subst f i;exact .inl ⟨by rw[show m=0 by omega],qo⟩
  .injection d with f o i;subst f i;refine .inr ⟨g,c,cur,rfl,h3,h4,qo,h6,h7,?_⟩;rw[<-h8,List.take_take]
   congr 1
   exact(Nat.min_eq_left (Nat.mul_le_mul_right s hm)).symm
 .exact(aW.split (fun _ _ k=>F.len k) m h2 hm).1.mono fun r x k=>F.more k fun b j=>⟨j.1,j.2.1,by rw[q];exact j.2.2⟩
theorem aM.place{α:Type}{R:Rep α}{s:Nat}{e:TypeId}{w:World}{base:Nat}{ok:nP}{a:oD}{n c:Nat}{l:List α}(h:aM R s e w base ok (.slice a n c) l):((a=none/\c=0)\/∃g,a=some ⟨g,0,none⟩)/\l.length<=c/\c<=maxLen:=by
 obtain⟨cs,h1,h2⟩:=h
 rcases h1.2 with ⟨b,j⟩|⟨g,cap,cur,b,h3,h4,h5,h6,h7,h8⟩
 .injection b with d i f;exact⟨.inl ⟨d,f⟩,qo,by unfold maxLen;omega⟩
 .injection b with d i f;subst f;exact⟨.inr ⟨g,d⟩,h5,h6⟩
theorem jA{α:Type}{R:Rep α}{s:Nat}{P:Program}{w:World}{t e:TypeId}{bytes:Nat}{base:Nat}{ok:nP}(E:dZ P t e s bytes)(F:Firm R s){ops:Array Oper}{o:Oper}{a:Act}{K:Act->World->Prop}{Q:Exit->Act->World->Prop}{G:Prop}(k:o.guard=none)(d x:Operand)
 (m:o.op=.call {callee:= .builtin .append,args:=#[d,x],argTypes:=#[t,t]})
 (v:Value)(l:List α)(p:a.eval d=v)(f:aM R s e w base ok v l)
 (g c:Nat)(cs:Array Value)(ty:TypeId)(fr:Nat×Nat)(y:α)(q:a.eval x=.slice (some ⟨g,0,none⟩) 1 c)(hc:w.heap[g]? =some (.cells cs ty fr))(hy:R w (fun b=>ok b/\b<w.heap.size/\some b≠v.ownBlock) cs.toList y)
 (h63:l.length<=1000000)(hbytes:bytes<=10000)(j:base<=w.heap.size)
 (h:∀l',Hid (l'=l++[y])->∀A' c' w',aM R s e w' base ok (.slice A' l'.length c') l'->w.grownBy w' v.ownBlock->((Value.slice A' l'.length c').ownBlock=v.ownBlock\/(Value.slice A' l'.length c').ownBlock=some w.heap.size)->K (a.put o.dst (.slice A' l'.length c')) w'):if Region.wanted o (yielded ops a.tmps)=true then Oper.wp P o a w K Q else G:=by
 obtain⟨xs,n,hcs⟩:=f;have hlen:cs.toList.length=1 * s:=by rw[F.len hy];omega
 refine Pc E k d x m base v l.length xs p n (some ⟨g,0,none⟩) 1 c cs.toList q hlen ?_ (F.one hy) (by unfold maxLen;omega) ?_ j fun A' c' w' h1 h2 h3=> ?_
 .exact QCr
 .exact QCK
 .exact QCc
theorem QDc{p:Prop}(h:p:=by
 subst hji;obtain⟨v1,hv1,he⟩:=hy w hw;exact Dr hi hv1 ⟨fun _=>hw,by rw[he];exact H⟩):p:=h
abbrev Tz:Exit->Act->World->Prop:=fun _ _ _=>False
section
variable {P:Program} {ops:Array Oper} {md:Region.Mode} {C:World->Prop} {Q:Exit->Act->World->Prop}
def vE(P:Program)(ops:Array Oper)(i:Nat)(K:Act->World->Prop)(a:Act)(w:World):Prop:=
 match ops[i]? with
 |none=>False
 |some o=>if Region.wanted o (yielded ops a.tmps)=true then o.wp P a w K Tz else K (a.put o.dst undef) w
theorem tH{o:Oper}{a:Act}{K K':Act->World->Prop}{g:Exit->Act->World->Prop}(h:∀a w,K a w->K' a w){r:Result Next}(b:o.upon P a K Tz r):o.upon P a K' g r:=by
 cases r with
 |ok n w'=>
  cases n with
  |value v=>exact h _ _ b
  |skip=>exact h _ _ b
  |enter f args=>
   refine Calls.mono b fun e i d=> ?_
   cases e with
   |returned v=>exact h _ _ d
   |panicked c=>exact(d:False).elim
   |outgrown=>obtain⟨_,_,h0⟩:=(d:LetsOut Tz);exact(h0:False).elim
  |row r args=>exact Rows.mono b fun v i d=>h _ _ d
  |_=>first|exact(b:False).elim|exact h _ _ b
 |halt x w'=>
  cases x with
  |panic v=>exact(b:False).elim
  |_=>exact(b:False).elim
theorem UF{i:Nat}{K K':Act->World->Prop}{a:Act}{w:World}(h:∀a w,K a w->K' a w)(b:vE P ops i K a w):vE P ops i K' a w:=by
 unfold vE at *;split
 .rename_i h0;simp only[h0] at b
 .rename_i o h0;simp only[h0] at b;split
  .rename_i hw;rw[iP hw] at b;exact tH h b
  .rename_i hw;rw[iN hw] at b;exact h _ _ b
theorem YQ{i:Nat}{K K':Act->World->Prop}{a:Act}{w:World}(h:∀a w,K a w->K' a w)(b:vE P ops i K a w):wpOp P ops Q i K' a w:=by
 unfold vE at b;unfold wpOp;split
 .rename_i h0;simp only[h0] at b
 .rename_i o h0;simp only[h0] at b;split
  .rename_i hw;rw[iP hw] at b;exact .inl (tH h b)
  .rename_i hw;rw[iN hw] at b;exact h _ _ b
theorem We{j:Nat}{g i:Oper}{v:Value}(hj:ops[j]? =some i)(p:g.apart ops i=true)
 (y:∀cs b,g.op≠ .select cs b)(s:∀cs b,i.op≠ .select cs b){K:Act->World->Prop}{a:Act}{w:World}{Y:Act->Prop}
 (k:∀a u,Y a->Y (a.put i.dst u))(q:∀a d,Y a->Y {a with defers:=d::a.defers})(l:Y a)(h:vE P ops j K (a.put g.dst v) w):
 vE P ops j (fun o w'=>Y o/\K (o.put g.dst v) w') a w:=by
 obtain⟨h1,h2,h3⟩:=Oper.apart_spec p;unfold vE at *;simp only[hj] at *;rw[wanted_put i a g.dst v h1] at h;split
 .rename_i hw;simp only[hw,if_true] at h;unfold Oper.wp at *;rw[execOp_put i s a g.dst v h1] at h;generalize (execOp a.eval i).run P w=r at *
  cases r with
  |ok n w'=>
   cases n with
   |value u=>exact⟨k a u l,by rw[<-Act.put_comm a v u h2];exact h⟩
   |skip=>exact⟨k a undef l,by rw[<-Act.put_comm a v undef h2];exact h⟩
   |enter f args=>
    refine Calls.mono h fun e t m=> ?_
    cases e with
    |returned u=>exact⟨k a u l,by rw[<-Act.put_comm a v u h2];exact m⟩
    |panicked c=>exact m
    |outgrown=>exact m
   |row r args=>exact Rows.mono h fun u t m=>⟨k a u l,by rw[<-Act.put_comm a v u h2];exact m⟩
   |_=>
    first
    |exact(h:False).elim
    |(rename_i d
      refine⟨k _ undef (q a d l),?_⟩;have h4:K (({a.put g.dst v with defers:=d::(a.put g.dst v).defers}:Act).put i.dst undef) w':=h;rw[Act.put_defers,Act.put_comm _ v undef h2] at h4;exact h4)
  |halt x w'=>
   cases x with
   |panic v=>exact(h:False).elim
   |_=>exact(h:False).elim
 .rename_i hw;simp only[hw] at h;exact⟨k a undef l,by rw[<-Act.put_comm a v undef h2];exact h⟩
def pE(P:Program)(md:Region.Mode)(ops:Array Oper)(C:World->Prop)(n:Nat)(Q:Act->World->Prop):Nat->Array Bool->Act->World->Prop
 |0,listed,a,w=>Region.ready md ops listed=[]/\Q a w
 |f+1,listed,a,w=>(Region.ready md ops listed=[]->Q a w)/\∀i∈Region.ready md ops listed,vE P ops i (fun b w'=>(i<n->C w')/\pE P md ops C n Q f (listed.setIfInBounds i true) b w') a w
theorem yA{n:Nat}:∀(f:Nat) (listed:Array Bool) (a:Act) (w:World),pE P md ops C n (fun a w=>Q .normal a w) f listed a w->wpAny P md ops Q f listed a w
 |0,_,_,_,h=>h
 |f+1,_,_,_,h=>⟨h.1,fun i d=>YQ (fun b w' c=>yA f _ b w' c.2) (h.2 i d)⟩
def DA(P:Program)(ops:Array Oper)(C:World->Prop)(o:Oper)(v:Value)(a:Act):Prop:=∀w,C w->∃v1,YieldsAt P ops w o v1 a/\a.put o.dst v1=a.put o.dst v
theorem Dr{i:Nat}{o:Oper}{v:Value}{a:Act}{w:World}(d:ops[i]? =some o)(g:YieldsAt P ops w o v a){K:Act->World->Prop}(h:K (a.put o.dst v) w):vE P ops i K a w:=by
 unfold vE;simp only[d]
 rcases g with ⟨hw,b|⟨b,rfl⟩|⟨f,args,b,c⟩⟩|⟨hw,rfl⟩
 .simp only[hw,if_true,Oper.wp,b,Oper.upon];exact h
 .simp only[hw,if_true,Oper.wp,b,Oper.upon];exact h
 .simp only[hw,if_true,Oper.wp,b,Oper.upon];refine c.mono fun e j he=> ?_
  obtain⟨rfl,rfl⟩:=he;exact h
 .simp only[hw,Bool.false_eq_true,if_false];exact h
theorem KV{n i:Nat}{c:Oper}{v:Value}{Q:Act->World->Prop}(hi:ops[i]? =some c)(z:∀(j:Nat) (o:Oper) cs b,ops[j]? =some o->o.op≠ .select cs b)
 (S:Region.sinkB md ops n=true)(G:Region.chainB md ops n=true)(N:n<ops.size)(K:i<n):
 ∀(f:Nat) (listed:Array Bool) (a:Act) (w:World),HeadInv md ops n listed->
  (∀j g,ops[j]? =some g->j≠i->listed.getD j true=false->(∀e∈g.after,Region.binds md e=true->e.on≠i)->c.apart ops g=true)->
  i∈Region.ready md ops listed->C w->DA P ops C c v a->
  pE P md ops C n Q f (listed.setIfInBounds i true) (a.put c.dst v) w->pE P md ops C n Q (f+1) listed a w:=by
 intro f
 induction f with
 |zero=>
  intro listed a w inv _ l hw hy H;refine⟨fun h=>(by rw[h] at l;cases l),fun j hj=> ?_⟩;by_cases hji:j=i
  .exact QDc
  .have:=ready_mono hj hji;rw[H.1] at this
   cases this
 |succ f T=>
  intro listed a w inv s l hw hy H;refine⟨fun h=>(by rw[h] at l;cases l),fun j hj=> ?_⟩;by_cases hji:j=i
  .exact QDc
  .have h1:=H.2 j (ready_mono hj hji);obtain⟨y,g,q,E⟩:=mem_ready.1 hj;have x:j<n:=by
    rcases Nat.lt_or_ge j n with h|h
    .exact h
    .exact absurd hj (tail_waits S G N inv (n - i) i rfl K (mem_ready.1 l).1 j h)
   have R:∀e∈g.after,Region.binds md e=true->e.on≠i:=fun e he F heq=>by
    have h1:=E e he F;have h0:=(mem_ready.1 l).1;rw[heq] at h1
    rcases Nat.lt_or_ge i listed.size with m|m
    .simp[m] at h0 h1;rw[h0] at h1;cases h1
    .simp[Array.getElem?_eq_none m] at h1
   have p:=s j g q hji y R;obtain⟨_,_,h3⟩:=Oper.apart_spec p;obtain⟨_,r,_⟩:=Oper.apart_spec p;have A:∀cs b,c.op≠ .select cs b:=fun cs b=>z i c cs b hi
   have keep:∀(a:Act) (u:Value),DA P ops C c v a->DA P ops C c v (a.put g.dst u):=fun a u h w hw=>by
    obtain⟨v1,hv1,he⟩:=h w hw;refine⟨v1,hv1.of_same (execOp_put c A a g.dst u h3) (wanted_put c a g.dst u h3),?_⟩;rw[<-Act.put_comm a v1 u r,<-Act.put_comm a v u r,he]
   have U:∀(a:Act) (d:Deferred),DA P ops C c v a->DA P ops C c v {a with defers:=d::a.defers}:=fun a d h w hw=>by
    obtain⟨v1,hv1,he⟩:=h w hw;have I:execOp ({a with defers:=d::a.defers}:Act).eval c=execOp a.eval c:=rfl;refine⟨v1,hv1.of_same I rfl,?_⟩;rw[<-Act.put_defers,<-Act.put_defers,he]
   have h2:=We q p A (fun cs b=>z j g cs b q) keep U hy h1;have J:∀k ok,ops[k]? =some ok->k≠i->(listed.setIfInBounds j true).getD k true=false->
    (∀e∈ok.after,Region.binds md e=true->e.on≠i)->c.apart ops ok=true:=fun k ok L M B O=>by
    refine s k ok L M ?_ O;by_cases t:j=k
    .subst t;exact y
    .rw[getD_set_ne true t] at B;exact B
   refine UF (fun D w' h3=>⟨h3.2.1,T (listed.setIfInBounds j true) D w' (inv.set hj x) J (ready_mono l (Ne.symm hji)) (h3.2.1 x) h3.1 ?_⟩) h2;rw[Array.setIfInBounds_comm _ _ hji];exact h3.2.2
theorem JN{n k f:Nat}{Q:Act->World->Prop}{listed:Array Bool}{a:Act}{w:World}(c:Region.ready md ops listed=[k])(h:vE P ops k (fun d w'=>(k<n->C w')/\pE P md ops C n Q f (listed.setIfInBounds k true) d w') a w):pE P md ops C n Q (f+1) listed a w:=
 ⟨fun h0=>(by rw[c] at h0;cases h0),fun i b=>(by rw[c,List.mem_singleton] at b;subst b;exact h)⟩
def rd(P:Program)(ops:Array Oper)(o:Oper)(a:Act)(w:World)(K:Act->Prop):Prop:=if Region.wanted o (yielded ops a.tmps)=true then o.still P a w K else K (a.put o.dst undef)
def mv(P:Program)(ops:Array Oper)(o:Oper)(a:Act)(w:World)(K:Act->World->Prop):Prop:=if Region.wanted o (yielded ops a.tmps)=true then o.wp P a w K Tz else K (a.put o.dst undef) w
def cJ(P:Program)(ops:Array Oper)(C:World->Prop)(n:Nat)(Q:Act->World->Prop):List (Nat×Bool)->Act->World->Prop
 | [],a,w=>Q a w
 |(k,false)::r,a,w=>match ops[k]? with
  |none=>False
  |some o=>rd P ops o a w (fun b=>(∀w1,C w1->rd P ops o a w1 (fun c=>c=b))/\cJ P ops C n Q r b w)
 |(k,true)::r,a,w=>match ops[k]? with
  |none=>False
  |some o=>mv P ops o a w (fun b w'=>(k<n->C w')/\cJ P ops C n Q r b w')
def FJ(md:Region.Mode)(ops:Array Oper):List (Nat×Bool)->Array Bool->Bool
 | [],listed=>(Region.ready md ops listed).isEmpty
 |(k,fl)::r,listed=>fl&&(Region.ready md ops listed==[k])&&FJ md ops r (listed.setIfInBounds k true)
def FK(md:Region.Mode)(ops:Array Oper)(n:Nat)(T:List (Nat×Bool)):List (Nat×Bool)->Array Bool->Bool
 | [],listed=>FJ md ops T listed
 |(k,fl)::r,listed=>(if fl=true then Region.ready md ops listed==[k] else (Region.ready md ops listed).contains k&&Region.free md ops listed k)&&decide (k<n)&&FK md ops n T r (listed.setIfInBounds k true)
def Ua(md:Region.Mode)(ops:Array Oper)(n:Nat)(H T:List (Nat×Bool)):Bool:=
 Region.noSelect ops&&decide (n<ops.size)&&Region.sinkB md ops n&&Region.chainB md ops n&&decide (H.length+T.length=ops.size)&&FK md ops n T H (Array.replicate ops.size false)
theorem FL{k:Nat}{o:Oper}(h:ops[k]? =some o){a:Act}{w:World}{K:Act->Prop}:stOp P ops w k K a↔rd P ops o a w K:=by unfold stOp rd;simp only[h]
theorem DB{n:Nat}{Q:Act->World->Prop}:∀(T:List (Nat×Bool)) (listed:Array Bool) (a:Act) (w:World),FJ md ops T listed=true->cJ P ops C n Q T a w->pE P md ops C n Q T.length listed a w
 | [],listed,a,w,hB,h=>⟨by simpa [FJ] using hB,h⟩
 |(k,false)::r,listed,a,w,hB,h=>by simp[FJ] at hB
 |(k,true)::r,listed,a,w,hB,h=>by
  simp only[FJ,Bool.and_eq_true,bQ,true_and] at hB;refine JN hB.1 ?_;unfold cJ at h;unfold vE
  cases c:ops[k]? with
  |none=>simp only[c] at h
  |some o=>
   simp only[c] at h ⊢;unfold mv at h;split
   .rename_i hw;rw[iP hw] at h;exact tH (fun d w' b=>⟨b.1,DB r _ d w' hB.2 b.2⟩) h
   .rename_i hw;rw[iN hw] at h;exact⟨h.1,DB r _ _ w hB.2 h.2⟩
theorem uK{n:Nat}{Q:Act->World->Prop}{T:List (Nat×Bool)}(l:Region.noSelect ops=true)(j:Region.sinkB md ops n=true)(e:Region.chainB md ops n=true)(f:n<ops.size):∀(H:List (Nat×Bool)) (listed:Array Bool) (a:Act) (w:World),HeadInv md ops n listed->C w->FK md ops n T H listed=true->cJ P ops C n Q (H++T) a w->pE P md ops C n Q (H.length+T.length) listed a w
 | [],listed,a,w,inv,hw,hB,h=>by
   rw[List.length_nil,Nat.zero_add];exact DB T listed a w hB h
 |(k,true)::r,listed,a,w,inv,hw,hB,h=>by
  simp only[FK,if_true,Bool.and_eq_true,bQ,decide_eq_true_eq] at hB;obtain⟨⟨g,c⟩,d⟩:=hB;rw[List.length_cons,show r.length+1+T.length=(r.length+T.length)+1 by omega];refine JN g ?_;have s:=inv.set (i:=k) (by rw[g];exact List.mem_singleton.2 rfl) c;rw[List.cons_append] at h;unfold cJ at h;unfold vE
  cases b:ops[k]? with
  |none=>simp only[b] at h
  |some o=>
   simp only[b] at h ⊢;unfold mv at h;split
   .rename_i p;rw[iP p] at h;exact tH (fun t w' m=>⟨m.1,uK l j e f r _ t w' s (m.1 c) d m.2⟩) h
   .rename_i p;rw[iN p] at h;exact⟨h.1,uK l j e f r _ _ w s (h.1 c) d h.2⟩
 |(k,false)::r,listed,a,w,inv,hw,hB,h=>by
  simp only[FK,Bool.false_eq_true,if_false,Bool.and_eq_true,decide_eq_true_eq] at hB;obtain⟨⟨⟨g,x⟩,c⟩,d⟩:=hB;have q:k∈Region.ready md ops listed:=by simpa using g
  rw[List.length_cons,show r.length+1+T.length=(r.length+T.length)+1 by omega];rw[List.cons_append] at h;unfold cJ at h
  cases b:ops[k]? with
  |none=>simp only[b] at h
  |some o=>
   simp only[b] at h;obtain⟨v,z,h1,h2⟩:=yieldsAt_of_stOp b ((FL b).2 h);exact KV b (Region.noSelect_spec l) j e f c _ listed a w inv (Region.free_spec b x) q hw
    (fun w1 y=>yieldsAt_of_stOp b ((FL b).2 (h1 w1 y)))
    (uK l j e f r _ _ w (inv.set q c) hw d h2)
theorem cD{id:Nat}{a:Act}{w:World}{l:List Oper}(n:Nat)(H T:List (Nat×Bool))(C:World->Prop)(hm:P.follows .mixedOrders=true)(c:Ua .any l.toArray n H T=true)(hC:C w.drew)
 (h:cJ P l.toArray C n (fun a w=>Q .normal a w) (H++T) a w.drew):(Code.region id l.toArray true).wp P Q a w:=by
 simp only[Ua,Bool.and_eq_true,decide_eq_true_eq] at c;obtain⟨⟨⟨⟨⟨i,f⟩,g⟩,e⟩,b⟩,d⟩:=c;have m:HeadInv .any l.toArray n (Array.replicate l.toArray.size false):=
  ⟨qs,fun j o _ b=>(by rw[getD_replicate_false] at b;cases b),fun t _ k=>getD_in (by simpa using k) (getD_replicate_false _ _)⟩
 have h1:=uK (md:= .any) i g e f H _ a w.drew m hC d h;rw[b] at h1;exact wp_region_any hm (yA _ _ _ _ h1)
theorem dG{n k:Nat}{Q:Act->World->Prop}{r:List (Nat×Bool)}{a:Act}{w:World}{o:Oper}(d:ops[k]? =some o)(h:∀K:Act->Prop,(∀b,(∀w1,C w1->rd P ops o a w1 (fun c=>c=b))->cJ P ops C n Q r b w->K b)->rd P ops o a w K):cJ P ops C n Q ((k,false)::r) a w:=by
 unfold cJ;simp only[d];exact h _ (fun b h1 h2=>⟨h1,h2⟩)
theorem bJ{n k:Nat}{Q:Act->World->Prop}{r:List (Nat×Bool)}{a:Act}{w:World}{o:Oper}(c:ops[k]? =some o)(h:∀K:Act->World->Prop,(∀b w',(k<n->C w')->cJ P ops C n Q r b w'->K b w')->mv P ops o a w K):cJ P ops C n Q ((k,true)::r) a w:=by
 unfold cJ;simp only[c];exact h _ (fun b w' h1 h2=>⟨h1,h2⟩)
end
end Go.Proofs.YthcgdgkpgdjahaaGreatDoor
