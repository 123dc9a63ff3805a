/- Lemmas. -/
import Derived.Test.YtjlkljmickcacaaGreatDoorMac
import Derived.Deep.RegionHeld3
import Derived.Deep.RegionLaw
import Derived.Deep.Cut
import Derived.Deep.CutRange
import Derived.Deep.DeepCutAuto
import Derived.Deep.CutBlock
namespace Go.Proofs.YtjlkljmickcacaaGreatDoor
open Go.RowKit
set_option linter.unusedVariables false
set_option linter.unusedSimpArgs false
set_option maxHeartbeats 16000000
set_option maxRecDepth 20000
theorem Yr{p:Prop}(h:p:=by
 have:k=1\/k=2\/k=3\/k=4\/k=5\/k=6\/k=7:=qo
 rcases this with rfl|rfl|rfl|rfl|rfl|rfl|rfl<;>decide +kernel):p:=h
structure Op where
 aDo:Int
 aDC:ByteArray
 aDu:ByteArray
 aDJ:ByteArray
 to_:ByteArray
 val:V3
 aDK:Int
 text:ByteArray
 aDM:ByteArray
 aDQ:Bool
deriving DecidableEq
def IV:Op:=⟨0,ByteArray.empty,ByteArray.empty,ByteArray.empty,ByteArray.empty,bD,0,ByteArray.empty,ByteArray.empty,false⟩
structure uD where
 aDx:Int
 aDT:ByteArray
 aEu:ByteArray
deriving DecidableEq
structure cB where
 id:ByteArray
 aDR:ByteArray
 aDH:ByteArray
 aDt:List (ByteArray×V3)
 log:List uD
deriving DecidableEq
structure wH where
 id:Int
 aDx:Int
 aDC:ByteArray
 aDu:ByteArray
 action:ByteArray
 aDM:ByteArray
 open_:Bool
deriving DecidableEq
structure yA where
 aDx:Int
 aDu:ByteArray
 arg:ByteArray
deriving DecidableEq
structure Sto where
 aDx:Int
 aDn:List cB
 aDr:List wH
 aDv:List yA
 aDB:List (ByteArray×ByteArray)
 aDp:Po
 aDA:Int
def xF:ByteArray:=⟨#[112,111,108,105,99,121,32,111,112,101,110,32,112,101,114,109,105,116,117,110,108,101,115,115,32,123,32,125]⟩
def lD:Sto:=⟨0,[],[],[],[],(fH xF).1,0⟩
def gY(a b:bY):Bool:=decide (¬b.toList<a.toList)
def aW(s:Sto)(id:bY):Nat×Bool:=
 let i:=s.aDn.findIdx (fun c=>gY id c.id)
 if i<s.aDn.length then (i,decide (((s.aDn[i]?).map (·.id))=some id)) else (s.aDn.length,false)
def dC(s:Sto)(id:bY):Option cB:=if (aW s id).2 then s.aDn[(aW s id).1]? else none
def sC(s:Sto)(subject role:bY):Bool:=s.aDB.any (fun r=>decide (r=(subject,role)))
def gM(c:cB)(name:bY):V3:=((c.aDt.find? (fun f=>decide (f.1=name))).map (·.2)).getD bD
def xG:ByteArray:=str "open"
def vD:ByteArray:=str "work"
def EP:ByteArray:=str "done"
def gU:ByteArray:=str "closed"
def iB(a b:bY):Bool:=
 if a=xG then decide (b=vD) else if a=vD then decide (b=EP) else if a=EP then decide (b=vD)||decide (b=gU) else false
def yB:List ByteArray:=["new","read","write","move","close","role","policy"].map str
def cG(kind:Int):ByteArray:=if kind<1\/7<kind then str "tick" else (yB[(kind - 1).toNat]?).getD (str "tick")
def nA(s:bY):Bool:=decide (s.size=0)||eM s
def kE(o:Op):Bool:=
 if o.aDQ=false then decide (o.aDM.size=0) else (decide (1<=o.aDo/\o.aDo<=4)&&(decide (o.aDM.size≠0)&&decide (o.aDM.size<=64)))
def SM(o:Op):Op:={o with aDC:=ByteArray.empty,aDM:=ByteArray.empty,aDQ:=false}
def fY(o:Op):Bool:=
 let b:=SM o
 let k:={IV with aDo:=o.aDo}
 if o.aDo=1 then decide (o.aDu.size≠0)&&decide (b={k with aDu:=o.aDu})
 else if o.aDo=2\/o.aDo=6 then (decide (o.aDu.size≠0)&&decide (o.aDJ.size≠0))&&decide (b={k with aDu:=o.aDu,aDJ:=o.aDJ})
 else if o.aDo=3 then ((decide (o.aDu.size≠0)&&decide (o.aDJ.size≠0))&&decide (o.val≠bD))&&decide (b={k with aDu:=o.aDu,aDJ:=o.aDJ,val:=o.val})
 else if o.aDo=4 then (decide (o.aDu.size≠0)&&decide (o.to_.size≠0))&&decide (b={k with aDu:=o.aDu,to_:=o.to_})
 else if o.aDo=5 then decide (0<o.aDK)&&decide (b={k with aDK:=o.aDK})
 else if o.aDo=7 then decide (b={k with text:=o.text})
 else if o.aDo=8 then (decide (0<o.aDK)&&decide (o.aDK<=1099511627776))&&decide (b={k with aDK:=o.aDK})
 else false
def gG(o:Op):Bool:=
 if eM o.aDC=false\/kE o=false\/4096<o.text.size then false
 else if nA o.aDu=false\/nA o.aDJ=false\/nA o.to_=false\/(o.val≠bD/\aT o.val=false) then false
 else fY o
def iJ(s:Sto)(o:Op):Int:=
 match dC s o.aDu with
 |none=>10
 |some c=>
  if o.aDo=3/\16<=c.aDt.length/\gM c o.aDJ=bD then 6
  else if o.aDo≠2/\256<=c.log.length then 6
  else if (o.aDo=3/\c.aDH=gU)\/(o.aDo=4/\iB c.aDH o.to_=false) then 13
  else 0
def iU(s:Sto)(o:Op):Int:=
 if (s.aDr.length:Int)<o.aDK then 10
 else match s.aDr[(o.aDK - 1).toNat]? with
  |none=>10
  |some r=>if r.open_=false then 10 else if r.aDC=o.aDC then 12 else 0
def dW(s:Sto)(o:Op):Int:=
 if gG o=false then 1
 else if o.aDo=1 then (if (aW s o.aDu).2 then 11 else if 64<=s.aDn.length then 6 else 0)
 else if o.aDo=2\/o.aDo=3\/o.aDo=4 then iJ s o
 else if o.aDo=5 then iU s o
 else if o.aDo=6 then (if 64<=s.aDB.length/\sC s o.aDu o.aDJ=false then 6 else 0)
 else if o.aDo=8 then (if 1099511627776 - o.aDK<s.aDx then 6 else 0)
 else 0
def sD(s:bY):V3:=(5,0,s)
def mO(cat:Int)(name:String)(bag:List V3):Gv:=(cat,str name,bag)
def mP(c:cB)(subject:bY):List Gv:=
 [mO 3 "id" [sD c.id],mO 3 "owner" [sD c.aDR],mO 3 "state" [sD c.aDH],mO 3 "events" [(2,c.log.length,ByteArray.empty)],
   mO 3 "took" [cH (c.log.any (fun h=>decide (h.aDT=subject)))]]
 ++(match c.log.getLast? with |some h=>[mO 3 "last" [sD h.aDT]]|none=>[])
 ++((c.aDt.filter (fun f=>decide (f.1.size<=14))).map (fun f=>((3,str "f_"++f.1,[f.2]):Gv)))
def gV(s:Sto)(o:Op):List Gv:=
 [mO 1 "id" [sD o.aDC],mO 1 "role" (((s.aDB.filter (fun r=>decide (r.1=o.aDC))).take 16).map (fun r=>sD r.2)),mO 2 "name" [sD (cG o.aDo)]]
 ++(if o.aDJ.size≠0 then [mO 2 "field" [sD o.aDJ]] else [])
 ++(if o.to_.size≠0 then [mO 2 "to" [sD o.to_]] else [])
 ++[mO 4 "now" [(4,s.aDx,ByteArray.empty)]]
 ++(match dC s o.aDu with |some c=>if o.aDo≠6 then mP c o.aDC else []|none=>[])
def oN(s:Sto)(c:cB)(actor what:bY):cB:={c with log:=c.log++[⟨s.aDx,actor,what⟩]}
def oG(c:cB)(name:bY)(v:V3):cB:=
 let i:=c.aDt.findIdx (fun f=>gY name f.1)
 match c.aDt[i]? with
 |none=>{c with aDt:=c.aDt++[(name,v)]}
 |some f=>if f.1=name then {c with aDt:=c.aDt.set i (name,v)} else {c with aDt:=c.aDt.take i++[(name,v)]++c.aDt.drop i}
def fI(s:Sto)(i:Nat)(f:cB->cB):Sto:={s with aDn:=match s.aDn[i]? with |some c=>s.aDn.set i (f c)|none=>s.aDn}
def dA(s:Sto)(o:Op):Sto:=
 if dW s o≠0 then s
 else
  let i:=(aW s o.aDu).1
  if o.aDo=1 then {s with aDn:=s.aDn.take i++[oN s ⟨o.aDu,o.aDC,xG,[],[]⟩ o.aDC (str "new")]++s.aDn.drop i}
  else if o.aDo=3 then fI s i (fun c=>oN s (oG c o.aDJ o.val) o.aDC (str "write"))
  else if o.aDo=4 then fI s i (fun c=>oN s {c with aDH:=o.to_} o.aDC o.to_)
  else if o.aDo=5 then {s with aDr:=match s.aDr[(o.aDK - 1).toNat]? with |some r=>s.aDr.set (o.aDK - 1).toNat {r with open_:=false} |none=>s.aDr}
  else if o.aDo=6 then (if sC s o.aDu o.aDJ then s else {s with aDB:=s.aDB++[(o.aDu,o.aDJ)]})
  else if o.aDo=7 then (if (fH o.text).2.1=0 then {s with aDp:=(fH o.text).1,aDA:=s.aDA+1} else s)
  else if o.aDo=8 then {s with aDx:=s.aDx+o.aDK}
  else s
def PC:ByteArray:=str "glass"
def SN(s:Sto)(subject:bY):Bool:=s.aDr.any (fun r=>decide (r.aDC=subject)&&(r.open_&&decide (100<=s.aDx - r.aDx)))
def jL(s:Sto)(o:Op)(m:Mk):Bool:=o.aDQ&&((decide (m=(0,4))||decide (m=(0,0)))&&(sC s o.aDC PC&& !SN s o.aDC))
def fU(s:Sto)(o:Op)(reason:bY):Sto:={s with aDr:=s.aDr++[⟨s.aDr.length+1,s.aDx,o.aDC,o.aDu,cG o.aDo,reason,true⟩]}
def lK(s:Sto)(o:Op)(what:bY):Sto:=
 let i:=s.aDn.findIdx (fun c=>decide (c.id=o.aDu))
 if i<s.aDn.length/\o.aDo≠6 then fI s i (fun c=>oN s c o.aDC what) else s
def cU(o:Op)(done:Bool)(s:Sto)(x:Ob):Sto:=
 if x.aDo=1/\done=true then lK s o x.arg
 else if x.aDo=3 then fU s o x.arg
 else if x.aDo=4 then {s with aDv:=s.aDv++[⟨s.aDx,o.aDu,x.arg⟩]}
 else s
def qW(s:Sto):Bool:=decide (256<s.aDr.length)||(decide (256<s.aDv.length)||s.aDn.any (fun c=>decide (256<c.log.length)))
structure Rpl where
 err:Int
 mark:Mk
 aDQ:Bool
 val:V3
 hidden:Bool
 at_:Int
def qX:Rpl:=⟨0,(0,0),false,bD,false,0⟩
structure Deci where
 op:Op
 aDA:Int
 mark:Mk
 aDQ:Bool
 aDE:List Ob
def cR(s:Sto)(o:Op):Sto×Rpl×Option Deci×Int:=
 let e:=dW s o
 let a:Int×Int:=if e=0/\o.aDo=7 then (fH o.text).2 else (e,0)
 if a.1≠0 then (s,{qX with err:=a.1,at_:=a.2},none,a.1)
 else
  let (r,e2):=gF (gV s o) s.aDp
  if e2≠0 then (s,{qX with err:=e2,at_:=a.2},none,e2)
  else
   let glass:=jL s o r.1
   let done:=decide (r.1=(4,0))||glass
   let b:=if glass then fU s o o.aDM else s
   let f:=if done then dA b o else b
   let hidden:=done&&(decide (o.aDo=2)&&r.2.any (fun x=>decide (x.aDo=2)&&decide (x.arg=o.aDJ)))
   let val:=if done&&(decide (o.aDo=2)&& !hidden) then ((dC s o.aDu).map (fun c=>gM c o.aDJ)).getD bD else bD
   let d:=r.2.foldl (cU o done) f
   if qW d then (s,{qX with err:=6,at_:=a.2},none,6)
   else (d,⟨if done then 0 else 12,r.1,glass,val,hidden,0⟩,some ⟨o,s.aDA,r.1,glass,r.2⟩,0)
def cN(l:lU):List UInt8×List UInt8:=(l.takeWhile (fun c=>decide (c.toNat≠32)),(l.dropWhile (fun c=>decide (c.toNat≠32))).drop 1)
def pA(l:lU):Option V3:=
 match jT l with
 |([t,_],0,_)=>
  if t.aDo=2 then some (2,t.num,t.str) else if t.aDo=3 then some (4,t.num,t.str) else if t.aDo=4 then some (5,t.num,t.str)
  else if t.aDo=5 then some (3,t.num,t.str)
  else if t.aDo=1 then (if t.str=str "true" then some (1,1,ByteArray.empty) else if t.str=str "false" then some (1,0,ByteArray.empty) else none)
  else none
 |_=>none
def jM(l:lU):Int:=if l=[]\/9<l.length\/l.head?=some 48\/l.all bA=false then 0 else (qC l:Int)
def oQ(w:lU):Int:=let i:=(yB++[str "tick"]).findIdx (fun x=>decide (x=bs w));if i<8 then (i:Int)+1 else 0
def kF(a:lU):Bool×List UInt8×List UInt8:=match a with
 |33 ::r=>(true,(cN r).1,(cN r).2)
 |r=>(false,[],r)
def iV(l:lU):Option Op:=
 let (subj,r0):=cN l
 let (glass,reason,r1):=kF r0
 let (w,r2):=cN r1
 let k:=oQ w
 let base:Op:={IV with aDo:=k,aDC:=bs subj,aDM:=bs reason,aDQ:=glass}
 let o:Option Op:=
  if k=1 then some {base with aDu:=bs r2}
  else if k=2\/k=6 then some {base with aDu:=bs (cN r2).1,aDJ:=bs (cN r2).2}
  else if k=3 then (pA (cN (cN r2).2).2).map (fun v=>{base with aDu:=bs (cN r2).1,aDJ:=bs (cN (cN r2).2).1,val:=v})
  else if k=4 then some {base with aDu:=bs (cN r2).1,to_:=bs (cN r2).2}
  else if k=5\/k=8 then some {base with aDK:=jM r2}
  else if k=7 then some {base with text:=bs r2}
  else some base
 match o with
 |some o=>if gG o then some o else none
 |none=>none
theorem QDk{p:Prop}(h:p:=by
 go_wp2;refine bR (.agg #[.int .i64 1,.int .i64 1,.string ⟨#[]⟩]) ?_;exact⟨rfl,HBE.o _ _⟩):p:=h
theorem QDj{p:Prop}(h:p:=by
 go_wp2;refine bR (.agg #[.int .i64 1,.int .i64 0,.string ⟨#[]⟩]) ?_;exact⟨rfl,HBE.o _ _⟩):p:=h
abbrev pX:=ByteArray×V3
abbrev xH:=ByteArray×ByteArray
def vU(h:uD):Prop:=bK h.aDx/\h.aDT.size<=cP/\h.aEu.size<=cP
def CM(h:uD):List Value:=[.int .i64 h.aDx,.string h.aDT,.string h.aEu]
def ER(f:pX):Prop:=f.1.size<=cP/\cT f.2
def uE(f:pX):List Value:=[.string f.1,.int .i64 f.2.1,.int .i64 f.2.2.1,.string f.2.2.2]
def ES(r:wH):Prop:=bK r.id/\bK r.aDx/\r.aDC.size<=cP/\r.aDu.size<=cP/\r.action.size<=cP/\r.aDM.size<=cP
def KE(r:wH):List Value:=[.int .i64 r.id,.int .i64 r.aDx,.string r.aDC,.string r.aDu,.string r.action,.string r.aDM,.bool r.open_]
def ET(n:yA):Prop:=bK n.aDx/\n.aDu.size<=cP/\n.arg.size<=cP
def KF(n:yA):List Value:=[.int .i64 n.aDx,.string n.aDu,.string n.arg]
def NC(r:xH):Prop:=r.1.size<=cP/\r.2.size<=cP
def TP(r:xH):List Value:=[.string r.1,.string r.2]
def nB:Rep uD:=mT CM vU
def lN:Rep pX:=mT uE ER
def tB:Rep wH:=mT KE ES
def wI:Rep yA:=mT KF ET
def rD:Rep xH:=mT TP NC
theorem bW:Firm nB 3:=gI (fun _=>rfl) (fun x v h=>by simp only[CM,List.mem_cons,List.not_mem_nil,or_false] at h;rcases h with rfl|rfl|rfl<;>rfl)
theorem bP:Firm lN 4:=gI (fun _=>rfl) (fun x v h=>by simp only[uE,List.mem_cons,List.not_mem_nil,or_false] at h;rcases h with rfl|rfl|rfl|rfl<;>rfl)
theorem cV:Firm tB 7:=gI (fun _=>rfl) (fun x v h=>by simp only[KE,List.mem_cons,List.not_mem_nil,or_false] at h;rcases h with rfl|rfl|rfl|rfl|rfl|rfl|rfl<;>rfl)
theorem eC:Firm wI 3:=gI (fun _=>rfl) (fun x v h=>by simp only[KF,List.mem_cons,List.not_mem_nil,or_false] at h;rcases h with rfl|rfl|rfl<;>rfl)
theorem dD:Firm rD 2:=gI (fun _=>rfl) (fun x v h=>by simp only[TP,List.mem_cons,List.not_mem_nil,or_false] at h;rcases h with rfl|rfl<;>rfl)
def pB(w:World)(ok:nP)(c:cB)(a b:Value):Prop:=c.id.size<=cP/\c.aDR.size<=cP/\c.aDH.size<=cP/\aH lN w ok a c.aDt/\aH nB w ok b c.log
def qI:Rep cB:=fun w ok cs c=>∃a b,cs=[.string c.id,.string c.aDR,.string c.aDH,a,b]/\pB w ok c a b
theorem pB.aDw{w w':World}{ok:nP}{c:cB}{b d:Value}(h:pB w ok c b d)(a:aN ok w w'):pB w' ok c b d:=⟨h.1,h.2.1,h.2.2.1,aH.aDw bP h.2.2.2.1 a,aH.aDw bW h.2.2.2.2 a⟩
theorem pB.more{w:World}{ok ok':nP}{c:cB}{d e:Value}(h:pB w ok c d e)(a:∀b,ok b->ok' b):pB w ok' c d e:=⟨h.1,h.2.1,h.2.2.1,aH.more bP h.2.2.2.1 a,aH.more bW h.2.2.2.2 a⟩
theorem pB.inb{w:World}{ok:nP}{c:cB}{a d:Value}(h:pB w ok c a d):pB w (fun b=>ok b/\b<w.heap.size) c a d:=⟨h.1,h.2.1,h.2.2.1,aH.inb bP h.2.2.2.1,aH.inb bW h.2.2.2.2⟩
theorem dO:Firm qI 5:={
 aDw:=fun⟨a,b,e,h⟩ d=>⟨a,b,e,h.aDw d⟩
 more:=fun⟨a,b,e,h⟩ f=>⟨a,b,e,h.more f⟩
 len:=fun⟨a,b,e,h⟩=>by rw[e];rfl
 one:=fun⟨a,b,e,h⟩=>by
  intro v c;rw[e] at c;simp only[List.mem_cons,List.not_mem_nil,or_false] at c
  rcases c with rfl|rfl|rfl|rfl|rfl
  .rfl
  .rfl
  .rfl
  .exact lB h.2.2.2.1
  .exact lB h.2.2.2.2
 inb:=fun⟨a,b,e,h⟩=>⟨a,b,e,h.inb⟩}
def FX(w:World)(ok:nP)(g:Gv)(vb:Value):Prop:=bK g.1/\g.2.1.size<=cP/\aH VR w ok vb g.2.2
def jU:Rep Gv:=fun w ok cs g=>∃vb,cs=[.int .i64 g.1,.string g.2.1,vb]/\FX w ok g vb
theorem FX.aDw{w w':World}{ok:nP}{g:Gv}{vb:Value}(h:FX w ok g vb)(a:aN ok w w'):FX w' ok g vb:=⟨h.1,h.2.1,aH.aDw bG h.2.2 a⟩
theorem FX.more{w:World}{ok ok':nP}{g:Gv}{vb:Value}(h:FX w ok g vb)(a:∀b,ok b->ok' b):FX w ok' g vb:=⟨h.1,h.2.1,aH.more bG h.2.2 a⟩
theorem FX.inb{w:World}{ok:nP}{g:Gv}{vb:Value}(h:FX w ok g vb):FX w (fun b=>ok b/\b<w.heap.size) g vb:=⟨h.1,h.2.1,aH.inb bG h.2.2⟩
theorem cA:Firm jU 3:={
 aDw:=fun⟨vb,e,h⟩ b=>⟨vb,e,h.aDw b⟩
 more:=fun⟨vb,e,h⟩ c=>⟨vb,e,h.more c⟩
 len:=fun⟨vb,e,h⟩=>by rw[e];rfl
 one:=fun⟨vb,e,h⟩=>by
  intro v a;rw[e] at a;simp only[List.mem_cons,List.not_mem_nil,or_false] at a
  rcases a with rfl|rfl|rfl
  .rfl
  .rfl
  .exact lB h.2.2
 inb:=fun⟨vb,e,h⟩=>⟨vb,e,h.inb⟩}
def ND(v:Value):Prop:=∀a n c,v=.slice a n c->n<=c
theorem IW:ND (.slice none 0 0):=fun a n c e=>by injection e with _ b d;omega
structure fD (w:World) (ok:Nat->Prop) (s:Sto) (vc vr vn vo vt vu vk vb:Value):Prop where
 aDx:bK s.aDx
 aDA:bK s.aDA
 aDn:aH qI w ok vc s.aDn
 aDr:aH tB w ok vr s.aDr
 aDv:aH wI w ok vn s.aDv
 aDB:aH rD w ok vo s.aDB
 aDp:fO 3 w ok s.aDp vt vu vk vb
 aEp:ND vr/\ND vn/\ND vo
def aV(s:Sto)(vc vr vn vo vt vu vk vb:Value):Array Value:=#[.int .i64 s.aDx,vc,vr,vn,vo,.string s.aDp.id,.bool s.aDp.set,.int .i64 s.aDp.alg,vt,vu,vk,vb,.int .i64 s.aDA]
theorem fD.aDw{w w':World}{ok:nP}{s:Sto}{vc vr vn vo vt vu vk vb:Value}(h:fD w ok s vc vr vn vo vt vu vk vb)(a:aN ok w w'):fD w' ok s vc vr vn vo vt vu vk vb:=
 ⟨h.aDx,h.aDA,aH.aDw dO h.aDn a,aH.aDw cV h.aDr a,aH.aDw eC h.aDv a,aH.aDw dD h.aDB a,h.aDp.aDw a,h.aEp⟩
theorem fD.more{w:World}{ok ok':nP}{s:Sto}{vc vr vn vo vt vu vk vb:Value}(h:fD w ok s vc vr vn vo vt vu vk vb)(a:∀b,ok b->ok' b):fD w ok' s vc vr vn vo vt vu vk vb:=
 ⟨h.aDx,h.aDA,aH.more dO h.aDn a,aH.more cV h.aDr a,aH.more eC h.aDv a,aH.more dD h.aDB a,h.aDp.more a,h.aEp⟩
theorem fD.inb{w:World}{ok:nP}{s:Sto}{vc vr vn vo vt vu vk vb:Value}(h:fD w ok s vc vr vn vo vt vu vk vb):fD w (fun b=>ok b/\b<w.heap.size) s vc vr vn vo vt vu vk vb:=
 ⟨h.aDx,h.aDA,aH.inb dO h.aDn,aH.inb cV h.aDr,aH.inb eC h.aDv,aH.inb dD h.aDB,h.aDp.inb,h.aEp⟩
theorem fD.on{w w':World}{ok:nP}{s:Sto}{vc vr vn vo vt vu vk vb:Value}(h:fD w ok s vc vr vn vo vt vu vk vb)(a:Below w.heap.size w w'):fD w' ok s vc vr vn vo vt vu vk vb:=h.aDw (aJ a)
def kO(o:Op):Prop:=bK o.aDo/\o.aDC.size<=cP/\o.aDu.size<=cP/\o.aDJ.size<=cP/\o.to_.size<=cP/\cT o.val/\bK o.aDK/\o.text.size<=cP/\o.aDM.size<=cP
def bZ(o:Op):Array Value:=#[.int .i64 o.aDo,.string o.aDC,.string o.aDu,.string o.aDJ,.string o.to_,.int .i64 o.val.1,.int .i64 o.val.2.1,.string o.val.2.2,.int .i64 o.aDK,.string o.text,.string o.aDM,.bool o.aDQ]
def fE(o:Op):Value:= .agg (bZ o)
theorem aM.cut{α:Type}{R:Rep α}{s:Nat}{e:TypeId}{w:World}{base:Nat}{ok:nP}(F:Firm R s){a:oD}{n c:Nat}{l:List α}(h:aM R s e w base ok (.slice a n c) l)(m:Nat)(hm:m<=l.length):aM R s e w base ok (.slice a m c) (l.take m):=by
 obtain⟨cs,h1,h2⟩:=h;have q:(Value.slice a m c).ownBlock=(Value.slice a n c).ownBlock:=by cases a<;>rfl
 have p:(l.take m).length=m:=by rw[List.length_take];omega
 refine⟨cs.take (m * s),?_,?_⟩
 .rw[p];refine⟨by rw[List.length_take,h1.1];exact Nat.min_eq_left (Nat.mul_le_mul_right s hm),?_⟩
  rcases h1.2 with ⟨d,t⟩|⟨g,cap,cur,d,h3,h4,h5,h6,h7,h8⟩
  .injection d with f o i;subst f i;exact .inl ⟨by rw[show m=0 by omega],qo⟩
  .injection d with f o i;subst f i;refine .inr ⟨g,c,cur,rfl,h3,h4,qo,h6,h7,?_⟩;rw[<-h8,List.take_take]
   congr 1
   exact(Nat.min_eq_left (Nat.mul_le_mul_right s hm)).symm
 .exact(aX.split (fun _ _ k=>F.len k) m h2 hm).1.mono fun r x k=>F.more k fun b j=>⟨j.1,j.2.1,by rw[q];exact j.2.2⟩
theorem aM.place{α:Type}{R:Rep α}{s:Nat}{e:TypeId}{w:World}{base:Nat}{ok:nP}{a:oD}{n c:Nat}{l:List α}(h:aM R s e w base ok (.slice a n c) l):((a=none/\c=0)\/∃g,a=some ⟨g,0,none⟩)/\l.length<=c/\c<=maxLen:=by
 obtain⟨cs,h1,h2⟩:=h
 rcases h1.2 with ⟨b,j⟩|⟨g,cap,cur,b,h3,h4,h5,h6,h7,h8⟩
 .injection b with d i f;exact⟨.inl ⟨d,f⟩,qo,by unfold maxLen;omega⟩
 .injection b with d i f;subst f;exact⟨.inr ⟨g,d⟩,h5,h6⟩
theorem jC{α:Type}{R:Rep α}{s:Nat}{P:Program}{w:World}{t e:TypeId}{bytes:Nat}{base:Nat}{ok:nP}(E:dZ P t e s bytes)(F:Firm R s){ops:Array Oper}{o:Oper}{a:Act}{K:Act->World->Prop}{Q:Exit->Act->World->Prop}{G:Prop}(k:o.guard=none)(d x:Operand)
 (m:o.op=.call {callee:= .builtin .append,args:=#[d,x],argTypes:=#[t,t]})
 (v:Value)(l:List α)(p:a.eval d=v)(f:aM R s e w base ok v l)
 (g c:Nat)(cs:Array Value)(ty:TypeId)(fr:Nat×Nat)(y:α)(q:a.eval x=.slice (some ⟨g,0,none⟩) 1 c)(hc:w.heap[g]? =some (.cells cs ty fr))(hy:R w (fun b=>ok b/\b<w.heap.size/\some b≠v.ownBlock) cs.toList y)
 (h63:l.length<=1000000)(hbytes:bytes<=10000)(j:base<=w.heap.size)
 (h:∀l',Hid (l'=l++[y])->∀A' c' w',aM R s e w' base ok (.slice A' l'.length c') l'->w.grownBy w' v.ownBlock->((Value.slice A' l'.length c').ownBlock=v.ownBlock\/(Value.slice A' l'.length c').ownBlock=some w.heap.size)->K (a.put o.dst (.slice A' l'.length c')) w'):if Region.wanted o (yielded ops a.tmps)=true then Oper.wp P o a w K Q else G:=by
 obtain⟨xs,n,hcs⟩:=f;have hlen:cs.toList.length=1 * s:=by rw[F.len hy];omega
 refine Nv E k d x m base v l.length xs p n (some ⟨g,0,none⟩) 1 c cs.toList q hlen ?_ (F.one hy) (by unfold maxLen;omega) ?_ j fun A' c' w' h1 h2 h3=> ?_
 .exact QCt
 .exact QCL
 .exact QCe
theorem QDc{p:Prop}(h:p:=by
 subst hji;obtain⟨v1,hv1,he⟩:=hy w hw;exact Cs hi hv1 ⟨fun _=>hw,by rw[he];exact H⟩):p:=h
abbrev Sz:Exit->Act->World->Prop:=fun _ _ _=>False
section
variable {P:Program} {ops:Array Oper} {md:Region.Mode} {C:World->Prop} {Q:Exit->Act->World->Prop}
def uY(P:Program)(ops:Array Oper)(i:Nat)(K:Act->World->Prop)(a:Act)(w:World):Prop:=
 match ops[i]? with
 |none=>False
 |some o=>if Region.wanted o (yielded ops a.tmps)=true then o.wp P a w K Sz else K (a.put o.dst undef) w
theorem tC{o:Oper}{a:Act}{K K':Act->World->Prop}{g:Exit->Act->World->Prop}(h:∀a w,K a w->K' a w){r:Result Next}(b:o.upon P a K Sz r):o.upon P a K' g r:=by
 cases r with
 |ok n w'=>
  cases n with
  |value v=>exact h _ _ b
  |skip=>exact h _ _ b
  |enter f args=>
   refine Calls.mono b fun e i d=> ?_
   cases e with
   |returned v=>exact h _ _ d
   |panicked c=>exact(d:False).elim
   |outgrown=>obtain⟨_,_,h0⟩:=(d:LetsOut Sz);exact(h0:False).elim
  |row r args=>exact Rows.mono b fun v i d=>h _ _ d
  |_=>first|exact(b:False).elim|exact h _ _ b
 |halt x w'=>
  cases x with
  |panic v=>exact(b:False).elim
  |_=>exact(b:False).elim
theorem TQ{i:Nat}{K K':Act->World->Prop}{a:Act}{w:World}(h:∀a w,K a w->K' a w)(b:uY P ops i K a w):uY P ops i K' a w:=by
 unfold uY at *;split
 .rename_i h0;simp only[h0] at b
 .rename_i o h0;simp only[h0] at b;split
  .rename_i hw;rw[iP hw] at b;exact tC h b
  .rename_i hw;rw[iN hw] at b;exact h _ _ b
theorem XY{i:Nat}{K K':Act->World->Prop}{a:Act}{w:World}(h:∀a w,K a w->K' a w)(b:uY P ops i K a w):wpOp P ops Q i K' a w:=by
 unfold uY at b;unfold wpOp;split
 .rename_i h0;simp only[h0] at b
 .rename_i o h0;simp only[h0] at b;split
  .rename_i hw;rw[iP hw] at b;exact .inl (tC h b)
  .rename_i hw;rw[iN hw] at b;exact h _ _ b
theorem Vh{j:Nat}{g i:Oper}{v:Value}(hj:ops[j]? =some i)(p:g.apart ops i=true)
 (y:∀cs b,g.op≠ .select cs b)(s:∀cs b,i.op≠ .select cs b){K:Act->World->Prop}{a:Act}{w:World}{Y:Act->Prop}
 (k:∀a u,Y a->Y (a.put i.dst u))(q:∀a d,Y a->Y {a with defers:=d::a.defers})(l:Y a)(h:uY P ops j K (a.put g.dst v) w):
 uY P ops j (fun o w'=>Y o/\K (o.put g.dst v) w') a w:=by
 obtain⟨h1,h2,h3⟩:=Oper.apart_spec p;unfold uY at *;simp only[hj] at *;rw[wanted_put i a g.dst v h1] at h;split
 .rename_i hw;simp only[hw,if_true] at h;unfold Oper.wp at *;rw[execOp_put i s a g.dst v h1] at h;generalize (execOp a.eval i).run P w=r at *
  cases r with
  |ok n w'=>
   cases n with
   |value u=>exact⟨k a u l,by rw[<-Act.put_comm a v u h2];exact h⟩
   |skip=>exact⟨k a undef l,by rw[<-Act.put_comm a v undef h2];exact h⟩
   |enter f args=>
    refine Calls.mono h fun e t m=> ?_
    cases e with
    |returned u=>exact⟨k a u l,by rw[<-Act.put_comm a v u h2];exact m⟩
    |panicked c=>exact m
    |outgrown=>exact m
   |row r args=>exact Rows.mono h fun u t m=>⟨k a u l,by rw[<-Act.put_comm a v u h2];exact m⟩
   |_=>
    first
    |exact(h:False).elim
    |(rename_i d
      refine⟨k _ undef (q a d l),?_⟩;have h4:K (({a.put g.dst v with defers:=d::(a.put g.dst v).defers}:Act).put i.dst undef) w':=h;rw[Act.put_defers,Act.put_comm _ v undef h2] at h4;exact h4)
  |halt x w'=>
   cases x with
   |panic v=>exact(h:False).elim
   |_=>exact(h:False).elim
 .rename_i hw;simp only[hw] at h;exact⟨k a undef l,by rw[<-Act.put_comm a v undef h2];exact h⟩
def pC(P:Program)(md:Region.Mode)(ops:Array Oper)(C:World->Prop)(n:Nat)(Q:Act->World->Prop):Nat->Array Bool->Act->World->Prop
 |0,listed,a,w=>Region.ready md ops listed=[]/\Q a w
 |f+1,listed,a,w=>(Region.ready md ops listed=[]->Q a w)/\∀i∈Region.ready md ops listed,uY P ops i (fun b w'=>(i<n->C w')/\pC P md ops C n Q f (listed.setIfInBounds i true) b w') a w
theorem yC{n:Nat}:∀(f:Nat) (listed:Array Bool) (a:Act) (w:World),pC P md ops C n (fun a w=>Q .normal a w) f listed a w->wpAny P md ops Q f listed a w
 |0,_,_,_,h=>h
 |f+1,_,_,_,h=>⟨h.1,fun i d=>XY (fun b w' c=>yC f _ b w' c.2) (h.2 i d)⟩
def CN(P:Program)(ops:Array Oper)(C:World->Prop)(o:Oper)(v:Value)(a:Act):Prop:=∀w,C w->∃v1,YieldsAt P ops w o v1 a/\a.put o.dst v1=a.put o.dst v
theorem Cs{i:Nat}{o:Oper}{v:Value}{a:Act}{w:World}(d:ops[i]? =some o)(g:YieldsAt P ops w o v a){K:Act->World->Prop}(h:K (a.put o.dst v) w):uY P ops i K a w:=by
 unfold uY;simp only[d]
 rcases g with ⟨hw,b|⟨b,rfl⟩|⟨f,args,b,c⟩⟩|⟨hw,rfl⟩
 .simp only[hw,if_true,Oper.wp,b,Oper.upon];exact h
 .simp only[hw,if_true,Oper.wp,b,Oper.upon];exact h
 .simp only[hw,if_true,Oper.wp,b,Oper.upon];refine c.mono fun e j he=> ?_
  obtain⟨rfl,rfl⟩:=he;exact h
 .simp only[hw,Bool.false_eq_true,if_false];exact h
theorem KG{n i:Nat}{c:Oper}{v:Value}{Q:Act->World->Prop}(hi:ops[i]? =some c)(z:∀(j:Nat) (o:Oper) cs b,ops[j]? =some o->o.op≠ .select cs b)
 (S:Region.sinkB md ops n=true)(G:Region.chainB md ops n=true)(N:n<ops.size)(K:i<n):
 ∀(f:Nat) (listed:Array Bool) (a:Act) (w:World),HeadInv md ops n listed->
  (∀j g,ops[j]? =some g->j≠i->listed.getD j true=false->(∀e∈g.after,Region.binds md e=true->e.on≠i)->c.apart ops g=true)->
  i∈Region.ready md ops listed->C w->CN P ops C c v a->
  pC P md ops C n Q f (listed.setIfInBounds i true) (a.put c.dst v) w->pC P md ops C n Q (f+1) listed a w:=by
 intro f
 induction f with
 |zero=>
  intro listed a w inv _ l hw hy H;refine⟨fun h=>(by rw[h] at l;cases l),fun j hj=> ?_⟩;by_cases hji:j=i
  .exact QDc
  .have:=ready_mono hj hji;rw[H.1] at this
   cases this
 |succ f T=>
  intro listed a w inv s l hw hy H;refine⟨fun h=>(by rw[h] at l;cases l),fun j hj=> ?_⟩;by_cases hji:j=i
  .exact QDc
  .have h1:=H.2 j (ready_mono hj hji);obtain⟨y,g,q,E⟩:=mem_ready.1 hj;have x:j<n:=by
    rcases Nat.lt_or_ge j n with h|h
    .exact h
    .exact absurd hj (tail_waits S G N inv (n - i) i rfl K (mem_ready.1 l).1 j h)
   have R:∀e∈g.after,Region.binds md e=true->e.on≠i:=fun e he F heq=>by
    have h1:=E e he F;have h0:=(mem_ready.1 l).1;rw[heq] at h1
    rcases Nat.lt_or_ge i listed.size with m|m
    .simp[m] at h0 h1;rw[h0] at h1;cases h1
    .simp[Array.getElem?_eq_none m] at h1
   have p:=s j g q hji y R;obtain⟨_,_,h3⟩:=Oper.apart_spec p;obtain⟨_,r,_⟩:=Oper.apart_spec p;have A:∀cs b,c.op≠ .select cs b:=fun cs b=>z i c cs b hi
   have keep:∀(a:Act) (u:Value),CN P ops C c v a->CN P ops C c v (a.put g.dst u):=fun a u h w hw=>by
    obtain⟨v1,hv1,he⟩:=h w hw;refine⟨v1,hv1.of_same (execOp_put c A a g.dst u h3) (wanted_put c a g.dst u h3),?_⟩;rw[<-Act.put_comm a v1 u r,<-Act.put_comm a v u r,he]
   have U:∀(a:Act) (d:Deferred),CN P ops C c v a->CN P ops C c v {a with defers:=d::a.defers}:=fun a d h w hw=>by
    obtain⟨v1,hv1,he⟩:=h w hw;have I:execOp ({a with defers:=d::a.defers}:Act).eval c=execOp a.eval c:=rfl;refine⟨v1,hv1.of_same I rfl,?_⟩;rw[<-Act.put_defers,<-Act.put_defers,he]
   have h2:=Vh q p A (fun cs b=>z j g cs b q) keep U hy h1;have J:∀k ok,ops[k]? =some ok->k≠i->(listed.setIfInBounds j true).getD k true=false->
    (∀e∈ok.after,Region.binds md e=true->e.on≠i)->c.apart ops ok=true:=fun k ok L M B O=>by
    refine s k ok L M ?_ O;by_cases t:j=k
    .subst t;exact y
    .rw[getD_set_ne true t] at B;exact B
   refine TQ (fun D w' h3=>⟨h3.2.1,T (listed.setIfInBounds j true) D w' (inv.set hj x) J (ready_mono l (Ne.symm hji)) (h3.2.1 x) h3.1 ?_⟩) h2;rw[Array.setIfInBounds_comm _ _ hji];exact h3.2.2
theorem IX{n k f:Nat}{Q:Act->World->Prop}{listed:Array Bool}{a:Act}{w:World}(c:Region.ready md ops listed=[k])(h:uY P ops k (fun d w'=>(k<n->C w')/\pC P md ops C n Q f (listed.setIfInBounds k true) d w') a w):pC P md ops C n Q (f+1) listed a w:=
 ⟨fun h0=>(by rw[c] at h0;cases h0),fun i b=>(by rw[c,List.mem_singleton] at b;subst b;exact h)⟩
def rd(P:Program)(ops:Array Oper)(o:Oper)(a:Act)(w:World)(K:Act->Prop):Prop:=if Region.wanted o (yielded ops a.tmps)=true then o.still P a w K else K (a.put o.dst undef)
def mv(P:Program)(ops:Array Oper)(o:Oper)(a:Act)(w:World)(K:Act->World->Prop):Prop:=if Region.wanted o (yielded ops a.tmps)=true then o.wp P a w K Sz else K (a.put o.dst undef) w
def cJ(P:Program)(ops:Array Oper)(C:World->Prop)(n:Nat)(Q:Act->World->Prop):List (Nat×Bool)->Act->World->Prop
 | [],a,w=>Q a w
 |(k,false)::r,a,w=>match ops[k]? with
  |none=>False
  |some o=>rd P ops o a w (fun b=>(∀w1,C w1->rd P ops o a w1 (fun c=>c=b))/\cJ P ops C n Q r b w)
 |(k,true)::r,a,w=>match ops[k]? with
  |none=>False
  |some o=>mv P ops o a w (fun b w'=>(k<n->C w')/\cJ P ops C n Q r b w')
def EU(md:Region.Mode)(ops:Array Oper):List (Nat×Bool)->Array Bool->Bool
 | [],listed=>(Region.ready md ops listed).isEmpty
 |(k,fl)::r,listed=>fl&&(Region.ready md ops listed==[k])&&EU md ops r (listed.setIfInBounds k true)
def EV(md:Region.Mode)(ops:Array Oper)(n:Nat)(T:List (Nat×Bool)):List (Nat×Bool)->Array Bool->Bool
 | [],listed=>EU md ops T listed
 |(k,fl)::r,listed=>(if fl=true then Region.ready md ops listed==[k] else (Region.ready md ops listed).contains k&&Region.free md ops listed k)&&decide (k<n)&&EV md ops n T r (listed.setIfInBounds k true)
def Tb(md:Region.Mode)(ops:Array Oper)(n:Nat)(H T:List (Nat×Bool)):Bool:=
 Region.noSelect ops&&decide (n<ops.size)&&Region.sinkB md ops n&&Region.chainB md ops n&&decide (H.length+T.length=ops.size)&&EV md ops n T H (Array.replicate ops.size false)
theorem EW{k:Nat}{o:Oper}(h:ops[k]? =some o){a:Act}{w:World}{K:Act->Prop}:stOp P ops w k K a↔rd P ops o a w K:=by unfold stOp rd;simp only[h]
theorem CP{n:Nat}{Q:Act->World->Prop}:∀(T:List (Nat×Bool)) (listed:Array Bool) (a:Act) (w:World),EU md ops T listed=true->cJ P ops C n Q T a w->pC P md ops C n Q T.length listed a w
 | [],listed,a,w,hB,h=>⟨by simpa [EU] using hB,h⟩
 |(k,false)::r,listed,a,w,hB,h=>by simp[EU] at hB
 |(k,true)::r,listed,a,w,hB,h=>by
  simp only[EU,Bool.and_eq_true,bQ,true_and] at hB;refine IX hB.1 ?_;unfold cJ at h;unfold uY
  cases c:ops[k]? with
  |none=>simp only[c] at h
  |some o=>
   simp only[c] at h ⊢;unfold mv at h;split
   .rename_i hw;rw[iP hw] at h;exact tC (fun d w' b=>⟨b.1,CP r _ d w' hB.2 b.2⟩) h
   .rename_i hw;rw[iN hw] at h;exact⟨h.1,CP r _ _ w hB.2 h.2⟩
theorem uF{n:Nat}{Q:Act->World->Prop}{T:List (Nat×Bool)}(l:Region.noSelect ops=true)(j:Region.sinkB md ops n=true)(e:Region.chainB md ops n=true)(f:n<ops.size):∀(H:List (Nat×Bool)) (listed:Array Bool) (a:Act) (w:World),HeadInv md ops n listed->C w->EV md ops n T H listed=true->cJ P ops C n Q (H++T) a w->pC P md ops C n Q (H.length+T.length) listed a w
 | [],listed,a,w,inv,hw,hB,h=>by
   rw[List.length_nil,Nat.zero_add];exact CP T listed a w hB h
 |(k,true)::r,listed,a,w,inv,hw,hB,h=>by
  simp only[EV,if_true,Bool.and_eq_true,bQ,decide_eq_true_eq] at hB;obtain⟨⟨g,c⟩,d⟩:=hB;rw[List.length_cons,show r.length+1+T.length=(r.length+T.length)+1 by omega];refine IX g ?_;have s:=inv.set (i:=k) (by rw[g];exact List.mem_singleton.2 rfl) c;rw[List.cons_append] at h;unfold cJ at h;unfold uY
  cases b:ops[k]? with
  |none=>simp only[b] at h
  |some o=>
   simp only[b] at h ⊢;unfold mv at h;split
   .rename_i p;rw[iP p] at h;exact tC (fun t w' m=>⟨m.1,uF l j e f r _ t w' s (m.1 c) d m.2⟩) h
   .rename_i p;rw[iN p] at h;exact⟨h.1,uF l j e f r _ _ w s (h.1 c) d h.2⟩
 |(k,false)::r,listed,a,w,inv,hw,hB,h=>by
  simp only[EV,Bool.false_eq_true,if_false,Bool.and_eq_true,decide_eq_true_eq] at hB;obtain⟨⟨⟨g,x⟩,c⟩,d⟩:=hB;have q:k∈Region.ready md ops listed:=by simpa using g
  rw[List.length_cons,show r.length+1+T.length=(r.length+T.length)+1 by omega];rw[List.cons_append] at h;unfold cJ at h
  cases b:ops[k]? with
  |none=>simp only[b] at h
  |some o=>
   simp only[b] at h;obtain⟨v,z,h1,h2⟩:=yieldsAt_of_stOp b ((EW b).2 h);exact KG b (Region.noSelect_spec l) j e f c _ listed a w inv (Region.free_spec b x) q hw
    (fun w1 y=>yieldsAt_of_stOp b ((EW b).2 (h1 w1 y)))
    (uF l j e f r _ _ w (inv.set q c) hw d h2)
theorem cD{id:Nat}{a:Act}{w:World}{l:List Oper}(n:Nat)(H T:List (Nat×Bool))(C:World->Prop)(hm:P.follows .mixedOrders=true)(c:Tb .any l.toArray n H T=true)(hC:C w.drew)
 (h:cJ P l.toArray C n (fun a w=>Q .normal a w) (H++T) a w.drew):(Code.region id l.toArray true).wp P Q a w:=by
 simp only[Tb,Bool.and_eq_true,decide_eq_true_eq] at c;obtain⟨⟨⟨⟨⟨i,f⟩,g⟩,e⟩,b⟩,d⟩:=c;have m:HeadInv .any l.toArray n (Array.replicate l.toArray.size false):=
  ⟨qs,fun j o _ b=>(by rw[getD_replicate_false] at b;cases b),fun t _ k=>getD_in (by simpa using k) (getD_replicate_false _ _)⟩
 have h1:=uF (md:= .any) i g e f H _ a w.drew m hC d h;rw[b] at h1;exact wp_region_any hm (yC _ _ _ _ h1)
theorem dK{n k:Nat}{Q:Act->World->Prop}{r:List (Nat×Bool)}{a:Act}{w:World}{o:Oper}(d:ops[k]? =some o)(h:∀K:Act->Prop,(∀b,(∀w1,C w1->rd P ops o a w1 (fun c=>c=b))->cJ P ops C n Q r b w->K b)->rd P ops o a w K):cJ P ops C n Q ((k,false)::r) a w:=by
 unfold cJ;simp only[d];exact h _ (fun b h1 h2=>⟨h1,h2⟩)
theorem bJ{n k:Nat}{Q:Act->World->Prop}{r:List (Nat×Bool)}{a:Act}{w:World}{o:Oper}(c:ops[k]? =some o)(h:∀K:Act->World->Prop,(∀b w',(k<n->C w')->cJ P ops C n Q r b w'->K b w')->mv P ops o a w K):cJ P ops C n Q ((k,true)::r) a w:=by
 unfold cJ;simp only[c];exact h _ (fun b w' h1 h2=>⟨h1,h2⟩)
end
end Go.Proofs.YtjlkljmickcacaaGreatDoor
