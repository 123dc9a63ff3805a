/- Lemmas. -/
import Derived.Test.YtkglnboglppgnaaGreatDoorMac
import Derived.Deep.RegionHeld3
import Derived.Deep.RegionLaw
import Derived.Deep.Cut
import Derived.Deep.CutRange
import Derived.Deep.DeepCutAuto
import Derived.Deep.CutBlock
namespace Go.Proofs.YtkglnboglppgnaaGreatDoor
open Go.RowKit
set_option linter.unusedVariables false
set_option linter.unusedSimpArgs false
set_option maxHeartbeats 16000000
set_option maxRecDepth 20000
structure Op where
 aC3:Int
 aDi:ByteArray
 aDa:ByteArray
 aDn:ByteArray
 to_:ByteArray
 val:V3
 aDq:Int
 text:ByteArray
 aDp:ByteArray
 aDw:Bool
deriving DecidableEq
def Cf:Op:=⟨0,ByteArray.empty,ByteArray.empty,ByteArray.empty,ByteArray.empty,bF,0,ByteArray.empty,ByteArray.empty,false⟩
structure tW where
 aDb:Int
 aDC:ByteArray
 aD9:ByteArray
deriving DecidableEq
structure cI where
 id:ByteArray
 aDv:ByteArray
 aDo:ByteArray
 aC9:List (ByteArray×V3)
 log:List tW
deriving DecidableEq
structure vW where
 id:Int
 aDb:Int
 aDi:ByteArray
 aDa:ByteArray
 action:ByteArray
 aDp:ByteArray
 open_:Bool
deriving DecidableEq
structure uN where
 aDb:Int
 aDa:ByteArray
 arg:ByteArray
deriving DecidableEq
structure Sto where
 aDb:Int
 aC2:List cI
 aC5:List vW
 aC8:List uN
 aDd:List (ByteArray×ByteArray)
 aC4:Po
 aDg:Int
def wX:ByteArray:=⟨#[112,111,108,105,99,121,32,111,112,101,110,32,112,101,114,109,105,116,117,110,108,101,115,115,32,123,32,125]⟩
def mT:Sto:=⟨0,[],[],[],[],(fG wX).1,0⟩
def gW(a b:bY):Bool:=decide (¬b.toList<a.toList)
def aY(s:Sto)(id:bY):Nat×Bool:=
 let i:=s.aC2.findIdx (fun c=>gW id c.id)
 if i<s.aC2.length then (i,decide (((s.aC2[i]?).map (·.id))=some id)) else (s.aC2.length,false)
def eV(s:Sto)(id:bY):Option cI:=if (aY s id).2 then s.aC2[(aY s id).1]? else none
def rT(s:Sto)(subject role:bY):Bool:=s.aDd.any (fun r=>decide (r=(subject,role)))
def gL(c:cI)(name:bY):V3:=((c.aC9.find? (fun f=>decide (f.1=name))).map (·.2)).getD bF
def zT:ByteArray:=str "open"
def uZ:ByteArray:=str "work"
def ER:ByteArray:=str "done"
def oE:ByteArray:=str "closed"
def gZ(a b:bY):Bool:=
 if a=zT then decide (b=uZ) else if a=uZ then decide (b=ER) else if a=ER then decide (b=uZ)||decide (b=oE) else false
def xT:List ByteArray:=["new","read","write","move","close","role","policy"].map str
def cL(kind:Int):ByteArray:=if kind<1\/7<kind then str "tick" else (xT[(kind - 1).toNat]?).getD (str "tick")
def mU(s:bY):Bool:=decide (s.size=0)||eN s
def jY(o:Op):Bool:=
 if o.aDw=false then decide (o.aDp.size=0) else (decide (1<=o.aC3/\o.aC3<=4)&&(decide (o.aDp.size≠0)&&decide (o.aDp.size<=64)))
def RZ(o:Op):Op:={o with aDi:=ByteArray.empty,aDp:=ByteArray.empty,aDw:=false}
def fY(o:Op):Bool:=
 let b:=RZ o
 let k:={Cf with aC3:=o.aC3}
 if o.aC3=1 then decide (o.aDa.size≠0)&&decide (b={k with aDa:=o.aDa})
 else if o.aC3=2\/o.aC3=6 then (decide (o.aDa.size≠0)&&decide (o.aDn.size≠0))&&decide (b={k with aDa:=o.aDa,aDn:=o.aDn})
 else if o.aC3=3 then ((decide (o.aDa.size≠0)&&decide (o.aDn.size≠0))&&decide (o.val≠bF))&&decide (b={k with aDa:=o.aDa,aDn:=o.aDn,val:=o.val})
 else if o.aC3=4 then (decide (o.aDa.size≠0)&&decide (o.to_.size≠0))&&decide (b={k with aDa:=o.aDa,to_:=o.to_})
 else if o.aC3=5 then decide (0<o.aDq)&&decide (b={k with aDq:=o.aDq})
 else if o.aC3=7 then decide (b={k with text:=o.text})
 else if o.aC3=8 then (decide (0<o.aDq)&&decide (o.aDq<=1099511627776))&&decide (b={k with aDq:=o.aDq})
 else false
def gF(o:Op):Bool:=
 if eN o.aDi=false\/jY o=false\/4096<o.text.size then false
 else if mU o.aDa=false\/mU o.aDn=false\/mU o.to_=false\/(o.val≠bF/\aU o.val=false) then false
 else fY o
def iJ(s:Sto)(o:Op):Int:=
 match eV s o.aDa with
 |none=>10
 |some c=>
  if o.aC3=3/\16<=c.aC9.length/\gL c o.aDn=bF then 6
  else if o.aC3≠2/\256<=c.log.length then 6
  else if (o.aC3=3/\c.aDo=oE)\/(o.aC3=4/\gZ c.aDo o.to_=false) then 13
  else 0
def iU(s:Sto)(o:Op):Int:=
 if (s.aC5.length:Int)<o.aDq then 10
 else match s.aC5[(o.aDq - 1).toNat]? with
  |none=>10
  |some r=>if r.open_=false then 10 else if r.aDi=o.aDi then 12 else 0
def eE(s:Sto)(o:Op):Int:=
 if gF o=false then 1
 else if o.aC3=1 then (if (aY s o.aDa).2 then 11 else if 64<=s.aC2.length then 6 else 0)
 else if o.aC3=2\/o.aC3=3\/o.aC3=4 then iJ s o
 else if o.aC3=5 then iU s o
 else if o.aC3=6 then (if 64<=s.aDd.length/\rT s o.aDa o.aDn=false then 6 else 0)
 else if o.aC3=8 then (if 1099511627776 - o.aDq<s.aDb then 6 else 0)
 else 0
def CN(s:bY):V3:=(5,0,s)
def rU(cat:Int)(name:String)(bag:List V3):Gv:=(cat,str name,bag)
def nN(c:cI)(subject:bY):List Gv:=
 [rU 3 "id" [CN c.id],rU 3 "owner" [CN c.aDv],rU 3 "state" [CN c.aDo],rU 3 "events" [(2,c.log.length,ByteArray.empty)],
   rU 3 "took" [cK (c.log.any (fun h=>decide (h.aDC=subject)))]]
 ++(match c.log.getLast? with |some h=>[rU 3 "last" [CN h.aDC]]|none=>[])
 ++((c.aC9.filter (fun f=>decide (f.1.size<=14))).map (fun f=>((3,str "f_"++f.1,[f.2]):Gv)))
def pX(s:Sto)(o:Op):List Gv:=
 [rU 1 "id" [CN o.aDi],rU 1 "role" (((s.aDd.filter (fun r=>decide (r.1=o.aDi))).take 16).map (fun r=>CN r.2)),rU 2 "name" [CN (cL o.aC3)]]
 ++(if o.aDn.size≠0 then [rU 2 "field" [CN o.aDn]] else [])
 ++(if o.to_.size≠0 then [rU 2 "to" [CN o.to_]] else [])
 ++[rU 4 "now" [(4,s.aDb,ByteArray.empty)]]
 ++(match eV s o.aDa with |some c=>if o.aC3≠6 then nN c o.aDi else []|none=>[])
def oG(s:Sto)(c:cI)(actor what:bY):cI:={c with log:=c.log++[⟨s.aDb,actor,what⟩]}
def nY(c:cI)(name:bY)(v:V3):cI:=
 let i:=c.aC9.findIdx (fun f=>gW name f.1)
 match c.aC9[i]? with
 |none=>{c with aC9:=c.aC9++[(name,v)]}
 |some f=>if f.1=name then {c with aC9:=c.aC9.set i (name,v)} else {c with aC9:=c.aC9.take i++[(name,v)]++c.aC9.drop i}
def fH(s:Sto)(i:Nat)(f:cI->cI):Sto:={s with aC2:=match s.aC2[i]? with |some c=>s.aC2.set i (f c)|none=>s.aC2}
def cX(s:Sto)(o:Op):Sto:=
 if eE s o≠0 then s
 else
  let i:=(aY s o.aDa).1
  if o.aC3=1 then {s with aC2:=s.aC2.take i++[oG s ⟨o.aDa,o.aDi,zT,[],[]⟩ o.aDi (str "new")]++s.aC2.drop i}
  else if o.aC3=3 then fH s i (fun c=>oG s (nY c o.aDn o.val) o.aDi (str "write"))
  else if o.aC3=4 then fH s i (fun c=>oG s {c with aDo:=o.to_} o.aDi o.to_)
  else if o.aC3=5 then {s with aC5:=match s.aC5[(o.aDq - 1).toNat]? with |some r=>s.aC5.set (o.aDq - 1).toNat {r with open_:=false} |none=>s.aC5}
  else if o.aC3=6 then (if rT s o.aDa o.aDn then s else {s with aDd:=s.aDd++[(o.aDa,o.aDn)]})
  else if o.aC3=7 then (if (fG o.text).2.1=0 then {s with aC4:=(fG o.text).1,aDg:=s.aDg+1} else s)
  else if o.aC3=8 then {s with aDb:=s.aDb+o.aDq}
  else s
def OL:ByteArray:=str "glass"
def SA(s:Sto)(subject:bY):Bool:=s.aC5.any (fun r=>decide (r.aDi=subject)&&(r.open_&&decide (100<=s.aDb - r.aDb)))
def jH(s:Sto)(o:Op)(m:Mk):Bool:=o.aDw&&((decide (m=(0,4))||decide (m=(0,0)))&&(rT s o.aDi OL&& !SA s o.aDi))
def eJ(s:Sto)(o:Op)(reason:bY):Sto:={s with aC5:=s.aC5++[⟨s.aC5.length+1,s.aDb,o.aDi,o.aDa,cL o.aC3,reason,true⟩]}
def lW(s:Sto)(o:Op)(what:bY):Sto:=
 let i:=s.aC2.findIdx (fun c=>decide (c.id=o.aDa))
 if i<s.aC2.length/\o.aC3≠6 then fH s i (fun c=>oG s c o.aDi what) else s
def cY(o:Op)(done:Bool)(s:Sto)(x:Ob):Sto:=
 if x.aC3=1/\done=true then lW s o x.arg
 else if x.aC3=3 then eJ s o x.arg
 else if x.aC3=4 then {s with aC8:=s.aC8++[⟨s.aDb,o.aDa,x.arg⟩]}
 else s
def qO(s:Sto):Bool:=decide (256<s.aC5.length)||(decide (256<s.aC8.length)||s.aC2.any (fun c=>decide (256<c.log.length)))
structure Rpl where
 err:Int
 mark:Mk
 aDw:Bool
 val:V3
 hidden:Bool
 at_:Int
def qP:Rpl:=⟨0,(0,0),false,bF,false,0⟩
structure Deci where
 op:Op
 aDg:Int
 mark:Mk
 aDw:Bool
 aDj:List Ob
def cQ(s:Sto)(o:Op):Sto×Rpl×Option Deci×Int:=
 let e:=eE s o
 let a:Int×Int:=if e=0/\o.aC3=7 then (fG o.text).2 else (e,0)
 if a.1≠0 then (s,{qP with err:=a.1,at_:=a.2},none,a.1)
 else
  let (r,e2):=iI (pX s o) s.aC4
  if e2≠0 then (s,{qP with err:=e2,at_:=a.2},none,e2)
  else
   let glass:=jH s o r.1
   let done:=decide (r.1=(4,0))||glass
   let b:=if glass then eJ s o o.aDp else s
   let f:=if done then cX b o else b
   let hidden:=done&&(decide (o.aC3=2)&&r.2.any (fun x=>decide (x.aC3=2)&&decide (x.arg=o.aDn)))
   let val:=if done&&(decide (o.aC3=2)&& !hidden) then ((eV s o.aDa).map (fun c=>gL c o.aDn)).getD bF else bF
   let d:=r.2.foldl (cY o done) f
   if qO d then (s,{qP with err:=6,at_:=a.2},none,6)
   else (d,⟨if done then 0 else 12,r.1,glass,val,hidden,0⟩,some ⟨o,s.aDg,r.1,glass,r.2⟩,0)
def cS(l:lU):List UInt8×List UInt8:=(l.takeWhile (fun c=>decide (c.toNat≠32)),(l.dropWhile (fun c=>decide (c.toNat≠32))).drop 1)
def oU(l:lU):Option V3:=
 match jP l with
 |([t,_],0,_)=>
  if t.aC3=2 then some (2,t.num,t.str) else if t.aC3=3 then some (4,t.num,t.str) else if t.aC3=4 then some (5,t.num,t.str)
  else if t.aC3=5 then some (3,t.num,t.str)
  else if t.aC3=1 then (if t.str=str "true" then some (1,1,ByteArray.empty) else if t.str=str "false" then some (1,0,ByteArray.empty) else none)
  else none
 |_=>none
def jI(l:lU):Int:=if l=[]\/9<l.length\/l.head?=some 48\/l.all bC=false then 0 else (pU l:Int)
def oJ(w:lU):Int:=let i:=(xT++[str "tick"]).findIdx (fun x=>decide (x=bs w));if i<8 then (i:Int)+1 else 0
def jZ(a:lU):Bool×List UInt8×List UInt8:=match a with
 |33 ::r=>(true,(cS r).1,(cS r).2)
 |r=>(false,[],r)
def kY(l:lU):Option Op:=
 let (subj,r0):=cS l
 let (glass,reason,r1):=jZ r0
 let (w,r2):=cS r1
 let k:=oJ w
 let base:Op:={Cf with aC3:=k,aDi:=bs subj,aDp:=bs reason,aDw:=glass}
 let o:Option Op:=
  if k=1 then some {base with aDa:=bs r2}
  else if k=2\/k=6 then some {base with aDa:=bs (cS r2).1,aDn:=bs (cS r2).2}
  else if k=3 then (oU (cS (cS r2).2).2).map (fun v=>{base with aDa:=bs (cS r2).1,aDn:=bs (cS (cS r2).2).1,val:=v})
  else if k=4 then some {base with aDa:=bs (cS r2).1,to_:=bs (cS r2).2}
  else if k=5\/k=8 then some {base with aDq:=jI r2}
  else if k=7 then some {base with text:=bs r2}
  else some base
 match o with
 |some o=>if gF o then some o else none
 |none=>none
theorem QDl{p:Prop}(h:p:=by
 go_wp2;refine bR (.agg #[.int .i64 1,.int .i64 1,.string ⟨#[]⟩]) ?_;exact⟨rfl,HBE.o _ _⟩):p:=h
theorem QDk{p:Prop}(h:p:=by
 go_wp2;refine bR (.agg #[.int .i64 1,.int .i64 0,.string ⟨#[]⟩]) ?_;exact⟨rfl,HBE.o _ _⟩):p:=h
abbrev pS:=ByteArray×V3
abbrev uT:=ByteArray×ByteArray
def vM(h:tW):Prop:=bO h.aDb/\h.aDC.size<=cV/\h.aD9.size<=cV
def CP(h:tW):List Value:=[.int .i64 h.aDb,.string h.aDC,.string h.aD9]
def ES(f:pS):Prop:=f.1.size<=cV/\cZ f.2
def tX(f:pS):List Value:=[.string f.1,.int .i64 f.2.1,.int .i64 f.2.2.1,.string f.2.2.2]
def ET(r:vW):Prop:=bO r.id/\bO r.aDb/\r.aDi.size<=cV/\r.aDa.size<=cV/\r.action.size<=cV/\r.aDp.size<=cV
def JZ(r:vW):List Value:=[.int .i64 r.id,.int .i64 r.aDb,.string r.aDi,.string r.aDa,.string r.action,.string r.aDp,.bool r.open_]
def EU(n:uN):Prop:=bO n.aDb/\n.aDa.size<=cV/\n.arg.size<=cV
def KA(n:uN):List Value:=[.int .i64 n.aDb,.string n.aDa,.string n.arg]
def MP(r:uT):Prop:=r.1.size<=cV/\r.2.size<=cV
def TC(r:uT):List Value:=[.string r.1,.string r.2]
def mV:Rep tW:=mM CP vM
def lG:Rep pS:=mM tX ES
def rV:Rep vW:=mM JZ ET
def rW:Rep uN:=mM KA EU
def oV:Rep uT:=mM TC MP
theorem cE:Firm mV 3:=gH (fun _=>rfl) (fun x v h=>by simp only[CP,List.mem_cons,List.not_mem_nil,or_false] at h;rcases h with rfl|rfl|rfl<;>rfl)
theorem bU:Firm lG 4:=gH (fun _=>rfl) (fun x v h=>by simp only[tX,List.mem_cons,List.not_mem_nil,or_false] at h;rcases h with rfl|rfl|rfl|rfl<;>rfl)
theorem cR:Firm rV 7:=gH (fun _=>rfl) (fun x v h=>by simp only[JZ,List.mem_cons,List.not_mem_nil,or_false] at h;rcases h with rfl|rfl|rfl|rfl|rfl|rfl|rfl<;>rfl)
theorem cU:Firm rW 3:=gH (fun _=>rfl) (fun x v h=>by simp only[KA,List.mem_cons,List.not_mem_nil,or_false] at h;rcases h with rfl|rfl|rfl<;>rfl)
theorem cM:Firm oV 2:=gH (fun _=>rfl) (fun x v h=>by simp only[TC,List.mem_cons,List.not_mem_nil,or_false] at h;rcases h with rfl|rfl<;>rfl)
def oW(w:World)(ok:nP)(c:cI)(a b:Value):Prop:=c.id.size<=cV/\c.aDv.size<=cV/\c.aDo.size<=cV/\aI lG w ok a c.aC9/\aI mV w ok b c.log
def pY:Rep cI:=fun w ok cs c=>∃a b,cs=[.string c.id,.string c.aDv,.string c.aDo,a,b]/\oW w ok c a b
theorem oW.aDc{w w':World}{ok:nP}{c:cI}{b d:Value}(h:oW w ok c b d)(a:aO ok w w'):oW w' ok c b d:=⟨h.1,h.2.1,h.2.2.1,aI.aDc bU h.2.2.2.1 a,aI.aDc cE h.2.2.2.2 a⟩
theorem oW.more{w:World}{ok ok':nP}{c:cI}{d e:Value}(h:oW w ok c d e)(a:∀b,ok b->ok' b):oW w ok' c d e:=⟨h.1,h.2.1,h.2.2.1,aI.more bU h.2.2.2.1 a,aI.more cE h.2.2.2.2 a⟩
theorem oW.inb{w:World}{ok:nP}{c:cI}{a d:Value}(h:oW w ok c a d):oW w (fun b=>ok b/\b<w.heap.size) c a d:=⟨h.1,h.2.1,h.2.2.1,aI.inb bU h.2.2.2.1,aI.inb cE h.2.2.2.2⟩
theorem dV:Firm pY 5:={
 aDc:=fun⟨a,b,e,h⟩ d=>⟨a,b,e,h.aDc d⟩
 more:=fun⟨a,b,e,h⟩ f=>⟨a,b,e,h.more f⟩
 len:=fun⟨a,b,e,h⟩=>by rw[e];rfl
 one:=fun⟨a,b,e,h⟩=>by
  intro v c;rw[e] at c;simp only[List.mem_cons,List.not_mem_nil,or_false] at c
  rcases c with rfl|rfl|rfl|rfl|rfl
  .rfl
  .rfl
  .rfl
  .exact kW h.2.2.2.1
  .exact kW h.2.2.2.2
 inb:=fun⟨a,b,e,h⟩=>⟨a,b,e,h.inb⟩}
def FX(w:World)(ok:nP)(g:Gv)(vb:Value):Prop:=bO g.1/\g.2.1.size<=cV/\aI VR w ok vb g.2.2
def jQ:Rep Gv:=fun w ok cs g=>∃vb,cs=[.int .i64 g.1,.string g.2.1,vb]/\FX w ok g vb
theorem FX.aDc{w w':World}{ok:nP}{g:Gv}{vb:Value}(h:FX w ok g vb)(a:aO ok w w'):FX w' ok g vb:=⟨h.1,h.2.1,aI.aDc bJ h.2.2 a⟩
theorem FX.more{w:World}{ok ok':nP}{g:Gv}{vb:Value}(h:FX w ok g vb)(a:∀b,ok b->ok' b):FX w ok' g vb:=⟨h.1,h.2.1,aI.more bJ h.2.2 a⟩
theorem FX.inb{w:World}{ok:nP}{g:Gv}{vb:Value}(h:FX w ok g vb):FX w (fun b=>ok b/\b<w.heap.size) g vb:=⟨h.1,h.2.1,aI.inb bJ h.2.2⟩
theorem cA:Firm jQ 3:={
 aDc:=fun⟨vb,e,h⟩ b=>⟨vb,e,h.aDc b⟩
 more:=fun⟨vb,e,h⟩ c=>⟨vb,e,h.more c⟩
 len:=fun⟨vb,e,h⟩=>by rw[e];rfl
 one:=fun⟨vb,e,h⟩=>by
  intro v a;rw[e] at a;simp only[List.mem_cons,List.not_mem_nil,or_false] at a
  rcases a with rfl|rfl|rfl
  .rfl
  .rfl
  .exact kW h.2.2
 inb:=fun⟨vb,e,h⟩=>⟨vb,e,h.inb⟩}
def MQ(v:Value):Prop:=∀a n c,v=.slice a n c->n<=c
theorem IT:MQ (.slice none 0 0):=fun a n c e=>by injection e with _ b d;omega
structure fB (w:World) (ok:Nat->Prop) (s:Sto) (vc vr vn vo vt vu vk vb:Value):Prop where
 aDb:bO s.aDb
 aDg:bO s.aDg
 aC2:aI pY w ok vc s.aC2
 aC5:aI rV w ok vr s.aC5
 aC8:aI rW w ok vn s.aC8
 aDd:aI oV w ok vo s.aDd
 aC4:fP 3 w ok s.aC4 vt vu vk vb
 aDR:MQ vr/\MQ vn/\MQ vo
def aX(s:Sto)(vc vr vn vo vt vu vk vb:Value):Array Value:=#[.int .i64 s.aDb,vc,vr,vn,vo,.string s.aC4.id,.bool s.aC4.set,.int .i64 s.aC4.alg,vt,vu,vk,vb,.int .i64 s.aDg]
theorem fB.aDc{w w':World}{ok:nP}{s:Sto}{vc vr vn vo vt vu vk vb:Value}(h:fB w ok s vc vr vn vo vt vu vk vb)(a:aO ok w w'):fB w' ok s vc vr vn vo vt vu vk vb:=
 ⟨h.aDb,h.aDg,aI.aDc dV h.aC2 a,aI.aDc cR h.aC5 a,aI.aDc cU h.aC8 a,aI.aDc cM h.aDd a,h.aC4.aDc a,h.aDR⟩
theorem fB.more{w:World}{ok ok':nP}{s:Sto}{vc vr vn vo vt vu vk vb:Value}(h:fB w ok s vc vr vn vo vt vu vk vb)(a:∀b,ok b->ok' b):fB w ok' s vc vr vn vo vt vu vk vb:=
 ⟨h.aDb,h.aDg,aI.more dV h.aC2 a,aI.more cR h.aC5 a,aI.more cU h.aC8 a,aI.more cM h.aDd a,h.aC4.more a,h.aDR⟩
theorem fB.inb{w:World}{ok:nP}{s:Sto}{vc vr vn vo vt vu vk vb:Value}(h:fB w ok s vc vr vn vo vt vu vk vb):fB w (fun b=>ok b/\b<w.heap.size) s vc vr vn vo vt vu vk vb:=
 ⟨h.aDb,h.aDg,aI.inb dV h.aC2,aI.inb cR h.aC5,aI.inb cU h.aC8,aI.inb cM h.aDd,h.aC4.inb,h.aDR⟩
theorem fB.on{w w':World}{ok:nP}{s:Sto}{vc vr vn vo vt vu vk vb:Value}(h:fB w ok s vc vr vn vo vt vu vk vb)(a:Below w.heap.size w w'):fB w' ok s vc vr vn vo vt vu vk vb:=h.aDc (aK a)
def kJ(o:Op):Prop:=bO o.aC3/\o.aDi.size<=cV/\o.aDa.size<=cV/\o.aDn.size<=cV/\o.to_.size<=cV/\cZ o.val/\bO o.aDq/\o.text.size<=cV/\o.aDp.size<=cV
def cC(o:Op):Array Value:=#[.int .i64 o.aC3,.string o.aDi,.string o.aDa,.string o.aDn,.string o.to_,.int .i64 o.val.1,.int .i64 o.val.2.1,.string o.val.2.2,.int .i64 o.aDq,.string o.text,.string o.aDp,.bool o.aDw]
def fI(o:Op):Value:= .agg (cC o)
theorem aN.cut{α:Type}{R:Rep α}{s:Nat}{e:TypeId}{w:World}{base:Nat}{ok:nP}(F:Firm R s){a:oD}{n c:Nat}{l:List α}(h:aN R s e w base ok (.slice a n c) l)(m:Nat)(hm:m<=l.length):aN R s e w base ok (.slice a m c) (l.take m):=by
 obtain⟨cs,h1,h2⟩:=h;have q:(Value.slice a m c).ownBlock=(Value.slice a n c).ownBlock:=by cases a<;>rfl
 have p:(l.take m).length=m:=by rw[List.length_take];omega
 refine⟨cs.take (m * s),?_,?_⟩
 .rw[p];refine⟨by rw[List.length_take,h1.1];exact Nat.min_eq_left (Nat.mul_le_mul_right s hm),?_⟩
  rcases h1.2 with ⟨d,t⟩|⟨g,cap,cur,d,h3,h4,h5,h6,h7,h8⟩
  .injection d with f o i;subst f i;exact .inl ⟨by rw[show m=0 by omega],qo⟩
  .injection d with f o i;subst f i;refine .inr ⟨g,c,cur,rfl,h3,h4,qo,h6,h7,?_⟩;rw[<-h8,List.take_take]
   congr 1
   exact(Nat.min_eq_left (Nat.mul_le_mul_right s hm)).symm
 .exact(aZ.split (fun _ _ k=>F.len k) m h2 hm).1.mono fun r x k=>F.more k fun b j=>⟨j.1,j.2.1,by rw[q];exact j.2.2⟩
theorem aN.place{α:Type}{R:Rep α}{s:Nat}{e:TypeId}{w:World}{base:Nat}{ok:nP}{a:oD}{n c:Nat}{l:List α}(h:aN R s e w base ok (.slice a n c) l):((a=none/\c=0)\/∃g,a=some ⟨g,0,none⟩)/\l.length<=c/\c<=maxLen:=by
 obtain⟨cs,h1,h2⟩:=h
 rcases h1.2 with ⟨b,j⟩|⟨g,cap,cur,b,h3,h4,h5,h6,h7,h8⟩
 .injection b with d i f;exact⟨.inl ⟨d,f⟩,qo,by unfold maxLen;omega⟩
 .injection b with d i f;subst f;exact⟨.inr ⟨g,d⟩,h5,h6⟩
theorem iZ{α:Type}{R:Rep α}{s:Nat}{P:Program}{w:World}{t e:TypeId}{bytes:Nat}{base:Nat}{ok:nP}(E:dY P t e s bytes)(F:Firm R s){ops:Array Oper}{o:Oper}{a:Act}{K:Act->World->Prop}{Q:Exit->Act->World->Prop}{G:Prop}(k:o.guard=none)(d x:Operand)
 (m:o.op=.call {callee:= .builtin .append,args:=#[d,x],argTypes:=#[t,t]})
 (v:Value)(l:List α)(p:a.eval d=v)(f:aN R s e w base ok v l)
 (g c:Nat)(cs:Array Value)(ty:TypeId)(fr:Nat×Nat)(y:α)(q:a.eval x=.slice (some ⟨g,0,none⟩) 1 c)(hc:w.heap[g]? =some (.cells cs ty fr))(hy:R w (fun b=>ok b/\b<w.heap.size/\some b≠v.ownBlock) cs.toList y)
 (h63:l.length<=1000000)(hbytes:bytes<=10000)(j:base<=w.heap.size)
 (h:∀l',Hid (l'=l++[y])->∀A' c' w',aN R s e w' base ok (.slice A' l'.length c') l'->w.grownBy w' v.ownBlock->((Value.slice A' l'.length c').ownBlock=v.ownBlock\/(Value.slice A' l'.length c').ownBlock=some w.heap.size)->K (a.put o.dst (.slice A' l'.length c')) w'):if Region.wanted o (yielded ops a.tmps)=true then Oper.wp P o a w K Q else G:=by
 obtain⟨xs,n,hcs⟩:=f;have hlen:cs.toList.length=1 * s:=by rw[F.len hy];omega
 refine Nd E k d x m base v l.length xs p n (some ⟨g,0,none⟩) 1 c cs.toList q hlen ?_ (F.one hy) (by unfold maxLen;omega) ?_ j fun A' c' w' h1 h2 h3=> ?_
 .exact QCs
 .exact QCL
 .exact QCd
theorem QDd{p:Prop}(h:p:=by
 subst hji;obtain⟨v1,hv1,he⟩:=hy w hw;exact Cg hi hv1 ⟨fun _=>hw,by rw[he];exact H⟩):p:=h
abbrev Sg:Exit->Act->World->Prop:=fun _ _ _=>False
section
variable {P:Program} {ops:Array Oper} {md:Region.Mode} {C:World->Prop} {Q:Exit->Act->World->Prop}
def uU(P:Program)(ops:Array Oper)(i:Nat)(K:Act->World->Prop)(a:Act)(w:World):Prop:=
 match ops[i]? with
 |none=>False
 |some o=>if Region.wanted o (yielded ops a.tmps)=true then o.wp P a w K Sg else K (a.put o.dst undef) w
theorem sV{o:Oper}{a:Act}{K K':Act->World->Prop}{g:Exit->Act->World->Prop}(h:∀a w,K a w->K' a w){r:Result Next}(b:o.upon P a K Sg r):o.upon P a K' g r:=by
 cases r with
 |ok n w'=>
  cases n with
  |value v=>exact h _ _ b
  |skip=>exact h _ _ b
  |enter f args=>
   refine Calls.mono b fun e i d=> ?_
   cases e with
   |returned v=>exact h _ _ d
   |panicked c=>exact(d:False).elim
   |outgrown=>obtain⟨_,_,h0⟩:=(d:LetsOut Sg);exact(h0:False).elim
  |row r args=>exact Rows.mono b fun v i d=>h _ _ d
  |_=>first|exact(b:False).elim|exact h _ _ b
 |halt x w'=>
  cases x with
  |panic v=>exact(b:False).elim
  |_=>exact(b:False).elim
theorem TD{i:Nat}{K K':Act->World->Prop}{a:Act}{w:World}(h:∀a w,K a w->K' a w)(b:uU P ops i K a w):uU P ops i K' a w:=by
 unfold uU at *;split
 .rename_i h0;simp only[h0] at b
 .rename_i o h0;simp only[h0] at b;split
  .rename_i hw;rw[iP hw] at b;exact sV h b
  .rename_i hw;rw[iN hw] at b;exact h _ _ b
theorem XN{i:Nat}{K K':Act->World->Prop}{a:Act}{w:World}(h:∀a w,K a w->K' a w)(b:uU P ops i K a w):wpOp P ops Q i K' a w:=by
 unfold uU at b;unfold wpOp;split
 .rename_i h0;simp only[h0] at b
 .rename_i o h0;simp only[h0] at b;split
  .rename_i hw;rw[iP hw] at b;exact .inl (sV h b)
  .rename_i hw;rw[iN hw] at b;exact h _ _ b
theorem Up{j:Nat}{g i:Oper}{v:Value}(hj:ops[j]? =some i)(p:g.apart ops i=true)
 (y:∀cs b,g.op≠ .select cs b)(s:∀cs b,i.op≠ .select cs b){K:Act->World->Prop}{a:Act}{w:World}{Y:Act->Prop}
 (k:∀a u,Y a->Y (a.put i.dst u))(q:∀a d,Y a->Y {a with defers:=d::a.defers})(l:Y a)(h:uU P ops j K (a.put g.dst v) w):
 uU P ops j (fun o w'=>Y o/\K (o.put g.dst v) w') a w:=by
 obtain⟨h1,h2,h3⟩:=Oper.apart_spec p;unfold uU at *;simp only[hj] at *;rw[wanted_put i a g.dst v h1] at h;split
 .rename_i hw;simp only[hw,if_true] at h;unfold Oper.wp at *;rw[execOp_put i s a g.dst v h1] at h;generalize (execOp a.eval i).run P w=r at *
  cases r with
  |ok n w'=>
   cases n with
   |value u=>exact⟨k a u l,by rw[<-Act.put_comm a v u h2];exact h⟩
   |skip=>exact⟨k a undef l,by rw[<-Act.put_comm a v undef h2];exact h⟩
   |enter f args=>
    refine Calls.mono h fun e t m=> ?_
    cases e with
    |returned u=>exact⟨k a u l,by rw[<-Act.put_comm a v u h2];exact m⟩
    |panicked c=>exact m
    |outgrown=>exact m
   |row r args=>exact Rows.mono h fun u t m=>⟨k a u l,by rw[<-Act.put_comm a v u h2];exact m⟩
   |_=>
    first
    |exact(h:False).elim
    |(rename_i d
      refine⟨k _ undef (q a d l),?_⟩;have h4:K (({a.put g.dst v with defers:=d::(a.put g.dst v).defers}:Act).put i.dst undef) w':=h;rw[Act.put_defers,Act.put_comm _ v undef h2] at h4;exact h4)
  |halt x w'=>
   cases x with
   |panic v=>exact(h:False).elim
   |_=>exact(h:False).elim
 .rename_i hw;simp only[hw] at h;exact⟨k a undef l,by rw[<-Act.put_comm a v undef h2];exact h⟩
def oX(P:Program)(md:Region.Mode)(ops:Array Oper)(C:World->Prop)(n:Nat)(Q:Act->World->Prop):Nat->Array Bool->Act->World->Prop
 |0,listed,a,w=>Region.ready md ops listed=[]/\Q a w
 |f+1,listed,a,w=>(Region.ready md ops listed=[]->Q a w)/\∀i∈Region.ready md ops listed,uU P ops i (fun b w'=>(i<n->C w')/\oX P md ops C n Q f (listed.setIfInBounds i true) b w') a w
theorem xU{n:Nat}:∀(f:Nat) (listed:Array Bool) (a:Act) (w:World),oX P md ops C n (fun a w=>Q .normal a w) f listed a w->wpAny P md ops Q f listed a w
 |0,_,_,_,h=>h
 |f+1,_,_,_,h=>⟨h.1,fun i d=>XN (fun b w' c=>xU f _ b w' c.2) (h.2 i d)⟩
def CQ(P:Program)(ops:Array Oper)(C:World->Prop)(o:Oper)(v:Value)(a:Act):Prop:=∀w,C w->∃v1,YieldsAt P ops w o v1 a/\a.put o.dst v1=a.put o.dst v
theorem Cg{i:Nat}{o:Oper}{v:Value}{a:Act}{w:World}(d:ops[i]? =some o)(g:YieldsAt P ops w o v a){K:Act->World->Prop}(h:K (a.put o.dst v) w):uU P ops i K a w:=by
 unfold uU;simp only[d]
 rcases g with ⟨hw,b|⟨b,rfl⟩|⟨f,args,b,c⟩⟩|⟨hw,rfl⟩
 .simp only[hw,if_true,Oper.wp,b,Oper.upon];exact h
 .simp only[hw,if_true,Oper.wp,b,Oper.upon];exact h
 .simp only[hw,if_true,Oper.wp,b,Oper.upon];refine c.mono fun e j he=> ?_
  obtain⟨rfl,rfl⟩:=he;exact h
 .simp only[hw,Bool.false_eq_true,if_false];exact h
theorem KC{n i:Nat}{c:Oper}{v:Value}{Q:Act->World->Prop}(hi:ops[i]? =some c)(z:∀(j:Nat) (o:Oper) cs b,ops[j]? =some o->o.op≠ .select cs b)
 (S:Region.sinkB md ops n=true)(G:Region.chainB md ops n=true)(N:n<ops.size)(K:i<n):
 ∀(f:Nat) (listed:Array Bool) (a:Act) (w:World),HeadInv md ops n listed->
  (∀j g,ops[j]? =some g->j≠i->listed.getD j true=false->(∀e∈g.after,Region.binds md e=true->e.on≠i)->c.apart ops g=true)->
  i∈Region.ready md ops listed->C w->CQ P ops C c v a->
  oX P md ops C n Q f (listed.setIfInBounds i true) (a.put c.dst v) w->oX P md ops C n Q (f+1) listed a w:=by
 intro f
 induction f with
 |zero=>
  intro listed a w inv _ l hw hy H;refine⟨fun h=>(by rw[h] at l;cases l),fun j hj=> ?_⟩;by_cases hji:j=i
  .exact QDd
  .have:=ready_mono hj hji;rw[H.1] at this
   cases this
 |succ f T=>
  intro listed a w inv s l hw hy H;refine⟨fun h=>(by rw[h] at l;cases l),fun j hj=> ?_⟩;by_cases hji:j=i
  .exact QDd
  .have h1:=H.2 j (ready_mono hj hji);obtain⟨y,g,q,E⟩:=mem_ready.1 hj;have x:j<n:=by
    rcases Nat.lt_or_ge j n with h|h
    .exact h
    .exact absurd hj (tail_waits S G N inv (n - i) i rfl K (mem_ready.1 l).1 j h)
   have R:∀e∈g.after,Region.binds md e=true->e.on≠i:=fun e he F heq=>by
    have h1:=E e he F;have h0:=(mem_ready.1 l).1;rw[heq] at h1
    rcases Nat.lt_or_ge i listed.size with m|m
    .simp[m] at h0 h1;rw[h0] at h1;cases h1
    .simp[Array.getElem?_eq_none m] at h1
   have p:=s j g q hji y R;obtain⟨_,_,h3⟩:=Oper.apart_spec p;obtain⟨_,r,_⟩:=Oper.apart_spec p;have A:∀cs b,c.op≠ .select cs b:=fun cs b=>z i c cs b hi
   have keep:∀(a:Act) (u:Value),CQ P ops C c v a->CQ P ops C c v (a.put g.dst u):=fun a u h w hw=>by
    obtain⟨v1,hv1,he⟩:=h w hw;refine⟨v1,hv1.of_same (execOp_put c A a g.dst u h3) (wanted_put c a g.dst u h3),?_⟩;rw[<-Act.put_comm a v1 u r,<-Act.put_comm a v u r,he]
   have U:∀(a:Act) (d:Deferred),CQ P ops C c v a->CQ P ops C c v {a with defers:=d::a.defers}:=fun a d h w hw=>by
    obtain⟨v1,hv1,he⟩:=h w hw;have I:execOp ({a with defers:=d::a.defers}:Act).eval c=execOp a.eval c:=rfl;refine⟨v1,hv1.of_same I rfl,?_⟩;rw[<-Act.put_defers,<-Act.put_defers,he]
   have h2:=Up q p A (fun cs b=>z j g cs b q) keep U hy h1;have J:∀k ok,ops[k]? =some ok->k≠i->(listed.setIfInBounds j true).getD k true=false->
    (∀e∈ok.after,Region.binds md e=true->e.on≠i)->c.apart ops ok=true:=fun k ok L M B O=>by
    refine s k ok L M ?_ O;by_cases t:j=k
    .subst t;exact y
    .rw[getD_set_ne true t] at B;exact B
   refine TD (fun D w' h3=>⟨h3.2.1,T (listed.setIfInBounds j true) D w' (inv.set hj x) J (ready_mono l (Ne.symm hji)) (h3.2.1 x) h3.1 ?_⟩) h2;rw[Array.setIfInBounds_comm _ _ hji];exact h3.2.2
theorem IU{n k f:Nat}{Q:Act->World->Prop}{listed:Array Bool}{a:Act}{w:World}(c:Region.ready md ops listed=[k])(h:uU P ops k (fun d w'=>(k<n->C w')/\oX P md ops C n Q f (listed.setIfInBounds k true) d w') a w):oX P md ops C n Q (f+1) listed a w:=
 ⟨fun h0=>(by rw[c] at h0;cases h0),fun i b=>(by rw[c,List.mem_singleton] at b;subst b;exact h)⟩
def rd(P:Program)(ops:Array Oper)(o:Oper)(a:Act)(w:World)(K:Act->Prop):Prop:=if Region.wanted o (yielded ops a.tmps)=true then o.still P a w K else K (a.put o.dst undef)
def mv(P:Program)(ops:Array Oper)(o:Oper)(a:Act)(w:World)(K:Act->World->Prop):Prop:=if Region.wanted o (yielded ops a.tmps)=true then o.wp P a w K Sg else K (a.put o.dst undef) w
def cH(P:Program)(ops:Array Oper)(C:World->Prop)(n:Nat)(Q:Act->World->Prop):List (Nat×Bool)->Act->World->Prop
 | [],a,w=>Q a w
 |(k,false)::r,a,w=>match ops[k]? with
  |none=>False
  |some o=>rd P ops o a w (fun b=>(∀w1,C w1->rd P ops o a w1 (fun c=>c=b))/\cH P ops C n Q r b w)
 |(k,true)::r,a,w=>match ops[k]? with
  |none=>False
  |some o=>mv P ops o a w (fun b w'=>(k<n->C w')/\cH P ops C n Q r b w')
def EV(md:Region.Mode)(ops:Array Oper):List (Nat×Bool)->Array Bool->Bool
 | [],listed=>(Region.ready md ops listed).isEmpty
 |(k,fl)::r,listed=>fl&&(Region.ready md ops listed==[k])&&EV md ops r (listed.setIfInBounds k true)
def EW(md:Region.Mode)(ops:Array Oper)(n:Nat)(T:List (Nat×Bool)):List (Nat×Bool)->Array Bool->Bool
 | [],listed=>EV md ops T listed
 |(k,fl)::r,listed=>(if fl=true then Region.ready md ops listed==[k] else (Region.ready md ops listed).contains k&&Region.free md ops listed k)&&decide (k<n)&&EW md ops n T r (listed.setIfInBounds k true)
def Sh(md:Region.Mode)(ops:Array Oper)(n:Nat)(H T:List (Nat×Bool)):Bool:=
 Region.noSelect ops&&decide (n<ops.size)&&Region.sinkB md ops n&&Region.chainB md ops n&&decide (H.length+T.length=ops.size)&&EW md ops n T H (Array.replicate ops.size false)
theorem EX{k:Nat}{o:Oper}(h:ops[k]? =some o){a:Act}{w:World}{K:Act->Prop}:stOp P ops w k K a↔rd P ops o a w K:=by unfold stOp rd;simp only[h]
theorem CR{n:Nat}{Q:Act->World->Prop}:∀(T:List (Nat×Bool)) (listed:Array Bool) (a:Act) (w:World),EV md ops T listed=true->cH P ops C n Q T a w->oX P md ops C n Q T.length listed a w
 | [],listed,a,w,hB,h=>⟨by simpa [EV] using hB,h⟩
 |(k,false)::r,listed,a,w,hB,h=>by simp[EV] at hB
 |(k,true)::r,listed,a,w,hB,h=>by
  simp only[EV,Bool.and_eq_true,bQ,true_and] at hB;refine IU hB.1 ?_;unfold cH at h;unfold uU
  cases c:ops[k]? with
  |none=>simp only[c] at h
  |some o=>
   simp only[c] at h ⊢;unfold mv at h;split
   .rename_i hw;rw[iP hw] at h;exact sV (fun d w' b=>⟨b.1,CR r _ d w' hB.2 b.2⟩) h
   .rename_i hw;rw[iN hw] at h;exact⟨h.1,CR r _ _ w hB.2 h.2⟩
theorem tY{n:Nat}{Q:Act->World->Prop}{T:List (Nat×Bool)}(l:Region.noSelect ops=true)(j:Region.sinkB md ops n=true)(e:Region.chainB md ops n=true)(f:n<ops.size):∀(H:List (Nat×Bool)) (listed:Array Bool) (a:Act) (w:World),HeadInv md ops n listed->C w->EW md ops n T H listed=true->cH P ops C n Q (H++T) a w->oX P md ops C n Q (H.length+T.length) listed a w
 | [],listed,a,w,inv,hw,hB,h=>by
   rw[List.length_nil,Nat.zero_add];exact CR T listed a w hB h
 |(k,true)::r,listed,a,w,inv,hw,hB,h=>by
  simp only[EW,if_true,Bool.and_eq_true,bQ,decide_eq_true_eq] at hB;obtain⟨⟨g,c⟩,d⟩:=hB;rw[List.length_cons,show r.length+1+T.length=(r.length+T.length)+1 by omega];refine IU g ?_;have s:=inv.set (i:=k) (by rw[g];exact List.mem_singleton.2 rfl) c;rw[List.cons_append] at h;unfold cH at h;unfold uU
  cases b:ops[k]? with
  |none=>simp only[b] at h
  |some o=>
   simp only[b] at h ⊢;unfold mv at h;split
   .rename_i p;rw[iP p] at h;exact sV (fun t w' m=>⟨m.1,tY l j e f r _ t w' s (m.1 c) d m.2⟩) h
   .rename_i p;rw[iN p] at h;exact⟨h.1,tY l j e f r _ _ w s (h.1 c) d h.2⟩
 |(k,false)::r,listed,a,w,inv,hw,hB,h=>by
  simp only[EW,Bool.false_eq_true,if_false,Bool.and_eq_true,decide_eq_true_eq] at hB;obtain⟨⟨⟨g,x⟩,c⟩,d⟩:=hB;have q:k∈Region.ready md ops listed:=by simpa using g
  rw[List.length_cons,show r.length+1+T.length=(r.length+T.length)+1 by omega];rw[List.cons_append] at h;unfold cH at h
  cases b:ops[k]? with
  |none=>simp only[b] at h
  |some o=>
   simp only[b] at h;obtain⟨v,z,h1,h2⟩:=yieldsAt_of_stOp b ((EX b).2 h);exact KC b (Region.noSelect_spec l) j e f c _ listed a w inv (Region.free_spec b x) q hw
    (fun w1 y=>yieldsAt_of_stOp b ((EX b).2 (h1 w1 y)))
    (tY l j e f r _ _ w (inv.set q c) hw d h2)
theorem cB{id:Nat}{a:Act}{w:World}{l:List Oper}(n:Nat)(H T:List (Nat×Bool))(C:World->Prop)(hm:P.follows .mixedOrders=true)(c:Sh .any l.toArray n H T=true)(hC:C w.drew)
 (h:cH P l.toArray C n (fun a w=>Q .normal a w) (H++T) a w.drew):(Code.region id l.toArray true).wp P Q a w:=by
 simp only[Sh,Bool.and_eq_true,decide_eq_true_eq] at c;obtain⟨⟨⟨⟨⟨i,f⟩,g⟩,e⟩,b⟩,d⟩:=c;have m:HeadInv .any l.toArray n (Array.replicate l.toArray.size false):=
  ⟨qs,fun j o _ b=>(by rw[getD_replicate_false] at b;cases b),fun t _ k=>getD_in (by simpa using k) (getD_replicate_false _ _)⟩
 have h1:=tY (md:= .any) i g e f H _ a w.drew m hC d h;rw[b] at h1;exact wp_region_any hm (xU _ _ _ _ h1)
theorem dA{n k:Nat}{Q:Act->World->Prop}{r:List (Nat×Bool)}{a:Act}{w:World}{o:Oper}(d:ops[k]? =some o)(h:∀K:Act->Prop,(∀b,(∀w1,C w1->rd P ops o a w1 (fun c=>c=b))->cH P ops C n Q r b w->K b)->rd P ops o a w K):cH P ops C n Q ((k,false)::r) a w:=by
 unfold cH;simp only[d];exact h _ (fun b h1 h2=>⟨h1,h2⟩)
theorem bI{n k:Nat}{Q:Act->World->Prop}{r:List (Nat×Bool)}{a:Act}{w:World}{o:Oper}(c:ops[k]? =some o)(h:∀K:Act->World->Prop,(∀b w',(k<n->C w')->cH P ops C n Q r b w'->K b w')->mv P ops o a w K):cH P ops C n Q ((k,true)::r) a w:=by
 unfold cH;simp only[c];exact h _ (fun b w' h1 h2=>⟨h1,h2⟩)
end
end Go.Proofs.YtkglnboglppgnaaGreatDoor
