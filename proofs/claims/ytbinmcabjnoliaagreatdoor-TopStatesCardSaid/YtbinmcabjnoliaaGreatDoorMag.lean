/- Lemmas. -/
import Derived.Test.YtbinmcabjnoliaaGreatDoorMac
import Derived.Deep.RegionHeld3
import Derived.Deep.RegionLaw
import Derived.Deep.Cut
import Derived.Deep.CutRange
import Derived.Deep.DeepCutAuto
import Derived.Deep.CutBlock
namespace Go.Proofs.YtbinmcabjnoliaaGreatDoor
open Go.RowKit
set_option linter.unusedVariables false
set_option linter.unusedSimpArgs false
set_option maxHeartbeats 16000000
set_option maxRecDepth 20000
structure Op where
 aCR:Int
 aC6:ByteArray
 aCX:ByteArray
 aDc:ByteArray
 to_:ByteArray
 val:V3
 aDd:Int
 text:ByteArray
 aDf:ByteArray
 aDk:Bool
deriving DecidableEq
def Bv:Op:=⟨0,ByteArray.empty,ByteArray.empty,ByteArray.empty,ByteArray.empty,bD,0,ByteArray.empty,ByteArray.empty,false⟩
structure rS where
 aCZ:Int
 aDo:ByteArray
 aDP:ByteArray
deriving DecidableEq
structure cF where
 id:ByteArray
 aDj:ByteArray
 aDa:ByteArray
 aCW:List (ByteArray×V3)
 log:List rS
deriving DecidableEq
structure vU where
 id:Int
 aCZ:Int
 aC6:ByteArray
 aCX:ByteArray
 action:ByteArray
 aDf:ByteArray
 open_:Bool
deriving DecidableEq
structure xQ where
 aCZ:Int
 aCX:ByteArray
 arg:ByteArray
deriving DecidableEq
structure Sto where
 aCZ:Int
 aCQ:List cF
 aCU:List vU
 aCY:List xQ
 aC4:List (ByteArray×ByteArray)
 aCS:Po
 aC2:Int
def wU:ByteArray:=⟨#[112,111,108,105,99,121,32,111,112,101,110,32,112,101,114,109,105,116,117,110,108,101,115,115,32,123,32,125]⟩
def mQ:Sto:=⟨0,[],[],[],[],(fD wU).1,0⟩
def gS(a b:bY):Bool:=decide (¬b.toList<a.toList)
def aW(s:Sto)(id:bY):Nat×Bool:=
 let i:=s.aCQ.findIdx (fun c=>gS id c.id)
 if i<s.aCQ.length then (i,decide (((s.aCQ[i]?).map (·.id))=some id)) else (s.aCQ.length,false)
def eF(s:Sto)(id:bY):Option cF:=if (aW s id).2 then s.aCQ[(aW s id).1]? else none
def rT(s:Sto)(subject role:bY):Bool:=s.aC4.any (fun r=>decide (r=(subject,role)))
def gI(c:cF)(name:bY):V3:=((c.aCW.find? (fun f=>decide (f.1=name))).map (·.2)).getD bD
def zP:ByteArray:=str "open"
def uX:ByteArray:=str "work"
def EL:ByteArray:=str "done"
def lH:ByteArray:=str "closed"
def gW(a b:bY):Bool:=
 if a=zP then decide (b=uX) else if a=uX then decide (b=EL) else if a=EL then decide (b=uX)||decide (b=lH) else false
def xR:List ByteArray:=["new","read","write","move","close","role","policy"].map str
def cJ(kind:Int):ByteArray:=if kind<1\/7<kind then str "tick" else (xR[(kind - 1).toNat]?).getD (str "tick")
def mR(s:bY):Bool:=decide (s.size=0)||eO s
def oA(o:Op):Bool:=
 if o.aDk=false then decide (o.aDf.size=0) else (decide (1<=o.aCR/\o.aCR<=4)&&(decide (o.aDf.size≠0)&&decide (o.aDf.size<=64)))
def RR(o:Op):Op:={o with aC6:=ByteArray.empty,aDf:=ByteArray.empty,aDk:=false}
def fW(o:Op):Bool:=
 let b:=RR o
 let k:={Bv with aCR:=o.aCR}
 if o.aCR=1 then decide (o.aCX.size≠0)&&decide (b={k with aCX:=o.aCX})
 else if o.aCR=2\/o.aCR=6 then (decide (o.aCX.size≠0)&&decide (o.aDc.size≠0))&&decide (b={k with aCX:=o.aCX,aDc:=o.aDc})
 else if o.aCR=3 then ((decide (o.aCX.size≠0)&&decide (o.aDc.size≠0))&&decide (o.val≠bD))&&decide (b={k with aCX:=o.aCX,aDc:=o.aDc,val:=o.val})
 else if o.aCR=4 then (decide (o.aCX.size≠0)&&decide (o.to_.size≠0))&&decide (b={k with aCX:=o.aCX,to_:=o.to_})
 else if o.aCR=5 then decide (0<o.aDd)&&decide (b={k with aDd:=o.aDd})
 else if o.aCR=7 then decide (b={k with text:=o.text})
 else if o.aCR=8 then (decide (0<o.aDd)&&decide (o.aDd<=1099511627776))&&decide (b={k with aDd:=o.aDd})
 else false
def gP(o:Op):Bool:=
 if eO o.aC6=false\/oA o=false\/4096<o.text.size then false
 else if mR o.aCX=false\/mR o.aDc=false\/mR o.to_=false\/(o.val≠bD/\aT o.val=false) then false
 else fW o
def iH(s:Sto)(o:Op):Int:=
 match eF s o.aCX with
 |none=>10
 |some c=>
  if o.aCR=3/\16<=c.aCW.length/\gI c o.aDc=bD then 6
  else if o.aCR≠2/\256<=c.log.length then 6
  else if (o.aCR=3/\c.aDa=lH)\/(o.aCR=4/\gW c.aDa o.to_=false) then 13
  else 0
def iS(s:Sto)(o:Op):Int:=
 if (s.aCU.length:Int)<o.aDd then 10
 else match s.aCU[(o.aDd - 1).toNat]? with
  |none=>10
  |some r=>if r.open_=false then 10 else if r.aC6=o.aC6 then 12 else 0
def dR(s:Sto)(o:Op):Int:=
 if gP o=false then 1
 else if o.aCR=1 then (if (aW s o.aCX).2 then 11 else if 64<=s.aCQ.length then 6 else 0)
 else if o.aCR=2\/o.aCR=3\/o.aCR=4 then iH s o
 else if o.aCR=5 then iS s o
 else if o.aCR=6 then (if 64<=s.aC4.length/\rT s o.aCX o.aDc=false then 6 else 0)
 else if o.aCR=8 then (if 1099511627776 - o.aDd<s.aCZ then 6 else 0)
 else 0
def CJ(s:bY):V3:=(5,0,s)
def rU(cat:Int)(name:String)(bag:List V3):Gv:=(cat,str name,bag)
def nJ(c:cF)(subject:bY):List Gv:=
 [rU 3 "id" [CJ c.id],rU 3 "owner" [CJ c.aDj],rU 3 "state" [CJ c.aDa],rU 3 "events" [(2,c.log.length,ByteArray.empty)],
   rU 3 "took" [cI (c.log.any (fun h=>decide (h.aDo=subject)))]]
 ++(match c.log.getLast? with |some h=>[rU 3 "last" [CJ h.aDo]]|none=>[])
 ++((c.aCW.filter (fun f=>decide (f.1.size<=14))).map (fun f=>((3,str "f_"++f.1,[f.2]):Gv)))
def pU(s:Sto)(o:Op):List Gv:=
 [rU 1 "id" [CJ o.aC6],rU 1 "role" (((s.aC4.filter (fun r=>decide (r.1=o.aC6))).take 16).map (fun r=>CJ r.2)),rU 2 "name" [CJ (cJ o.aCR)]]
 ++(if o.aDc.size≠0 then [rU 2 "field" [CJ o.aDc]] else [])
 ++(if o.to_.size≠0 then [rU 2 "to" [CJ o.to_]] else [])
 ++[rU 4 "now" [(4,s.aCZ,ByteArray.empty)]]
 ++(match eF s o.aCX with |some c=>if o.aCR≠6 then nJ c o.aC6 else []|none=>[])
def oC(s:Sto)(c:cF)(actor what:bY):cF:={c with log:=c.log++[⟨s.aCZ,actor,what⟩]}
def nV(c:cF)(name:bY)(v:V3):cF:=
 let i:=c.aCW.findIdx (fun f=>gS name f.1)
 match c.aCW[i]? with
 |none=>{c with aCW:=c.aCW++[(name,v)]}
 |some f=>if f.1=name then {c with aCW:=c.aCW.set i (name,v)} else {c with aCW:=c.aCW.take i++[(name,v)]++c.aCW.drop i}
def fE(s:Sto)(i:Nat)(f:cF->cF):Sto:={s with aCQ:=match s.aCQ[i]? with |some c=>s.aCQ.set i (f c)|none=>s.aCQ}
def dI(s:Sto)(o:Op):Sto:=
 if dR s o≠0 then s
 else
  let i:=(aW s o.aCX).1
  if o.aCR=1 then {s with aCQ:=s.aCQ.take i++[oC s ⟨o.aCX,o.aC6,zP,[],[]⟩ o.aC6 (str "new")]++s.aCQ.drop i}
  else if o.aCR=3 then fE s i (fun c=>oC s (nV c o.aDc o.val) o.aC6 (str "write"))
  else if o.aCR=4 then fE s i (fun c=>oC s {c with aDa:=o.to_} o.aC6 o.to_)
  else if o.aCR=5 then {s with aCU:=match s.aCU[(o.aDd - 1).toNat]? with |some r=>s.aCU.set (o.aDd - 1).toNat {r with open_:=false} |none=>s.aCU}
  else if o.aCR=6 then (if rT s o.aCX o.aDc then s else {s with aC4:=s.aC4++[(o.aCX,o.aDc)]})
  else if o.aCR=7 then (if (fD o.text).2.1=0 then {s with aCS:=(fD o.text).1,aC2:=s.aC2+1} else s)
  else if o.aCR=8 then {s with aCZ:=s.aCZ+o.aDd}
  else s
def OH:ByteArray:=str "glass"
def RS(s:Sto)(subject:bY):Bool:=s.aCU.any (fun r=>decide (r.aC6=subject)&&(r.open_&&decide (100<=s.aCZ - r.aCZ)))
def kU(s:Sto)(o:Op)(m:Mk):Bool:=o.aDk&&((decide (m=(0,4))||decide (m=(0,0)))&&(rT s o.aC6 OH&& !RS s o.aC6))
def gB(s:Sto)(o:Op)(reason:bY):Sto:={s with aCU:=s.aCU++[⟨s.aCU.length+1,s.aCZ,o.aC6,o.aCX,cJ o.aCR,reason,true⟩]}
def lV(s:Sto)(o:Op)(what:bY):Sto:=
 let i:=s.aCQ.findIdx (fun c=>decide (c.id=o.aCX))
 if i<s.aCQ.length/\o.aCR≠6 then fE s i (fun c=>oC s c o.aC6 what) else s
def cZ(o:Op)(done:Bool)(s:Sto)(x:Ob):Sto:=
 if x.aCR=1/\done=true then lV s o x.arg
 else if x.aCR=3 then gB s o x.arg
 else if x.aCR=4 then {s with aCY:=s.aCY++[⟨s.aCZ,o.aCX,x.arg⟩]}
 else s
def qL(s:Sto):Bool:=decide (256<s.aCU.length)||(decide (256<s.aCY.length)||s.aCQ.any (fun c=>decide (256<c.log.length)))
structure Rpl where
 err:Int
 mark:Mk
 aDk:Bool
 val:V3
 hidden:Bool
 at_:Int
def qM:Rpl:=⟨0,(0,0),false,bD,false,0⟩
structure Deci where
 op:Op
 aC2:Int
 mark:Mk
 aDk:Bool
 aC7:List Ob
def cY(s:Sto)(o:Op):Sto×Rpl×Option Deci×Int:=
 let e:=dR s o
 let a:Int×Int:=if e=0/\o.aCR=7 then (fD o.text).2 else (e,0)
 if a.1≠0 then (s,{qM with err:=a.1,at_:=a.2},none,a.1)
 else
  let (r,e2):=iF (pU s o) s.aCS
  if e2≠0 then (s,{qM with err:=e2,at_:=a.2},none,e2)
  else
   let glass:=kU s o r.1
   let done:=decide (r.1=(4,0))||glass
   let b:=if glass then gB s o o.aDf else s
   let f:=if done then dI b o else b
   let hidden:=done&&(decide (o.aCR=2)&&r.2.any (fun x=>decide (x.aCR=2)&&decide (x.arg=o.aDc)))
   let val:=if done&&(decide (o.aCR=2)&& !hidden) then ((eF s o.aCX).map (fun c=>gI c o.aDc)).getD bD else bD
   let d:=r.2.foldl (cZ o done) f
   if qL d then (s,{qM with err:=6,at_:=a.2},none,6)
   else (d,⟨if done then 0 else 12,r.1,glass,val,hidden,0⟩,some ⟨o,s.aC2,r.1,glass,r.2⟩,0)
def cN(l:lU):List UInt8×List UInt8:=(l.takeWhile (fun c=>decide (c.toNat≠32)),(l.dropWhile (fun c=>decide (c.toNat≠32))).drop 1)
def oS(l:lU):Option V3:=
 match jL l with
 |([t,_],0,_)=>
  if t.aCR=2 then some (2,t.num,t.str) else if t.aCR=3 then some (4,t.num,t.str) else if t.aCR=4 then some (5,t.num,t.str)
  else if t.aCR=5 then some (3,t.num,t.str)
  else if t.aCR=1 then (if t.str=str "true" then some (1,1,ByteArray.empty) else if t.str=str "false" then some (1,0,ByteArray.empty) else none)
  else none
 |_=>none
def jE(l:lU):Int:=if l=[]\/9<l.length\/l.head?=some 48\/l.all bA=false then 0 else (pR l:Int)
def oG(w:lU):Int:=let i:=(xR++[str "tick"]).findIdx (fun x=>decide (x=bs w));if i<8 then (i:Int)+1 else 0
def jV(a:lU):Bool×List UInt8×List UInt8:=match a with
 |33 ::r=>(true,(cN r).1,(cN r).2)
 |r=>(false,[],r)
def kW(l:lU):Option Op:=
 let (subj,r0):=cN l
 let (glass,reason,r1):=jV r0
 let (w,r2):=cN r1
 let k:=oG w
 let base:Op:={Bv with aCR:=k,aC6:=bs subj,aDf:=bs reason,aDk:=glass}
 let o:Option Op:=
  if k=1 then some {base with aCX:=bs r2}
  else if k=2\/k=6 then some {base with aCX:=bs (cN r2).1,aDc:=bs (cN r2).2}
  else if k=3 then (oS (cN (cN r2).2).2).map (fun v=>{base with aCX:=bs (cN r2).1,aDc:=bs (cN (cN r2).2).1,val:=v})
  else if k=4 then some {base with aCX:=bs (cN r2).1,to_:=bs (cN r2).2}
  else if k=5\/k=8 then some {base with aDd:=jE r2}
  else if k=7 then some {base with text:=bs r2}
  else some base
 match o with
 |some o=>if gP o then some o else none
 |none=>none
theorem QDk{p:Prop}(h:p:=by
 go_wp2;refine bR (.agg #[.int .i64 1,.int .i64 1,.string ⟨#[]⟩]) ?_;exact⟨rfl,HBE.o _ _⟩):p:=h
theorem QDj{p:Prop}(h:p:=by
 go_wp2;refine bR (.agg #[.int .i64 1,.int .i64 0,.string ⟨#[]⟩]) ?_;exact⟨rfl,HBE.o _ _⟩):p:=h
abbrev oH:=ByteArray×V3
abbrev wV:=ByteArray×ByteArray
def vL(h:rS):Prop:=bK h.aCZ/\h.aDo.size<=cQ/\h.aDP.size<=cQ
def CK(h:rS):List Value:=[.int .i64 h.aCZ,.string h.aDo,.string h.aDP]
def EM(f:oH):Prop:=f.1.size<=cQ/\cS f.2
def tV(f:oH):List Value:=[.string f.1,.int .i64 f.2.1,.int .i64 f.2.2.1,.string f.2.2.2]
def EN(r:vU):Prop:=bK r.id/\bK r.aCZ/\r.aC6.size<=cQ/\r.aCX.size<=cQ/\r.action.size<=cQ/\r.aDf.size<=cQ
def JW(r:vU):List Value:=[.int .i64 r.id,.int .i64 r.aCZ,.string r.aC6,.string r.aCX,.string r.action,.string r.aDf,.bool r.open_]
def EO(n:xQ):Prop:=bK n.aCZ/\n.aCX.size<=cQ/\n.arg.size<=cQ
def JX(n:xQ):List Value:=[.int .i64 n.aCZ,.string n.aCX,.string n.arg]
def ML(r:wV):Prop:=r.1.size<=cQ/\r.2.size<=cQ
def SV(r:wV):List Value:=[.string r.1,.string r.2]
def lE:Rep rS:=mJ CK vL
def kM:Rep oH:=mJ tV EM
def sU:Rep vU:=mJ JW EN
def vV:Rep xQ:=mJ JX EO
def qT:Rep wV:=mJ SV ML
theorem bS:Firm lE 3:=gD (fun _=>rfl) (fun x v h=>by simp only[CK,List.mem_cons,List.not_mem_nil,or_false] at h;rcases h with rfl|rfl|rfl<;>rfl)
theorem bL:Firm kM 4:=gD (fun _=>rfl) (fun x v h=>by simp only[tV,List.mem_cons,List.not_mem_nil,or_false] at h;rcases h with rfl|rfl|rfl|rfl<;>rfl)
theorem cT:Firm sU 7:=gD (fun _=>rfl) (fun x v h=>by simp only[JW,List.mem_cons,List.not_mem_nil,or_false] at h;rcases h with rfl|rfl|rfl|rfl|rfl|rfl|rfl<;>rfl)
theorem dZ:Firm vV 3:=gD (fun _=>rfl) (fun x v h=>by simp only[JX,List.mem_cons,List.not_mem_nil,or_false] at h;rcases h with rfl|rfl|rfl<;>rfl)
theorem dC:Firm qT 2:=gD (fun _=>rfl) (fun x v h=>by simp only[SV,List.mem_cons,List.not_mem_nil,or_false] at h;rcases h with rfl|rfl<;>rfl)
def oT(w:World)(ok:nP)(c:cF)(a b:Value):Prop:=c.id.size<=cQ/\c.aDj.size<=cQ/\c.aDa.size<=cQ/\aH kM w ok a c.aCW/\aH lE w ok b c.log
def pV:Rep cF:=fun w ok cs c=>∃a b,cs=[.string c.id,.string c.aDj,.string c.aDa,a,b]/\oT w ok c a b
theorem oT.aC0{w w':World}{ok:nP}{c:cF}{b d:Value}(h:oT w ok c b d)(a:aN ok w w'):oT w' ok c b d:=⟨h.1,h.2.1,h.2.2.1,aH.aC0 bL h.2.2.2.1 a,aH.aC0 bS h.2.2.2.2 a⟩
theorem oT.more{w:World}{ok ok':nP}{c:cF}{d e:Value}(h:oT w ok c d e)(a:∀b,ok b->ok' b):oT w ok' c d e:=⟨h.1,h.2.1,h.2.2.1,aH.more bL h.2.2.2.1 a,aH.more bS h.2.2.2.2 a⟩
theorem oT.inb{w:World}{ok:nP}{c:cF}{a d:Value}(h:oT w ok c a d):oT w (fun b=>ok b/\b<w.heap.size) c a d:=⟨h.1,h.2.1,h.2.2.1,aH.inb bL h.2.2.2.1,aH.inb bS h.2.2.2.2⟩
theorem dM:Firm pV 5:={
 aC0:=fun⟨a,b,e,h⟩ d=>⟨a,b,e,h.aC0 d⟩
 more:=fun⟨a,b,e,h⟩ f=>⟨a,b,e,h.more f⟩
 len:=fun⟨a,b,e,h⟩=>by rw[e];rfl
 one:=fun⟨a,b,e,h⟩=>by
  intro v c;rw[e] at c;simp only[List.mem_cons,List.not_mem_nil,or_false] at c
  rcases c with rfl|rfl|rfl|rfl|rfl
  .rfl
  .rfl
  .rfl
  .exact kT h.2.2.2.1
  .exact kT h.2.2.2.2
 inb:=fun⟨a,b,e,h⟩=>⟨a,b,e,h.inb⟩}
def FR(w:World)(ok:nP)(g:Gv)(vb:Value):Prop:=bK g.1/\g.2.1.size<=cQ/\aH VR w ok vb g.2.2
def jM:Rep Gv:=fun w ok cs g=>∃vb,cs=[.int .i64 g.1,.string g.2.1,vb]/\FR w ok g vb
theorem FR.aC0{w w':World}{ok:nP}{g:Gv}{vb:Value}(h:FR w ok g vb)(a:aN ok w w'):FR w' ok g vb:=⟨h.1,h.2.1,aH.aC0 bH h.2.2 a⟩
theorem FR.more{w:World}{ok ok':nP}{g:Gv}{vb:Value}(h:FR w ok g vb)(a:∀b,ok b->ok' b):FR w ok' g vb:=⟨h.1,h.2.1,aH.more bH h.2.2 a⟩
theorem FR.inb{w:World}{ok:nP}{g:Gv}{vb:Value}(h:FR w ok g vb):FR w (fun b=>ok b/\b<w.heap.size) g vb:=⟨h.1,h.2.1,aH.inb bH h.2.2⟩
theorem bZ:Firm jM 3:={
 aC0:=fun⟨vb,e,h⟩ b=>⟨vb,e,h.aC0 b⟩
 more:=fun⟨vb,e,h⟩ c=>⟨vb,e,h.more c⟩
 len:=fun⟨vb,e,h⟩=>by rw[e];rfl
 one:=fun⟨vb,e,h⟩=>by
  intro v a;rw[e] at a;simp only[List.mem_cons,List.not_mem_nil,or_false] at a
  rcases a with rfl|rfl|rfl
  .rfl
  .rfl
  .exact kT h.2.2
 inb:=fun⟨vb,e,h⟩=>⟨vb,e,h.inb⟩}
def MM(v:Value):Prop:=∀a n c,v=.slice a n c->n<=c
theorem IQ:MM (.slice none 0 0):=fun a n c e=>by injection e with _ b d;omega
structure eZ (w:World) (ok:Nat->Prop) (s:Sto) (vc vr vn vo vt vu vk vb:Value):Prop where
 aCZ:bK s.aCZ
 aC2:bK s.aC2
 aCQ:aH pV w ok vc s.aCQ
 aCU:aH sU w ok vr s.aCU
 aCY:aH vV w ok vn s.aCY
 aC4:aH qT w ok vo s.aC4
 aCS:fN 3 w ok s.aCS vt vu vk vb
 aDT:MM vr/\MM vn/\MM vo
def aV(s:Sto)(vc vr vn vo vt vu vk vb:Value):Array Value:=#[.int .i64 s.aCZ,vc,vr,vn,vo,.string s.aCS.id,.bool s.aCS.set,.int .i64 s.aCS.alg,vt,vu,vk,vb,.int .i64 s.aC2]
theorem eZ.aC0{w w':World}{ok:nP}{s:Sto}{vc vr vn vo vt vu vk vb:Value}(h:eZ w ok s vc vr vn vo vt vu vk vb)(a:aN ok w w'):eZ w' ok s vc vr vn vo vt vu vk vb:=
 ⟨h.aCZ,h.aC2,aH.aC0 dM h.aCQ a,aH.aC0 cT h.aCU a,aH.aC0 dZ h.aCY a,aH.aC0 dC h.aC4 a,h.aCS.aC0 a,h.aDT⟩
theorem eZ.more{w:World}{ok ok':nP}{s:Sto}{vc vr vn vo vt vu vk vb:Value}(h:eZ w ok s vc vr vn vo vt vu vk vb)(a:∀b,ok b->ok' b):eZ w ok' s vc vr vn vo vt vu vk vb:=
 ⟨h.aCZ,h.aC2,aH.more dM h.aCQ a,aH.more cT h.aCU a,aH.more dZ h.aCY a,aH.more dC h.aC4 a,h.aCS.more a,h.aDT⟩
theorem eZ.inb{w:World}{ok:nP}{s:Sto}{vc vr vn vo vt vu vk vb:Value}(h:eZ w ok s vc vr vn vo vt vu vk vb):eZ w (fun b=>ok b/\b<w.heap.size) s vc vr vn vo vt vu vk vb:=
 ⟨h.aCZ,h.aC2,aH.inb dM h.aCQ,aH.inb cT h.aCU,aH.inb dZ h.aCY,aH.inb dC h.aC4,h.aCS.inb,h.aDT⟩
theorem eZ.on{w w':World}{ok:nP}{s:Sto}{vc vr vn vo vt vu vk vb:Value}(h:eZ w ok s vc vr vn vo vt vu vk vb)(a:Below w.heap.size w w'):eZ w' ok s vc vr vn vo vt vu vk vb:=h.aC0 (aJ a)
def kF(o:Op):Prop:=bK o.aCR/\o.aC6.size<=cQ/\o.aCX.size<=cQ/\o.aDc.size<=cQ/\o.to_.size<=cQ/\cS o.val/\bK o.aDd/\o.text.size<=cQ/\o.aDf.size<=cQ
def cB(o:Op):Array Value:=#[.int .i64 o.aCR,.string o.aC6,.string o.aCX,.string o.aDc,.string o.to_,.int .i64 o.val.1,.int .i64 o.val.2.1,.string o.val.2.2,.int .i64 o.aDd,.string o.text,.string o.aDf,.bool o.aDk]
def fF(o:Op):Value:= .agg (cB o)
theorem aM.cut{α:Type}{R:Rep α}{s:Nat}{e:TypeId}{w:World}{base:Nat}{ok:nP}(F:Firm R s){a:oD}{n c:Nat}{l:List α}(h:aM R s e w base ok (.slice a n c) l)(m:Nat)(hm:m<=l.length):aM R s e w base ok (.slice a m c) (l.take m):=by
 obtain⟨cs,h1,h2⟩:=h;have q:(Value.slice a m c).ownBlock=(Value.slice a n c).ownBlock:=by cases a<;>rfl
 have p:(l.take m).length=m:=by rw[List.length_take];omega
 refine⟨cs.take (m * s),?_,?_⟩
 .rw[p];refine⟨by rw[List.length_take,h1.1];exact Nat.min_eq_left (Nat.mul_le_mul_right s hm),?_⟩
  rcases h1.2 with ⟨d,t⟩|⟨g,cap,cur,d,h3,h4,h5,h6,h7,h8⟩
  .injection d with f o i;subst f i;exact .inl ⟨by rw[show m=0 by omega],qo⟩
  .injection d with f o i;subst f i;refine .inr ⟨g,c,cur,rfl,h3,h4,qo,h6,h7,?_⟩;rw[<-h8,List.take_take]
   congr 1
   exact(Nat.min_eq_left (Nat.mul_le_mul_right s hm)).symm
 .exact(aX.split (fun _ _ k=>F.len k) m h2 hm).1.mono fun r x k=>F.more k fun b j=>⟨j.1,j.2.1,by rw[q];exact j.2.2⟩
theorem aM.place{α:Type}{R:Rep α}{s:Nat}{e:TypeId}{w:World}{base:Nat}{ok:nP}{a:oD}{n c:Nat}{l:List α}(h:aM R s e w base ok (.slice a n c) l):((a=none/\c=0)\/∃g,a=some ⟨g,0,none⟩)/\l.length<=c/\c<=maxLen:=by
 obtain⟨cs,h1,h2⟩:=h
 rcases h1.2 with ⟨b,j⟩|⟨g,cap,cur,b,h3,h4,h5,h6,h7,h8⟩
 .injection b with d i f;exact⟨.inl ⟨d,f⟩,qo,by unfold maxLen;omega⟩
 .injection b with d i f;subst f;exact⟨.inr ⟨g,d⟩,h5,h6⟩
theorem iX{α:Type}{R:Rep α}{s:Nat}{P:Program}{w:World}{t e:TypeId}{bytes:Nat}{base:Nat}{ok:nP}(E:dV P t e s bytes)(F:Firm R s){ops:Array Oper}{o:Oper}{a:Act}{K:Act->World->Prop}{Q:Exit->Act->World->Prop}{G:Prop}(k:o.guard=none)(d x:Operand)
 (m:o.op=.call {callee:= .builtin .append,args:=#[d,x],argTypes:=#[t,t]})
 (v:Value)(l:List α)(p:a.eval d=v)(f:aM R s e w base ok v l)
 (g c:Nat)(cs:Array Value)(ty:TypeId)(fr:Nat×Nat)(y:α)(q:a.eval x=.slice (some ⟨g,0,none⟩) 1 c)(hc:w.heap[g]? =some (.cells cs ty fr))(hy:R w (fun b=>ok b/\b<w.heap.size/\some b≠v.ownBlock) cs.toList y)
 (h63:l.length<=1000000)(hbytes:bytes<=10000)(j:base<=w.heap.size)
 (h:∀l',Hid (l'=l++[y])->∀A' c' w',aM R s e w' base ok (.slice A' l'.length c') l'->w.grownBy w' v.ownBlock->((Value.slice A' l'.length c').ownBlock=v.ownBlock\/(Value.slice A' l'.length c').ownBlock=some w.heap.size)->K (a.put o.dst (.slice A' l'.length c')) w'):if Region.wanted o (yielded ops a.tmps)=true then Oper.wp P o a w K Q else G:=by
 obtain⟨xs,n,hcs⟩:=f;have hlen:cs.toList.length=1 * s:=by rw[F.len hy];omega
 refine Mq E k d x m base v l.length xs p n (some ⟨g,0,none⟩) 1 c cs.toList q hlen ?_ (F.one hy) (by unfold maxLen;omega) ?_ j fun A' c' w' h1 h2 h3=> ?_
 .exact QCs
 .exact QCL
 .exact QCd
theorem QDc{p:Prop}(h:p:=by
 subst hji;obtain⟨v1,hv1,he⟩:=hy w hw;exact Bw hi hv1 ⟨fun _=>hw,by rw[he];exact H⟩):p:=h
abbrev Rt:Exit->Act->World->Prop:=fun _ _ _=>False
section
variable {P:Program} {ops:Array Oper} {md:Region.Mode} {C:World->Prop} {Q:Exit->Act->World->Prop}
def uS(P:Program)(ops:Array Oper)(i:Nat)(K:Act->World->Prop)(a:Act)(w:World):Prop:=
 match ops[i]? with
 |none=>False
 |some o=>if Region.wanted o (yielded ops a.tmps)=true then o.wp P a w K Rt else K (a.put o.dst undef) w
theorem sV{o:Oper}{a:Act}{K K':Act->World->Prop}{g:Exit->Act->World->Prop}(h:∀a w,K a w->K' a w){r:Result Next}(b:o.upon P a K Rt r):o.upon P a K' g r:=by
 cases r with
 |ok n w'=>
  cases n with
  |value v=>exact h _ _ b
  |skip=>exact h _ _ b
  |enter f args=>
   refine Calls.mono b fun e i d=> ?_
   cases e with
   |returned v=>exact h _ _ d
   |panicked c=>exact(d:False).elim
   |outgrown=>obtain⟨_,_,h0⟩:=(d:LetsOut Rt);exact(h0:False).elim
  |row r args=>exact Rows.mono b fun v i d=>h _ _ d
  |_=>first|exact(b:False).elim|exact h _ _ b
 |halt x w'=>
  cases x with
  |panic v=>exact(b:False).elim
  |_=>exact(b:False).elim
theorem SW{i:Nat}{K K':Act->World->Prop}{a:Act}{w:World}(h:∀a w,K a w->K' a w)(b:uS P ops i K a w):uS P ops i K' a w:=by
 unfold uS at *;split
 .rename_i h0;simp only[h0] at b
 .rename_i o h0;simp only[h0] at b;split
  .rename_i hw;rw[iP hw] at b;exact sV h b
  .rename_i hw;rw[iN hw] at b;exact h _ _ b
theorem XE{i:Nat}{K K':Act->World->Prop}{a:Act}{w:World}(h:∀a w,K a w->K' a w)(b:uS P ops i K a w):wpOp P ops Q i K' a w:=by
 unfold uS at b;unfold wpOp;split
 .rename_i h0;simp only[h0] at b
 .rename_i o h0;simp only[h0] at b;split
  .rename_i hw;rw[iP hw] at b;exact .inl (sV h b)
  .rename_i hw;rw[iN hw] at b;exact h _ _ b
theorem Ud{j:Nat}{g i:Oper}{v:Value}(hj:ops[j]? =some i)(p:g.apart ops i=true)
 (y:∀cs b,g.op≠ .select cs b)(s:∀cs b,i.op≠ .select cs b){K:Act->World->Prop}{a:Act}{w:World}{Y:Act->Prop}
 (k:∀a u,Y a->Y (a.put i.dst u))(q:∀a d,Y a->Y {a with defers:=d::a.defers})(l:Y a)(h:uS P ops j K (a.put g.dst v) w):
 uS P ops j (fun o w'=>Y o/\K (o.put g.dst v) w') a w:=by
 obtain⟨h1,h2,h3⟩:=Oper.apart_spec p;unfold uS at *;simp only[hj] at *;rw[wanted_put i a g.dst v h1] at h;split
 .rename_i hw;simp only[hw,if_true] at h;unfold Oper.wp at *;rw[execOp_put i s a g.dst v h1] at h;generalize (execOp a.eval i).run P w=r at *
  cases r with
  |ok n w'=>
   cases n with
   |value u=>exact⟨k a u l,by rw[<-Act.put_comm a v u h2];exact h⟩
   |skip=>exact⟨k a undef l,by rw[<-Act.put_comm a v undef h2];exact h⟩
   |enter f args=>
    refine Calls.mono h fun e t m=> ?_
    cases e with
    |returned u=>exact⟨k a u l,by rw[<-Act.put_comm a v u h2];exact m⟩
    |panicked c=>exact m
    |outgrown=>exact m
   |row r args=>exact Rows.mono h fun u t m=>⟨k a u l,by rw[<-Act.put_comm a v u h2];exact m⟩
   |_=>
    first
    |exact(h:False).elim
    |(rename_i d
      refine⟨k _ undef (q a d l),?_⟩;have h4:K (({a.put g.dst v with defers:=d::(a.put g.dst v).defers}:Act).put i.dst undef) w':=h;rw[Act.put_defers,Act.put_comm _ v undef h2] at h4;exact h4)
  |halt x w'=>
   cases x with
   |panic v=>exact(h:False).elim
   |_=>exact(h:False).elim
 .rename_i hw;simp only[hw] at h;exact⟨k a undef l,by rw[<-Act.put_comm a v undef h2];exact h⟩
def oU(P:Program)(md:Region.Mode)(ops:Array Oper)(C:World->Prop)(n:Nat)(Q:Act->World->Prop):Nat->Array Bool->Act->World->Prop
 |0,listed,a,w=>Region.ready md ops listed=[]/\Q a w
 |f+1,listed,a,w=>(Region.ready md ops listed=[]->Q a w)/\∀i∈Region.ready md ops listed,uS P ops i (fun b w'=>(i<n->C w')/\oU P md ops C n Q f (listed.setIfInBounds i true) b w') a w
theorem xS{n:Nat}:∀(f:Nat) (listed:Array Bool) (a:Act) (w:World),oU P md ops C n (fun a w=>Q .normal a w) f listed a w->wpAny P md ops Q f listed a w
 |0,_,_,_,h=>h
 |f+1,_,_,_,h=>⟨h.1,fun i d=>XE (fun b w' c=>xS f _ b w' c.2) (h.2 i d)⟩
def CL(P:Program)(ops:Array Oper)(C:World->Prop)(o:Oper)(v:Value)(a:Act):Prop:=∀w,C w->∃v1,YieldsAt P ops w o v1 a/\a.put o.dst v1=a.put o.dst v
theorem Bw{i:Nat}{o:Oper}{v:Value}{a:Act}{w:World}(d:ops[i]? =some o)(g:YieldsAt P ops w o v a){K:Act->World->Prop}(h:K (a.put o.dst v) w):uS P ops i K a w:=by
 unfold uS;simp only[d]
 rcases g with ⟨hw,b|⟨b,rfl⟩|⟨f,args,b,c⟩⟩|⟨hw,rfl⟩
 .simp only[hw,if_true,Oper.wp,b,Oper.upon];exact h
 .simp only[hw,if_true,Oper.wp,b,Oper.upon];exact h
 .simp only[hw,if_true,Oper.wp,b,Oper.upon];refine c.mono fun e j he=> ?_
  obtain⟨rfl,rfl⟩:=he;exact h
 .simp only[hw,Bool.false_eq_true,if_false];exact h
theorem JY{n i:Nat}{c:Oper}{v:Value}{Q:Act->World->Prop}(hi:ops[i]? =some c)(z:∀(j:Nat) (o:Oper) cs b,ops[j]? =some o->o.op≠ .select cs b)
 (S:Region.sinkB md ops n=true)(G:Region.chainB md ops n=true)(N:n<ops.size)(K:i<n):
 ∀(f:Nat) (listed:Array Bool) (a:Act) (w:World),HeadInv md ops n listed->
  (∀j g,ops[j]? =some g->j≠i->listed.getD j true=false->(∀e∈g.after,Region.binds md e=true->e.on≠i)->c.apart ops g=true)->
  i∈Region.ready md ops listed->C w->CL P ops C c v a->
  oU P md ops C n Q f (listed.setIfInBounds i true) (a.put c.dst v) w->oU P md ops C n Q (f+1) listed a w:=by
 intro f
 induction f with
 |zero=>
  intro listed a w inv _ l hw hy H;refine⟨fun h=>(by rw[h] at l;cases l),fun j hj=> ?_⟩;by_cases hji:j=i
  .exact QDc
  .have:=ready_mono hj hji;rw[H.1] at this
   cases this
 |succ f T=>
  intro listed a w inv s l hw hy H;refine⟨fun h=>(by rw[h] at l;cases l),fun j hj=> ?_⟩;by_cases hji:j=i
  .exact QDc
  .have h1:=H.2 j (ready_mono hj hji);obtain⟨y,g,q,E⟩:=mem_ready.1 hj;have x:j<n:=by
    rcases Nat.lt_or_ge j n with h|h
    .exact h
    .exact absurd hj (tail_waits S G N inv (n - i) i rfl K (mem_ready.1 l).1 j h)
   have R:∀e∈g.after,Region.binds md e=true->e.on≠i:=fun e he F heq=>by
    have h1:=E e he F;have h0:=(mem_ready.1 l).1;rw[heq] at h1
    rcases Nat.lt_or_ge i listed.size with m|m
    .simp[m] at h0 h1;rw[h0] at h1;cases h1
    .simp[Array.getElem?_eq_none m] at h1
   have p:=s j g q hji y R;obtain⟨_,_,h3⟩:=Oper.apart_spec p;obtain⟨_,r,_⟩:=Oper.apart_spec p;have A:∀cs b,c.op≠ .select cs b:=fun cs b=>z i c cs b hi
   have keep:∀(a:Act) (u:Value),CL P ops C c v a->CL P ops C c v (a.put g.dst u):=fun a u h w hw=>by
    obtain⟨v1,hv1,he⟩:=h w hw;refine⟨v1,hv1.of_same (execOp_put c A a g.dst u h3) (wanted_put c a g.dst u h3),?_⟩;rw[<-Act.put_comm a v1 u r,<-Act.put_comm a v u r,he]
   have U:∀(a:Act) (d:Deferred),CL P ops C c v a->CL P ops C c v {a with defers:=d::a.defers}:=fun a d h w hw=>by
    obtain⟨v1,hv1,he⟩:=h w hw;have I:execOp ({a with defers:=d::a.defers}:Act).eval c=execOp a.eval c:=rfl;refine⟨v1,hv1.of_same I rfl,?_⟩;rw[<-Act.put_defers,<-Act.put_defers,he]
   have h2:=Ud q p A (fun cs b=>z j g cs b q) keep U hy h1;have J:∀k ok,ops[k]? =some ok->k≠i->(listed.setIfInBounds j true).getD k true=false->
    (∀e∈ok.after,Region.binds md e=true->e.on≠i)->c.apart ops ok=true:=fun k ok L M B O=>by
    refine s k ok L M ?_ O;by_cases t:j=k
    .subst t;exact y
    .rw[getD_set_ne true t] at B;exact B
   refine SW (fun D w' h3=>⟨h3.2.1,T (listed.setIfInBounds j true) D w' (inv.set hj x) J (ready_mono l (Ne.symm hji)) (h3.2.1 x) h3.1 ?_⟩) h2;rw[Array.setIfInBounds_comm _ _ hji];exact h3.2.2
theorem IS{n k f:Nat}{Q:Act->World->Prop}{listed:Array Bool}{a:Act}{w:World}(c:Region.ready md ops listed=[k])(h:uS P ops k (fun d w'=>(k<n->C w')/\oU P md ops C n Q f (listed.setIfInBounds k true) d w') a w):oU P md ops C n Q (f+1) listed a w:=
 ⟨fun h0=>(by rw[c] at h0;cases h0),fun i b=>(by rw[c,List.mem_singleton] at b;subst b;exact h)⟩
def rd(P:Program)(ops:Array Oper)(o:Oper)(a:Act)(w:World)(K:Act->Prop):Prop:=if Region.wanted o (yielded ops a.tmps)=true then o.still P a w K else K (a.put o.dst undef)
def mv(P:Program)(ops:Array Oper)(o:Oper)(a:Act)(w:World)(K:Act->World->Prop):Prop:=if Region.wanted o (yielded ops a.tmps)=true then o.wp P a w K Rt else K (a.put o.dst undef) w
def cG(P:Program)(ops:Array Oper)(C:World->Prop)(n:Nat)(Q:Act->World->Prop):List (Nat×Bool)->Act->World->Prop
 | [],a,w=>Q a w
 |(k,false)::r,a,w=>match ops[k]? with
  |none=>False
  |some o=>rd P ops o a w (fun b=>(∀w1,C w1->rd P ops o a w1 (fun c=>c=b))/\cG P ops C n Q r b w)
 |(k,true)::r,a,w=>match ops[k]? with
  |none=>False
  |some o=>mv P ops o a w (fun b w'=>(k<n->C w')/\cG P ops C n Q r b w')
def EP(md:Region.Mode)(ops:Array Oper):List (Nat×Bool)->Array Bool->Bool
 | [],listed=>(Region.ready md ops listed).isEmpty
 |(k,fl)::r,listed=>fl&&(Region.ready md ops listed==[k])&&EP md ops r (listed.setIfInBounds k true)
def ER(md:Region.Mode)(ops:Array Oper)(n:Nat)(T:List (Nat×Bool)):List (Nat×Bool)->Array Bool->Bool
 | [],listed=>EP md ops T listed
 |(k,fl)::r,listed=>(if fl=true then Region.ready md ops listed==[k] else (Region.ready md ops listed).contains k&&Region.free md ops listed k)&&decide (k<n)&&ER md ops n T r (listed.setIfInBounds k true)
def Rv(md:Region.Mode)(ops:Array Oper)(n:Nat)(H T:List (Nat×Bool)):Bool:=
 Region.noSelect ops&&decide (n<ops.size)&&Region.sinkB md ops n&&Region.chainB md ops n&&decide (H.length+T.length=ops.size)&&ER md ops n T H (Array.replicate ops.size false)
theorem ES{k:Nat}{o:Oper}(h:ops[k]? =some o){a:Act}{w:World}{K:Act->Prop}:stOp P ops w k K a↔rd P ops o a w K:=by unfold stOp rd;simp only[h]
theorem CM{n:Nat}{Q:Act->World->Prop}:∀(T:List (Nat×Bool)) (listed:Array Bool) (a:Act) (w:World),EP md ops T listed=true->cG P ops C n Q T a w->oU P md ops C n Q T.length listed a w
 | [],listed,a,w,hB,h=>⟨by simpa [EP] using hB,h⟩
 |(k,false)::r,listed,a,w,hB,h=>by simp[EP] at hB
 |(k,true)::r,listed,a,w,hB,h=>by
  simp only[EP,Bool.and_eq_true,bQ,true_and] at hB;refine IS hB.1 ?_;unfold cG at h;unfold uS
  cases c:ops[k]? with
  |none=>simp only[c] at h
  |some o=>
   simp only[c] at h ⊢;unfold mv at h;split
   .rename_i hw;rw[iP hw] at h;exact sV (fun d w' b=>⟨b.1,CM r _ d w' hB.2 b.2⟩) h
   .rename_i hw;rw[iN hw] at h;exact⟨h.1,CM r _ _ w hB.2 h.2⟩
theorem tW{n:Nat}{Q:Act->World->Prop}{T:List (Nat×Bool)}(l:Region.noSelect ops=true)(j:Region.sinkB md ops n=true)(e:Region.chainB md ops n=true)(f:n<ops.size):∀(H:List (Nat×Bool)) (listed:Array Bool) (a:Act) (w:World),HeadInv md ops n listed->C w->ER md ops n T H listed=true->cG P ops C n Q (H++T) a w->oU P md ops C n Q (H.length+T.length) listed a w
 | [],listed,a,w,inv,hw,hB,h=>by
   rw[List.length_nil,Nat.zero_add];exact CM T listed a w hB h
 |(k,true)::r,listed,a,w,inv,hw,hB,h=>by
  simp only[ER,if_true,Bool.and_eq_true,bQ,decide_eq_true_eq] at hB;obtain⟨⟨g,c⟩,d⟩:=hB;rw[List.length_cons,show r.length+1+T.length=(r.length+T.length)+1 by omega];refine IS g ?_;have s:=inv.set (i:=k) (by rw[g];exact List.mem_singleton.2 rfl) c;rw[List.cons_append] at h;unfold cG at h;unfold uS
  cases b:ops[k]? with
  |none=>simp only[b] at h
  |some o=>
   simp only[b] at h ⊢;unfold mv at h;split
   .rename_i p;rw[iP p] at h;exact sV (fun t w' m=>⟨m.1,tW l j e f r _ t w' s (m.1 c) d m.2⟩) h
   .rename_i p;rw[iN p] at h;exact⟨h.1,tW l j e f r _ _ w s (h.1 c) d h.2⟩
 |(k,false)::r,listed,a,w,inv,hw,hB,h=>by
  simp only[ER,Bool.false_eq_true,if_false,Bool.and_eq_true,decide_eq_true_eq] at hB;obtain⟨⟨⟨g,x⟩,c⟩,d⟩:=hB;have q:k∈Region.ready md ops listed:=by simpa using g
  rw[List.length_cons,show r.length+1+T.length=(r.length+T.length)+1 by omega];rw[List.cons_append] at h;unfold cG at h
  cases b:ops[k]? with
  |none=>simp only[b] at h
  |some o=>
   simp only[b] at h;obtain⟨v,z,h1,h2⟩:=yieldsAt_of_stOp b ((ES b).2 h);exact JY b (Region.noSelect_spec l) j e f c _ listed a w inv (Region.free_spec b x) q hw
    (fun w1 y=>yieldsAt_of_stOp b ((ES b).2 (h1 w1 y)))
    (tW l j e f r _ _ w (inv.set q c) hw d h2)
theorem cA{id:Nat}{a:Act}{w:World}{l:List Oper}(n:Nat)(H T:List (Nat×Bool))(C:World->Prop)(hm:P.follows .mixedOrders=true)(c:Rv .any l.toArray n H T=true)(hC:C w.drew)
 (h:cG P l.toArray C n (fun a w=>Q .normal a w) (H++T) a w.drew):(Code.region id l.toArray true).wp P Q a w:=by
 simp only[Rv,Bool.and_eq_true,decide_eq_true_eq] at c;obtain⟨⟨⟨⟨⟨i,f⟩,g⟩,e⟩,b⟩,d⟩:=c;have m:HeadInv .any l.toArray n (Array.replicate l.toArray.size false):=
  ⟨qs,fun j o _ b=>(by rw[getD_replicate_false] at b;cases b),fun t _ k=>getD_in (by simpa using k) (getD_replicate_false _ _)⟩
 have h1:=tW (md:= .any) i g e f H _ a w.drew m hC d h;rw[b] at h1;exact wp_region_any hm (xS _ _ _ _ h1)
theorem cU{n k:Nat}{Q:Act->World->Prop}{r:List (Nat×Bool)}{a:Act}{w:World}{o:Oper}(d:ops[k]? =some o)(h:∀K:Act->Prop,(∀b,(∀w1,C w1->rd P ops o a w1 (fun c=>c=b))->cG P ops C n Q r b w->K b)->rd P ops o a w K):cG P ops C n Q ((k,false)::r) a w:=by
 unfold cG;simp only[d];exact h _ (fun b h1 h2=>⟨h1,h2⟩)
theorem bG{n k:Nat}{Q:Act->World->Prop}{r:List (Nat×Bool)}{a:Act}{w:World}{o:Oper}(c:ops[k]? =some o)(h:∀K:Act->World->Prop,(∀b w',(k<n->C w')->cG P ops C n Q r b w'->K b w')->mv P ops o a w K):cG P ops C n Q ((k,true)::r) a w:=by
 unfold cG;simp only[c];exact h _ (fun b w' h1 h2=>⟨h1,h2⟩)
end
end Go.Proofs.YtbinmcabjnoliaaGreatDoor
