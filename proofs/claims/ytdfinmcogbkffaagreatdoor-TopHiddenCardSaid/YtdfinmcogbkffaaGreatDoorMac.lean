/- Lemmas. -/
import Derived.Test.YtdfinmcogbkffaaGreatDoorMab
import Derived.Laws.CopyOwn
import Derived.Deep.OwnRows
import Derived.Deep.QuietTactic
import Derived.BigQuiet
import Derived.LoopN
import Derived.StillTailTactics
namespace Go.Proofs.YtdfinmcogbkffaaGreatDoor
open Go.RowKit
set_option linter.unusedVariables false
set_option linter.unusedSimpArgs false
set_option maxHeartbeats 16000000
open _root_.Go.Proofs.Tryz
set_option maxRecDepth 20000
def yJ(a:At):Bool:=(decide (1<=a.cat)&&decide (a.cat<=4))&&eM a.name
def sV(m:Ma):Bool:=yJ m.aDZ&&(decide (1<=m.op)&&decide (m.op<=3))&&aT m.val
def oI(n:Nat):Int:=if n=0 then 1 else if 8<n then 6 else 0
def gG{α:Type}(f:α->Int):List α->Int
 | []=>0
 |x::l=>if f x≠0 then f x else gG f l
def rN(l:List Ma):Int:=if oI l.length≠0 then oI l.length else gG (fun m=>if sV m then 0 else 1) l
def rO(l:List (List Ma)):Int:=if oI l.length≠0 then oI l.length else gG rN l
def eY(t:Ta):Int:=if 8<t.length then 6 else gG rO t
def mR(op:Int):Option (List Bool):=
 if op=1\/op=2 then some [] else if op=3\/op=4 then some [true] else if op=5 then some [true,false]
 else if op=11 then some [false] else if 6<=op/\op<=13 then some [false,false] else none
def qU(n:No):Bool:=
 if n.op=1 then aT n.val&&decide (n.aDZ=uS)
 else if n.op=2 then yJ n.aDZ&&decide (n.val=bD)
 else decide (n.val=bD)&&decide (n.aDZ=uS)
def lB(l:List Bool)(n:No):Option (List Bool):=
 match mR n.op with
 |none=>none
 |some w=>
  if qU n/\w.length<=l.length/\l.drop (l.length - w.length)=w then some (l.take (l.length - w.length)++[decide (n.op=2)]) else none
def iM:List No->List Bool->Option (List Bool)
 | [],l=>some l
 |n::r,l=>match lB l n with
  |none=>none
  |some a=>iM r a
def lC(l:List No):Int:=
 if 32<l.length then 6
 else match iM l [] with
  |none=>1
  |some made=>if 0<l.length/\made≠[false] then 1 else 0
def lD(l:List Ob):Int:=if 8<l.length then 6 else gG (fun o=>if (1<=o.on/\o.on<=2)/\(1<=o.aDy/\o.aDy<=4)/\eM o.arg=true then 0 else 1) l
structure WS where
 met:List ByteArray
 aDB:Nat
def gP(s:bY)(w:WS):Bool×WS:=if w.met.any (fun t=>decide (t=s))=true\/eM s=false then (false,w) else (true,{w with met:=s::w.met})
def fS(r:Ru)(w:WS):Int×WS:=
 let (ok,w1):=gP r.id w
 if ok=false then (1,w1)
 else
  let w2:={w1 with aDB:=w1.aDB+1}
  if 64<w2.aDB then (6,w2)
  else if eY r.aDJ≠0 then (eY r.aDJ,w2)
  else if lC r.cond≠0 then (lC r.cond,w2)
  else (lD r.aDP,w2)
def fJ(p:Po)(w:WS):Int×WS:=
 let (ok,w1):=gP p.id w
 if ok=false\/p.alg<1\/6<p.alg then (1,w1)
 else if (p.set=true/\p.aDB≠[])\/(p.set=false/\(0<p.aDN.length\/p.alg=4)) then (1,w1)
 else if eY p.aDJ≠0 then (eY p.aDJ,w1)
 else if lD p.aDP≠0 then (lD p.aDP,w1)
 else if 16<p.aDB.length\/16<p.aDN.length then (6,w1)
 else (0,w1)
def jF{α:Type}(f:α->WS->Int×WS):List α->WS->Int×WS
 | [],w=>(0,w)
 |x::l,w=>
  let (e,w1):=f x w
  if e≠0 then (e,w1) else jF f l w1
def eP:Nat->Po->WS->Int×WS
 |0,_,w=>(6,w)
 |n+1,p,w=>
  let (e,w1):=fJ p w
  if e≠0 then (e,w1)
  else
   let (e2,w2):=jF fS p.aDB w1
   if e2≠0 then (e2,w2) else jF (eP n) p.aDN w2
def fA(p:Po):Int:=(eP 4 p ⟨[],0⟩).1
def fG(S:bY):Po×Int×Int:=
 let (l,e,place):=jP S.data.toList
 if e≠0 then (mE,e,place)
 else
  let (out,p):=cP l 3 ⟨0,0,0,0⟩
  let a:=if (aU l p).aDy≠7 then dL l p else p
  let b:=if a.bad=0/\fA out≠0 then eQ 5 S.size a else a
  if b.bad≠0 then (mE,b.bad,b.place) else (out,0,0)
def kG:Int:= -9223372036854775808
def lI:Int:=9223372036854775807
def jX(a b:V3):Bool×Int:=
 if aT a=false\/aT b=false then (false,1)
 else if a.1≠b.1\/a.1=1 then (false,2)
 else if a.1=3\/a.1=5 then (decide (a.2.2.toList<b.2.2.toList),0)
 else (decide (a.2.1<b.2.1),0)
def gW(m:Ma)(v:V3):Bool×Int:=
 if m.op=1 then (if v.1≠m.val.1 then (false,2) else (decide (v=m.val),0))
 else if m.op=2 then jX v m.val
 else jX m.val v
def pX(g:List Gv)(a:At):List V3×Int:=if uR g a.cat a.name=[]/\a.aD6=true then ([],4) else (uR g a.cat a.name,0)
def mG(m:Ma):List V3->Nat->Nat
 | [],out=>out
 |v::l,out=>if (gW m v).1 then 2 else mG m l (if (gW m v).2≠0 then 1 else out)
def lS(g:List Gv)(m:Ma):Nat:=if (pX g m.aDZ).2≠0 then 1 else mG m (pX g m.aDZ).1 0
def zG(g:List Gv)(l:List Ma):Nat:=l.foldl (fun out m=>min out (lS g m)) 2
def rP(g:List Gv)(t:Ta):Nat:=t.foldl (fun out l=>min out (l.foldl (fun a x=>max a (zG g x)) 0)) 2
structure It where
 bag:List V3
 val:V3
 err:Int
deriving DecidableEq
def cI(b:Bool):V3:=(1,if b then 1 else 0,ByteArray.empty)
def jK(v:V3)(e:Int):It:=⟨[],v,e⟩
def It.is(x:It)(n:Int):Bool:=decide (x.err=0)&&decide (x.val=(1,n,ByteArray.empty))
def sW(a b:Int):Int×Int:=if kG<=a+b/\a+b<=lI then (a+b,0) else (0,3)
def sX(a b:Int):Int×Int:=if kG<=a - b/\a - b<=lI then (a - b,0) else (0,3)
def mH(a b:Int):Int×Int:=if kG<=a * b/\a * b<=lI then (a * b,0) else (0,3)
def eG(f:Int->Int->Int×Int)(a b:V3):V3×Int:=
 if a.1≠2\/b.1≠2 then (bD,2) else if (f a.2.1 b.2.1).2≠0 then (bD,(f a.2.1 b.2.1).2) else ((2,(f a.2.1 b.2.1).1,ByteArray.empty),0)
def nW(op:Int)(a:V3):V3×Int:=if aT a=false then (bD,1) else if a.1≠1 then (bD,2) else (cI (decide (a.2.1=0)),0)
def dJ(op:Int)(a b:V3):V3×Int:=
 if aT a=false\/aT b=false then (bD,1)
 else if op=6 then (if a.1≠b.1 then (bD,2) else (cI (decide (a=b)),0))
 else if op=7 then (if (jX a b).2≠0 then (bD,(jX a b).2) else (cI (jX a b).1,0))
 else if op=8 then eG sW a b
 else if op=9 then eG sX a b
 else if op=10 then eG mH a b
 else if a.1≠1\/b.1≠1 then (bD,2)
 else if op=12 then (cI (decide (a.2.1=1)&&decide (b.2.1=1)),0)
 else (cI (decide (a.2.1=1)||decide (b.2.1=1)),0)
def iO(g:List Gv)(n:No)(l:List It):It:=
 match l with
 | []=>if n.op=1 then jK n.val 0 else ⟨(pX g n.aDZ).1,bD,(pX g n.aDZ).2⟩
 | [a]=>
   if a.err≠0 then jK bD a.err
   else if n.op=3 then (match a.bag with | [v]=>jK v 0|_=>jK bD 4)
   else if n.op=4 then jK (2,a.bag.length,ByteArray.empty) 0
   else jK (nW n.op a.val).1 (nW n.op a.val).2
 |a::b::_=>
  if (n.op=12\/n.op=13)/\(a.is (n.op - 12)\/b.is (n.op - 12)) then jK (cI (decide (n.op=13))) 0
  else if a.err≠0 then jK bD a.err
  else if b.err≠0 then jK bD b.err
  else if n.op=5 then jK (cI (a.bag.any (fun v=>decide (v=b.val)))) 0
  else jK (dJ n.op a.val b.val).1 (dJ n.op a.val b.val).2
def jM(op:Int):Nat:=if op=1\/op=2 then 0 else if op=3\/op=4\/op=11 then 1 else 2
def zH(g:List Gv):List No->List It->List It
 | [],st=>st
 |n::r,st=>zH g r (st.take (st.length - jM n.op)++[iO g n (st.drop (st.length - jM n.op))])
def nX(g:List Gv)(l:List No):V3×Int:=
 if l=[]\/lC l≠0 then (bD,1) else match zH g l [] with |x::_=>(x.val,x.err)| []=>(bD,1)
def tQ(g:List Gv)(l:List No):Nat:=
 if l=[] then 2
 else
  let x:=jK (nX g l).1 (nX g l).2
  if x.is 1 then 2 else if x.is 0 then 0 else 1
abbrev Mk:=Nat×Nat
def tY(m:Mk):Mk:=if m=(4,0) then (2,0) else if m=(0,4) then (0,2) else m
def gQ(l:List Ob)(m:Mk):List Ob:=l.filter (fun o=>(decide (o.on=1)&&decide (m=(4,0)))||(decide (o.on=2)&&decide (m=(0,4))))
def EI(r:Ru)(t c:Nat):Mk×List Ob:=
 let m:Mk:=if r.aEa then (0,4) else (4,0)
 if t=0\/(t=2/\c=0) then ((0,0),[])
 else if t=1\/c=1 then (tY m,[])
 else (m,gQ r.aDP m)
def gZ(g:List Gv)(r:Ru):Mk×List Ob:=EI r (rP g r.aDJ) (tQ g r.cond)
def aAB(a b:Mk):Mk:=(max a.1 b.1,max a.2 b.2)
def Ca(m:Mk):Mk:=(m.2,m.1)
def SE(m:Mk):Mk:=
 if m.2=4 then (0,4) else if m.2=2/\2<=m.1 then (2,2) else if m.2=2 then (0,2) else if m.1=4 then (4,0) else if m.1=2 then (2,0) else (0,0)
def Ha(l:List Mk):Mk:=l.foldl aAB (0,0)
def SF(m:Mk):Bool:=decide (m=(0,0))||(decide (m=(4,0))||decide (m=(0,4)))
def EJ(j m:Mk):Mk:=if j=(0,0) then m else if m=(0,0) then j else (2,2)
def BV(l:List Mk):Mk:=(l.find? (fun m=>decide (m≠(0,0)))).getD (0,0)
def SG(l:List Mk):Mk:=if l.all SF then l.foldl EJ (0,0) else (2,2)
def rC(l:List Mk)(m other:Mk):Mk:=if l.any (fun x=>decide (x=other)) then other else m
def BW(alg:Int)(l:List Mk):Mk:=
 if alg=1 then SE (Ha l)
 else if alg=2 then Ca (SE (Ca (Ha l)))
 else if alg=3 then BV l
 else if alg=4 then SG l
 else if alg=5 then rC l (0,4) (4,0)
 else if alg=6 then rC l (4,0) (0,4)
 else (0,0)
def gH(first:Bool)(m:Mk):List (Mk×List Ob)->List Ob
 | []=>[]
 |x::l=>if x.1≠m then gH first m l else if first then x.2 else x.2++gH first m l
def rQ(alg:Int)(obls:List Ob)(t:Nat)(parts:List (Mk×List Ob)):Mk×List Ob:=
 let m:=BW alg (parts.map (·.1))
 if t=0 then ((0,0),[])
 else if t=1 then (tY m,[])
 else if m≠(4,0)/\m≠(0,4) then (m,[])
 else (m,gH (decide (alg=3)) m parts++gQ obls m)
def cT(g:List Gv):Nat->Po->Mk×List Ob
 |0,_=>((0,0),[])
 |n+1,p=>
  let t:=rP g p.aDJ
  if t=0 then ((0,0),[])
  else rQ p.alg p.aDP t (p.aDB.map (gZ g)++p.aDN.map (cT g n))
def qQ(g:List Gv)(p:Po):(Mk×List Ob)×Int:=if fA p≠0 then (((0,0),[]),1) else (cT g 4 p,0)
def pY(t:Ta):Option Ma:=
 (t.filter (fun l=>decide (l.length=1))).findSome? (fun l=>((l.head?).getD []).find? (fun m=>decide (m.op=1)&& !m.aDZ.aD6))
def nY(g:List Gv)(k:Po):Bool:=match pY k.aDJ with |none=>true |some m=>decide (lS g m≠0)
def jY(g:List Gv):Nat->Po->Po
 |0,p=>p
 |n+1,p=> .mk p.id p.set p.alg p.aDJ p.aDB ((p.aDN.filter (nY g)).map (jY g n)) p.aDP
def gI(g:List Gv)(p:Po):(Mk×List Ob)×Int:=if fA p≠0 then (((0,0),[]),1) else qQ g (jY g 4 p)
def cQ:Nat:=1000000
def cS(v:V3):Prop:=bK v.1/\bK v.2.1/\v.2.2.size<=cQ
def IK(v:V3):List Value:=[.int .i64 v.1,.int .i64 v.2.1,.string v.2.2]
def dD(v:V3):Value:= .agg #[.int .i64 v.1,.int .i64 v.2.1,.string v.2.2]
def MN(t:Tok):Prop:=bK t.aDy/\bK t.at_/\bK t.num/\t.str.size<=cQ
def Hb(t:Tok):List Value:=[.int .i64 t.aDy,.int .i64 t.at_,.int .i64 t.num,.string t.str]
def iC(t:Tok):Value:= .agg #[.int .i64 t.aDy,.int .i64 t.at_,.int .i64 t.num,.string t.str]
def BY(a:At):Prop:=bK a.cat/\a.name.size<=cQ
def oJ(a:At):Value:= .agg #[.int .i64 a.cat,.string a.name,.bool a.aD6]
def tZ(m:Ma):Prop:=BY m.aDZ/\bK m.op/\cS m.val
def Cb(m:Ma):List Value:=[.int .i64 m.aDZ.cat,.string m.aDZ.name,.bool m.aDZ.aD6,.int .i64 m.op,.int .i64 m.val.1,.int .i64 m.val.2.1,.string m.val.2.2]
def kQ(m:Ma):Value:= .agg #[.int .i64 m.aDZ.cat,.string m.aDZ.name,.bool m.aDZ.aD6,.int .i64 m.op,.int .i64 m.val.1,.int .i64 m.val.2.1,.string m.val.2.2]
def oQ(n:No):Prop:=bK n.op/\cS n.val/\BY n.aDZ
def Cc(n:No):List Value:=[.int .i64 n.op,.int .i64 n.val.1,.int .i64 n.val.2.1,.string n.val.2.2,.int .i64 n.aDZ.cat,.string n.aDZ.name,.bool n.aDZ.aD6]
def jN(n:No):Value:= .agg #[.int .i64 n.op,.int .i64 n.val.1,.int .i64 n.val.2.1,.string n.val.2.2,.int .i64 n.aDZ.cat,.string n.aDZ.name,.bool n.aDZ.aD6]
def yK(o:Ob):Prop:=bK o.on/\bK o.aDy/\o.arg.size<=cQ
def EK(o:Ob):List Value:=[.int .i64 o.on,.int .i64 o.aDy,.string o.arg]
def VR:Rep V3:=mN IK cS
def SV:Rep Tok:=mN Hb MN
def rR:Rep Ma:=mN Cb tZ
def JP:Rep No:=mN Cc oQ
def jZ:Rep Ob:=mN EK yK
theorem bG:Firm VR 3:=gF (fun _=>rfl) (fun x v h=>by simp only[IK,List.mem_cons,List.not_mem_nil,or_false] at h;rcases h with rfl|rfl|rfl<;>rfl)
theorem iB:Firm SV 4:=gF (fun _=>rfl) (fun x v h=>by simp only[Hb,List.mem_cons,List.not_mem_nil,or_false] at h;rcases h with rfl|rfl|rfl|rfl<;>rfl)
theorem eR:Firm rR 7:=gF (fun _=>rfl) (fun x v h=>by simp only[Cb,List.mem_cons,List.not_mem_nil,or_false] at h;rcases h with rfl|rfl|rfl|rfl|rfl|rfl|rfl<;>rfl)
theorem dQ:Firm JP 7:=gF (fun _=>rfl) (fun x v h=>by simp only[Cc,List.mem_cons,List.not_mem_nil,or_false] at h;rcases h with rfl|rfl|rfl|rfl|rfl|rfl|rfl<;>rfl)
theorem aO:Firm jZ 3:=gF (fun _=>rfl) (fun x v h=>by simp only[EK,List.mem_cons,List.not_mem_nil,or_false] at h;rcases h with rfl|rfl|rfl<;>rfl)
abbrev oC(w:World)(ok:nP)(v:Value)(t:Ta):Prop:=aH (rows (rows rR)) w ok v t
theorem dO:Firm (rows rR) 1:=rM eR
theorem aS:Firm (rows (rows rR)) 1:=rM dO
def rS(w:World)(ok:nP)(r:Ru)(vt vc vo:Value):Prop:=r.id.size<=cQ/\oC w ok vt r.aDJ/\aH JP w ok vc r.cond/\aH jZ w ok vo r.aDP
def yL:Rep Ru:=fun w ok cs r=>∃vt vc vo,cs=[.string r.id,.bool r.aEa,vt,vc,vo]/\rS w ok r vt vc vo
theorem rS.aDH{w w':World}{ok:nP}{r:Ru}{vt vc vo:Value}(h:rS w ok r vt vc vo)(a:aN ok w w'):rS w' ok r vt vc vo:=⟨h.1,aH.aDH aS h.2.1 a,aH.aDH dQ h.2.2.1 a,aH.aDH aO h.2.2.2 a⟩
theorem rS.more{w:World}{ok ok':nP}{r:Ru}{vt vc vo:Value}(h:rS w ok r vt vc vo)(a:∀b,ok b->ok' b):rS w ok' r vt vc vo:=⟨h.1,aH.more aS h.2.1 a,aH.more dQ h.2.2.1 a,aH.more aO h.2.2.2 a⟩
theorem rS.inb{w:World}{ok:nP}{r:Ru}{vt vc vo:Value}(h:rS w ok r vt vc vo):rS w (fun b=>ok b/\b<w.heap.size) r vt vc vo:=⟨h.1,aH.inb aS h.2.1,aH.inb dQ h.2.2.1,aH.inb aO h.2.2.2⟩
theorem kU{α:Type}{R:Rep α}{w:World}{ok:nP}{v:Value}{l:List α}(h:aH R w ok v l):v.oneCell'=true:=by
 obtain⟨a,c,rfl,_⟩:=h.slice;rfl
theorem bM:Firm yL 5:={
 aDH:=fun⟨vt,vc,vo,e,h⟩ b=>⟨vt,vc,vo,e,h.aDH b⟩
 more:=fun⟨vt,vc,vo,e,h⟩ c=>⟨vt,vc,vo,e,h.more c⟩
 len:=fun⟨vt,vc,vo,e,h⟩=>by rw[e];rfl
 one:=fun⟨vt,vc,vo,e,h⟩=>by
  intro v a;rw[e] at a;simp only[List.mem_cons,List.not_mem_nil,or_false] at a
  rcases a with rfl|rfl|rfl|rfl|rfl
  .rfl
  .rfl
  .exact kU h.2.1
  .exact kU h.2.2.1
  .exact kU h.2.2.2
 inb:=fun⟨vt,vc,vo,e,h⟩=>⟨vt,vc,vo,e,h.inb⟩}
def qI:Nat->Rep Po
 |0=>fun _ _ _ _=>False
 |n+1=>fun w ok cs p=>∃vt vr vk vo,cs=[.string p.id,.bool p.set,.int .i64 p.alg,vt,vr,vk,vo]/\p.id.size<=cQ/\bK p.alg/\oC w ok vt p.aDJ/\aH yL w ok vr p.aDB/\aH (qI n) w ok vk p.aDN/\aH jZ w ok vo p.aDP
def fO(n:Nat)(w:World)(ok:nP)(p:Po)(vt vr vk vo:Value):Prop:=p.id.size<=cQ/\bK p.alg/\oC w ok vt p.aDJ/\aH yL w ok vr p.aDB/\aH (qI n) w ok vk p.aDN/\aH jZ w ok vo p.aDP
theorem bB:∀n,Firm (qI n) 7
 |0=>⟨fun h=>h.elim,fun h=>h.elim,fun h=>h.elim,fun h=>h.elim,fun h=>h.elim⟩
 |n+1=>by
  have F:=bB n;refine⟨?_,?_,?_,?_,?_⟩
  .rintro w w' ok cs x ⟨vt,vr,vk,vo,e,h1,h2,h3,h4,h5,h6⟩ a;exact⟨vt,vr,vk,vo,e,h1,h2,aH.aDH aS h3 a,aH.aDH bM h4 a,aH.aDH F h5 a,aH.aDH aO h6 a⟩
  .rintro w ok ok' cs x ⟨vt,vr,vk,vo,e,h1,h2,h3,h4,h5,h6⟩ b;exact⟨vt,vr,vk,vo,e,h1,h2,aH.more aS h3 b,aH.more bM h4 b,aH.more F h5 b,aH.more aO h6 b⟩
  .rintro w ok cs x ⟨vt,vr,vk,vo,e,h⟩;rw[e];rfl
  .rintro w ok cs x ⟨vt,vr,vk,vo,e,h1,h2,h3,h4,h5,h6⟩ v c;rw[e] at c;simp only[List.mem_cons,List.not_mem_nil,or_false] at c
   rcases c with rfl|rfl|rfl|rfl|rfl|rfl|rfl
   .rfl
   .rfl
   .rfl
   .exact kU h3
   .exact kU h4
   .exact kU h5
   .exact kU h6
  .rintro w ok cs x ⟨vt,vr,vk,vo,e,h1,h2,h3,h4,h5,h6⟩;exact⟨vt,vr,vk,vo,e,h1,h2,aH.inb aS h3,aH.inb bM h4,aH.inb F h5,aH.inb aO h6⟩
def PoV(n:Nat)(w:World)(ok:nP)(v:Value)(p:Po):Prop:=∃vt vr vk vo,v=.agg #[.string p.id,.bool p.set,.int .i64 p.alg,vt,vr,vk,vo]/\fO n w ok p vt vr vk vo
theorem fO.aDH{n:Nat}{w w':World}{ok:nP}{p:Po}{vt vr vk vo:Value}(h:fO n w ok p vt vr vk vo)(a:aN ok w w'):fO n w' ok p vt vr vk vo:=
 ⟨h.1,h.2.1,aH.aDH aS h.2.2.1 a,aH.aDH bM h.2.2.2.1 a,aH.aDH (bB n) h.2.2.2.2.1 a,aH.aDH aO h.2.2.2.2.2 a⟩
theorem fO.inb{n:Nat}{w:World}{ok:nP}{p:Po}{vt vr vk vo:Value}(h:fO n w ok p vt vr vk vo):fO n w (fun b=>ok b/\b<w.heap.size) p vt vr vk vo:=
 ⟨h.1,h.2.1,aH.inb aS h.2.2.1,aH.inb bM h.2.2.2.1,aH.inb (bB n) h.2.2.2.2.1,aH.inb aO h.2.2.2.2.2⟩
theorem fO.more{n:Nat}{w:World}{ok ok':nP}{p:Po}{vt vr vk vo:Value}(h:fO n w ok p vt vr vk vo)(a:∀b,ok b->ok' b):fO n w ok' p vt vr vk vo:=
 ⟨h.1,h.2.1,aH.more aS h.2.2.1 a,aH.more bM h.2.2.2.1 a,aH.more (bB n) h.2.2.2.2.1 a,aH.more aO h.2.2.2.2.2 a⟩
theorem Sw{p:Prop}(h:p:=by
 split
 .exact h1.trans (BZ _ _ h1.lt)
 .exact h1):p:=h
theorem ON{p:Prop}(h:p:=by
 have h7:=gA T yI h6.lt;exact h15.trans (h6.trans (h7.trans (vD T h7.lt)))):p:=h
structure Toks (L:List Tok):Prop where
 len:L.length<=5000
 last:∀i t,L[i]? =some t->t.aDy≠7->i+1<L.length
 size:∀t∈L,t.str.size<=4096
 num:∀t∈L,bK t.num
 place:∀t∈L,0<=t.at_/\t.at_<=4096
 aDy:∀t∈L,1<=t.aDy/\t.aDy<=7
def eS(L:List Tok)(p:PS):V3×PS:=
 let t:=aU L p
 if t.aDy=2 then ((2,t.num,t.str),p)
 else if t.aDy=3 then ((4,t.num,t.str),p)
 else if t.aDy=4 then ((5,t.num,t.str),p)
 else if t.aDy=5 then ((3,t.num,t.str),p)
 else if cM L (str "true") p then ((1,1,ByteArray.empty),p)
 else if cM L (str "false") p then ((1,0,ByteArray.empty),p)
 else ((0,t.num,t.str),dL L p)
structure dK (L:List Tok) (p p':PS):Prop where
 le:p.at_<=p'.at_
 lt:p'.at_<L.length
 aDB:p.aDB<=p'.aDB
 aEk:p.aDB<=64->p'.aDB<=64
section
variable {L:List Tok} (T:Toks L)
theorem dK.refl{p:PS}(h:p.at_<L.length):dK L p p:=⟨lR _,h,lR _,id⟩
theorem dK.trans{p q r:PS}(h:dK L p q)(k:dK L q r):dK L p r:=⟨lT h.le k.le,k.lt,lT h.aDB k.aDB,fun x=>k.aEk (h.aEk x)⟩
theorem EL{p:PS}(h:p.at_<L.length):aU L p=L[p.at_]:=by
 unfold aU;rw[gE h];rfl
theorem IL(e pl:Int)(p:PS):(eQ e pl p).at_=p.at_/\(eQ e pl p).aDB=p.aDB:=by
 unfold eQ;split<;>exact⟨rfl,rfl⟩
theorem lV(e pl:Int)(he:e≠0)(p:PS):(eQ e pl p).bad≠0:=by
 unfold eQ;split
 .exact he
 .assumption
theorem BZ(e pl:Int){p:PS}(h:p.at_<L.length):dK L p (eQ e pl p):=by
 have:=IL e pl p;exact⟨qo,qo,qo,qo⟩
theorem rT{p:PS}(h:p.at_<L.length):dK L p (dL L p):=BZ _ _ h
theorem kR(b:Bool){p:PS}(h:p.at_<L.length):dK L p (cR L b p):=by
 unfold cR;split
 .exact BZ _ _ h
 .exact dK.refl h
include T
theorem Va{p:PS}(h:p.at_<L.length)(a:(aU L p).aDy≠7):p.at_+1<L.length:=T.last p.at_ _ (by rw[gE h]) (by rwa [EL h] at a)
theorem zI{p:PS}(h:p.at_<L.length)(a:(aU L p).aDy≠7):dK L p {p with at_:=p.at_+1}:=⟨Nat.le_succ _,Va T h a,lR _,id⟩
omit T in
theorem lJ{s:bY}{p:PS}(h:cM L s p=true):p.bad=0/\(aU L p).str=s/\((aU L p).aDy=1\/(aU L p).aDy=6):=by
 unfold cM at h;rw[Bool.and_eq_true,Bool.and_eq_true,Bool.or_eq_true,decide_eq_true_eq,decide_eq_true_eq,decide_eq_true_eq,decide_eq_true_eq] at h;exact⟨h.1,h.2.1,h.2.2⟩
theorem fP{s:bY}{p:PS}(h:p.at_<L.length)(a:cM L s p=true):dK L p {p with at_:=p.at_+1}:=zI T h (qA ((lJ a).2.2))
theorem SW(s:bY){p:PS}(h:p.at_<L.length):dK L p (kO L s p).2:=by
 unfold kO;split
 .exact fP T h (by assumption)
 .exact dK.refl h
theorem gA(s:bY){p:PS}(h:p.at_<L.length):dK L p (eJ L s p):=by
 unfold eJ;split
 .exact fP T h (by assumption)
 .exact rT h
theorem jG{p:PS}(h:p.at_<L.length):dK L p (bS L p).2:=by
 unfold bS;dsimp only;by_cases a:(aU L p).aDy≠1
 .rw[iP a,iP (show (dL L p).bad≠0 from lV 5 _ qe _)];exact rT h
 .rw[iN a];split
  .exact dK.refl h
  .exact zI T h qo
theorem dR(words:List ByteArray){p:PS}(h:p.at_<L.length):dK L p (aZ L words p).2:=by
 unfold aZ;dsimp only;split
 .rename_i a;exact zI T h qo
 .exact rT h
theorem nJ{p:PS}(h:p.at_<L.length):dK L p (cE L p).2:=by
 unfold cE;dsimp only;have h1:=dR T [str "subject",str "action",str "case",str "env"] h;have h2:=gA T (str ".") h1.lt;have h3:=jG T h2.lt;have h4:=SW T (str "!") h3.lt;exact h1.trans (h2.trans (h3.trans h4))
omit T in
theorem zJ(L:List Tok)(p:PS):dB L p=if (eS L p).2.bad≠0 then (bD,(eS L p).2) else ((eS L p).1,{(eS L p).2 with at_:=(eS L p).2.at_+1}):=rfl
omit T in
theorem Cd{p:PS}(h:p.at_<L.length):dK L p (eS L p).2/\((eS L p).2.bad=0->(eS L p).2=p/\(aU L p).aDy≠7):=by
 unfold eS;dsimp only;split
 .exact⟨dK.refl h,fun _=>⟨rfl,qo⟩⟩
 split
 .exact⟨dK.refl h,fun _=>⟨rfl,qo⟩⟩
 split
 .exact⟨dK.refl h,fun _=>⟨rfl,qo⟩⟩
 split
 .exact⟨dK.refl h,fun _=>⟨rfl,qo⟩⟩
 split
 .rename_i a;exact⟨dK.refl h,fun _=>⟨rfl,qA ((lJ a).2.2)⟩⟩
 split
 .rename_i a;exact⟨dK.refl h,fun _=>⟨rfl,qA ((lJ a).2.2)⟩⟩
 .exact⟨rT h,fun b=>absurd b (lV _ _ qe _)⟩
theorem wX{p:PS}(h:p.at_<L.length):dK L p (dB L p).2:=by
 rw[zJ];have h1:=Cd (L:=L) h;by_cases a:(eS L p).2.bad≠0
 .rw[iP a];exact h1.1
 .rw[iN a];obtain⟨e,b⟩:=h1.2 (by simpa using a);rw[e];exact zI T h b
theorem yM{p:PS}(h:p.at_<L.length):dK L p (sN L p).2:=by
 unfold sN
 repeat' split
 .exact fP T h (by assumption)
 .exact fP T h (by assumption)
 .exact fP T h (by assumption)
 .exact rT h
theorem CA{p:PS}(h:p.at_<L.length):dK L p (eE L p).2:=by
 unfold eE;dsimp only;have h1:=nJ T h;have h2:=yM T h1.lt;have h3:=wX T h2.lt;exact h1.trans (h2.trans h3)
theorem vX{α:Type}{one:PS->α×PS}(a:∀{p:PS},p.at_<L.length->dK L p (one p).2)(sep:bY):∀(f:Nat) (l:List α) {p:PS},p.at_<L.length->dK L p (jW L one sep f l p).2
 |0,l,p,h=>dK.refl h
 |f+1,l,p,h=>by
  unfold jW;split
  .rename_i b;have h1:=fP T h b;have h2:=a h1.lt;have h3:=kR (decide (8<(l++[(one {p with at_:=p.at_+1}).1]).length)) h2.lt;exact h1.trans (h2.trans (h3.trans (vX a sep f _ h3.lt)))
  .exact dK.refl h
theorem MO{p:PS}(h:p.at_<L.length):dK L p (jB L p).2:=by
 unfold jB;dsimp only;have h1:=CA T h;exact h1.trans (vX T (CA T) _ _ _ h1.lt)
theorem MP{p:PS}(h:p.at_<L.length):dK L p (mF L p).2:=by
 unfold mF;dsimp only;have h0:=gA T (str "(") h;have h1:=MO T h0.lt;have h2:=vX T (MO T) (str "or") L.length [(jB L (eJ L (str "(") p)).1] h1.lt;exact h0.trans (h1.trans (h2.trans (gA T _ h2.lt)))
theorem lW{p:PS}(h:p.at_<L.length):dK L p (bT L p).2:=by
 unfold bT;split
 .rename_i a;dsimp only;have h0:=fP T h a;have h1:=MP T h0.lt;exact h0.trans (h1.trans (vX T (MP T) _ _ _ h1.lt))
 .exact dK.refl h
theorem IM{p:PS}(h:p.at_<L.length):dK L p (tP L p).2:=by
 unfold tP;dsimp only;have h1:=dR T [str "permit",str "deny"] h;have h2:=dR T [str "log",str "redact",str "review",str "notify"] h1.lt;have h3:=jG T h2.lt;exact h1.trans (h2.trans h3)
theorem vD{p:PS}(h:p.at_<L.length):dK L p (gN L p).2:=vX T (IM T) _ _ _ h
def dG(L:List Tok)(f:Nat)(acc:List No×PS)(must:Bool):List No×PS:=
 if acc.2.bad≠0 then acc else
  ((eX L f acc.1 acc.2).1.1,if (eX L f acc.1 acc.2).1.2≠must then eQ 5 (aU L acc.2).at_ (eX L f acc.1 acc.2).2 else (eX L f acc.1 acc.2).2)
theorem zK:∀(f:Nat) (l:List No) {p:PS},p.at_<L.length->dK L p (eX L f l p).2
 |0,l,p,h=>by unfold eX;exact dK.refl h
 |f+1,l,p,h=>by
  have c:∀{l:List No} {p:PS} (must:Bool),p.at_<L.length->dK L p (dG L f (l,p) must).2:=by
   intro l p must h;unfold dG;dsimp only;split
   .exact dK.refl h
   .have h1:=zK f l h;exact Sw
  have b:∀(ms:List Bool) {l:List No} {p:PS},p.at_<L.length->dK L p (ms.foldl (dG L f) (l,p)).2:=by
   intro ms
   induction ms with
   |nil=>intro l p h;exact dK.refl h
   |cons m ms d=>
    intro l p h;have h1:=c (l:=l) m h;exact h1.trans (d h1.lt)
  unfold eX;dsimp only;by_cases a:cM L (str "(") p=true
  .rw[iP a];have h0:=fP T h a;have h1:=dR T eD h0.lt;have h2:=b (fN (2+(aZ L eD {p with at_:=p.at_+1}).1)) (l:=l) h1.lt;have h3:=gA T (str ")") h2.lt;exact h0.trans (h1.trans (h2.trans (h3.trans (kR _ h3.lt))))
  .rw[iN a];split
   .have h1:=nJ T h;exact h1.trans (kR _ h1.lt)
   .have h1:=wX T h;exact h1.trans (kR _ h1.lt)
theorem FO(l:List No)(must:Bool){p:PS}(h:p.at_<L.length):dK L p (jE L l must p).2:=by
 unfold jE;dsimp only;have h1:=zK T L.length l h;exact Sw
theorem IN(deny:Bool){p:PS}(h:p.at_<L.length):dK L p (kP L deny p).2:=by
 unfold kP;dsimp only;have h1:=jG T h;have h2:=lW T h1.lt;have h3:dK L (bT L (bS L p).2).2 (if cM L (str "if") (bT L (bS L p).2).2=true then jE L [] false {(bT L (bS L p).2).2 with at_:=(bT L (bS L p).2).2.at_+1} else ([],(bT L (bS L p).2).2)).2:=by
  split
  .rename_i a;have h0:=fP T h2.lt a;exact h0.trans (FO T _ _ h0.lt)
  .exact dK.refl h2.lt
 have h4:=vD T h3.lt;exact h1.trans (h2.trans (h3.trans (h4.trans (gA T _ h4.lt))))
omit T in
theorem Ce{b:Bool}{p:PS}(h:(cR L b p).bad=0):b=false/\cR L b p=p:=by
 cases b
 .exact⟨rfl,by unfold cR;rw[iN qe]⟩
 .unfold cR at h;rw[iP rfl] at h;exact absurd h (lV _ _ qe _)
theorem sY:∀(f:Nat) (l:List Ru) {p:PS},p.at_<L.length->dK L p (iJ L f l p).2
 |0,l,p,h=>by unfold iJ;exact dK.refl h
 |f+1,l,p,h=>by
  unfold iJ;split
  .rename_i a;dsimp only;split
   .exact kR _ h
   .rename_i d;obtain⟨b,hp⟩:=Ce (by simpa using d);rw[hp];have h0:dK L p {p with at_:=p.at_+1}:=by
     rw[Bool.or_eq_true] at a
     rcases a with a|a
     .exact fP T h a
     .exact fP T h a
    have c:p.aDB≠64:=by
     intro c;rw[c] at b;simp at b
    have h1:dK L p {p with aDB:=p.aDB+1,at_:=p.at_+1}:=⟨h0.le,h0.lt,Nat.le_succ _,fun x=>by show p.aDB+1<=64;omega⟩;have h2:=IN T (cM L (str "deny") p) h1.lt;exact h1.trans (h2.trans (sY f _ h2.lt))
  .exact dK.refl h
omit T in
theorem qV{one:PS->Po×PS}(a:∀{p:PS},p.at_<L.length->dK L p (one p).2)(deep:Bool):∀(f:Nat) (l:List Po) {p:PS},p.at_<L.length->dK L p (gO L one deep f l p).2
 |0,l,p,h=>by unfold gO;exact dK.refl h
 |f+1,l,p,h=>by
  unfold gO;split
  .dsimp only;split
   .exact kR _ h
   .have h0:=kR (L:=L) (decide (l.length=16)||deep) h;have h1:=a h0.lt;exact h0.trans (h1.trans (qV a deep f _ h1.lt))
  .exact dK.refl h
theorem rU:∀(n:Nat) {p:PS},p.at_<L.length->dK L p (cP L n p).2:=by
 intro n
 induction n with
 |zero=>
  intro p h;unfold cP;dsimp only;have h1:=dR T [str "policy",str "set"] h;have h2:=jG T h1.lt;have h3:=dR T dH h2.lt;have h4:=lW T h3.lt;have h5:=gA T rB h4.lt;have h15:=h1.trans (h2.trans (h3.trans (h4.trans h5)));by_cases a:decide ((aZ L [str "policy",str "set"] p).1=2)=true
  .rw[iP a];have h6:=qV (one:=fun q=>(mE,q)) (fun h=>dK.refl h) true L.length [] h5.lt;exact ON
  .rw[iN a];have h6:=sY T L.length [] h5.lt;exact ON
 |succ n b=>
  intro p h;unfold cP;dsimp only;have h1:=dR T [str "policy",str "set"] h;have h2:=jG T h1.lt;have h3:=dR T dH h2.lt;have h4:=lW T h3.lt;have h5:=gA T rB h4.lt;have h15:=h1.trans (h2.trans (h3.trans (h4.trans h5)));by_cases a:decide ((aZ L [str "policy",str "set"] p).1=2)=true
  .rw[iP a];have h6:=qV (one:=cP L n) b false L.length [] h5.lt;exact ON
  .rw[iN a];have h6:=sY T L.length [] h5.lt;exact ON
end
def kK(n lo a:Int):Int:=lo+n % (a - lo+1)
theorem OO(n lo a:Int)(h:lo<=a):lo<=kK n lo a:=by
 unfold kK;have:=Int.emod_nonneg n (show a - lo+1≠0 by omega);omega
theorem OQ(n lo a:Int)(h:lo<=a):kK n lo a<=a:=by
 unfold kK;have:=Int.emod_lt_of_pos n (show 0<a - lo+1 by omega);omega
theorem JQ(n lo hi:Int)(w:World)(h1:0<=lo)(h2:lo<=hi)(h3:hi<=1000000):
 Calls prog 5 #[.int .i64 n,.int .i64 lo,.int .i64 hi] w fun e w'=>e=.returned (.int .i64 (kK n lo hi))/\w=w':=by
 exact QAB
theorem aC{a w w':World}(h:Below a.heap.size a w)(k:Below w.heap.size w w'):Below a.heap.size a w':=h.trans (k.mono h.size)
theorem qB{a w w2:World}(h:Hid (Below a.heap.size a w))(k:Below w.heap.size w w2):Hid (Below a.heap.size a w2):=aA (aC h.o k)
theorem fZ{B:Nat}{a w w':World}(h:Below B a w)(k:jU w w'):Below B a w':=by
 obtain⟨n,rfl⟩:=k;exact⟨h.os,h.tape,h.output,h.size,h.block⟩
theorem aB(w:World)(o:Obj):Below w.heap.size w (w.alloc o):=(Below.refl _ _).alloc (lR _) _
theorem vY(w:World)(cs:Array Value)(t:TypeId)(fr:Nat×Nat)(i:Nat)(v:Value)(h:cs[i]? =some v):(w.alloc (.cells cs t fr)).cell? ⟨w.heap.size,i,none⟩=some v:=by
 unfold World.cell?;rw[heap_alloc_new];simpa using h
theorem QCm{p:Prop}(h:p:=by
 have HB:=aA hb1;clear HH hb1;go_wp2_with fail;refine(HW.o).mono ?_;rintro e w2 ⟨rfl,h2,k2⟩;go_wp2;go_returns;exact⟨rfl,h2,(aJ HB.o).trans k2⟩):p:=h
theorem Hc{α:Type}{a0 a a2 a3:α}{l:List α}{p:Nat->α->Prop}(h:∀j x,(a0::a::a2::a3::l)[j]? =some x->p j x):p 0 a0/\p 1 a/\p 2 a2/\p 3 a3:=⟨h 0 _ rfl,h 1 _ rfl,h 2 _ rfl,h 3 _ rfl⟩
theorem qR{P:Program}{id:Nat}{Q:Exit->Act->World->Prop}{a:Act}{w:World}{l:List Oper}(n:Nat)(hm:P.follows .mixedOrders=true)(c:Region.lexTailB .any l.toArray n=true)
 (h:wpStill P l.toArray w.drew (fun b=>wpList P l.toArray Q (l.drop n) b w.drew) (l.take n) a):(Code.region id l.toArray true).wp P Q a w:=wp_region_still_tail n hm c h
def PW(L:List Tok)(w:World)(g:Nat)(p:PS):Prop:=
 ∃A c,w.heap[g]? =some (.cells #[.slice A L.length c,.int .i64 p.at_,.int .i64 p.aDB,.int .i64 p.bad,.int .i64 p.place] 142 (0,0))/\aH SV w (fun b=>b<g) (.slice A L.length c) L
theorem PW.lt{L:List Tok}{w:World}{g:Nat}{p:PS}(h:PW L w g p):g<w.heap.size:=by
 obtain⟨A,c,h1,_⟩:=h;exact(Array.getElem?_eq_some_iff.1 h1).1
theorem PW.on{L:List Tok}{w w':World}{g:Nat}{p:PS}(h:PW L w g p)(a:Below w.heap.size w w'):PW L w' g p:=by
 have b:=h.lt;obtain⟨A,c,h1,h2⟩:=h;exact⟨A,c,by rw[a.block g b];exact h1,h2.on iB a⟩
theorem PW.aDH{L:List Tok}{w w':World}{g:Nat}{p:PS}{ok:nP}(h:PW L w g p)(a:aN ok w w')(d:∀b,b<=g->ok b):PW L w' g p:=by
 have e:=h.lt;obtain⟨A,c,h1,h2⟩:=h;exact⟨A,c,by rw[a.block g e (d g (lR _))];exact h1,h2.aDH iB (a.mono fun k _ h=>d k (by have:k<g:=h;omega))⟩
theorem PW.set{L:List Tok}{w:World}{g:Nat}{p:PS}(h:PW L w g p){b i:Nat}{v:Value}(c:g<b):PW L (w.setCell ⟨b,i,none⟩ v) g p:=
 h.aDH (ok:=fun x=>x≠b) ⟨rfl,rfl,rfl,by simp[World.setCell],fun k d a=>Below.heap_setCell _ _ _ _ a⟩ (fun x e=>by show x≠b;omega)
theorem PW.cells{L:List Tok}{w:World}{g:Nat}{p:PS}(h:PW L w g p):∃A c,w.cell? ⟨g,0,none⟩=some (.slice A L.length c)/\w.cell? ⟨g,1,none⟩=some (.int .i64 p.at_)/\w.cell? ⟨g,2,none⟩=some (.int .i64 p.aDB)/\w.cell? ⟨g,3,none⟩=some (.int .i64 p.bad)/\w.cell? ⟨g,4,none⟩=some (.int .i64 p.place)/\aH SV w (fun b=>b<g) (.slice A L.length c) L:=by
 obtain⟨A,c,h1,h2⟩:=h;exact⟨A,c,by simp[World.cell?,h1],by simp[World.cell?,h1],by simp[World.cell?,h1],by simp[World.cell?,h1],by simp[World.cell?,h1],h2⟩
theorem PW.free{L:List Tok}{w:World}{g:Nat}{p:PS}(h:PW L w g p)(i:Nat):w.frozen? ⟨g,i,none⟩=false:=by
 obtain⟨A,c,h1,_⟩:=h;simp[World.frozen?,h1]
def dA(B g:Nat)(w w':World):Prop:=aN (fun b=>b<B/\b≠g) w w'
theorem dA.aDQ{B g:Nat}{a w w':World}(h:dA B g a w)(k:aN (fun b=>b≠g) w w'):dA B g a w':=aN.trans h (k.mono fun _ _ h=>h.2)
theorem dA.set{B g:Nat}{a w:World}(h:dA B g a w){b i:Nat}{v:Value}(d:B<=b):dA B g a (w.setCell ⟨b,i,none⟩ v):=
 aN.trans h ⟨rfl,rfl,rfl,by simp[World.setCell],fun k e c=>Below.heap_setCell _ _ _ _ (by have:=c.1;simp only;omega)⟩
theorem dA.new{B g:Nat}{a w w':World}(h:dA B g a w)(k:Below w.heap.size w w'):dA B g a w':=aN.trans h (aJ k)
theorem dA.end{g:Nat}{w w':World}(h:dA w.heap.size g w w'):aN (fun b=>b≠g) w w':=aN.mono h fun k a h=>⟨a,h⟩
theorem aF{ok:nP}{w w':World}{b:Nat}{o:Obj}(h:w.heap[b]? =some o)(k:aN ok w w')(a:ok b):w'.heap[b]? =some o:=by
 rw[k.block b (Array.getElem?_eq_some_iff.1 h).1 a];exact h
theorem qS{ok:nP}{w w2:World}{b:Nat}{o:Obj}(h:Hid (w.heap[b]? =some o))(k:aN ok w w2)(a:ok b):Hid (w2.heap[b]? =some o):=aA (aF h.o k a)
theorem aE{w w':World}{b:Nat}{o:Obj}(h:w.heap[b]? =some o)(k:Below w.heap.size w w'):w'.heap[b]? =some o:=by
 rw[k.block b (Array.getElem?_eq_some_iff.1 h).1];exact h
theorem qK{w w2:World}{b:Nat}{o:Obj}(h:Hid (w.heap[b]? =some o))(k:Below w.heap.size w w2):Hid (w2.heap[b]? =some o):=aA (aE h.o k)
theorem bE{w:World}{b b' i:Nat}{v:Value}{o:Obj}(h:w.heap[b]? =some o)(a:b≠b'):(w.setCell ⟨b',i,none⟩ v).heap[b]? =some o:=by
 rw[Below.heap_setCell _ _ _ _ a];exact h
theorem aD{w:World}{b:Nat}{o:Obj}(h:w.heap[b]? =some o):b<w.heap.size:=(Array.getElem?_eq_some_iff.1 h).1
def aP(v:Value)(w:World)(e:Ending)(w':World):Prop:=e=.returned v/\Below w.heap.size w w'
theorem gJ{L:List Tok}{p:PS}(hp:p.at_<L.length)(f:L.length<=5000)(g:Nat)(w:World)(h:PW L w g p):
 Calls prog 67 #[.pointer (some ⟨g,0,none⟩)] w (aP (iC (aU L p)) w):=by
 rw[EL hp];have j:=h.lt;obtain⟨A,c,c0,c1,_,_,_,d⟩:=h.cells;obtain⟨b,off,r,rfl,_,i,⟨rfl,_⟩,a⟩:=aH.at iB d hp qe;obtain⟨e,l,m,n⟩:=Hc a;rw[Nat.add_zero] at e;have i0:(0:Int)<=(p.at_:Int):=qo;have k:(p.at_:Int)<(L.length:Int):=qo;clear a d h;unfold aP;unfold iC;generalize L[p.at_]=t at *;go_enter func67,ntmps67;go_wp2;refine qR 10 (by kernel_rfl) (by kernel_rfl) ?_;simp only[List.take_succ_cons,List.take_zero,List.drop_succ_cons,List.drop_zero]
 repeat still_step
 refine wpStill_nil ?_;go_wp2;go_returns;exact⟨rfl,((Below.refl _ _).alloc (lR _) _).drew⟩
def eT(L:List Tok)(g:Nat)(w:World)(v:Value)(p':PS)(e:Ending)(w':World):Prop:=e=.returned v/\PW L w' g p'/\aN (fun b=>b≠g) w w'
theorem aG{w:World}{g:Nat}{cs:Array Value}{t:TypeId}{m:Nat×Nat}(h:w.heap[g]? =some (.cells cs t m))(i:Nat)(v:Value):(w.setCell ⟨g,i,none⟩ v).heap[g]? =some (.cells (cs.setIfInBounds i v) t m):=by
 simp only[World.setCell,Array.getElem?_modify,h];simp
theorem aI{w:World}{g i:Nat}(v:Value):aN (fun b=>b≠g) w (w.setCell ⟨g,i,none⟩ v):=⟨rfl,rfl,rfl,by simp[World.setCell],fun k c a=>Below.heap_setCell _ _ _ _ a⟩
theorem PW.stay{L:List Tok}{w w':World}{g:Nat}{p p':PS}(h:PW L w g p)(d:aN (fun b=>b≠g) w w')(a:∀A c,w.heap[g]? =some (.cells #[.slice A L.length c,.int .i64 p.at_,.int .i64 p.aDB,.int .i64 p.bad,.int .i64 p.place] 142 (0,0))->w'.heap[g]? =some (.cells #[.slice A L.length c,.int .i64 p'.at_,.int .i64 p'.aDB,.int .i64 p'.bad,.int .i64 p'.place] 142 (0,0))):PW L w' g p':=by
 obtain⟨A,c,h1,h2⟩:=h;exact⟨A,c,a A c h1,h2.aDH iB (d.mono fun k _ h=>by show k≠g;have:k<g:=h;omega)⟩
theorem uA{L:List Tok}{p:PS}(e pl:Int)(g:Nat)(w:World)(h:PW L w g p):
 Calls prog 70 #[.pointer (some ⟨g,0,none⟩),.int .i64 e,.int .i64 pl] w (eT L g w (.tuple #[]) (eQ e pl p)):=by
 have f:=h.lt;obtain⟨A,c,c0,c1,c2,c3,c4,b⟩:=h.cells;have H:=aA h;have f3:=h.free 3;have f4:=h.free 4;unfold eT;unfold eQ;clear h b;by_cases a:p.bad=0
 .rw[iP a];rw[a] at c3;clear a;go_enter func70,ntmps70;go_wp2;go_returns;refine⟨rfl,H.o.stay ((aI _).trans (aI _)) fun A c h=> ?_,(aI _).trans (aI _)⟩;rw[aG (aG h 3 _) 4 _];rfl
 .rw[iN a];have d:(p.bad==0)=false:=bN.2 a;clear a;go_enter func70,ntmps70;go_wp2;go_returns;exact⟨rfl,H.o,aN.refl _ _⟩
theorem SX(a b c:Int)(s:bY)(w:World):(Instr.field 124 (.agg #[.int .i64 a,.int .i64 b,.int .i64 c,.string s]) 1).run prog w=.ok (.int .i64 b) w:=by kernel_rfl
theorem aP.aDQ{L:List Tok}{p:PS}{g:Nat}{w:World}{v:Value}{e:Ending}{w':World}(h:aP v w e w')(hp:PW L w g p):eT L g w v p e w':=⟨h.1,hp.on h.2,aJ h.2⟩
theorem lX{L:List Tok}{p:PS}(hp:p.at_<L.length)(a:L.length<=5000)(g:Nat)(w:World)(h:PW L w g p):
 Calls prog 68 #[.pointer (some ⟨g,0,none⟩)] w (eT L g w (.tuple #[]) (dL L p)):=by
 have HH:=aA (gJ hp a g w h);have H:=aA h;clear h;unfold eT dL;unfold iC at HH;generalize aU L p=t at *;go_enter func68,ntmps68;have b:=SX t.aDy t.at_ t.num t.str;go_wp2_with fail;refine(HH.o).mono ?_;rintro e w1 ⟨rfl,hb1⟩;have HW:=aA (uA 5 t.at_ g w1 (H.o.on hb1));exact QCm
theorem kS{L:List Tok}{p:PS}(more:Bool)(hp:p.at_<L.length)(a:L.length<=5000)(g:Nat)(w:World)(h:PW L w g p):
 Calls prog 172 #[.pointer (some ⟨g,0,none⟩),.bool more] w (eT L g w (.tuple #[]) (cR L more p)):=by
 have HH:=aA (gJ hp a g w h);have H:=aA h;clear h;unfold eT cR;unfold iC at HH;generalize aU L p=t at *
 cases more
 .rw[iN qe];go_enter func172,ntmps172;go_wp2;go_returns;exact⟨rfl,H.o,aN.refl _ _⟩
 .rw[iP rfl];go_enter func172,ntmps172;have b:=SX t.aDy t.at_ t.num t.str;go_wp2_with fail;refine(HH.o).mono ?_;rintro e w1 ⟨rfl,hb1⟩;have HW:=aA (uA 6 t.at_ g w1 (H.o.on hb1));exact QCm
end Go.Proofs.YtdfinmcogbkffaaGreatDoor
