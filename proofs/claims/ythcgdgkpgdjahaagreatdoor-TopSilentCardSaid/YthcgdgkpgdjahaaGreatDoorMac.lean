/- Lemmas. -/
import Derived.Test.YthcgdgkpgdjahaaGreatDoorMab
import Derived.Laws.CopyOwn
import Derived.Deep.OwnRows
import Derived.Deep.QuietTactic
import Derived.BigQuiet
import Derived.LoopN
import Derived.StillTailTactics
namespace Go.Proofs.YthcgdgkpgdjahaaGreatDoor
open Go.RowKit
set_option linter.unusedVariables false
set_option linter.unusedSimpArgs false
set_option maxHeartbeats 16000000
open _root_.Go.Proofs.Tryz
set_option maxRecDepth 20000
def yN(a:At):Bool:=(decide (1<=a.cat)&&decide (a.cat<=4))&&eT a.name
def tC(m:Ma):Bool:=yN m.aEe&&(decide (1<=m.op)&&decide (m.op<=3))&&aT m.val
def oP(n:Nat):Int:=if n=0 then 1 else if 8<n then 6 else 0
def gL{α:Type}(f:α->Int):List α->Int
 | []=>0
 |x::l=>if f x≠0 then f x else gL f l
def rX(l:List Ma):Int:=if oP l.length≠0 then oP l.length else gL (fun m=>if tC m then 0 else 1) l
def rY(l:List (List Ma)):Int:=if oP l.length≠0 then oP l.length else gL rX l
def fC(t:Ta):Int:=if 8<t.length then 6 else gL rY t
def mX(op:Int):Option (List Bool):=
 if op=1\/op=2 then some [] else if op=3\/op=4 then some [true] else if op=5 then some [true,false]
 else if op=11 then some [false] else if 6<=op/\op<=13 then some [false,false] else none
def rE(n:No):Bool:=
 if n.op=1 then aT n.val&&decide (n.aEe=uX)
 else if n.op=2 then yN n.aEe&&decide (n.val=aY)
 else decide (n.val=aY)&&decide (n.aEe=uX)
def lI(l:List Bool)(n:No):Option (List Bool):=
 match mX n.op with
 |none=>none
 |some w=>
  if rE n/\w.length<=l.length/\l.drop (l.length - w.length)=w then some (l.take (l.length - w.length)++[decide (n.op=2)]) else none
def iO:List No->List Bool->Option (List Bool)
 | [],l=>some l
 |n::r,l=>match lI l n with
  |none=>none
  |some a=>iO r a
def lJ(l:List No):Int:=
 if 32<l.length then 6
 else match iO l [] with
  |none=>1
  |some made=>if 0<l.length/\made≠[false] then 1 else 0
def lK(l:List Ob):Int:=if 8<l.length then 6 else gL (fun o=>if (1<=o.on/\o.on<=2)/\(1<=o.aDN/\o.aDN<=4)/\eT o.arg=true then 0 else 1) l
structure WS where
 met:List ByteArray
 aDR:Nat
def gU(s:bY)(w:WS):Bool×WS:=if w.met.any (fun t=>decide (t=s))=true\/eT s=false then (false,w) else (true,{w with met:=s::w.met})
def fT(r:Ru)(w:WS):Int×WS:=
 let (ok,w1):=gU r.id w
 if ok=false then (1,w1)
 else
  let w2:={w1 with aDR:=w1.aDR+1}
  if 64<w2.aDR then (6,w2)
  else if fC r.aDY≠0 then (fC r.aDY,w2)
  else if lJ r.cond≠0 then (lJ r.cond,w2)
  else (lK r.aD4,w2)
def fJ(p:Po)(w:WS):Int×WS:=
 let (ok,w1):=gU p.id w
 if ok=false\/p.alg<1\/6<p.alg then (1,w1)
 else if (p.set=true/\p.aDR≠[])\/(p.set=false/\(0<p.aD2.length\/p.alg=4)) then (1,w1)
 else if fC p.aDY≠0 then (fC p.aDY,w1)
 else if lK p.aD4≠0 then (lK p.aD4,w1)
 else if 16<p.aDR.length\/16<p.aD2.length then (6,w1)
 else (0,w1)
def jJ{α:Type}(f:α->WS->Int×WS):List α->WS->Int×WS
 | [],w=>(0,w)
 |x::l,w=>
  let (e,w1):=f x w
  if e≠0 then (e,w1) else jJ f l w1
def eS:Nat->Po->WS->Int×WS
 |0,_,w=>(6,w)
 |n+1,p,w=>
  let (e,w1):=fJ p w
  if e≠0 then (e,w1)
  else
   let (e2,w2):=jJ fT p.aDR w1
   if e2≠0 then (e2,w2) else jJ (eS n) p.aD2 w2
def fE(p:Po):Int:=(eS 4 p ⟨[],0⟩).1
def fH(S:bY):Po×Int×Int:=
 let (l,e,place):=jU S.data.toList
 if e≠0 then (mK,e,place)
 else
  let (out,p):=cP l 3 ⟨0,0,0,0⟩
  let a:=if (aU l p).aDN≠7 then dL l p else p
  let b:=if a.bad=0/\fE out≠0 then eU 5 S.size a else a
  if b.bad≠0 then (mK,b.bad,b.place) else (out,0,0)
def kL:Int:= -9223372036854775808
def lQ:Int:=9223372036854775807
def kC(a b:V3):Bool×Int:=
 if aT a=false\/aT b=false then (false,1)
 else if a.1≠b.1\/a.1=1 then (false,2)
 else if a.1=3\/a.1=5 then (decide (a.2.2.toList<b.2.2.toList),0)
 else (decide (a.2.1<b.2.1),0)
def kM(m:Ma)(v:V3):Bool×Int:=
 if m.op=1 then (if v.1≠m.val.1 then (false,2) else (decide (v=m.val),0))
 else if m.op=2 then kC v m.val
 else kC m.val v
def rZ(g:List Gv)(a:At):List V3×Int:=if zL g a.cat a.name=[]/\a.aEm=true then ([],4) else (zL g a.cat a.name,0)
def mM(m:Ma):List V3->Nat->Nat
 | [],out=>out
 |v::l,out=>if (kM m v).1 then 2 else mM m l (if (kM m v).2≠0 then 1 else out)
def oX(g:List Gv)(m:Ma):Nat:=if (rZ g m.aEe).2≠0 then 1 else mM m (rZ g m.aEe).1 0
def zM(g:List Gv)(l:List Ma):Nat:=l.foldl (fun out m=>min out (oX g m)) 2
def xX(g:List Gv)(t:Ta):Nat:=t.foldl (fun out l=>min out (l.foldl (fun a x=>max a (zM g x)) 0)) 2
structure It where
 bag:List V3
 val:V3
 err:Int
deriving DecidableEq
def cI(b:Bool):V3:=(1,if b then 1 else 0,ByteArray.empty)
def jP(v:V3)(e:Int):It:=⟨[],v,e⟩
def It.is(x:It)(n:Int):Bool:=decide (x.err=0)&&decide (x.val=(1,n,ByteArray.empty))
def tD(a b:Int):Int×Int:=if kL<=a+b/\a+b<=lQ then (a+b,0) else (0,3)
def tE(a b:Int):Int×Int:=if kL<=a - b/\a - b<=lQ then (a - b,0) else (0,3)
def mN(a b:Int):Int×Int:=if kL<=a * b/\a * b<=lQ then (a * b,0) else (0,3)
def eK(f:Int->Int->Int×Int)(a b:V3):V3×Int:=
 if a.1≠2\/b.1≠2 then (aY,2) else if (f a.2.1 b.2.1).2≠0 then (aY,(f a.2.1 b.2.1).2) else ((2,(f a.2.1 b.2.1).1,ByteArray.empty),0)
def oC(op:Int)(a:V3):V3×Int:=if aT a=false then (aY,1) else if a.1≠1 then (aY,2) else (cI (decide (a.2.1=0)),0)
def dI(op:Int)(a b:V3):V3×Int:=
 if aT a=false\/aT b=false then (aY,1)
 else if op=6 then (if a.1≠b.1 then (aY,2) else (cI (decide (a=b)),0))
 else if op=7 then (if (kC a b).2≠0 then (aY,(kC a b).2) else (cI (kC a b).1,0))
 else if op=8 then eK tD a b
 else if op=9 then eK tE a b
 else if op=10 then eK mN a b
 else if a.1≠1\/b.1≠1 then (aY,2)
 else if op=12 then (cI (decide (a.2.1=1)&&decide (b.2.1=1)),0)
 else (cI (decide (a.2.1=1)||decide (b.2.1=1)),0)
def iQ(g:List Gv)(n:No)(l:List It):It:=
 match l with
 | []=>if n.op=1 then jP n.val 0 else ⟨(rZ g n.aEe).1,aY,(rZ g n.aEe).2⟩
 | [a]=>
   if a.err≠0 then jP aY a.err
   else if n.op=3 then (match a.bag with | [v]=>jP v 0|_=>jP aY 4)
   else if n.op=4 then jP (2,a.bag.length,ByteArray.empty) 0
   else jP (oC n.op a.val).1 (oC n.op a.val).2
 |a::b::_=>
  if (n.op=12\/n.op=13)/\(a.is (n.op - 12)\/b.is (n.op - 12)) then jP (cI (decide (n.op=13))) 0
  else if a.err≠0 then jP aY a.err
  else if b.err≠0 then jP aY b.err
  else if n.op=5 then jP (cI (a.bag.any (fun v=>decide (v=b.val)))) 0
  else jP (dI n.op a.val b.val).1 (dI n.op a.val b.val).2
def jR(op:Int):Nat:=if op=1\/op=2 then 0 else if op=3\/op=4\/op=11 then 1 else 2
def zN(g:List Gv):List No->List It->List It
 | [],st=>st
 |n::r,st=>zN g r (st.take (st.length - jR n.op)++[iQ g n (st.drop (st.length - jR n.op))])
def oE(g:List Gv)(l:List No):V3×Int:=
 if l=[]\/lJ l≠0 then (aY,1) else match zN g l [] with |x::_=>(x.val,x.err)| []=>(aY,1)
def tX(g:List Gv)(l:List No):Nat:=
 if l=[] then 2
 else
  let x:=jP (oE g l).1 (oE g l).2
  if x.is 1 then 2 else if x.is 0 then 0 else 1
abbrev Mk:=Nat×Nat
def uE(m:Mk):Mk:=if m=(4,0) then (2,0) else if m=(0,4) then (0,2) else m
def gV(l:List Ob)(m:Mk):List Ob:=l.filter (fun o=>(decide (o.on=1)&&decide (m=(4,0)))||(decide (o.on=2)&&decide (m=(0,4))))
def EY(r:Ru)(t c:Nat):Mk×List Ob:=
 let m:Mk:=if r.aEp then (0,4) else (4,0)
 if t=0\/(t=2/\c=0) then ((0,0),[])
 else if t=1\/c=1 then (uE m,[])
 else (m,gV r.aD4 m)
def iF(g:List Gv)(r:Ru):Mk×List Ob:=EY r (xX g r.aDY) (tX g r.cond)
def aAR(a b:Mk):Mk:=(max a.1 b.1,max a.2 b.2)
def Cx(m:Mk):Mk:=(m.2,m.1)
def SX(m:Mk):Mk:=
 if m.2=4 then (0,4) else if m.2=2/\2<=m.1 then (2,2) else if m.2=2 then (0,2) else if m.1=4 then (4,0) else if m.1=2 then (2,0) else (0,0)
def Hz(l:List Mk):Mk:=l.foldl aAR (0,0)
def SY(m:Mk):Bool:=decide (m=(0,0))||(decide (m=(4,0))||decide (m=(0,4)))
def EZ(j m:Mk):Mk:=if j=(0,0) then m else if m=(0,0) then j else (2,2)
def CG(l:List Mk):Mk:=(l.find? (fun m=>decide (m≠(0,0)))).getD (0,0)
def SZ(l:List Mk):Mk:=if l.all SY then l.foldl EZ (0,0) else (2,2)
def rM(l:List Mk)(m other:Mk):Mk:=if l.any (fun x=>decide (x=other)) then other else m
def CH(alg:Int)(l:List Mk):Mk:=
 if alg=1 then SX (Hz l)
 else if alg=2 then Cx (SX (Cx (Hz l)))
 else if alg=3 then CG l
 else if alg=4 then SZ l
 else if alg=5 then rM l (0,4) (4,0)
 else if alg=6 then rM l (4,0) (0,4)
 else (0,0)
def gM(first:Bool)(m:Mk):List (Mk×List Ob)->List Ob
 | []=>[]
 |x::l=>if x.1≠m then gM first m l else if first then x.2 else x.2++gM first m l
def sA(alg:Int)(obls:List Ob)(t:Nat)(parts:List (Mk×List Ob)):Mk×List Ob:=
 let m:=CH alg (parts.map (·.1))
 if t=0 then ((0,0),[])
 else if t=1 then (uE m,[])
 else if m≠(4,0)/\m≠(0,4) then (m,[])
 else (m,gM (decide (alg=3)) m parts++gV obls m)
def cY(g:List Gv):Nat->Po->Mk×List Ob
 |0,_=>((0,0),[])
 |n+1,p=>
  let t:=xX g p.aDY
  if t=0 then ((0,0),[])
  else sA p.alg p.aD4 t (p.aDR.map (iF g)++p.aD2.map (cY g n))
def rA(g:List Gv)(p:Po):(Mk×List Ob)×Int:=if fE p≠0 then (((0,0),[]),1) else (cY g 4 p,0)
def qI(t:Ta):Option Ma:=
 (t.filter (fun l=>decide (l.length=1))).findSome? (fun l=>((l.head?).getD []).find? (fun m=>decide (m.op=1)&& !m.aEe.aEm))
def oF(g:List Gv)(k:Po):Bool:=match qI k.aDY with |none=>true |some m=>decide (oX g m≠0)
def kD(g:List Gv):Nat->Po->Po
 |0,p=>p
 |n+1,p=> .mk p.id p.set p.alg p.aDY p.aDR ((p.aD2.filter (oF g)).map (kD g n)) p.aD4
def gN(g:List Gv)(p:Po):(Mk×List Ob)×Int:=if fE p≠0 then (((0,0),[]),1) else rA g (kD g 4 p)
def cQ:Nat:=1000000
def cS(v:V3):Prop:=bL v.1/\bL v.2.1/\v.2.2.size<=cQ
def JF(v:V3):List Value:=[.int .i64 v.1,.int .i64 v.2.1,.string v.2.2]
def dC(v:V3):Value:= .agg #[.int .i64 v.1,.int .i64 v.2.1,.string v.2.2]
def NI(t:Tok):Prop:=bL t.aDN/\bL t.at_/\bL t.num/\t.str.size<=cQ
def Ia(t:Tok):List Value:=[.int .i64 t.aDN,.int .i64 t.at_,.int .i64 t.num,.string t.str]
def iD(t:Tok):Value:= .agg #[.int .i64 t.aDN,.int .i64 t.at_,.int .i64 t.num,.string t.str]
def CI(a:At):Prop:=bL a.cat/\a.name.size<=cQ
def oQ(a:At):Value:= .agg #[.int .i64 a.cat,.string a.name,.bool a.aEm]
def uF(m:Ma):Prop:=CI m.aEe/\bL m.op/\cS m.val
def Cy(m:Ma):List Value:=[.int .i64 m.aEe.cat,.string m.aEe.name,.bool m.aEe.aEm,.int .i64 m.op,.int .i64 m.val.1,.int .i64 m.val.2.1,.string m.val.2.2]
def kX(m:Ma):Value:= .agg #[.int .i64 m.aEe.cat,.string m.aEe.name,.bool m.aEe.aEm,.int .i64 m.op,.int .i64 m.val.1,.int .i64 m.val.2.1,.string m.val.2.2]
def oY(n:No):Prop:=bL n.op/\cS n.val/\CI n.aEe
def Cz(n:No):List Value:=[.int .i64 n.op,.int .i64 n.val.1,.int .i64 n.val.2.1,.string n.val.2.2,.int .i64 n.aEe.cat,.string n.aEe.name,.bool n.aEe.aEm]
def jS(n:No):Value:= .agg #[.int .i64 n.op,.int .i64 n.val.1,.int .i64 n.val.2.1,.string n.val.2.2,.int .i64 n.aEe.cat,.string n.aEe.name,.bool n.aEe.aEm]
def yO(o:Ob):Prop:=bL o.on/\bL o.aDN/\o.arg.size<=cQ
def FA(o:Ob):List Value:=[.int .i64 o.on,.int .i64 o.aDN,.string o.arg]
def VR:Rep V3:=mS JF cS
def TO:Rep Tok:=mS Ia NI
def sB:Rep Ma:=mS Cy uF
def KJ:Rep No:=mS Cz oY
def kE:Rep Ob:=mS FA yO
theorem bG:Firm VR 3:=gK (fun _=>rfl) (fun x v h=>by simp only[JF,List.mem_cons,List.not_mem_nil,or_false] at h;rcases h with rfl|rfl|rfl<;>rfl)
theorem iC:Firm TO 4:=gK (fun _=>rfl) (fun x v h=>by simp only[Ia,List.mem_cons,List.not_mem_nil,or_false] at h;rcases h with rfl|rfl|rfl|rfl<;>rfl)
theorem eV:Firm sB 7:=gK (fun _=>rfl) (fun x v h=>by simp only[Cy,List.mem_cons,List.not_mem_nil,or_false] at h;rcases h with rfl|rfl|rfl|rfl|rfl|rfl|rfl<;>rfl)
theorem dQ:Firm KJ 7:=gK (fun _=>rfl) (fun x v h=>by simp only[Cz,List.mem_cons,List.not_mem_nil,or_false] at h;rcases h with rfl|rfl|rfl|rfl|rfl|rfl|rfl<;>rfl)
theorem aO:Firm kE 3:=gK (fun _=>rfl) (fun x v h=>by simp only[FA,List.mem_cons,List.not_mem_nil,or_false] at h;rcases h with rfl|rfl|rfl<;>rfl)
abbrev oJ(w:World)(ok:nP)(v:Value)(t:Ta):Prop:=aH (rows (rows sB)) w ok v t
theorem dO:Firm (rows sB) 1:=rW eV
theorem aS:Firm (rows (rows sB)) 1:=rW dO
def sC(w:World)(ok:nP)(r:Ru)(vt vc vo:Value):Prop:=r.id.size<=cQ/\oJ w ok vt r.aDY/\aH KJ w ok vc r.cond/\aH kE w ok vo r.aD4
def yP:Rep Ru:=fun w ok cs r=>∃vt vc vo,cs=[.string r.id,.bool r.aEp,vt,vc,vo]/\sC w ok r vt vc vo
theorem sC.aDW{w w':World}{ok:nP}{r:Ru}{vt vc vo:Value}(h:sC w ok r vt vc vo)(a:aN ok w w'):sC w' ok r vt vc vo:=⟨h.1,aH.aDW aS h.2.1 a,aH.aDW dQ h.2.2.1 a,aH.aDW aO h.2.2.2 a⟩
theorem sC.more{w:World}{ok ok':nP}{r:Ru}{vt vc vo:Value}(h:sC w ok r vt vc vo)(a:∀b,ok b->ok' b):sC w ok' r vt vc vo:=⟨h.1,aH.more aS h.2.1 a,aH.more dQ h.2.2.1 a,aH.more aO h.2.2.2 a⟩
theorem sC.inb{w:World}{ok:nP}{r:Ru}{vt vc vo:Value}(h:sC w ok r vt vc vo):sC w (fun b=>ok b/\b<w.heap.size) r vt vc vo:=⟨h.1,aH.inb aS h.2.1,aH.inb dQ h.2.2.1,aH.inb aO h.2.2.2⟩
theorem lD{α:Type}{R:Rep α}{w:World}{ok:nP}{v:Value}{l:List α}(h:aH R w ok v l):v.oneCell'=true:=by
 obtain⟨a,c,rfl,_⟩:=h.slice;rfl
theorem bM:Firm yP 5:={
 aDW:=fun⟨vt,vc,vo,e,h⟩ b=>⟨vt,vc,vo,e,h.aDW b⟩
 more:=fun⟨vt,vc,vo,e,h⟩ c=>⟨vt,vc,vo,e,h.more c⟩
 len:=fun⟨vt,vc,vo,e,h⟩=>by rw[e];rfl
 one:=fun⟨vt,vc,vo,e,h⟩=>by
  intro v a;rw[e] at a;simp only[List.mem_cons,List.not_mem_nil,or_false] at a
  rcases a with rfl|rfl|rfl|rfl|rfl
  .rfl
  .rfl
  .exact lD h.2.1
  .exact lD h.2.2.1
  .exact lD h.2.2.2
 inb:=fun⟨vt,vc,vo,e,h⟩=>⟨vt,vc,vo,e,h.inb⟩}
def qR:Nat->Rep Po
 |0=>fun _ _ _ _=>False
 |n+1=>fun w ok cs p=>∃vt vr vk vo,cs=[.string p.id,.bool p.set,.int .i64 p.alg,vt,vr,vk,vo]/\p.id.size<=cQ/\bL p.alg/\oJ w ok vt p.aDY/\aH yP w ok vr p.aDR/\aH (qR n) w ok vk p.aD2/\aH kE w ok vo p.aD4
def fO(n:Nat)(w:World)(ok:nP)(p:Po)(vt vr vk vo:Value):Prop:=p.id.size<=cQ/\bL p.alg/\oJ w ok vt p.aDY/\aH yP w ok vr p.aDR/\aH (qR n) w ok vk p.aD2/\aH kE w ok vo p.aD4
theorem bC:∀n,Firm (qR n) 7
 |0=>⟨fun h=>h.elim,fun h=>h.elim,fun h=>h.elim,fun h=>h.elim,fun h=>h.elim⟩
 |n+1=>by
  have F:=bC n;refine⟨?_,?_,?_,?_,?_⟩
  .rintro w w' ok cs x ⟨vt,vr,vk,vo,e,h1,h2,h3,h4,h5,h6⟩ a;exact⟨vt,vr,vk,vo,e,h1,h2,aH.aDW aS h3 a,aH.aDW bM h4 a,aH.aDW F h5 a,aH.aDW aO h6 a⟩
  .rintro w ok ok' cs x ⟨vt,vr,vk,vo,e,h1,h2,h3,h4,h5,h6⟩ b;exact⟨vt,vr,vk,vo,e,h1,h2,aH.more aS h3 b,aH.more bM h4 b,aH.more F h5 b,aH.more aO h6 b⟩
  .rintro w ok cs x ⟨vt,vr,vk,vo,e,h⟩;rw[e];rfl
  .rintro w ok cs x ⟨vt,vr,vk,vo,e,h1,h2,h3,h4,h5,h6⟩ v c;rw[e] at c;simp only[List.mem_cons,List.not_mem_nil,or_false] at c
   rcases c with rfl|rfl|rfl|rfl|rfl|rfl|rfl
   .rfl
   .rfl
   .rfl
   .exact lD h3
   .exact lD h4
   .exact lD h5
   .exact lD h6
  .rintro w ok cs x ⟨vt,vr,vk,vo,e,h1,h2,h3,h4,h5,h6⟩;exact⟨vt,vr,vk,vo,e,h1,h2,aH.inb aS h3,aH.inb bM h4,aH.inb F h5,aH.inb aO h6⟩
def PoV(n:Nat)(w:World)(ok:nP)(v:Value)(p:Po):Prop:=∃vt vr vk vo,v=.agg #[.string p.id,.bool p.set,.int .i64 p.alg,vt,vr,vk,vo]/\fO n w ok p vt vr vk vo
theorem fO.aDW{n:Nat}{w w':World}{ok:nP}{p:Po}{vt vr vk vo:Value}(h:fO n w ok p vt vr vk vo)(a:aN ok w w'):fO n w' ok p vt vr vk vo:=
 ⟨h.1,h.2.1,aH.aDW aS h.2.2.1 a,aH.aDW bM h.2.2.2.1 a,aH.aDW (bC n) h.2.2.2.2.1 a,aH.aDW aO h.2.2.2.2.2 a⟩
theorem fO.inb{n:Nat}{w:World}{ok:nP}{p:Po}{vt vr vk vo:Value}(h:fO n w ok p vt vr vk vo):fO n w (fun b=>ok b/\b<w.heap.size) p vt vr vk vo:=
 ⟨h.1,h.2.1,aH.inb aS h.2.2.1,aH.inb bM h.2.2.2.1,aH.inb (bC n) h.2.2.2.2.1,aH.inb aO h.2.2.2.2.2⟩
theorem fO.more{n:Nat}{w:World}{ok ok':nP}{p:Po}{vt vr vk vo:Value}(h:fO n w ok p vt vr vk vo)(a:∀b,ok b->ok' b):fO n w ok' p vt vr vk vo:=
 ⟨h.1,h.2.1,aH.more aS h.2.2.1 a,aH.more bM h.2.2.2.1 a,aH.more (bC n) h.2.2.2.2.1 a,aH.more aO h.2.2.2.2.2 a⟩
theorem Tn{p:Prop}(h:p:=by
 split
 .exact h1.trans (CJ _ _ h1.lt)
 .exact h1):p:=h
theorem PI{p:Prop}(h:p:=by
 have h7:=gD T yM h6.lt;exact h15.trans (h6.trans (h7.trans (vI T h7.lt)))):p:=h
structure Toks (L:List Tok):Prop where
 len:L.length<=5000
 last:∀i t,L[i]? =some t->t.aDN≠7->i+1<L.length
 size:∀t∈L,t.str.size<=4096
 num:∀t∈L,bL t.num
 place:∀t∈L,0<=t.at_/\t.at_<=4096
 aDN:∀t∈L,1<=t.aDN/\t.aDN<=7
def eW(L:List Tok)(p:PS):V3×PS:=
 let t:=aU L p
 if t.aDN=2 then ((2,t.num,t.str),p)
 else if t.aDN=3 then ((4,t.num,t.str),p)
 else if t.aDN=4 then ((5,t.num,t.str),p)
 else if t.aDN=5 then ((3,t.num,t.str),p)
 else if cM L (str "true") p then ((1,1,ByteArray.empty),p)
 else if cM L (str "false") p then ((1,0,ByteArray.empty),p)
 else ((0,t.num,t.str),dL L p)
structure dK (L:List Tok) (p p':PS):Prop where
 le:p.at_<=p'.at_
 lt:p'.at_<L.length
 aDR:p.aDR<=p'.aDR
 aEz:p.aDR<=64->p'.aDR<=64
section
variable {L:List Tok} (T:Toks L)
theorem dK.refl{p:PS}(h:p.at_<L.length):dK L p p:=⟨lR _,h,lR _,id⟩
theorem dK.trans{p q r:PS}(h:dK L p q)(k:dK L q r):dK L p r:=⟨lT h.le k.le,k.lt,lT h.aDR k.aDR,fun x=>k.aEz (h.aEz x)⟩
theorem FB{p:PS}(h:p.at_<L.length):aU L p=L[p.at_]:=by
 unfold aU;rw[gE h];rfl
theorem JG(e pl:Int)(p:PS):(eU e pl p).at_=p.at_/\(eU e pl p).aDR=p.aDR:=by
 unfold eU;split<;>exact⟨rfl,rfl⟩
theorem mA(e pl:Int)(he:e≠0)(p:PS):(eU e pl p).bad≠0:=by
 unfold eU;split
 .exact he
 .assumption
theorem CJ(e pl:Int){p:PS}(h:p.at_<L.length):dK L p (eU e pl p):=by
 have:=JG e pl p;exact⟨qo,qo,qo,qo⟩
theorem sD{p:PS}(h:p.at_<L.length):dK L p (dL L p):=CJ _ _ h
theorem kZ(b:Bool){p:PS}(h:p.at_<L.length):dK L p (cR L b p):=by
 unfold cR;split
 .exact CJ _ _ h
 .exact dK.refl h
include T
theorem Vp{p:PS}(h:p.at_<L.length)(a:(aU L p).aDN≠7):p.at_+1<L.length:=T.last p.at_ _ (by rw[gE h]) (by rwa [FB h] at a)
theorem zO{p:PS}(h:p.at_<L.length)(a:(aU L p).aDN≠7):dK L p {p with at_:=p.at_+1}:=⟨Nat.le_succ _,Vp T h a,lR _,id⟩
omit T in
theorem lS{s:bY}{p:PS}(h:cM L s p=true):p.bad=0/\(aU L p).str=s/\((aU L p).aDN=1\/(aU L p).aDN=6):=by
 unfold cM at h;rw[Bool.and_eq_true,Bool.and_eq_true,Bool.or_eq_true,decide_eq_true_eq,decide_eq_true_eq,decide_eq_true_eq,decide_eq_true_eq] at h;exact⟨h.1,h.2.1,h.2.2⟩
theorem fQ{s:bY}{p:PS}(h:p.at_<L.length)(a:cM L s p=true):dK L p {p with at_:=p.at_+1}:=zO T h (qA ((lS a).2.2))
theorem TP(s:bY){p:PS}(h:p.at_<L.length):dK L p (kV L s p).2:=by
 unfold kV;split
 .exact fQ T h (by assumption)
 .exact dK.refl h
theorem gD(s:bY){p:PS}(h:p.at_<L.length):dK L p (eN L s p):=by
 unfold eN;split
 .exact fQ T h (by assumption)
 .exact sD h
theorem jK{p:PS}(h:p.at_<L.length):dK L p (bT L p).2:=by
 unfold bT;dsimp only;by_cases a:(aU L p).aDN≠1
 .rw[iP a,iP (show (dL L p).bad≠0 from mA 5 _ qe _)];exact sD h
 .rw[iN a];split
  .exact dK.refl h
  .exact zO T h qo
theorem dR(words:List ByteArray){p:PS}(h:p.at_<L.length):dK L p (bA L words p).2:=by
 unfold bA;dsimp only;split
 .rename_i a;exact zO T h qo
 .exact sD h
theorem nT{p:PS}(h:p.at_<L.length):dK L p (cG L p).2:=by
 unfold cG;dsimp only;have h1:=dR T [str "subject",str "action",str "case",str "env"] h;have h2:=gD T (str ".") h1.lt;have h3:=jK T h2.lt;have h4:=TP T (str "!") h3.lt;exact h1.trans (h2.trans (h3.trans h4))
omit T in
theorem zP(L:List Tok)(p:PS):dA L p=if (eW L p).2.bad≠0 then (aY,(eW L p).2) else ((eW L p).1,{(eW L p).2 with at_:=(eW L p).2.at_+1}):=rfl
omit T in
theorem Da{p:PS}(h:p.at_<L.length):dK L p (eW L p).2/\((eW L p).2.bad=0->(eW L p).2=p/\(aU L p).aDN≠7):=by
 unfold eW;dsimp only;split
 .exact⟨dK.refl h,fun _=>⟨rfl,qo⟩⟩
 split
 .exact⟨dK.refl h,fun _=>⟨rfl,qo⟩⟩
 split
 .exact⟨dK.refl h,fun _=>⟨rfl,qo⟩⟩
 split
 .exact⟨dK.refl h,fun _=>⟨rfl,qo⟩⟩
 split
 .rename_i a;exact⟨dK.refl h,fun _=>⟨rfl,qA ((lS a).2.2)⟩⟩
 split
 .rename_i a;exact⟨dK.refl h,fun _=>⟨rfl,qA ((lS a).2.2)⟩⟩
 .exact⟨sD h,fun b=>absurd b (mA _ _ qe _)⟩
theorem xB{p:PS}(h:p.at_<L.length):dK L p (dA L p).2:=by
 rw[zP];have h1:=Da (L:=L) h;by_cases a:(eW L p).2.bad≠0
 .rw[iP a];exact h1.1
 .rw[iN a];obtain⟨e,b⟩:=h1.2 (by simpa using a);rw[e];exact zO T h b
theorem yQ{p:PS}(h:p.at_<L.length):dK L p (sW L p).2:=by
 unfold sW
 repeat' split
 .exact fQ T h (by assumption)
 .exact fQ T h (by assumption)
 .exact fQ T h (by assumption)
 .exact sD h
theorem CK{p:PS}(h:p.at_<L.length):dK L p (eI L p).2:=by
 unfold eI;dsimp only;have h1:=nT T h;have h2:=yQ T h1.lt;have h3:=xB T h2.lt;exact h1.trans (h2.trans h3)
theorem wF{α:Type}{one:PS->α×PS}(a:∀{p:PS},p.at_<L.length->dK L p (one p).2)(sep:bY):∀(f:Nat) (l:List α) {p:PS},p.at_<L.length->dK L p (kB L one sep f l p).2
 |0,l,p,h=>dK.refl h
 |f+1,l,p,h=>by
  unfold kB;split
  .rename_i b;have h1:=fQ T h b;have h2:=a h1.lt;have h3:=kZ (decide (8<(l++[(one {p with at_:=p.at_+1}).1]).length)) h2.lt;exact h1.trans (h2.trans (h3.trans (wF a sep f _ h3.lt)))
  .exact dK.refl h
theorem NJ{p:PS}(h:p.at_<L.length):dK L p (jC L p).2:=by
 unfold jC;dsimp only;have h1:=CK T h;exact h1.trans (wF T (CK T) _ _ _ h1.lt)
theorem NL{p:PS}(h:p.at_<L.length):dK L p (mL L p).2:=by
 unfold mL;dsimp only;have h0:=gD T (str "(") h;have h1:=NJ T h0.lt;have h2:=wF T (NJ T) (str "or") L.length [(jC L (eN L (str "(") p)).1] h1.lt;exact h0.trans (h1.trans (h2.trans (gD T _ h2.lt)))
theorem mB{p:PS}(h:p.at_<L.length):dK L p (bU L p).2:=by
 unfold bU;split
 .rename_i a;dsimp only;have h0:=fQ T h a;have h1:=NL T h0.lt;exact h0.trans (h1.trans (wF T (NL T) _ _ _ h1.lt))
 .exact dK.refl h
theorem JH{p:PS}(h:p.at_<L.length):dK L p (tW L p).2:=by
 unfold tW;dsimp only;have h1:=dR T [str "permit",str "deny"] h;have h2:=dR T [str "log",str "redact",str "review",str "notify"] h1.lt;have h3:=jK T h2.lt;exact h1.trans (h2.trans h3)
theorem vI{p:PS}(h:p.at_<L.length):dK L p (gR L p).2:=wF T (JH T) _ _ _ h
def dD(L:List Tok)(f:Nat)(acc:List No×PS)(must:Bool):List No×PS:=
 if acc.2.bad≠0 then acc else
  ((fB L f acc.1 acc.2).1.1,if (fB L f acc.1 acc.2).1.2≠must then eU 5 (aU L acc.2).at_ (fB L f acc.1 acc.2).2 else (fB L f acc.1 acc.2).2)
theorem zQ:∀(f:Nat) (l:List No) {p:PS},p.at_<L.length->dK L p (fB L f l p).2
 |0,l,p,h=>by unfold fB;exact dK.refl h
 |f+1,l,p,h=>by
  have c:∀{l:List No} {p:PS} (must:Bool),p.at_<L.length->dK L p (dD L f (l,p) must).2:=by
   intro l p must h;unfold dD;dsimp only;split
   .exact dK.refl h
   .have h1:=zQ f l h;exact Tn
  have b:∀(ms:List Bool) {l:List No} {p:PS},p.at_<L.length->dK L p (ms.foldl (dD L f) (l,p)).2:=by
   intro ms
   induction ms with
   |nil=>intro l p h;exact dK.refl h
   |cons m ms d=>
    intro l p h;have h1:=c (l:=l) m h;exact h1.trans (d h1.lt)
  unfold fB;dsimp only;by_cases a:cM L (str "(") p=true
  .rw[iP a];have h0:=fQ T h a;have h1:=dR T eF h0.lt;have h2:=b (fN (2+(bA L eF {p with at_:=p.at_+1}).1)) (l:=l) h1.lt;have h3:=gD T (str ")") h2.lt;exact h0.trans (h1.trans (h2.trans (h3.trans (kZ _ h3.lt))))
  .rw[iN a];split
   .have h1:=nT T h;exact h1.trans (kZ _ h1.lt)
   .have h1:=xB T h;exact h1.trans (kZ _ h1.lt)
theorem GK(l:List No)(must:Bool){p:PS}(h:p.at_<L.length):dK L p (jI L l must p).2:=by
 unfold jI;dsimp only;have h1:=zQ T L.length l h;exact Tn
theorem JI(deny:Bool){p:PS}(h:p.at_<L.length):dK L p (kW L deny p).2:=by
 unfold kW;dsimp only;have h1:=jK T h;have h2:=mB T h1.lt;have h3:dK L (bU L (bT L p).2).2 (if cM L (str "if") (bU L (bT L p).2).2=true then jI L [] false {(bU L (bT L p).2).2 with at_:=(bU L (bT L p).2).2.at_+1} else ([],(bU L (bT L p).2).2)).2:=by
  split
  .rename_i a;have h0:=fQ T h2.lt a;exact h0.trans (GK T _ _ h0.lt)
  .exact dK.refl h2.lt
 have h4:=vI T h3.lt;exact h1.trans (h2.trans (h3.trans (h4.trans (gD T _ h4.lt))))
omit T in
theorem Db{b:Bool}{p:PS}(h:(cR L b p).bad=0):b=false/\cR L b p=p:=by
 cases b
 .exact⟨rfl,by unfold cR;rw[iN qe]⟩
 .unfold cR at h;rw[iP rfl] at h;exact absurd h (mA _ _ qe _)
theorem tF:∀(f:Nat) (l:List Ru) {p:PS},p.at_<L.length->dK L p (iK L f l p).2
 |0,l,p,h=>by unfold iK;exact dK.refl h
 |f+1,l,p,h=>by
  unfold iK;split
  .rename_i a;dsimp only;split
   .exact kZ _ h
   .rename_i d;obtain⟨b,hp⟩:=Db (by simpa using d);rw[hp];have h0:dK L p {p with at_:=p.at_+1}:=by
     rw[Bool.or_eq_true] at a
     rcases a with a|a
     .exact fQ T h a
     .exact fQ T h a
    have c:p.aDR≠64:=by
     intro c;rw[c] at b;simp at b
    have h1:dK L p {p with aDR:=p.aDR+1,at_:=p.at_+1}:=⟨h0.le,h0.lt,Nat.le_succ _,fun x=>by show p.aDR+1<=64;omega⟩;have h2:=JI T (cM L (str "deny") p) h1.lt;exact h1.trans (h2.trans (tF f _ h2.lt))
  .exact dK.refl h
omit T in
theorem rF{one:PS->Po×PS}(a:∀{p:PS},p.at_<L.length->dK L p (one p).2)(deep:Bool):∀(f:Nat) (l:List Po) {p:PS},p.at_<L.length->dK L p (gS L one deep f l p).2
 |0,l,p,h=>by unfold gS;exact dK.refl h
 |f+1,l,p,h=>by
  unfold gS;split
  .dsimp only;split
   .exact kZ _ h
   .have h0:=kZ (L:=L) (decide (l.length=16)||deep) h;have h1:=a h0.lt;exact h0.trans (h1.trans (rF a deep f _ h1.lt))
  .exact dK.refl h
theorem sE:∀(n:Nat) {p:PS},p.at_<L.length->dK L p (cP L n p).2:=by
 intro n
 induction n with
 |zero=>
  intro p h;unfold cP;dsimp only;have h1:=dR T [str "policy",str "set"] h;have h2:=jK T h1.lt;have h3:=dR T dE h2.lt;have h4:=mB T h3.lt;have h5:=gD T rL h4.lt;have h15:=h1.trans (h2.trans (h3.trans (h4.trans h5)));by_cases a:decide ((bA L [str "policy",str "set"] p).1=2)=true
  .rw[iP a];have h6:=rF (one:=fun q=>(mK,q)) (fun h=>dK.refl h) true L.length [] h5.lt;exact PI
  .rw[iN a];have h6:=tF T L.length [] h5.lt;exact PI
 |succ n b=>
  intro p h;unfold cP;dsimp only;have h1:=dR T [str "policy",str "set"] h;have h2:=jK T h1.lt;have h3:=dR T dE h2.lt;have h4:=mB T h3.lt;have h5:=gD T rL h4.lt;have h15:=h1.trans (h2.trans (h3.trans (h4.trans h5)));by_cases a:decide ((bA L [str "policy",str "set"] p).1=2)=true
  .rw[iP a];have h6:=rF (one:=cP L n) b false L.length [] h5.lt;exact PI
  .rw[iN a];have h6:=tF T L.length [] h5.lt;exact PI
end
def jV(n lo a:Int):Int:=lo+n % (a - lo+1)
theorem CL(n lo a:Int)(h:lo<=a):lo<=jV n lo a:=by
 unfold jV;have:=Int.emod_nonneg n (show a - lo+1≠0 by omega);omega
theorem CM(n lo a:Int)(h:lo<=a):jV n lo a<=a:=by
 unfold jV;have:=Int.emod_lt_of_pos n (show 0<a - lo+1 by omega);omega
theorem zS(n lo hi:Int)(w:World)(h1:0<=lo)(h2:lo<=hi)(h3:hi<=1000000):
 Calls prog 6 #[.int .i64 n,.int .i64 lo,.int .i64 hi] w fun e w'=>e=.returned (.int .i64 (jV n lo hi))/\w=w':=by
 exact QAB
theorem aC{w0 w w':World}(h:Below w0.heap.size w0 w)(k:Below w.heap.size w w'):Below w0.heap.size w0 w':=h.trans (k.mono h.size)
theorem qB{w0 w w2:World}(h:Hid (Below w0.heap.size w0 w))(k:Below w.heap.size w w2):Hid (Below w0.heap.size w0 w2):=aA (aC h.o k)
theorem gB{B:Nat}{w0 w w':World}(h:Below B w0 w)(k:jZ w w'):Below B w0 w':=by
 obtain⟨n,rfl⟩:=k;exact⟨h.os,h.tape,h.output,h.size,h.block⟩
theorem aB(w:World)(o:Obj):Below w.heap.size w (w.alloc o):=(Below.refl _ _).alloc (lR _) _
theorem wG(w:World)(cs:Array Value)(t:TypeId)(fr:Nat×Nat)(i:Nat)(v:Value)(h:cs[i]? =some v):(w.alloc (.cells cs t fr)).cell? ⟨w.heap.size,i,none⟩=some v:=by
 unfold World.cell?;rw[heap_alloc_new];simpa using h
theorem QCj{p:Prop}(h:p:=by
 have HB:=aA hb1;clear HH hb1;go_wp2_with fail;refine(HW.o).mono ?_;rintro e w2 ⟨rfl,h2,k2⟩;go_wp2;go_returns;exact⟨rfl,h2,(aJ HB.o).trans k2⟩):p:=h
theorem Ib{α:Type}{a0 a a2 a3:α}{l:List α}{p:Nat->α->Prop}(h:∀j x,(a0::a::a2::a3::l)[j]? =some x->p j x):p 0 a0/\p 1 a/\p 2 a2/\p 3 a3:=⟨h 0 _ rfl,h 1 _ rfl,h 2 _ rfl,h 3 _ rfl⟩
theorem rB{P:Program}{id:Nat}{Q:Exit->Act->World->Prop}{a:Act}{w:World}{l:List Oper}(n:Nat)(hm:P.follows .mixedOrders=true)(c:Region.lexTailB .any l.toArray n=true)
 (h:wpStill P l.toArray w.drew (fun b=>wpList P l.toArray Q (l.drop n) b w.drew) (l.take n) a):(Code.region id l.toArray true).wp P Q a w:=wp_region_still_tail n hm c h
def PW(L:List Tok)(w:World)(g:Nat)(p:PS):Prop:=
 ∃A c,w.heap[g]? =some (.cells #[.slice A L.length c,.int .i64 p.at_,.int .i64 p.aDR,.int .i64 p.bad,.int .i64 p.place] 149 (0,0))/\aH TO w (fun b=>b<g) (.slice A L.length c) L
theorem PW.lt{L:List Tok}{w:World}{g:Nat}{p:PS}(h:PW L w g p):g<w.heap.size:=by
 obtain⟨A,c,h1,_⟩:=h;exact(Array.getElem?_eq_some_iff.1 h1).1
theorem PW.on{L:List Tok}{w w':World}{g:Nat}{p:PS}(h:PW L w g p)(a:Below w.heap.size w w'):PW L w' g p:=by
 have b:=h.lt;obtain⟨A,c,h1,h2⟩:=h;exact⟨A,c,by rw[a.block g b];exact h1,h2.on iC a⟩
theorem PW.aDW{L:List Tok}{w w':World}{g:Nat}{p:PS}{ok:nP}(h:PW L w g p)(a:aN ok w w')(d:∀b,b<=g->ok b):PW L w' g p:=by
 have e:=h.lt;obtain⟨A,c,h1,h2⟩:=h;exact⟨A,c,by rw[a.block g e (d g (lR _))];exact h1,h2.aDW iC (a.mono fun k _ h=>d k (by have:k<g:=h;omega))⟩
theorem PW.set{L:List Tok}{w:World}{g:Nat}{p:PS}(h:PW L w g p){b i:Nat}{v:Value}(c:g<b):PW L (w.setCell ⟨b,i,none⟩ v) g p:=
 h.aDW (ok:=fun x=>x≠b) ⟨rfl,rfl,rfl,by simp[World.setCell],fun k d a=>Below.heap_setCell _ _ _ _ a⟩ (fun x e=>by show x≠b;omega)
theorem PW.cells{L:List Tok}{w:World}{g:Nat}{p:PS}(h:PW L w g p):∃A c,w.cell? ⟨g,0,none⟩=some (.slice A L.length c)/\w.cell? ⟨g,1,none⟩=some (.int .i64 p.at_)/\w.cell? ⟨g,2,none⟩=some (.int .i64 p.aDR)/\w.cell? ⟨g,3,none⟩=some (.int .i64 p.bad)/\w.cell? ⟨g,4,none⟩=some (.int .i64 p.place)/\aH TO w (fun b=>b<g) (.slice A L.length c) L:=by
 obtain⟨A,c,h1,h2⟩:=h;exact⟨A,c,by simp[World.cell?,h1],by simp[World.cell?,h1],by simp[World.cell?,h1],by simp[World.cell?,h1],by simp[World.cell?,h1],h2⟩
theorem PW.free{L:List Tok}{w:World}{g:Nat}{p:PS}(h:PW L w g p)(i:Nat):w.frozen? ⟨g,i,none⟩=false:=by
 obtain⟨A,c,h1,_⟩:=h;simp[World.frozen?,h1]
def cZ(B g:Nat)(w w':World):Prop:=aN (fun b=>b<B/\b≠g) w w'
theorem cZ.aD5{B g:Nat}{w0 w w':World}(h:cZ B g w0 w)(k:aN (fun b=>b≠g) w w'):cZ B g w0 w':=aN.trans h (k.mono fun _ _ h=>h.2)
theorem cZ.set{B g:Nat}{w0 w:World}(h:cZ B g w0 w){b i:Nat}{v:Value}(c:B<=b):cZ B g w0 (w.setCell ⟨b,i,none⟩ v):=
 aN.trans h ⟨rfl,rfl,rfl,by simp[World.setCell],fun k d a=>Below.heap_setCell _ _ _ _ (by have:=a.1;simp only;omega)⟩
theorem cZ.new{B g:Nat}{w0 w w':World}(h:cZ B g w0 w)(k:Below w.heap.size w w'):cZ B g w0 w':=aN.trans h (aJ k)
theorem cZ.end{g:Nat}{w w':World}(h:cZ w.heap.size g w w'):aN (fun b=>b≠g) w w':=aN.mono h fun k a h=>⟨a,h⟩
theorem aF{ok:nP}{w w':World}{b:Nat}{o:Obj}(h:w.heap[b]? =some o)(k:aN ok w w')(a:ok b):w'.heap[b]? =some o:=by
 rw[k.block b (Array.getElem?_eq_some_iff.1 h).1 a];exact h
theorem qS{ok:nP}{w w2:World}{b:Nat}{o:Obj}(h:Hid (w.heap[b]? =some o))(k:aN ok w w2)(a:ok b):Hid (w2.heap[b]? =some o):=aA (aF h.o k a)
theorem aE{w w':World}{b:Nat}{o:Obj}(h:w.heap[b]? =some o)(k:Below w.heap.size w w'):w'.heap[b]? =some o:=by
 rw[k.block b (Array.getElem?_eq_some_iff.1 h).1];exact h
theorem qK{w w2:World}{b:Nat}{o:Obj}(h:Hid (w.heap[b]? =some o))(k:Below w.heap.size w w2):Hid (w2.heap[b]? =some o):=aA (aE h.o k)
theorem bE{w:World}{b b' i:Nat}{v:Value}{o:Obj}(h:w.heap[b]? =some o)(a:b≠b'):(w.setCell ⟨b',i,none⟩ v).heap[b]? =some o:=by
 rw[Below.heap_setCell _ _ _ _ a];exact h
theorem aD{w:World}{b:Nat}{o:Obj}(h:w.heap[b]? =some o):b<w.heap.size:=(Array.getElem?_eq_some_iff.1 h).1
def aP(v:Value)(w:World)(e:Ending)(w':World):Prop:=e=.returned v/\Below w.heap.size w w'
theorem gO{L:List Tok}{p:PS}(hp:p.at_<L.length)(f:L.length<=5000)(g:Nat)(w:World)(h:PW L w g p):
 Calls prog 75 #[.pointer (some ⟨g,0,none⟩)] w (aP (iD (aU L p)) w):=by
 rw[FB hp];have j:=h.lt;obtain⟨A,c,c0,c1,_,_,_,d⟩:=h.cells;obtain⟨b,off,r,rfl,_,i,⟨rfl,_⟩,a⟩:=aH.at iC d hp qe;obtain⟨e,l,m,n⟩:=Ib a;rw[Nat.add_zero] at e;have i0:(0:Int)<=(p.at_:Int):=qo;have k:(p.at_:Int)<(L.length:Int):=qo;clear a d h;unfold aP;unfold iD;generalize L[p.at_]=t at *;go_enter func75,ntmps75;go_wp2;refine rB 10 (by kernel_rfl) (by kernel_rfl) ?_;simp only[List.take_succ_cons,List.take_zero,List.drop_succ_cons,List.drop_zero]
 repeat still_step
 refine wpStill_nil ?_;go_wp2;go_returns;exact⟨rfl,((Below.refl _ _).alloc (lR _) _).drew⟩
def eX(L:List Tok)(g:Nat)(w:World)(v:Value)(p':PS)(e:Ending)(w':World):Prop:=e=.returned v/\PW L w' g p'/\aN (fun b=>b≠g) w w'
theorem aG{w:World}{g:Nat}{cs:Array Value}{t:TypeId}{m:Nat×Nat}(h:w.heap[g]? =some (.cells cs t m))(i:Nat)(v:Value):(w.setCell ⟨g,i,none⟩ v).heap[g]? =some (.cells (cs.setIfInBounds i v) t m):=by
 simp only[World.setCell,Array.getElem?_modify,h];simp
theorem aI{w:World}{g i:Nat}(v:Value):aN (fun b=>b≠g) w (w.setCell ⟨g,i,none⟩ v):=⟨rfl,rfl,rfl,by simp[World.setCell],fun k c a=>Below.heap_setCell _ _ _ _ a⟩
theorem PW.stay{L:List Tok}{w w':World}{g:Nat}{p p':PS}(h:PW L w g p)(d:aN (fun b=>b≠g) w w')(a:∀A c,w.heap[g]? =some (.cells #[.slice A L.length c,.int .i64 p.at_,.int .i64 p.aDR,.int .i64 p.bad,.int .i64 p.place] 149 (0,0))->w'.heap[g]? =some (.cells #[.slice A L.length c,.int .i64 p'.at_,.int .i64 p'.aDR,.int .i64 p'.bad,.int .i64 p'.place] 149 (0,0))):PW L w' g p':=by
 obtain⟨A,c,h1,h2⟩:=h;exact⟨A,c,a A c h1,h2.aDW iC (d.mono fun k _ h=>by show k≠g;have:k<g:=h;omega)⟩
theorem uG{L:List Tok}{p:PS}(e pl:Int)(g:Nat)(w:World)(h:PW L w g p):
 Calls prog 78 #[.pointer (some ⟨g,0,none⟩),.int .i64 e,.int .i64 pl] w (eX L g w (.tuple #[]) (eU e pl p)):=by
 have f:=h.lt;obtain⟨A,c,c0,c1,c2,c3,c4,b⟩:=h.cells;have H:=aA h;have f3:=h.free 3;have f4:=h.free 4;unfold eX;unfold eU;clear h b;by_cases a:p.bad=0
 .rw[iP a];rw[a] at c3;clear a;go_enter func78,ntmps78;go_wp2;go_returns;refine⟨rfl,H.o.stay ((aI _).trans (aI _)) fun A c h=> ?_,(aI _).trans (aI _)⟩;rw[aG (aG h 3 _) 4 _];rfl
 .rw[iN a];have d:(p.bad==0)=false:=bN.2 a;clear a;go_enter func78,ntmps78;go_wp2;go_returns;exact⟨rfl,H.o,aN.refl _ _⟩
theorem TQ(a b c:Int)(s:bY)(w:World):(Instr.field 130 (.agg #[.int .i64 a,.int .i64 b,.int .i64 c,.string s]) 1).run prog w=.ok (.int .i64 b) w:=by kernel_rfl
theorem aP.aD5{L:List Tok}{p:PS}{g:Nat}{w:World}{v:Value}{e:Ending}{w':World}(h:aP v w e w')(hp:PW L w g p):eX L g w v p e w':=⟨h.1,hp.on h.2,aJ h.2⟩
theorem mC{L:List Tok}{p:PS}(hp:p.at_<L.length)(a:L.length<=5000)(g:Nat)(w:World)(h:PW L w g p):
 Calls prog 76 #[.pointer (some ⟨g,0,none⟩)] w (eX L g w (.tuple #[]) (dL L p)):=by
 have HH:=aA (gO hp a g w h);have H:=aA h;clear h;unfold eX dL;unfold iD at HH;generalize aU L p=t at *;go_enter func76,ntmps76;have b:=TQ t.aDN t.at_ t.num t.str;go_wp2_with fail;refine(HH.o).mono ?_;rintro e w1 ⟨rfl,hb1⟩;have HW:=aA (uG 5 t.at_ g w1 (H.o.on hb1));exact QCj
theorem lA{L:List Tok}{p:PS}(more:Bool)(hp:p.at_<L.length)(a:L.length<=5000)(g:Nat)(w:World)(h:PW L w g p):
 Calls prog 181 #[.pointer (some ⟨g,0,none⟩),.bool more] w (eX L g w (.tuple #[]) (cR L more p)):=by
 have HH:=aA (gO hp a g w h);have H:=aA h;clear h;unfold eX cR;unfold iD at HH;generalize aU L p=t at *
 cases more
 .rw[iN qe];go_enter func181,ntmps181;go_wp2;go_returns;exact⟨rfl,H.o,aN.refl _ _⟩
 .rw[iP rfl];go_enter func181,ntmps181;have b:=TQ t.aDN t.at_ t.num t.str;go_wp2_with fail;refine(HH.o).mono ?_;rintro e w1 ⟨rfl,hb1⟩;have HW:=aA (uG 6 t.at_ g w1 (H.o.on hb1));exact QCj
end Go.Proofs.YthcgdgkpgdjahaaGreatDoor
