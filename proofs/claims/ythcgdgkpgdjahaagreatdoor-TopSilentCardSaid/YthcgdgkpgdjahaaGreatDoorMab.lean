/- Lemmas. -/
import Derived.Test.YthcgdgkpgdjahaaGreatDoorMaa
import Derived.ProofKit
import Derived.OpenShut
import Derived.ShutString
import Derived.ChangeOld
import Derived.Deep.Slices
import Derived.SizedLaws
import Derived.Lib.SmallJoins
import Derived.Deep.Strs
namespace Go.Proofs.YthcgdgkpgdjahaaGreatDoor
open Go.RowKit
set_option linter.unusedVariables false
set_option linter.unusedSimpArgs false
set_option maxHeartbeats 16000000
set_option maxRecDepth 20000
theorem QCK{p:Prop}(h:p:=by
 calc (l.length+1) * bytes<=(1000000+1) * 10000:=Nat.mul_le_mul qo hbytes
  _<=140737488355328:=by decide):p:=h
theorem QCJ{p:Prop}(h:p:=by
 exact F.more (F.aDW hr (hk.mono fun k hk' h=>ho k h.1 h.2.1)) fun b h=>⟨h.1,lL h.2.1 hk.size,h.2.2⟩):p:=h
theorem QCr{p:Prop}(h:p:=by
 intro _;have hlt:=(Array.getElem?_eq_some_iff.1 hc).1;refine⟨g,0,rfl,hlt,fun i u hu=> ?_⟩;simp only[World.cell?,hc,Nat.zero_add];simpa using hu):p:=h
theorem QCc{p:Prop}(h:p:=by
 have hl1:(l++[y]).length=l.length+ [y].length:=aL;have:=h _ rfl A' c' w';rw[hl1] at this;exact this (aM.put F hcs (aW.one hy) h1 h2 h3) h2 h3):p:=h
structure dZ (P:Program) (t e:TypeId) (size bytes:Nat):Prop where
 under:P.underlying t=some (.slice e)
 info:∃i z,P.info? e=some i/\i.zero=some z/\i.size=size/\i.bytes=bytes/\z.cells.size=size
 pos:0<size
theorem fR{P:Program}{t e:TypeId}{z:Value}{size bytes:Nat}(hu:P.underlying t=some (.slice e))(a:(P.info? e).map (fun i=>(i.zero,i.size,i.bytes))=some (some z,size,bytes))(b:z.cells.size=size)(hp:0<size):dZ P t e size bytes:=by
 obtain⟨i0,h1,h2,h3,h4⟩:=info_parts a;exact⟨hu,⟨i0,z,h1,h2,h3,h4,b⟩,hp⟩
theorem TN{P:Program}{w:World}{t e:TypeId}{size bytes:Nat}(E:dZ P t e size bytes){o:Oper}{a:Act}{K:Act->World->Prop}{Q:Exit->Act->World->Prop}(s x:Operand)
 (q:o.op=.call {callee:= .builtin .append,args:=#[s,x],argTypes:=#[t,t]})(base:Nat)
 (v:Value)(n:Nat)(xs:List Value)(B:a.eval s=v)(r:w.ownsRow base e size v n xs)
 (A:oD)(m c:Nat)(news:List Value)(C:a.eval x=.slice A m c)(p:news.length=m * size)(y:Sl w w.heap.size A news)(h1:∀u∈news,u.oneCell'=true)
 (h63:n+m<=maxLen)(k:(n+m) * bytes<=140737488355328)(j:base<=w.heap.size)
 (h:∀b d w',w'.ownsRow base e size (.slice b (n+m) d) (n+m) (xs++news)->w.grownBy w' v.ownBlock->((Value.slice b (n+m) d).ownBlock=v.ownBlock\/(Value.slice b (n+m) d).ownBlock=some w.heap.size)->K (a.put o.dst (.slice b (n+m) d)) w'):o.wp P a w K Q:=by
 obtain⟨i,z,h2,h3,h4,h5,h6⟩:=E.info;refine Hr w s x t q base e i z size bytes E.under h2 h3 h4 h5 h6 E.pos v n xs B r _ A m c news C p y h1 h63 k j fun v' w' f l g=> ?_
 obtain⟨b,d,rfl,_⟩:=lX f;exact h b d w' f l g
theorem fS{P:Program}{w:World}{t e:TypeId}{size bytes:Nat}(E:dZ P t e size bytes){ops:Array Oper}{rest:List Oper}{o:Oper}{a:Act}{Q:Exit->Act->World->Prop}(j:o.guard=none)(s x:Operand)
 (l:o.op=.call {callee:= .builtin .append,args:=#[s,x],argTypes:=#[t,t]})(base:Nat)
 (v:Value)(n:Nat)(xs:List Value)(r:a.eval s=v)(p:w.ownsRow base e size v n xs)
 (A:oD)(m c:Nat)(news:List Value)(y:a.eval x=.slice A m c)(k:news.length=m * size)(q:Sl w w.heap.size A news)(h1:∀u∈news,u.oneCell'=true)
 (h63:n+m<=maxLen)(i:(n+m) * bytes<=140737488355328)(g:base<=w.heap.size)
 (h:∀b d w',w'.ownsRow base e size (.slice b (n+m) d) (n+m) (xs++news)->w.grownBy w' v.ownBlock->((Value.slice b (n+m) d).ownBlock=v.ownBlock\/(Value.slice b (n+m) d).ownBlock=some w.heap.size)->wpList P ops Q rest (a.put o.dst (.slice b (n+m) d)) w'):wpList P ops Q (o::rest) a w:=
 wpList_plain j fun _ f=>TN E s x l base v n xs r p A m c news y k q h1 h63 i g fun b d w' h2 h3 h4=>f _ _ (h b d w' h2 h3 h4)
theorem Pc{P:Program}{w:World}{t e:TypeId}{size bytes:Nat}(E:dZ P t e size bytes){ops:Array Oper}{o:Oper}{a:Act}{K:Act->World->Prop}{Q:Exit->Act->World->Prop}{G:Prop}(i:o.guard=none)(s x:Operand)
 (k:o.op=.call {callee:= .builtin .append,args:=#[s,x],argTypes:=#[t,t]})(base:Nat)
 (v:Value)(n:Nat)(xs:List Value)(q:a.eval s=v)(l:w.ownsRow base e size v n xs)
 (A:oD)(m c:Nat)(news:List Value)(r:a.eval x=.slice A m c)(j:news.length=m * size)(p:Sl w w.heap.size A news)(h1:∀u∈news,u.oneCell'=true)
 (h63:n+m<=maxLen)(g:(n+m) * bytes<=140737488355328)(f:base<=w.heap.size)
 (h:∀b d w',w'.ownsRow base e size (.slice b (n+m) d) (n+m) (xs++news)->w.grownBy w' v.ownBlock->((Value.slice b (n+m) d).ownBlock=v.ownBlock\/(Value.slice b (n+m) d).ownBlock=some w.heap.size)->K (a.put o.dst (.slice b (n+m) d)) w'):
 if Region.wanted o (yielded ops a.tmps)=true then Oper.wp P o a w K Q else G:=by
 rw[iP (by simp[Region.wanted,i])];exact TN E s x k base v n xs q l A m c news r j p h1 h63 g f h
theorem cX{w w':World}{row:Option Nat}(h:w.grownBy w' row):aN (fun b=>some b≠row) w w':=⟨h.os,h.tape,h.output,h.size,fun k a c=>h.block k a c⟩
def aM{α:Type}(R:Rep α)(s:Nat)(e:TypeId)(w:World)(base:Nat)(ok:nP)(v:Value)(l:List α):Prop:=
 ∃cs,w.ownsRow base e s v l.length cs/\aW (R w (fun b=>ok b/\b<w.heap.size/\some b≠v.ownBlock)) cs l
theorem lY{w w':World}{ok:nP}{base:Nat}{e:TypeId}{size n:Nat}{v:Value}{xs:List Value}(h:w.ownsRow base e size v n xs)(f:aN ok w w')(i:∀b,v.ownBlock=some b->ok b):w'.ownsRow base e size v n xs:=by
 refine⟨h.1,?_⟩
 rcases h.2 with h1|⟨g,cap,cur,a,d,c,r⟩
 .exact .inl h1
 .refine .inr ⟨g,cap,cur,a,d,?_,r⟩;rw[f.block g (Array.getElem?_eq_some_iff.1 c).1 (i g (by rw[a];rfl))];exact c
section
variable {α:Type} {R:Rep α} {s:Nat} {e:TypeId} {w:World} {base:Nat} {ok:nP}
theorem aM.nil:aM R s e w base ok (.slice none 0 0) ([]:List α):=⟨[],World.ownsRow_nil _ _ _ _,rfl⟩
theorem aM.slice{v:Value}{l:List α}(h:aM R s e w base ok v l):∃a c,v=.slice a l.length c:=by
 obtain⟨cs,h1,_⟩:=h;obtain⟨a,c,e,_⟩:=lX h1;exact⟨a,c,e⟩
theorem aM.sl{v:Value}{l:List α}(h:aM R s e w base ok v l)(j:l.length<=1000000)(ok':nP)(n:∀b,ok b->b<w.heap.size->ok' b)(g:∀b,base<=b->b<w.heap.size->ok' b)(F:Firm R s):aH R w ok' v l:=by
 obtain⟨cs,h1,h2⟩:=h;obtain⟨a,c,e,_,h3,h4⟩:=lX h1;refine⟨a,c,cs,e,?_,h2.mono (fun r x o=>F.more o fun b f=>n b f.1 f.2.1),j⟩;intro m;obtain⟨b,off,d,k,i⟩:=h3 m;exact⟨b,off,d,g b (h4 _ d) k,i⟩
theorem aM.aDW{w':World}{ok':nP}{v:Value}{l:List α}(F:Firm R s)(h:aM R s e w base ok v l)(hk:aN ok' w w')(ho:∀b,ok b->b<w.heap.size->ok' b)(a:∀b,base<=b->b<w.heap.size->ok' b):aM R s e w' base ok v l:=by
 obtain⟨cs,h1,h2⟩:=h;refine⟨cs,lY h1 hk fun b h=>a b (h1.lt b h).1 (h1.lt b h).2,h2.mono fun r x hr=> ?_⟩;exact QCJ
theorem aM.on{w':World}{v:Value}{l:List α}(F:Firm R s)(h:aM R s e w base ok v l)(a:Below w.heap.size w w'):aM R s e w' base ok v l:=
 h.aDW F (aJ (ok:=fun _=>True) a) (fun _ _ _=>trivial) (fun _ _ _=>trivial)
theorem aM.aEC{ok':nP}{v:Value}{l:List α}(F:Firm R s)(h:aM R s e w base ok v l)(a:∀b,ok b->ok' b):aM R s e w base ok' v l:=by
 obtain⟨cs,h1,h2⟩:=h;exact⟨cs,h1,h2.mono fun r x c=>F.more c fun b h=>⟨a b h.1,h.2⟩⟩
theorem aM.less{a:Nat}{v:Value}{l:List α}(h:aM R s e w base ok v l)(b:a<=base):aM R s e w a ok v l:=by
 obtain⟨cs,h1,h2⟩:=h;exact⟨cs,tB h1 b,h2⟩
theorem aM.one{b:Nat}{cs:Array Value}{y:α}(F:Firm R s)(c:w.heap[b]? =some (.cells cs e (0,0)))(d:base<=b)(a:R w (fun x=>ok x/\x<w.heap.size/\x≠b) cs.toList y):aM R s e w base ok (.slice (some ⟨b,0,none⟩) 1 1) [y]:=by
 have f:cs.size=s:=by rw[<-F.len a,Array.length_toList]
 refine⟨cs.toList,⟨by rw[Array.length_toList,f];simp,.inr ⟨b,1,cs,rfl,d,c,lR _,by unfold maxLen;omega,qo,?_⟩⟩,aW.one (F.more a fun x h=>⟨h.1,h.2.1,fun e=>h.2.2 (by injection e)⟩)⟩;rw[List.length_singleton,Nat.one_mul];exact List.take_of_length_le (by rw[Array.length_toList];omega)
theorem aM.lt{v:Value}{l:List α}(h:aM R s e w base ok v l):∀b,v.ownBlock=some b->base<=b/\b<w.heap.size:=by
 obtain⟨cs,h1,h2⟩:=h;exact h1.lt
theorem aM.below{a w':World}{B:Nat}{v:Value}{l:List α}(h:aM R s e w base ok v l)(c:Below B a w)(d:w.grownBy w' v.ownBlock)(b:B<=base)(f:base<=w.heap.size):Below B a w':=by
 obtain⟨cs,h1,h2⟩:=h;exact dY h1 c d b f
theorem aM.block{w':World}{v:Value}{l:List α}(h:aM R s e w base ok v l)(a:w.grownBy w' v.ownBlock){b:Nat}(d:b<base)(c:b<w.heap.size):w'.heap[b]? =w.heap[b]? :=
 a.block b c (fun e=>qA ((h.lt b e.symm).1))
theorem aM.put{w':World}{v:Value}{l m:List α}{c:oD}{d:Nat}{cs news:List Value}(F:Firm R s)(g:aW (R w (fun b=>ok b/\b<w.heap.size/\some b≠v.ownBlock)) cs l)
 (i:aW (R w (fun b=>ok b/\b<w.heap.size/\some b≠v.ownBlock)) news m)
 (j:w'.ownsRow base e s (.slice c (l.length+m.length) d) (l.length+m.length) (cs++news))(f:w.grownBy w' v.ownBlock)(a:(Value.slice c (l.length+m.length) d).ownBlock=v.ownBlock\/(Value.slice c (l.length+m.length) d).ownBlock=some w.heap.size):
 aM R s e w' base ok (.slice c (l.length+m.length) d) (l++m):=by
 refine⟨cs++news,by rw[aL];exact j,(g.append i).mono fun r x n=> ?_⟩;have h1:=F.aDW n ((cX f).mono fun k o h=>h.2.2);refine F.more h1 fun b h=>⟨h.1,lL h.2.1 f.size,fun e=> ?_⟩
 rcases a with a|a
 .exact h.2.2 (e.trans a)
 .rw[a] at e;injection e with e;have:=h.2.1;omega
end
section
variable {α:Type} {R:Rep α} {s:Nat} {P:Program} {w:World} {t e:TypeId} {bytes:Nat} {base:Nat} {ok:nP}
theorem cC(E:dZ P t e s bytes)(F:Firm R s){ops:Array Oper}{rest:List Oper}{o:Oper}{a:Act}{Q:Exit->Act->World->Prop}(k:o.guard=none)(d x:Operand)
 (m:o.op=.call {callee:= .builtin .append,args:=#[d,x],argTypes:=#[t,t]})
 (v:Value)(l:List α)(p:a.eval d=v)(f:aM R s e w base ok v l)
 (g c:Nat)(cs:Array Value)(ty:TypeId)(fr:Nat×Nat)(y:α)(q:a.eval x=.slice (some ⟨g,0,none⟩) 1 c)(hc:w.heap[g]? =some (.cells cs ty fr))(hy:R w (fun b=>ok b/\b<w.heap.size/\some b≠v.ownBlock) cs.toList y)
 (h63:l.length<=1000000)(hbytes:bytes<=10000)(j:base<=w.heap.size)
 (h:∀l',Hid (l'=l++[y])->∀A' c' w',aM R s e w' base ok (.slice A' l'.length c') l'->w.grownBy w' v.ownBlock->((Value.slice A' l'.length c').ownBlock=v.ownBlock\/(Value.slice A' l'.length c').ownBlock=some w.heap.size)->wpList P ops Q rest (a.put o.dst (.slice A' l'.length c')) w'):wpList P ops Q (o::rest) a w:=by
 obtain⟨xs,n,hcs⟩:=f;have hlen:cs.toList.length=1 * s:=by rw[F.len hy];omega
 refine fS E k d x m base v l.length xs p n (some ⟨g,0,none⟩) 1 c cs.toList q hlen ?_ (F.one hy) (by unfold maxLen;omega) ?_ j fun A' c' w' h1 h2 h3=> ?_
 .exact QCr
 .exact QCK
 .exact QCc
end
def Yv(i c:Nat):Prop:=(i=9/\1<c)\/(0<i/\c=0)
instance(i c:Nat):Decidable (Yv i c):=by unfold Yv;exact inferInstance
section
open Go.ChangeShapes Go.WideShapes Go.ChangeAt Go.Deep
open Go.ChangeMaps (open_string shut_string)
section
variable {H:Type} {enc:TypeId×Value->H} {P:Program} {W:World} {sp:Nat->Bool} {held:Bool}
theorem PG{n:Int}(h:(Lit.int .i64 n).wf=true): -9223372036854775808<=n/\n<=9223372036854775807:=bounds_i64 h
theorem Hu{a:Addr}{v:Value}{w:World}(h:w.cell? (a.add 0)=some v):∃b off,a=⟨b,off,none⟩:=by
 obtain⟨b,off,spot⟩:=a;have c:spot=none:=by simpa [Addr.add] using World.cell?_spot h
 subst c;exact⟨b,off,rfl⟩
theorem Pd(b off i:Nat):(⟨b,off,none⟩:Addr).add i=⟨b,off+i,none⟩:=by
 unfold Addr.add;split<;>simp_all
theorem Sl.of_cells{w:World}{a:Addr}{xs:List Value}(h:∀i x,xs[i]? =some x->w.cell? (a.add i)=some x):Sl w w.heap.size (some a) xs:=fun d=>by
 obtain⟨x,c⟩:∃x,xs[0]? =some x:=by
  cases xs with
  |nil=>exact absurd rfl d
  |cons x l=>exact⟨x,rfl⟩
 obtain⟨b,off,rfl⟩:=Hu (h 0 x c);refine⟨b,off,rfl,World.block_lt_of_cell? w _ (h 0 x c),fun i y e=> ?_⟩;rw[<-Pd];exact h i y e
end
end
section
open Go.ChangeShapes Go.WideShapes Go.ChangeAt Go.Deep
open Go.ChangeMaps (open_string shut_string)
def qQ:List (Value×Value×Value)->List Value
 | []=>[]
 |x::l=>x.1 ::x.2.1 ::x.2.2 ::qQ l
theorem PH:∀(l:List (Value×Value×Value)) (i:Nat) (x:Value×Value×Value),l[i]? =some x->
 (qQ l)[i * 3]? =some x.1/\(qQ l)[i * 3+1]? =some x.2.1/\(qQ l)[i * 3+2]? =some x.2.2
 | [],i,x,h=>by simp at h
 |y::l,0,x,h=>by
  simp at h;subst h;exact⟨rfl,rfl,rfl⟩
 |y::l,i+1,x,h=>by
  rw[List.getElem?_cons_succ] at h;obtain⟨h1,h2,h3⟩:=PH l i x h;have e:(i+1) * 3=i * 3+1+1+1:=qo;refine⟨?_,?_,?_⟩
  .rw[e];exact h1
  .rw[e,show i * 3+1+1+1+1=(i * 3+1)+1+1+1 by omega];exact h2
  .rw[e,show i * 3+1+1+1+2=(i * 3+2)+1+1+1 by omega];exact h3
section
variable {H:Type} {enc:TypeId×Value->H} {P:Program} {W:World} {sp:Nat->Bool} {held:Bool}
end
end
def bL(t:Int):Prop:= -9223372036854775808<=t/\t<=9223372036854775807
abbrev V3:=Int×Int×ByteArray
abbrev Gv:=Int×ByteArray×List V3
def BR(f:Bool)(c:UInt8):Bool:=(decide (97<=c.toNat)&&decide (c.toNat<=122))||(!f&&((decide (48<=c.toNat)&&decide (c.toNat<=57))||decide (c.toNat=95)))
def wC:Bool->List UInt8->Bool
 |_,[]=>true
 |f,c::l=>BR f c&&wC false l
def eT(s:bY):Bool:=wC true s.data.toList&&(decide (1<=s.size)&&decide (s.size<=16))
def aT(v:V3):Bool:=
 if v.1=1 then (decide (v.2.1=0)||decide (v.2.1=1))&&decide (v.2.2.size=0)
 else if v.1=2 then decide (v.2.2.size=0)
 else if v.1=3 then decide (v.2.1=0)&&decide (v.2.2.size<=64)
 else if v.1=4 then (decide (0<=v.2.1)&&decide (v.2.1<=1099511627776))&&decide (v.2.2.size=0)
 else if v.1=5 then decide (v.2.1=0)&&eT v.2.2
 else false
def mT(cat:Int)(name:bY)(g:Gv):Bool:=decide (g.1=cat)&&decide (g.2.1=name)
def mU(l:List Gv)(cat:Int)(name:bY):Nat:=l.findIdx (mT cat name)
def mV(l:List Gv)(cat:Int)(name:bY):Int:=if mU l cat name<l.length then (mU l cat name:Int) else -1
def zL(l:List Gv)(cat:Int)(name:bY):List V3:=((l.find? (mT cat name)).map (·.2.2)).getD []
theorem Hv(l:List Gv)(cat:Int)(name:bY):mU l cat name<=l.length:=List.findIdx_le_length
theorem NH{cat:Int}{name:bY}{g:Gv}:mT cat name g=true↔g.1=cat/\g.2.1=name:=by unfold mT;simp
theorem Hw{cat:Int}{name:bY}{g:Gv}:mT cat name g=false↔¬(g.1=cat/\g.2.1=name):=by rw[<-NH];simp
theorem Yw{l:List Gv}{cat:Int}{name:bY}(h:mU l cat name<l.length):(l[mU l cat name]).1=cat/\(l[mU l cat name]).2.1=name:=
 NH.1 (List.findIdx_getElem (w:=h))
theorem Cw{l:List Gv}{cat:Int}{name:bY}{i:Nat}(h:i<mU l cat name):¬((l[i]'(lL h (Hv _ _ _))).1=cat/\(l[i]'(lL h (Hv _ _ _))).2.1=name):=by
 have:=List.not_of_lt_findIdx h;exact Hw.1 (by simpa using this)
theorem Yx{l:List Gv}{cat:Int}{name:bY}{k:Nat}(b:k<l.length)(h:mT cat name l[k]=true)(a:∀i (c:i<k),mT cat name (l[i]'(by omega))=false):mU l cat name=k:=by
 unfold mU;rw[List.findIdx_eq b];exact⟨h,fun j hj=>a j hj⟩
theorem Pe{l:List Gv}{cat:Int}{name:bY}(h:∀i (a:i<l.length),mT cat name l[i]=false):mU l cat name=l.length:=by
 unfold mU;rw[List.findIdx_eq_length];intro x b;obtain⟨i,a,rfl⟩:=List.getElem_of_mem b;exact h i a
theorem Yy{l:List Gv}{cat:Int}{name:bY}(h:mU l cat name<l.length):zL l cat name=(l[mU l cat name]).2.2:=by
 unfold zL;have:=List.find?_eq_some_iff_getElem (xs:=l) (p:=mT cat name) (b:=l[mU l cat name]);rw[this.2 ⟨NH.2 (Yw h),mU l cat name,h,rfl,fun j hj=>by simpa using Hw.2 (Cw hj)⟩];rfl
theorem Pf{l:List Gv}{cat:Int}{name:bY}(h:¬mU l cat name<l.length):zL l cat name=[]:=by
 unfold zL;have e:l.find? (mT cat name)=none:=by
  rw[List.find?_eq_none];intro x a hp;exact h (List.findIdx_lt_length_of_exists ⟨x,a,hp⟩)
 rw[e];rfl
theorem Hy{s:bY}(h:eT s=true):1<=s.size/\s.size<=16:=by unfold eT at h;simp at h;exact h.2
def bs(l:lU):ByteArray:=⟨l.toArray⟩
theorem mW(l:lU):(bs l).data.toList=l:=by simp[bs]
theorem cH(l:lU):(bs l).size=l.length:=by show (l.toArray).size=_;simp
structure Tok where
 aDN:Int
 at_:Int
 num:Int
 str:ByteArray
deriving DecidableEq
def bB(c:UInt8):Bool:=decide (48<=c.toNat)&&decide (c.toNat<=57)
def yL(c:UInt8):Bool:=decide (97<=c.toNat)&&decide (c.toNat<=122)
def iM(c:UInt8):Bool:=(yL c||bB c)||decide (c.toNat=95)
def cL(p:UInt8->Bool)(l:lU):Nat:=(l.takeWhile p).length
def qH(l:lU):Nat:=l.foldl (fun a c=>a * 10+(c.toNat - 48)) 0
def eA(neg:Bool)(l:lU):Int×Nat:=
 let n:=cL bB l
 if n=0\/(1<n/\l.head?=some 48) then (0,0)
 else
  let v:=qH (l.take n)
  if neg then (if v<=9223372036854775808 then (-(v:Int),n) else (0,0))
  else (if v<=9223372036854775807 then ((v:Int),n) else (0,0))
def gF(l:lU):List UInt8:=
 let w:=l.take (cL iM l)
 if eT (bs w) then w else []
def fF(c:UInt8):Int:=if bB c then (c.toNat:Int) - 48 else if decide (97<=c.toNat)&&decide (c.toNat<=102) then (c.toNat:Int) - 97+10 else -1
def fG(c:UInt8):Bool:=((decide (32<=c.toNat)&&decide (c.toNat<=126))&&decide (c.toNat≠34))&&decide (c.toNat≠92)
def JE:List UInt8->Option UInt8
 |a::b::c::_=>
  if a.toNat=92/\0<=fF b/\0<=fF c then
   let d:=UInt8.ofNat (16 * (fF b).toNat+(fF c).toNat)
   if fG d then none else some d
  else none
 |_=>none
def lZ:Nat->List UInt8->List UInt8->Nat->List UInt8×Nat
 |0,_,_,_=>([],0)
 |_+1,[],_,_=>([],0)
 |f+1,c::r,out,at_=>
  if c.toNat=34 then (if 64<out.length then ([],0) else (out,at_+1))
  else if fG c then lZ f r (out++[c]) (at_+1)
  else match JE (c::r) with
   |none=>([],0)
   |some d=>lZ f (r.drop 2) (out++[d]) (at_+3)
def kA(l:lU):List UInt8×Nat:=lZ l.length (l.drop 1) [] 1
def EX(c:UInt8):Bool:=[123,125,40,41,46,44,59,61,60,62,33].contains c.toNat
def bZ(l:lU):Tok×Nat:=
 match l with
 | []=>(⟨0,0,0,bs []⟩,0)
 |c::r=>
  if yL c then (⟨1,0,0,bs (gF l)⟩,(gF l).length)
  else if bB c then (⟨2,0,(eA false l).1,bs []⟩,(eA false l).2)
  else if c.toNat=45 then (if (eA true r).1=0 then (⟨2,0,0,bs []⟩,0) else (⟨2,0,(eA true r).1,bs []⟩,(eA true r).2+1))
  else if c.toNat=64 then (if (eA false r).2=0\/1099511627776<(eA false r).1 then (⟨3,0,(eA false r).1,bs []⟩,0) else (⟨3,0,(eA false r).1,bs []⟩,(eA false r).2+1))
  else if c.toNat=35 then (⟨4,0,0,bs (gF r)⟩,if gF r=[] then 0 else (gF r).length+1)
  else if c.toNat=34 then (⟨5,0,0,bs (kA l).1⟩,(kA l).2)
  else if EX c then (⟨6,0,0,bs [c]⟩,1)
  else (⟨0,0,0,bs []⟩,0)
def jQ:Nat->List UInt8->Nat->List Tok->List Tok×Int×Int
 |0,_,at_,_=>([],5,at_)
 |f+1,l,at_,out=>
  match l with
  | []=>(out++[⟨7,at_,0,bs []⟩],0,0)
  |c::r=>
   if c.toNat=32\/c.toNat=10 then jQ f r (at_+1) out
   else
    let (t,n):=bZ l
    if n=0 then ([],5,at_)
    else jQ f (l.drop n) (at_+n) (out++[{t with at_:=at_}])
def jU(l:lU):List Tok×Int×Int:=if 4096<l.length then ([],6,4096) else jQ (l.length+1) l 0 []
structure At where
 cat:Int
 name:ByteArray
 aEm:Bool
deriving DecidableEq
structure Ma where
 aEe:At
 op:Int
 val:V3
deriving DecidableEq
structure No where
 op:Int
 val:V3
 aEe:At
deriving DecidableEq
structure Ob where
 on:Int
 aDN:Int
 arg:ByteArray
deriving DecidableEq
abbrev Ta:=List (List (List Ma))
structure Ru where
 id:ByteArray
 aEp:Bool
 aDY:Ta
 cond:List No
 aD4:List Ob
deriving DecidableEq
inductive Po where
 |mk (id:ByteArray) (set:Bool) (alg:Int) (target:Ta) (rules:List Ru) (kids:List Po) (obls:List Ob)
def Po.id:Po->ByteArray| .mk i _ _ _ _ _ _=>i
def Po.set:Po->Bool| .mk _ s _ _ _ _ _=>s
def Po.alg:Po->Int| .mk _ _ a _ _ _ _=>a
def Po.aDY:Po->Ta| .mk _ _ _ t _ _ _=>t
def Po.aDR:Po->List Ru| .mk _ _ _ _ r _ _=>r
def Po.aD2:Po->List Po| .mk _ _ _ _ _ k _=>k
def Po.aD4:Po->List Ob| .mk _ _ _ _ _ _ o=>o
def aY:V3:=(0,0,ByteArray.empty)
def uX:At:=⟨0,ByteArray.empty,false⟩
def mK:Po:= .mk ByteArray.empty false 0 [] [] [] []
structure PS where
 at_:Nat
 aDR:Nat
 bad:Int
 place:Int
deriving DecidableEq
section
variable (L:List Tok)
def aU(p:PS):Tok:=(L[p.at_]?).getD ⟨0,0,0,ByteArray.empty⟩
def eU(e place:Int)(p:PS):PS:=if p.bad=0 then {p with bad:=e,place:=place} else p
def dL(p:PS):PS:=eU 5 (aU L p).at_ p
def cR(more:Bool)(p:PS):PS:=if more then eU 6 (aU L p).at_ p else p
def cM(s:bY)(p:PS):Bool:=decide (p.bad=0)&&(decide ((aU L p).str=s)&&(decide ((aU L p).aDN=1)||decide ((aU L p).aDN=6)))
def kV(s:bY)(p:PS):Bool×PS:=if cM L s p then (true,{p with at_:=p.at_+1}) else (false,p)
def eN(s:bY)(p:PS):PS:=if cM L s p then {p with at_:=p.at_+1} else dL L p
def bT(p:PS):ByteArray×PS:=
 let t:=aU L p
 let a:=if t.aDN≠1 then dL L p else p
 if a.bad≠0 then (ByteArray.empty,a) else (t.str,{a with at_:=a.at_+1})
def bA(words:List ByteArray)(p:PS):Int×PS:=
 let t:=aU L p
 if t.aDN=1/\words.findIdx (fun w=>decide (w=t.str))<words.length/\cM L t.str p=true then
  ((words.findIdx (fun w=>decide (w=t.str)):Int)+1,{p with at_:=p.at_+1})
 else (0,dL L p)
def str(s:String):ByteArray:=s.toUTF8
def rL:ByteArray:=⟨#[123]⟩
def yM:ByteArray:=⟨#[125]⟩
def cG(p:PS):At×PS:=
 let (c,p1):=bA L [str "subject",str "action",str "case",str "env"] p
 let a:=eN L (str ".") p1
 let (n,p3):=bT L a
 let (m,p4):=kV L (str "!") p3
 (⟨c,n,m⟩,p4)
def dA(p:PS):V3×PS:=
 let t:=aU L p
 let (v,p1):V3×PS:=
  if t.aDN=2 then ((2,t.num,t.str),p)
  else if t.aDN=3 then ((4,t.num,t.str),p)
  else if t.aDN=4 then ((5,t.num,t.str),p)
  else if t.aDN=5 then ((3,t.num,t.str),p)
  else if cM L (str "true") p then ((1,1,ByteArray.empty),p)
  else if cM L (str "false") p then ((1,0,ByteArray.empty),p)
  else ((0,t.num,t.str),dL L p)
 if p1.bad≠0 then (aY,p1) else (v,{p1 with at_:=p1.at_+1})
def sW(p:PS):Int×PS:=
 if cM L (str "=") p then (1,{p with at_:=p.at_+1})
 else if cM L (str "<") p then (2,{p with at_:=p.at_+1})
 else if cM L (str ">") p then (3,{p with at_:=p.at_+1})
 else (0,dL L p)
def eI(p:PS):Ma×PS:=
 let (a,p1):=cG L p
 let (o,p2):=sW L p1
 let (v,p3):=dA L p2
 (⟨a,o,v⟩,p3)
def kB{α:Type}(one:PS->α×PS)(sep:bY):Nat->List α->PS->List α×PS
 |0,l,p=>(l,p)
 |f+1,l,p=>
  if cM L sep p then
   let (x,p1):=one {p with at_:=p.at_+1}
   kB one sep f (l++[x]) (cR L (decide (8<(l++[x]).length)) p1)
  else (l,p)
def jC(p:PS):List Ma×PS:=
 let (m,p1):=eI L p
 kB L (eI L) (str ",") L.length [m] p1
def mL(p:PS):List (List Ma)×PS:=
 let (m,p1):=jC L (eN L (str "(") p)
 let (l,p2):=kB L (jC L) (str "or") L.length [m] p1
 (l,eN L (str ")") p2)
def bU(p:PS):Ta×PS:=
 if cM L (str "when") p then
  let (m,p1):=mL L {p with at_:=p.at_+1}
  kB L (mL L) (str "and") L.length [m] p1
 else ([],p)
def fN(op:Int):List Bool:=if op=3\/op=4 then [true] else if op=5 then [true,false] else if op=11 then [false] else [false,false]
def eF:List ByteArray:=["one","size","has","eq","less","add","sub","mul","not","and","or"].map str
def fB:Nat->List No->PS->(List No×Bool)×PS
 |0,l,p=>((l,false),p)
 |f+1,l,p=>
  let t:=aU L p
  let (ln,p1):(List No×No)×PS:=
   if cM L (str "(") p then
    let (w,q):=bA L eF {p with at_:=p.at_+1}
    let op:=2+w
    let (l2,q2):=(fN op).foldl (fun (acc:List No×PS) must=>
     if acc.2.bad≠0 then acc else
      let place:=(aU L acc.2).at_
      let r:=fB f acc.1 acc.2
      (r.1.1,if r.1.2≠must then eU 5 place r.2 else r.2)) (l,q)
    ((l2,⟨op,aY,uX⟩),eN L (str ")") q2)
   else if t.aDN=1/\t.str≠str "true"/\t.str≠str "false" then
    let (a,q):=cG L p
    ((l,⟨2,aY,a⟩),q)
   else
    let (v,q):=dA L p
    ((l,⟨1,v,uX⟩),q)
  let b:=ln.1++[ln.2]
  ((b,decide (ln.2.op=2)),cR L (decide (32<b.length)) p1)
def jI(l:List No)(must:Bool)(p:PS):List No×PS:=
 let place:=(aU L p).at_
 let r:=fB L L.length l p
 (r.1.1,if r.1.2≠must then eU 5 place r.2 else r.2)
def tW(p:PS):Ob×PS:=
 let (o,p1):=bA L [str "permit",str "deny"] p
 let (k,p2):=bA L [str "log",str "redact",str "review",str "notify"] p1
 let (a,p3):=bT L p2
 (⟨o,k,a⟩,p3)
def gR(p:PS):List Ob×PS:=kB L (tW L) (str "on") L.length [] p
def kW(deny:Bool)(p:PS):Ru×PS:=
 let (i,p1):=bT L p
 let (t,p2):=bU L p1
 let (c,p3):=if cM L (str "if") p2 then jI L [] false {p2 with at_:=p2.at_+1} else ([],p2)
 let (o,p4):=gR L p3
 (⟨i,deny,t,c,o⟩,eN L (str ";") p4)
def iK:Nat->List Ru->PS->List Ru×PS
 |0,l,p=>(l,p)
 |f+1,l,p=>
  if cM L (str "permit") p||cM L (str "deny") p then
   let a:=cR L (decide (l.length=16)||decide (p.aDR=64)) p
   if a.bad≠0 then (l,a)
   else
    let (r,p2):=kW L (cM L (str "deny") a) {a with aDR:=a.aDR+1,at_:=a.at_+1}
    iK f (l++[r]) p2
  else (l,p)
def dE:List ByteArray:=["denyover","permitover","first","only","denyunless","permitunless"].map str
def gS(one:PS->Po×PS)(deep:Bool):Nat->List Po->PS->List Po×PS
 |0,l,p=>(l,p)
 |f+1,l,p=>
  if cM L (str "policy") p||cM L (str "set") p then
   let a:=cR L (decide (l.length=16)||deep) p
   if a.bad≠0 then (l,a)
   else
    let (k,p2):=one a
    gS one deep f (l++[k]) p2
  else (l,p)
def cP:Nat->PS->Po×PS
 |levels,p=>
  let (s,p1):=bA L [str "policy",str "set"] p
  let set:=decide (s=2)
  let (i,p2):=bT L p1
  let (a,p3):=bA L dE p2
  let (t,p4):=bU L p3
  let p5:=eN L rL p4
  let (rk,p6):(List Ru×List Po)×PS:=
   if set then
    match levels with
    |0=>let r:=gS L (fun q=>(mK,q)) true L.length [] p5;(([],r.1),r.2)
    |n+1=>let r:=gS L (cP n) false L.length [] p5;(([],r.1),r.2)
   else let r:=iK L L.length [] p5;((r.1,[]),r.2)
  let p7:=eN L yM p6
  let (o,p8):=gR L p7
  (.mk i set a t rk.1 rk.2 o,p8)
end
end Go.Proofs.YthcgdgkpgdjahaaGreatDoor
